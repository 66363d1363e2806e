/-
  KurganDrawn, part 5 of 5: what the code computes, and plain laws; no condition beside those that each theorem tells.
-/
import Derived.Test.YtakfcekfmdjklaaDoorKurganDrawnD
import Derived.Test.YtakfcekfmdjklaaDoorRows
import Derived.Lib.ConvBytes
namespace Go.Proofs.YtakfcekfmdjklaaDoor
def rowP : List Int → List Pc
  | [] => []
  | [x] => [nuP x 10]
  | x :: y :: l => nuP x 32 :: rowP (y :: l)
theorem rowP_len : ∀ l, (rowP l).length = l.length
  | [] => rfl
  | [_] => rfl
  | x :: y :: l => by rw [rowP, List.length_cons, rowP_len]; rfl
theorem rowP_get : ∀ (l : List Int) (c : Nat), c < l.length → ((rowP l).getD c pz).k = 2 ∧ ((rowP l).getD c pz).n = l.getD c 0
  | [], _, h => absurd h (Nat.not_lt_zero _)
  | [x], 0, _ => ⟨rfl, rfl⟩
  | [x], c + 1, h => absurd h (by simp)
  | x :: y :: l, 0, _ => ⟨rfl, rfl⟩
  | x :: y :: l, c + 1, h => by
    rw [rowP, List.getD_cons_succ, List.getD_cons_succ]
    exact rowP_get (y :: l) c (by simp at h ⊢; omega)
theorem rowP_gd : ∀ (l : List Int), (∀ x ∈ l, 0 ≤ x ∧ x ≤ 2147483647) → ∀ p ∈ rowP l, gd p
  | [], _, p, hp => by cases hp
  | [x], h, p, hp => by
    obtain rfl : p = nuP x 10 := by simpa [rowP] using hp
    have := h x (.head _)
    exact nu_gd this.1 (by omega) b10
  | x :: y :: l, h, p, hp => by
    rw [rowP] at hp
    rcases List.mem_cons.1 hp with rfl | hp
    · have := h x (.head _)
      exact nu_gd this.1 (by omega) b32
    · exact rowP_gd (y :: l) (fun z hz => h z (.tail _ hz)) p hp
theorem rowT : ∀ (l : List Int) (x : Int), (Lib.itoa x ++ Lib.joinTail [32] (l.map Lib.itoa)) ++ [10] = txt (rowP (x :: l))
  | [], x => by simp [Lib.joinTail, rowP, txt, nuP]
  | y :: l, x => by
    have := rowT l y
    rw [rowP, txt_cons, ← this]
    simp [Lib.joinTail, nuP]
theorem lineB_txt {l : List Int} (h : l ≠ []) : lineB l = txt (rowP l) := by
  cases l with
  | nil => exact absurd rfl h
  | cons x l => unfold lineB; rw [List.map_cons, Lib.join_cons, rowT]
def itmP (i : Ins) (k : Nat) : List Pc := rowP [i.wt.getD k 0, i.vl.getD k 0]
def rwsP (i : Ins) (r : Nat) : List Pc := rowP (i.cost.getD r [])
theorem itemsB_txt (i : Ins) : ∀ k, itemsB i k = txt ((List.range k).flatMap (itmP i))
  | 0 => rfl
  | k + 1 => by rw [itemsB, itemsB_txt i k, List.range_succ, List.flatMap_append, txt_app, lineB_txt (by simp)]; simp [itmP]
theorem rowsB_txt {i : Ins} (h : ∀ r, r < i.cost.length → i.cost.getD r [] ≠ []) : ∀ k, k ≤ i.cost.length → rowsB i k = txt ((List.range k).flatMap (rwsP i))
  | 0, _ => rfl
  | k + 1, hk => by rw [rowsB, rowsB_txt h k (by omega), List.range_succ, List.flatMap_append, txt_app, lineB_txt (h k (by omega))]; simp [rwsP]
theorem flat_len {f : Nat → List Pc} {L : Nat} : ∀ {R : Nat}, (∀ r, r < R → (f r).length = L) → ((List.range R).flatMap f).length = R * L
  | 0, _ => by simp
  | R + 1, h => by
    rw [List.range_succ, List.flatMap_append, List.length_append, flat_len (R := R) (fun r hr => h r (by omega)), Nat.add_mul, Nat.one_mul]
    simp [h R (by omega)]
theorem flat_get {f : Nat → List Pc} {L r c : Nat} (hc : c < L) : ∀ {R : Nat}, (∀ r, r < R → (f r).length = L) → r < R → ((List.range R).flatMap f).getD (r * L + c) pz = (f r).getD c pz
  | 0, _, h => absurd h (Nat.not_lt_zero _)
  | R + 1, h, hr => by
    have hl := flat_len (f := f) (L := L) (R := R) (fun r hr => h r (by omega))
    rw [List.range_succ, List.flatMap_append]
    have e1 : [R].flatMap f = f R := by simp
    rw [e1]
    simp only [List.getD_eq_getElem?_getD]
    rcases Nat.lt_succ_iff_lt_or_eq.1 hr with g | g
    · have h1 : r * L + c < R * L := by
        have : (r + 1) * L ≤ R * L := Nat.mul_le_mul_right L g
        rw [Nat.add_mul, Nat.one_mul] at this; omega
      rw [List.getElem?_append_left (by omega)]
      have := flat_get (f := f) hc (R := R) (fun r hr => h r (by omega)) g
      simpa only [List.getD_eq_getElem?_getD] using this
    · subst g
      rw [List.getElem?_append_right (by omega), hl, Nat.add_sub_cancel_left]
def hdP (i : Ins) : List Pc :=
  if i.kind = 1 then [wdP [75, 78, 65, 80, 83, 65, 67, 75] 32, nuP i.n 32, nuP i.cap 10]
  else if i.kind = 2 then [wdP [65, 83, 83, 73, 71, 78, 77, 69, 78, 84] 32, nuP i.n 10] else [wdP [84, 83, 80] 32, nuP i.n 32, wdP [70, 85, 76, 76] 10]
def pcs (i : Ins) : List Pc := hdP i ++ if i.kind = 1 then (List.range i.n.toNat).flatMap (itmP i) else (List.range i.n.toNat).flatMap (rwsP i)
theorem row_ne {i : Ins} (h : InF i) {r : Nat} (hr : r < i.cost.length) : i.cost.getD r [] ≠ [] := fun e => by
  have h1 := h.row r hr
  have h2 := h.n1
  rw [e] at h1
  simp at h1; omega
theorem textB_txt {i : Ins} (h : InF i) : textB i = txt (pcs i) := by
  have hk := h.kind
  have hc := h.cost
  unfold textB headB pcs hdP
  by_cases h1 : i.kind = 1
  · rw [if_pos h1] at hc
    rw [if_pos h1, if_pos h1, if_pos h1, if_pos h1, txt_app, itemsB_txt, hc, lineB_txt (by simp)]
    simp [rowsB, txt, rowP, nameB, wdP]
  · rw [if_neg h1] at hc
    rw [if_neg h1, if_neg h1, if_neg h1, if_neg h1, txt_app, rowsB_txt (fun r hr => row_ne h hr) _ (Nat.le_refl _), hc]
    by_cases h2 : i.kind = 2
    · rw [if_pos h2, if_pos h2, lineB_txt (by simp)]
      simp [txt, rowP, nameB, wdP]
    · rw [if_neg h2, if_neg h2]
      simp [txt, nameB, wdP, nuP]
theorem kb3 {b : List UInt8} (h : ∀ c ∈ b, kindI (c.toNat : Int) = 3) : ∀ j, j < b.length → kb (bs b) j = 3 := fun j hj => by
  rw [kb_in (by rw [bs_size]; exact hj), show bs b = ⟨b.toArray⟩ from rfl, byt_mk hj]; exact h _ (List.getElem_mem hj)
theorem mem_row {i : Ins} (h : InF i) {r : Nat} : ∀ x ∈ i.cost.getD r [], 0 ≤ x ∧ x ≤ 2147483647 := fun x hx => by
  obtain ⟨c, hc, rfl⟩ := List.getElem_of_mem hx
  have := h.cell r c
  have e : (i.cost.getD r []).getD c 0 = (i.cost.getD r [])[c] := by rw [List.getD_eq_getElem?_getD, List.getElem?_eq_getElem hc]; rfl
  rwa [e] at this
theorem pcs_gd {i : Ins} (h : InF i) : ∀ p ∈ pcs i, gd p := fun p hp => by
  have hn := h.n1
  have hn2 := h.n64
  have hcp := h.cap
  unfold pcs hdP at hp
  have gKN : gd (wdP [75, 78, 65, 80, 83, 65, 67, 75] 32) := wd_gd (kb3 (by decide)) (by decide) (by decide) b32
  have gAS : gd (wdP [65, 83, 83, 73, 71, 78, 77, 69, 78, 84] 32) := wd_gd (kb3 (by decide)) (by decide) (by decide) b32
  have gTS : gd (wdP [84, 83, 80] 32) := wd_gd (kb3 (by decide)) (by decide) (by decide) b32
  have gFU : gd (wdP [70, 85, 76, 76] 10) := wd_gd (kb3 (by decide)) (by decide) (by decide) b10
  have gn : ∀ s, blk1 s → gd (nuP i.n s) := fun s hs => nu_gd (by omega) (by omega) hs
  rcases List.mem_append.1 hp with hp | hp
  · split at hp
    · simp only [List.mem_cons, List.not_mem_nil, or_false] at hp
      rcases hp with rfl | rfl | rfl
      · exact gKN
      · exact gn _ b32
      · exact nu_gd hcp.1 (by omega) b10
    · split at hp
      · simp only [List.mem_cons, List.not_mem_nil, or_false] at hp
        rcases hp with rfl | rfl
        · exact gAS
        · exact gn _ b10
      · simp only [List.mem_cons, List.not_mem_nil, or_false] at hp
        rcases hp with rfl | rfl | rfl
        · exact gTS
        · exact gn _ b32
        · exact gFU
  · split at hp
    · obtain ⟨k, -, hk⟩ := List.mem_flatMap.1 hp
      refine rowP_gd _ (fun x hx => ?_) p hk
      simp only [List.mem_cons, List.not_mem_nil, or_false] at hx
      rcases hx with rfl | rfl
      · exact h.wtr k
      · exact h.vlr k
    · obtain ⟨r, -, hr⟩ := List.mem_flatMap.1 hp
      exact rowP_gd _ (mem_row h) p hr
def j0I (i : Ins) : Nat := if i.kind = 3 then 3 else 2
def mI (i : Ins) : Nat := if i.kind = 1 then 1 + 2 * i.n.toNat else i.n.toNat * i.n.toNat
def vN (i : Ins) (q : Nat) : Int := if i.kind = 1 then (if q = 0 then i.cap else if q % 2 = 1 then i.wt.getD (q / 2) 0 else i.vl.getD (q / 2 - 1) 0) else (i.cost.getD (q / i.n.toNat) []).getD (q % i.n.toNat) 0
theorem getD_app2P {a b : List Pc} {j : Nat} : (a ++ b).getD (a.length + j) pz = b.getD j pz := by
  rw [List.getD_eq_getElem?_getD, List.getD_eq_getElem?_getD, List.getElem?_append_right (by omega), Nat.add_sub_cancel_left]
theorem pcs_len {i : Ins} (h : InF i) : (pcs i).length = j0I i + mI i := by
  have hk := h.kind
  have hc := h.cost
  unfold pcs hdP j0I mI
  by_cases h1 : i.kind = 1
  · rw [if_pos h1, if_pos h1, if_neg (by omega), if_pos h1, List.length_append, flat_len (L := 2) (fun r _ => by rw [itmP, rowP_len]; rfl)]
    simp only [List.length_cons, List.length_nil]; omega
  · rw [if_neg h1] at hc
    have hl : ((List.range i.n.toNat).flatMap (rwsP i)).length = i.n.toNat * i.n.toNat := flat_len (L := i.n.toNat) (fun r hr => by rw [rwsP, rowP_len]; exact h.row r (by omega))
    rw [if_neg h1, if_neg h1, if_neg h1, List.length_append, hl]
    by_cases h2 : i.kind = 2
    · rw [if_pos h2, if_neg (by omega)]; simp only [List.length_cons, List.length_nil]
    · rw [if_neg h2, if_pos (by omega)]; simp only [List.length_cons, List.length_nil]
theorem pcs_num {i : Ins} (h : InF i) {q : Nat} (hq : q < mI i) : ((pcs i).getD (j0I i + q) pz).k = 2 ∧ ((pcs i).getD (j0I i + q) pz).n = vN i q := by
  have hk := h.kind
  have hc := h.cost
  have hn := h.n1
  unfold mI at hq
  by_cases h1 : i.kind = 1
  · rw [if_pos h1] at hq
    unfold pcs hdP j0I vN
    rw [if_pos h1, if_pos h1, if_neg (by omega), if_pos h1]
    by_cases h0 : q = 0
    · subst h0; exact ⟨rfl, rfl⟩
    · rw [if_neg h0]
      have e0 : 2 + q = [wdP [75, 78, 65, 80, 83, 65, 67, 75] 32, nuP i.n 32, nuP i.cap 10].length + (q - 1) := by show _ = 3 + (q - 1); omega
      rw [e0, getD_app2P]
      have hL : ∀ r, r < i.n.toNat → (itmP i r).length = 2 := fun r _ => by rw [itmP, rowP_len]; rfl
      by_cases h2 : q % 2 = 1
      · rw [if_pos h2, show q - 1 = (q / 2) * 2 + 0 by omega, flat_get (by decide) hL (by omega)]
        exact rowP_get _ 0 (by simp)
      · rw [if_neg h2, show q - 1 = (q / 2 - 1) * 2 + 1 by omega, flat_get (by decide) hL (by omega)]
        exact rowP_get _ 1 (by simp)
  · rw [if_neg h1] at hq hc
    have hn0 : 0 < i.n.toNat := by omega
    have hdm := Nat.div_add_mod' q i.n.toNat
    have hdl : q / i.n.toNat < i.n.toNat := Nat.div_lt_of_lt_mul hq
    have hml := Nat.mod_lt q hn0
    have hL : ∀ r, r < i.n.toNat → (rwsP i r).length = i.n.toNat := fun r hr => by rw [rwsP, rowP_len]; exact h.row r (by omega)
    have key : ∀ hd : List Pc, ((hd ++ (List.range i.n.toNat).flatMap (rwsP i)).getD (hd.length + q) pz).k = 2 ∧ ((hd ++ (List.range i.n.toNat).flatMap (rwsP i)).getD (hd.length + q) pz).n = vN i q := fun hd => by
      rw [getD_app2P]
      have e1 : ((List.range i.n.toNat).flatMap (rwsP i)).getD q pz = (rwsP i (q / i.n.toNat)).getD (q % i.n.toNat) pz := by
        have := flat_get (f := rwsP i) (r := q / i.n.toNat) hml hL hdl
        rwa [hdm] at this
      rw [e1]
      unfold vN; rw [if_neg h1]
      exact rowP_get _ _ (by rw [h.row _ (by omega)]; exact hml)
    unfold pcs hdP j0I
    rw [if_neg h1, if_neg h1]
    by_cases h2 : i.kind = 2
    · rw [if_pos h2, if_neg (by omega)]; exact key _
    · rw [if_neg h2, if_pos (by omega)]; exact key _
theorem vN_bd {i : Ins} (h : InF i) (q : Nat) : 0 ≤ vN i q ∧ vN i q ≤ 2147483647 := by
  unfold vN
  split
  · split
    · exact h.cap
    · split
      · exact h.wtr _
      · exact h.vlr _
  · exact h.cell _ _
def Hd (X : List Tok) (i : Ins) (m : Nat) : Prop := ∀ j, j < j0I i + m → (X.getD j tz).k = ((pcs i).getD j pz).k ∧ (X.getD j tz).x = ((pcs i).getD j pz).x ∧ (X.getD j tz).n = ((pcs i).getD j pz).n
theorem Hd.num {X : List Tok} {i : Ins} {m : Nat} (hH : Hd X i m) (h : InF i) (hm : m ≤ mI i) {q : Nat} (hq : q < m) : (X.getD (j0I i + q) tz).k = 2 ∧ (X.getD (j0I i + q) tz).n = vN i q := by
  obtain ⟨h1, -, h3⟩ := hH (j0I i + q) (by omega)
  obtain ⟨g1, g2⟩ := pcs_num h (q := q) (by omega)
  exact ⟨h1.trans g1, h3.trans g2⟩
theorem Hd.ok {X : List Tok} {i : Ins} {m : Nat} (hH : Hd X i m) (h : InF i) (hm : m ≤ mI i) {f : Nat → Bool} (hf : ∀ q, f q = true → q < mI i → vN i q = 0) : ∀ q, q < m → nuE (f q) (X.getD (j0I i + q) tz) = 0 := fun q hq => by
  obtain ⟨h1, h2⟩ := hH.num h hm hq
  have hb := vN_bd h q
  obtain ⟨g1, g2⟩ := numR_ok (t := X.getD (j0I i + q) tz) (m := 2147483647) (by omega) (by omega) (by omega)
  exact nuE_ok g1 (fun g => g.2 (by rw [g2, h2]; exact hf q g.1 (by omega)))
theorem Hd.head {X : List Tok} {i : Ins} {m : Nat} (hH : Hd X i m) (hj : j0I i ≤ j0I i + m) : (X.getD 0 tz).k = 1 ∧ (X.getD 1 tz).k = 2 ∧ (X.getD 1 tz).n = i.n ∧ (i.kind = 1 → (X.getD 0 tz).x = wKN) ∧ (i.kind = 2 → (X.getD 0 tz).x = wAS) ∧ (¬ i.kind = 1 → ¬ i.kind = 2 → (X.getD 0 tz).x = wTS) ∧ (i.kind = 3 → (X.getD 2 tz).k = 1 ∧ (X.getD 2 tz).x = wFU) := by
  have hj2 : 2 ≤ j0I i := by unfold j0I; split <;> omega
  obtain ⟨a1, a2, a3⟩ := hH 0 (by omega)
  obtain ⟨b1, b2, b3⟩ := hH 1 (by omega)
  rw [a1, a2, b1, b3]
  unfold pcs hdP
  by_cases h1 : i.kind = 1
  · rw [if_pos h1]; exact ⟨rfl, rfl, rfl, fun _ => rfl, fun h => absurd h (by omega), fun h => absurd h1 h, fun h => absurd h (by omega)⟩
  · rw [if_neg h1]
    by_cases h2 : i.kind = 2
    · rw [if_pos h2]; exact ⟨rfl, rfl, rfl, fun h => absurd h h1, fun _ => rfl, fun _ h => absurd h2 h, fun h => absurd h (by omega)⟩
    · rw [if_neg h2]
      refine ⟨rfl, rfl, rfl, fun h => absurd h h1, fun h => absurd h h2, fun _ _ => rfl, fun h3 => ?_⟩
      obtain ⟨c1, c2, -⟩ := hH 2 (by unfold j0I; rw [if_pos h3]; omega)
      rw [c1, c2]
      unfold pcs hdP
      rw [if_neg h1, if_neg h2]
      exact ⟨rfl, rfl⟩
theorem list_ext0 {l : List Int} {n : Nat} {g : Nat → Int} (hl : l.length = n) (h : ∀ k, k < n → g k = l.getD k 0) : (List.range n).map g = l := by
  refine List.ext_getElem (by simp [hl]) (fun k h1 h2 => ?_)
  simp only [List.getElem_map, List.getElem_range]
  rw [h k (by omega)]; simp [List.getD, h2]
theorem mat_ext {R : List (List Int)} {n : Nat} {g : Nat → Nat → Int} (hl : R.length = n) (hr : ∀ r, r < n → (R.getD r []).length = n) (h : ∀ r c, r < n → c < n → g r c = (R.getD r []).getD c 0) : mat n g = R := by
  refine List.ext_getElem (by simp [mat, hl]) (fun r h1 h2 => ?_)
  have e : R.getD r [] = R[r] := by simp [List.getD, h2]
  have hr' : r < n := by omega
  simp only [mat, List.getElem_map, List.getElem_range]
  rw [← e]
  exact list_ext0 (hr r hr') (fun c hc => h r c hr' hc)
theorem pb_text {X : List Tok} {i : Ins} {m : Nat} (hH : Hd X i m) (h : InF i) (hm : m ≤ mI i) :
  (m < mI i → (X.getD (j0I i + m) tz).k = 3 → pbR X = (6, j0I i + m)) ∧ (m = mI i → pbR X = (endR (X.getD (j0I i + m) tz), j0I i + m) ∧ pbI X = i) := by
 have hk := h.kind
 have hn := h.n1
 have hn64 := h.n64
 have hc := h.cost
 obtain ⟨a1, b1, b3, kKN, kAS, kTS, kFU⟩ := hH.head (by omega)
 obtain ⟨n, hne⟩ : ∃ n : Nat, i.n = (n : Int) := ⟨i.n.toNat, by omega⟩
 have hnt : i.n.toNat = n := by omega
 have cnt : ∀ M : Int, i.n ≤ M → cntR (X.getD 1 tz) M = 0 ∧ ctN X 1 M = n := fun M hM => by
  obtain ⟨c0, c1⟩ := cnt_0 (t := X.getD 1 tz) (m := M) (by omega) (by omega) (by omega) (by omega)
  exact ⟨c0, by unfold ctN; rw [c1, b3, hne]; rfl⟩
 have bad : ∀ (f : Nat → Bool), (∀ q, q < m → nuE (f q) (X.getD (j0I i + q) tz) = 0) → (X.getD (j0I i + m) tz).k = 3 → m < mI i → nuR f X (j0I i) (mI i) = (6, j0I i + m) := fun f hall k3 hlt => by
  have e := numR_end (t := X.getD (j0I i + m) tz) (m := 2147483647) k3
  rw [nuR_badP hall rfl (by rw [e.1]; decide) hlt, e.1]
 by_cases h1 : i.kind = 1
 ·
  have hj : j0I i = 2 := by unfold j0I; rw [if_neg (by omega)]
  have hM : mI i = 1 + 2 * n := by unfold mI; rw [if_pos h1, hnt]
  have hw := w3_kn a1 (kKN h1)
  obtain ⟨c0, c1⟩ := cnt 64 (by omega)
  have hall := hH.ok h hm (f := ff) (fun q hq => by cases hq)
  refine ⟨fun hlt k3 => ?_, fun he => ?_⟩
  ·
   have hb := bad ff hall k3 hlt
   rw [hj] at hb ⊢
   exact pb_b hw rfl (bod1 c0 c1 hM hb) (by decide)
  ·
   subst he
   have hb := nuR_ok hall
   rw [hj] at hb ⊢
   refine ⟨pb_e hw rfl (bod1 c0 c1 hM hb), ?_⟩
   rw [← pb_it hw c1]
   have num : ∀ q, q < mI i → (X.getD (2 + q) tz).n = vN i q := fun q hq => by have := (hH.num h hm hq).2; rwa [hj] at this
   have hwl := h.wt
   have hvl := h.vl
   rw [if_pos h1] at hwl hvl hc
   refine Ins.ext h1.symm hne.symm ?_ (list_ext0 (by omega) fun k hk => ?_) (list_ext0 (by omega) fun k hk => ?_) (List.length_eq_zero_iff.1 hc).symm
   ·
    show (X.getD (2 + 0) tz).n = i.cap
    rw [num 0 (by omega)]; unfold vN; rw [if_pos h1, if_pos rfl]
   ·
    show (X.getD (3 + 2 * k) tz).n = _
    rw [show 3 + 2 * k = 2 + (1 + 2 * k) by omega, num _ (by omega)]; unfold vN
    rw [if_pos h1, if_neg (by omega), if_pos (by omega)]; congr 1; omega
   ·
    show (X.getD (4 + 2 * k) tz).n = _
    rw [show 4 + 2 * k = 2 + (2 + 2 * k) by omega, num _ (by omega)]; unfold vN
    rw [if_pos h1, if_neg (by omega), if_neg (by omega)]; congr 1; omega
 ·
  have hM : mI i = n * n := by unfold mI; rw [if_neg h1, hnt]
  have hn24 := h.n24 h1
  have hwl := h.wt
  have hvl := h.vl
  have hcp := h.cap0 h1
  rw [if_neg h1] at hwl hvl hc
  obtain ⟨c0, c1⟩ := cnt 24 (by omega)
  have cells : ∀ j, j0I i = j → (m = mI i) → mat n (rwI X j n) = i.cost := fun j hj he => by
   refine mat_ext (by omega) (fun r hr => by rw [h.row r (by omega)]; exact hnt) (fun r c hr hc' => ?_)
   have hidx := idx_lt hr hc'
   have := (hH.num h hm (q := r * n + c) (by omega)).2
   rw [hj] at this
   show (X.getD (j + (r * n + c)) tz).n = _
   rw [this]; unfold vN
   rw [if_neg h1, hnt, show (r * n + c) / n = r by rw [Nat.mul_comm, Nat.mul_add_div (by omega), Nat.div_eq_of_lt hc']; rfl, show (r * n + c) % n = c by rw [Nat.mul_comm, Nat.mul_add_mod, Nat.mod_eq_of_lt hc']]
  by_cases h2 : i.kind = 2
  ·
   have hj : j0I i = 2 := by unfold j0I; rw [if_neg (by omega)]
   have hw := w3_as a1 (kAS h2)
   have hall := hH.ok h hm (f := ff) (fun q hq => by cases hq)
   refine ⟨fun hlt k3 => ?_, fun he => ?_⟩
   ·
    have hb := bad ff hall k3 hlt
    rw [hj] at hb ⊢
    exact pb_b hw rfl (bod2 c0 c1 hM hb) (by decide)
   ·
    have hcl := cells 2 hj he
    subst he
    have hb := nuR_ok hall
    rw [hj] at hb ⊢
    refine ⟨pb_e hw rfl (bod2 c0 c1 hM hb), ?_⟩
    rw [← pb_as hw c1 hcl.symm]
    exact Ins.ext h2.symm hne.symm hcp.symm (List.length_eq_zero_iff.1 hwl).symm (List.length_eq_zero_iff.1 hvl).symm rfl
  ·
   have h3 : i.kind = 3 := by omega
   have hj : j0I i = 3 := by unfold j0I; rw [if_pos h3]
   have hw := w3_ts a1 (kTS h1 h2)
   have hw2 := w2_fu (kFU h3).1 (kFU h3).2
   have hall := hH.ok h hm (f := dgk 3 n) (fun q hq hlt => by
    have hd : (q % (n + 1) = 0) := (of_decide_eq_true hq).2
    have hn0 : 0 < n := by omega
    have hdl : q / n < n := Nat.div_lt_of_lt_mul (by omega)
    have hml := Nat.mod_lt q hn0
    have hdm := Nat.div_add_mod' q n
    have e := (dg_iff hdl hml).1 (by rw [hdm]; exact hd)
    unfold vN; rw [if_neg h1, hnt, ← e]
    exact h.diag h3 _)
   refine ⟨fun hlt k3 => ?_, fun he => ?_⟩
   ·
    have hb := bad (dgk 3 n) hall k3 hlt
    rw [hj] at hb ⊢
    exact pb_b hw rfl (bod3f c0 c1 hw2 hM hb) (by decide)
   ·
    have hcl := cells 3 hj he
    subst he
    have hb := nuR_ok hall
    rw [hj] at hb ⊢
    refine ⟨pb_e hw rfl (bod3f c0 c1 hw2 hM hb), ?_⟩
    rw [← pb_full hw hw2 c1 hcl.symm]
    exact Ins.ext h3.symm hne.symm hcp.symm (List.length_eq_zero_iff.1 hwl).symm (List.length_eq_zero_iff.1 hvl).symm rfl
theorem prs_of {s : ByteArray} {X : List Tok} (hs : scan s = (X, 0, 0)) : ((pbR X).1 = 0 → prs s = (pbI X, 0, 0)) ∧ ((pbR X).1 ≠ 0 → prs s = (insZ, (X.getD (pbR X).2 tz).a, (pbR X).1)) :=
  ⟨fun h => by rw [prs_ok (by rw [hs]) (by rw [hs]; exact h), hs], fun h => by rw [prs_bad (by rw [hs]) (by rw [hs]; exact h), hs]⟩
theorem bdl1 {a : Int} (h : bd64 a) : ∀ x ∈ [a], bd64 x := fun x hx => by rcases List.mem_cons.1 hx with rfl | hx; exact h; cases hx
theorem bdl2 {a b : Int} (h : bd64 a) (g : bd64 b) : ∀ x ∈ [a, b], bd64 x := fun x hx => by
  rcases List.mem_cons.1 hx with rfl | hx
  · exact h
  · exact bdl1 g x hx
theorem textB_len {i : Ins} (h : InF i) : (textB i).length ≤ 60000 := by
  have hk := h.kind
  have hn := h.n1
  have hn64 := h.n64
  have hc := h.cost
  have hcp := h.cap
  have l1 := itoa_len' (n := i.n) (by unfold bd64; omega)
  have i1 := itemsB_len h i.n.toNat
  have r1 := rowsB_len h i.cost.length (Nat.le_refl _)
  have c1 := lineB_len (l := [i.n, i.cap]) (bdl2 (by unfold bd64; omega) (by unfold bd64; omega))
  have c2 := lineB_len (l := [i.n]) (bdl1 (by unfold bd64; omega))
  unfold textB headB
  by_cases h1 : i.kind = 1
  · rw [if_pos h1] at hc
    rw [if_pos h1, if_pos h1]
    simp only [List.length_append, List.length_cons, List.length_nil, nameB] at c1 ⊢
    rw [hc] at r1 ⊢
    simp; omega
  · rw [if_neg h1] at hc
    have hn24 := h.n24 h1
    rw [if_neg h1, if_neg h1]
    split
    · simp only [List.length_append, List.length_cons, List.length_nil] at c2 ⊢
      simp [nameB]; omega
    · simp only [List.length_append, List.length_cons, List.length_nil]
      simp [nameB]; omega
end Go.Proofs.YtakfcekfmdjklaaDoor
namespace Go.Proofs.YtakfcekfmdjklaaDoor
theorem numE_ok {x : Int} (h : 0 ≤ x ∧ x ≤ 2147483647) : numE x = 0 := by unfold numE; rw [if_neg (by omega), if_neg (by omega)]
theorem mat_cell {n r c : Nat} {g : Nat → Nat → Int} (hr : r < n) (hc : c < n) : ((mat n g).getD r []).getD c 0 = g r c := by
  rw [mat_row hr]; simp [List.getD, hc]
theorem form_mat {kd : Int} {n : Nat} {g : Nat → Nat → Int} (hk : kd = 2 ∨ kd = 3) (h1 : 1 ≤ n) (h24 : n ≤ 24) (hg : ∀ r c, r < n → c < n → 0 ≤ g r c ∧ g r c ≤ 2147483647) (hd : kd = 3 → ∀ r, r < n → g r r = 0) :
    sizeE ⟨kd, n, 0, [], [], mat n g⟩ = 0 ∧ shapeOK ⟨kd, n, 0, [], [], mat n g⟩ ∧ numsE ⟨kd, n, 0, [], [], mat n g⟩ = 0 := by
  refine ⟨?_, .inr ⟨by show kd ≠ 1; omega, by show ((mat n g).length : Int) = n; rw [mat_len], rfl, rfl, rfl, fun r hr => ?_⟩, ?_⟩
  · unfold sizeE; rw [if_neg (by simp only; omega), if_neg (by simp only; omega), if_neg (by simp only; omega)]
  · have hr' : r < n := by have : r < (mat n g).length := hr; rwa [mat_len] at this
    show (((mat n g).getD r []).length : Int) = n
    rw [mat_row hr']; simp
  · unfold numsE
    rw [if_neg (by show ¬ kd = 1; omega)]
    show pfx _ ((n : Int)).toNat = 0
    rw [Int.toNat_natCast]
    refine pfx_all n (fun r hr => pfx_all n (fun c hc => ?_))
    unfold cellF
    have e : (((⟨kd, (n : Int), 0, [], [], mat n g⟩ : Ins).cost).getD r []).getD c 0 = g r c := mat_cell hr hc
    rw [e, numE_ok (hg r c hr hc), if_neg (by simp), if_neg (fun q => ?_)]
    obtain ⟨⟨q1, q2⟩, q3⟩ := q
    subst q2
    exact q3 (hd q1 r hr)
end Go.Proofs.YtakfcekfmdjklaaDoor
namespace Go.Proofs.YtakfcekfmdjklaaDoor
open Go.RowKit
theorem chk_of {i : Ins} (h : sizeE i = 0 ∧ shapeOK i ∧ numsE i = 0) : chk i = 0 := by unfold chk; rw [if_neg (not_not_intro h.1), if_pos h.2.1, h.2.2]
theorem wtxt_ok {i : Ins} (h : chk i = 0) : wtxt i = textB i := if_pos h
theorem wtxt_len {i : Ins} (h : chk i = 0) : (wtxt i).length ≤ 60000 := by rw [wtxt_ok h]; exact textB_len (chk_inF h)
theorem inF_len {i : Ins} (h : InF i) : i.wt.length ≤ 64 ∧ i.vl.length ≤ 64 ∧ i.cost.length ≤ 64 := by
  have h1 := h.wt
  have h2 := h.vl
  have h3 := h.cost
  have h4 := h.n64
  refine ⟨?_, ?_, ?_⟩
  · rw [h1]; split <;> omega
  · rw [h2]; split <;> omega
  · rw [h3]; split <;> omega
end Go.Proofs.YtakfcekfmdjklaaDoor
namespace Go.Proofs.YtakfcekfmdjklaaDoor
open Go.RowKit
theorem sum_wrap (a b : Int) : wrap64 (IntKind.u64.wrap (IntKind.u64.wrap a + IntKind.u64.wrap b)) = (a + b + 9223372036854775808) % 18446744073709551616 - 9223372036854775808 := by
  rw [← IntWalk.i64_left, IntKind.wrap_i64, IntKind.wrap_u64, IntKind.wrap_u64, IntKind.wrap_u64]; omega
theorem over_sum {a b S : Int} (a0 : -9223372036854775808 ≤ a) (a1 : a ≤ 9223372036854775807) (b0 : -9223372036854775808 ≤ b) (b1 : b ≤ 9223372036854775807)
    (hS : S = (a + b + 9223372036854775808) % 18446744073709551616 - 9223372036854775808) (h1 : a < 0 ↔ b < 0) (h2 : ¬ (S < 0 ↔ b < 0)) : intN (a + b) = 0 ∧ intB (a + b) = false :=
  int_no (by omega)
theorem fine_sum {a b S : Int} (a0 : -9223372036854775808 ≤ a) (a1 : a ≤ 9223372036854775807) (b0 : -9223372036854775808 ≤ b) (b1 : b ≤ 9223372036854775807)
    (hS : S = (a + b + 9223372036854775808) % 18446744073709551616 - 9223372036854775808) (h : ¬ (a < 0 ↔ b < 0) ∨ (S < 0 ↔ b < 0)) : intN (a + b) = S ∧ intB (a + b) = true := by
  have := int_yes (v := a + b) (by omega)
  exact ⟨by rw [this.1]; omega, this.2⟩
set_option maxHeartbeats 400000 in
theorem a_add (a b : Int) (a0 : -9223372036854775808 ≤ a) (a1 : a ≤ 9223372036854775807) (b0 : -9223372036854775808 ≤ b) (b1 : b ≤ 9223372036854775807) (w : World) :
    Calls Tryd.prog 51 #[.int .i64 a, .int .i64 b] w fun e w' => e = .returned (.tuple #[.int .i64 (intN (a + b)), .bool (intB (a + b))]) ∧ w = w' := by
  have HS := hid (sum_wrap a b)
  go_enter Tryd.func51, Tryd.ntmps51
  go_wp2
  · rename_i h1 h2
    have := over_sum a0 a1 b0 b1 HS.out h1 (by intro h; simp [h] at h2)
    go_ret2
    exact ⟨ret_ib this.1.symm this.2.symm, rfl⟩
  · rename_i h1 h2
    have := fine_sum a0 a1 b0 b1 HS.out (by right; simpa using h2)
    go_ret2
    exact ⟨ret_ib this.1.symm this.2.symm, rfl⟩
  · rename_i h1
    have := fine_sum a0 a1 b0 b1 HS.out (.inl h1)
    go_ret2
    exact ⟨ret_ib this.1.symm this.2.symm, rfl⟩
end Go.Proofs.YtakfcekfmdjklaaDoor
namespace Go.Proofs.YtakfcekfmdjklaaDoor
open Go.RowKit
theorem add_ok (a b : Int) (a0 : -9223372036854775808 ≤ a) (a1 : a ≤ 9223372036854775807) (b0 : -9223372036854775808 ≤ b) (b1 : b ≤ 9223372036854775807) (h : -9223372036854775808 ≤ a + b ∧ a + b ≤ 9223372036854775807) (w : World) :
    Calls Tryd.prog 51 #[.int .i64 a, .int .i64 b] w fun e w' => e = .returned (.tuple #[.int .i64 (a + b), .bool true]) ∧ w = w' := by
  have := a_add a b a0 a1 b0 b1 w
  rwa [(int_yes h).1, (int_yes h).2] at this
end Go.Proofs.YtakfcekfmdjklaaDoor
namespace Go.Proofs.YtakfcekfmdjklaaDoor
open Go.RowKit
def drawS (s : Int) : Int := IntKind.u64.wrap (IntKind.u64.wrap (s * 6364136223846793005) + 1442695040888963407)
def drawN (s m : Int) : Int := drawS s / 8589934592 % (m + 1)
theorem drawS_bd (s : Int) : 0 ≤ drawS s ∧ drawS s < 18446744073709551616 := by
  unfold drawS
  generalize IntKind.u64.wrap (s * 6364136223846793005) + 1442695040888963407 = x
  rw [IntKind.wrap_u64]; omega
theorem drawN_bd (s m : Int) (h : 0 ≤ m) : 0 ≤ drawN s m ∧ drawN s m ≤ m := by
  have h1 := drawS_bd s
  unfold drawN
  generalize drawS s = x at *
  have h2 := Int.emod_nonneg (x / 8589934592) (show m + 1 ≠ 0 by omega)
  have h3 := Int.emod_lt_of_pos (x / 8589934592) (show 0 < m + 1 by omega)
  omega
set_option maxHeartbeats 400000 in
theorem draw_in (s m : Int) (h0 : 0 ≤ m) (h1 : m ≤ 2147483647) (w : World) :
    Calls Tryd.prog 55 #[.int .u64 s, .int .i64 m] w fun e w' => e = .returned (.tuple #[.int .i64 (drawN s m), .int .u64 (drawS s)]) ∧ w = w' := by
  have hb := drawS_bd s
  unfold drawS at hb
  go_enter Tryd.func55, Tryd.ntmps55
  go_wp2
  go_ret2
  exact ⟨rfl, rfl⟩
end Go.Proofs.YtakfcekfmdjklaaDoor
namespace Go.Proofs.YtakfcekfmdjklaaDoor
open Go.RowKit
def sd (s : Int) : Nat → Int
  | 0 => s
  | k + 1 => drawS (sd s k)
def nm (s m : Int) (k : Nat) : Int := drawN (sd s k) m
theorem nm_bd (s m : Int) (k : Nat) (h : 0 ≤ m) : 0 ≤ nm s m k ∧ nm s m k ≤ m := drawN_bd _ _ h
def nmL (s m : Int) (f : Nat → Nat) (k : Nat) : List Int := (List.range k).map fun j => nm s m (f j)
theorem nmL_len (s m : Int) (f : Nat → Nat) (k : Nat) : (nmL s m f k).length = k := by simp [nmL]
theorem nmL_succ (s m : Int) (f : Nat → Nat) (k : Nat) : nmL s m f k ++ [nm s m (f k)] = nmL s m f (k + 1) := by simp [nmL, List.range_succ]
theorem nmL_get (s m : Int) (f : Nat → Nat) {k j : Nat} (h : j < k) : (nmL s m f k).getD j 0 = nm s m (f j) := by simp [nmL, List.getD, h]
theorem nmL_sum (s m : Int) (f : Nat → Nat) (hm : 0 ≤ m ∧ m ≤ 2147483647) : ∀ k, 0 ≤ (nmL s m f k).sum ∧ (nmL s m f k).sum ≤ k * 2147483647
  | 0 => by simp [nmL]
  | k + 1 => by
    have h := nmL_sum s m f hm k
    have h1 := nm_bd s m (f k) hm.1
    rw [← nmL_succ, List.sum_append]
    simp only [List.sum_cons, List.sum_nil]
    omega
theorem nmL_sumS (s m : Int) (f : Nat → Nat) (k : Nat) : (nmL s m f (k + 1)).sum = (nmL s m f k).sum + nm s m (f k) := by
  rw [← nmL_succ, List.sum_append]; simp
def evn (j : Nat) : Nat := 2 * j
def odd1 (j : Nat) : Nat := 2 * j + 1
def cb (kd : Int) (a b : Nat) : Nat := if kd = 3 ∧ a < b then b - 1 else b
def rt (kd : Int) (n : Nat) : Nat := if kd = 3 then n - 1 else n
def ent (kd s m : Int) (n a b : Nat) : Int := if kd = 3 ∧ a = b then 0 else nm s m (rt kd n * a + cb kd a b)
def rowF (kd s m : Int) (n a q : Nat) : List Int := (List.range q).map fun b => ent kd s m n a b
def rowsF (kd s m : Int) (n a : Nat) : List (List Int) := (List.range a).map fun a => rowF kd s m n a n
theorem rowF_len (kd s m : Int) (n a q : Nat) : (rowF kd s m n a q).length = q := by simp [rowF]
theorem rowF_succ (kd s m : Int) (n a q : Nat) : rowF kd s m n a q ++ [ent kd s m n a q] = rowF kd s m n a (q + 1) := by simp [rowF, List.range_succ]
theorem rowsF_succ (kd s m : Int) (n a : Nat) : rowsF kd s m n a ++ [rowF kd s m n a n] = rowsF kd s m n (a + 1) := by simp [rowsF, List.range_succ]
theorem cb_zero (kd : Int) (a : Nat) : cb kd a 0 = 0 := by unfold cb; split <;> omega
theorem cb_skip {kd : Int} {a q : Nat} (h : kd = 3 ∧ a = q) : cb kd a (q + 1) = cb kd a q := by
  unfold cb; rw [if_pos (by omega), if_neg (by omega)]; rfl
theorem cb_step {kd : Int} {a q : Nat} (h : ¬ (kd = 3 ∧ a = q)) : cb kd a (q + 1) = cb kd a q + 1 := by
  unfold cb; repeat' split
  all_goals omega
theorem cb_end {kd : Int} {a n : Nat} (h : a < n) : cb kd a n = rt kd n := by
  unfold cb rt; repeat' split
  all_goals omega
theorem ent_skip {kd s m : Int} {n a q : Nat} (h : kd = 3 ∧ a = q) : ent kd s m n a q = 0 := if_pos h
theorem ent_step {kd s m : Int} {n a q : Nat} (h : ¬ (kd = 3 ∧ a = q)) : ent kd s m n a q = nm s m (rt kd n * a + cb kd a q) := if_neg h
theorem grow_set (kd s m : Int) (n a q N : Nat) (h : q < N) : (rowF kd s m n a q ++ List.replicate (N - q) 0).set q (ent kd s m n a q) = rowF kd s m n a (q + 1) ++ List.replicate (N - (q + 1)) 0 := by
  rw [List.set_append_right _ _ (by rw [rowF_len]; exact Nat.le_refl _)]
  rw [rowF_len, Nat.sub_self, show N - q = (N - (q + 1)) + 1 by omega, List.replicate_succ, List.set_cons_zero, ← rowF_succ, List.append_assoc]
  rfl
theorem grow_skip (kd s m : Int) (n a q N : Nat) (h : q < N) (h0 : ent kd s m n a q = 0) : rowF kd s m n a q ++ List.replicate (N - q) 0 = rowF kd s m n a (q + 1) ++ List.replicate (N - (q + 1)) 0 := by
  rw [← rowF_succ, h0, show N - q = (N - (q + 1)) + 1 by omega, List.replicate_succ, List.append_assoc]
  rfl
def i0 : Ins := ⟨0, 0, 0, [], [], []⟩
def gK (n m s : Int) : Ins := ⟨1, n, min ((nmL s m evn n.toNat).sum / 2) 2147483647, nmL s m evn n.toNat, nmL s m odd1 n.toNat, []⟩
def gR (kd n m s : Int) : Ins := ⟨kd, n, 0, [], [], rowsF kd s m n.toNat n.toNat⟩
def gmk (kd n m s : Int) : Ins × Int :=
  if ¬ (1 ≤ kd ∧ kd ≤ 3) then (i0, 14)
  else if n < 1 ∨ m < 0 ∨ 2147483647 < m then (i0, 1)
  else if n > 64 ∨ (1 < kd ∧ n > 24) then (i0, 5)
  else if kd = 1 then (gK n m s, 0)
  else (gR kd n m s, 0)
section
variable {w0 w w' : World} {F : Nat → Prop} {L : List Ck} {e t : TypeId} {b n : Nat}
theorem Mem.rowOwn {l : List Int} (h : Mem w0 F (pt b (ints l) e :: L) w) (hl : l.length = n) (hm : n ≤ 1000000) : Mem w0 F (orC e ⟨l, some ⟨b, 0, none⟩, n⟩ :: L) w := by
  subst hl
  exact h.ownPt (cap := l.length) (n := l.length) (sz := 1) (xs := l.map (Value.int .i64)) (by simp [ints]) (by unfold maxLen; omega) (Nat.le_refl _) (by rw [Nat.mul_one]; simp only [ints]; rw [List.take_of_length_le (by simp)])
theorem orV_snoc (rs : List OwR) (o : OwR) : rs.map orV ++ [orV o] = (rs ++ [o]).map orV := by simp
theorem len_snoc (rs : List OwR) (o : OwR) : rs.length + 1 = (rs ++ [o]).length := by simp
theorem Y_snoc {rs : List OwR} {kd s m : Int} {n a : Nat} {p : Option Addr} {c : Nat} (h : rs.map (·.Y) = rowsF kd s m n a) : (rs ++ [(⟨rowF kd s m n a n, p, c⟩ : OwR)]).map (·.Y) = rowsF kd s m n (a + 1) := by
  rw [List.map_append, h, ← rowsF_succ]; rfl
end
end Go.Proofs.YtakfcekfmdjklaaDoor
namespace Go.Proofs.YtakfcekfmdjklaaDoor
open Go.RowKit
set_option maxRecDepth 100000 in
set_option maxHeartbeats 400000 in
theorem gnext (d : Nat) (s m : Int) (hm : 0 ≤ m ∧ m ≤ 2147483647) (w : World) (hM : Mem w (feet [pt d #[.int .u64 s, .int .i64 m] 80]) [pt d #[.int .u64 s, .int .i64 m] 80] w) :
  Calls Tryd.prog 73 #[.pointer (some ⟨d, 0, none⟩)] w fun e w' => e = .returned (.int .i64 (drawN s m)) ∧ Mem w (feet [pt d #[.int .u64 s, .int .i64 m] 80]) [pt d #[.int .u64 (drawS s), .int .i64 m] 80] w' := by
 refine Calls.of_ends (vs := [.pointer (some ⟨d, 0, none⟩)]) Tryd.func73 rfl Tryd.ntmps73 rfl ?_
 intro a hA
 replace hA : St 22 [(0, _)] a := hA
 refine Ends.seq (Ends.region ?_)
 refine S.val hA (R.assign rfl) rfl ?_; clear hA a; intro a hA
 refine S.done ?_
 replace hA : St 22 [(0, _)] a := hA.sub ((.cons rfl .nil))
 refine Ends.seq ?_
 refine Ends.drawn (Mem w (feet [pt d #[.int .u64 s, .int .i64 m] 80]) [pt d #[.int .u64 s, .int .i64 m] 80]) (.cons (0, true) (.cons (1, true) (.cons (2, true) (.cons (3, true) (.cons (4, true) (.cons (5, true) (.cons (6, true) (.cons (7, true) (.cons (8, false) (.cons (9, true) (.cons (10, true) (.cons (11, true) (.cons (12, true) (.cons (13, true) .nil)))))))))))))) 14 mixed (by kernel_rfl) (by kernel_rfl) (by kernel_rfl) hM.drew ?_
 replace hM := hM.drew
 refine D.valF hA rfl (fun _ => R.move rfl) rfl ?_; clear hA a; intro a hA
 refine D.valF hA rfl (fun _ => R.nilCheck rfl) rfl ?_; clear hA a; intro a hA
 refine D.valF hA rfl (fun _ => R.fieldAddr (q := 0) fi80_0 rfl rfl rfl) rfl ?_; clear hA a; intro a hA
 refine D.val hA rfl (by kernel_rfl) (fun _ hM => R.load sz38 rfl (hM.cell (k := 0) rfl rfl)) rfl ?_; clear hA a; intro a hA
 refine D.valF hA rfl (fun _ => R.move rfl) rfl ?_; clear hA a; intro a hA
 refine D.valF hA rfl (fun _ => R.nilCheck rfl) rfl ?_; clear hA a; intro a hA
 refine D.valF hA rfl (fun _ => R.fieldAddr (q := 1) fi80_1 rfl rfl rfl) rfl ?_; clear hA a; intro a hA
 refine D.val hA rfl (by kernel_rfl) (fun _ hM => R.load sz3 rfl (hM.cell (k := 0) rfl rfl)) rfl ?_; clear hA a; intro a hA
 refine D.call hA rfl (R.callF Tryd.func55 rfl rfl rfl) rfl (draw_in s m hm.1 hm.2 _) ?_; clear hA a
 rintro e w1 ⟨rfl, rfl⟩
 refine ⟨.tuple #[.int .i64 (drawN s m), .int .u64 (drawS s)], rfl, hM, fun a hA => ?_⟩
 refine D.valF hA rfl (fun _ => R.move rfl) rfl ?_; clear hA a; intro a hA
 refine D.valF hA rfl (fun _ => R.extract (v := .int .i64 (drawN s m)) rfl rfl) rfl ?_; clear hA a; intro a hA
 refine D.valF hA rfl (fun _ => R.extract (v := .int .u64 (drawS s)) rfl rfl) rfl ?_; clear hA a; intro a hA
 refine D.valF hA rfl (fun _ => R.assign rfl) rfl ?_; clear hA a; intro a hA
 refine D.valF hA rfl (fun _ => R.assign rfl) rfl ?_; clear hA a; intro a hA
 refine D.done ?_
 replace hA : St 22 [(0, _), (3, _), (4, _)] a := hA.sub ((.cons rfl (.cons rfl (.cons rfl .nil))))
 refine Ends.seq (Ends.region ?_)
 refine S.val hA (R.move rfl) rfl ?_; clear hA a; intro a hA
 refine S.val hA (R.move rfl) rfl ?_; clear hA a; intro a hA
 refine S.val hA (R.nilCheck rfl) rfl ?_; clear hA a; intro a hA
 refine S.val hA (R.fieldAddr (q := 0) fi80_0 rfl rfl rfl) rfl ?_; clear hA a; intro a hA
 refine S.store (k := 0) hA hM sz38 rfl rfl rfl rfl rfl ?_; clear hM
 intro w2 hM
 replace hM : Mem _ _ [pt d #[.int .u64 (drawS s), .int .i64 m] 80] _ := hM
 refine S.done ?_
 replace hA : St 22 [(3, _)] a := hA.sub ((.cons rfl .nil))
 refine Ends.seq (Ends.region ?_)
 refine S.val hA (R.move rfl) rfl ?_; clear hA a; intro a hA
 refine S.val hA (R.assign rfl) rfl ?_; clear hA a; intro a hA
 refine S.done ?_
 replace hA : St 22 [(2, _)] a := hA.sub ((.cons rfl .nil))
 refine Ends.ret1 Tryd.func73 Tryd.results73 hA rfl ?_
 exact ⟨rfl, hM⟩
set_option maxRecDepth 100000 in
set_option maxHeartbeats 400000 in
theorem gknap (d : Nat) (n s m : Int) (hm : 0 ≤ m ∧ m ≤ 2147483647) (hn : 1 ≤ n ∧ n ≤ 64) (w : World) (hM : Mem w (feet [pt d #[.int .u64 (sd s (0)), .int .i64 m] 80]) [pt d #[.int .u64 (sd s (0)), .int .i64 m] 80] w) :
  Calls Tryd.prog 53 #[.pointer (some ⟨d, 0, none⟩), .int .i64 n] w fun e w' => ∃ aw cw av cv, e = .returned (insA (gK n m s) aw cw av cv none 0 []) ∧ Mem w (feet [pt d #[.int .u64 (sd s (0)), .int .i64 m] 80]) [bundle (insL 3 22 (gK n m s) aw cw av cv none 0 []), pt d #[.int .u64 (sd s (2 * n.toNat)), .int .i64 m] 80] w' := by
 refine Calls.of_ends (vs := [.pointer (some ⟨d, 0, none⟩), .int .i64 n]) Tryd.func53 rfl Tryd.ntmps53 rfl ?_
 intro a hA
 replace hA : St 37 [(0, _), (1, _)] a := hA
 refine Ends.seq (Ends.region ?_)
 refine S.alloc hA hM info25 rfl rfl ?_; clear hA hM a; intro b1 w1 hb2 hM a hA
 replace hM : Mem _ _ [pt b1 cz0 25, pt d #[.int .u64 (sd s (0)), .int .i64 m] 80] _ := hM
 refine S.done ?_
 replace hA : St 37 [(0, _), (1, _), (4, _)] a := hA.sub ((.cons rfl (.cons rfl (.cons rfl .nil))))
 refine Ends.seq (Ends.region ?_)
 refine S.val hA (R.move rfl) rfl ?_; clear hA a; intro a hA
 refine S.val hA (R.build (cells := #[.int .i64 1, .int .i64 n, .int .i64 0, .slice none 0 0, .slice none 0 0, .slice none 0 0]) rfl (by kernel_rfl)) rfl ?_; clear hA a; intro a hA
 refine S.alloc hA hM info25 rfl rfl ?_; clear hA hM a; intro b3 w2 hb4 hM a hA
 replace hM : Mem _ _ [pt b3 cz0 25, pt b1 cz0 25, pt d #[.int .u64 (sd s (0)), .int .i64 m] 80] _ := hM
 refine S.storeA (k := 0) hA hM sz25 rfl rfl rfl rfl rfl rfl ?_; clear hM
 intro w3 hM
 replace hM : Mem _ _ [pt b3 #[.int .i64 1, .int .i64 n, .int .i64 0, .slice none 0 0, .slice none 0 0, .slice none 0 0] 25, pt b1 cz0 25, pt d #[.int .u64 (sd s (0)), .int .i64 m] 80] _ := hM
 refine S.done ?_
 replace hA : St 37 [(0, _), (1, _), (4, _), (5, _)] a := hA.sub ((.cons rfl (.cons rfl (.cons rfl (.cons rfl .nil)))))
 refine Ends.seq (Ends.region ?_)
 refine S.val hA (R.assign rfl) rfl ?_; clear hA a; intro a hA
 refine S.done ?_
 replace hA : St 37 [(0, _), (1, _), (4, _), (5, _), (6, _)] a := hA.sub ((.cons rfl (.cons rfl (.cons rfl (.cons rfl (.cons rfl .nil))))))
 refine Ends.seq (Ends.seq (Ends.region ?_))
 refine S.val hA (R.move rfl) rfl ?_; clear hA a; intro a hA
 refine S.val hA (R.move rfl) rfl ?_; clear hA a; intro a hA
 refine S.done ?_
 replace hA : St 37 [(0, _), (4, _), (5, _), (6, _), (10, _), (11, _)] a := hA.sub ((.cons rfl (.cons rfl (.cons rfl (.cons rfl (.cons rfl (.cons rfl .nil)))))))
 refine Ends.block ?_
 replace hM := hM.front (k := 1) rfl
 replace hM := hM.front (k := 2) rfl
 replace hM := hM.front (k := 2) rfl
 replace hM : Mem _ _ [pt b3 #[.int .i64 1, .int .i64 n, .int .i64 0, .slice none 0 0, .slice none 0 0, .slice none 0 0] 25, pt d #[.int .u64 (sd s (0)), .int .i64 m] 80, pt b1 cz0 25] _ := hM
 replace hM := (hM.ownNil 3 1).ownNil 3 1
 have hM1 := ((hM.front (k := 2) rfl))
 replace hM : Mem _ _ [pt b3 #[.int .i64 1, .int .i64 n, .int .i64 0, .slice none ((nmL s m evn 0).length) 0, .slice none ((nmL s m odd1 0).length) 0, .slice none 0 0] 25, own 3 1 (.slice none (((nmL s m evn 0)).length) 0) (((nmL s m evn 0)).length) (((nmL s m evn 0)).map (Value.int .i64)), own 3 1 (.slice none (((nmL s m odd1 0)).length) 0) (((nmL s m odd1 0)).length) (((nmL s m odd1 0)).map (Value.int .i64)), pt d #[.int .u64 (sd s (2 * 0)), .int .i64 m] 80, pt b1 cz0 25] _ := hM1
 clear hM1
 refine Ends.loop (σ := Nat × Option Addr × Nat × Option Addr × Nat) (fun (k, aw, cw, av, cv) (a : Act) (wv : World) => St 37 [(0, .pointer (some ⟨d, 0, none⟩)), (4, .pointer (some ⟨b1, 0, none⟩)), (5, .pointer (some ⟨b3, 0, none⟩)), (6, .int .i64 ((nmL s m evn k).sum)), (10, .int .i64 n), (11, .int .i64 ((k : Int)))] a ∧ Mem w (feet [pt d #[.int .u64 (sd s (0)), .int .i64 m] 80]) [pt b3 #[.int .i64 1, .int .i64 n, .int .i64 0, .slice aw ((nmL s m evn k).length) cw, .slice av ((nmL s m odd1 k).length) cv, .slice none 0 0] 25, own 3 1 (.slice aw (((nmL s m evn k)).length) cw) (((nmL s m evn k)).length) (((nmL s m evn k)).map (Value.int .i64)), own 3 1 (.slice av (((nmL s m odd1 k)).length) cv) (((nmL s m odd1 k)).length) (((nmL s m odd1 k)).map (Value.int .i64)), pt d #[.int .u64 (sd s (2 * k)), .int .i64 m] 80, pt b1 cz0 25] wv ∧ (k ≤ n.toNat)) (fun (k, aw, cw, av, cv) => n.toNat - k) ((0, none, 0, none, 0)) ⟨hA.sub ((.cons rfl (.cons rfl (.cons rfl (.cons rfl (.cons rfl (.cons rfl .nil))))))), hM, (Nat.zero_le _)⟩ ?_
 clear hA hM a
 rintro ⟨k, aw, cw, av, cv⟩ a w4 ⟨hA, hM, hk⟩ hNext
 refine Ends.seq (Ends.region ?_)
 refine S.val hA (R.lss rfl rfl) rfl ?_; clear hA a; intro a hA
 refine S.done ?_
 replace hA : St 37 [(0, _), (4, _), (5, _), (6, _), (10, _), (11, _), (12, _)] a := hA.sub ((.cons rfl (.cons rfl (.cons rfl (.cons rfl (.cons rfl (.cons rfl (.cons rfl .nil))))))))
 refine Ends.seq ?_
 refine Ends.ite hA rfl (fun hc5 => ?_) (fun hc5 => ?_)
 ·
  have hsm := nmL_sum s m evn hm k
  have hb1 := nm_bd s m (2 * k) hm.1
  refine Ends.skip (Ends.seq (Ends.block (Ends.seq (Ends.region ?_))))
  refine S.val hA (R.move rfl) rfl ?_; clear hA a; intro a hA
  replace hM := hM.front (k := 3) rfl
  replace hM : Mem _ _ [pt d #[.int .u64 (sd s (2 * k)), .int .i64 m] 80, pt b3 #[.int .i64 1, .int .i64 n, .int .i64 0, .slice aw ((nmL s m evn k).length) cw, .slice av ((nmL s m odd1 k).length) cv, .slice none 0 0] 25, own 3 1 (.slice aw (((nmL s m evn k)).length) cw) (((nmL s m evn k)).length) (((nmL s m evn k)).map (Value.int .i64)), own 3 1 (.slice av (((nmL s m odd1 k)).length) cv) (((nmL s m odd1 k)).length) (((nmL s m odd1 k)).map (Value.int .i64)), pt b1 cz0 25] _ := hM
  refine S.call hA (R.callF Tryd.func73 rfl rfl rfl) rfl (gnext d (sd s (2 * k)) m hm _ (hM.hereN 1)) ?_; clear hA a
  rintro e w5 ⟨rfl, hn⟩
  replace hM : Mem _ _ [pt d #[.int .u64 (sd s (2 * k + 1)), .int .i64 m] 80, pt b3 #[.int .i64 1, .int .i64 n, .int .i64 0, .slice aw ((nmL s m evn k).length) cw, .slice av ((nmL s m odd1 k).length) cv, .slice none 0 0] 25, own 3 1 (.slice aw (((nmL s m evn k)).length) cw) (((nmL s m evn k)).length) (((nmL s m evn k)).map (Value.int .i64)), own 3 1 (.slice av (((nmL s m odd1 k)).length) cv) (((nmL s m odd1 k)).length) (((nmL s m odd1 k)).map (Value.int .i64)), pt b1 cz0 25] _ := hM.callL 1 hn; clear hn
  refine ⟨.int .i64 (nm s m (2 * k)), rfl, fun a hA => ?_⟩
  refine S.val hA (R.assign rfl) rfl ?_; clear hA a; intro a hA
  refine S.done ?_
  replace hA : St 37 [(0, _), (4, _), (5, _), (6, _), (7, _), (10, _), (11, _)] a := hA.sub ((.cons rfl (.cons rfl (.cons rfl (.cons rfl (.cons rfl (.cons rfl (.cons rfl .nil))))))))
  refine Ends.seq (Ends.region ?_)
  refine S.val hA (R.move rfl) rfl ?_; clear hA a; intro a hA
  refine S.val hA (R.move rfl) rfl ?_; clear hA a; intro a hA
  refine S.val hA (R.addI rfl rfl (r := ((nmL s m evn k).sum) + (nm s m (2 * k))) rfl (by omega)) rfl ?_; clear hA a; intro a hA
  refine S.val hA (R.assign rfl) rfl ?_; clear hA a; intro a hA
  refine S.done ?_
  replace hA : St 37 [(0, _), (4, _), (5, _), (6, _), (7, _), (10, _), (11, _)] a := hA.sub ((.cons rfl (.cons rfl (.cons rfl (.cons rfl (.cons rfl (.cons rfl (.cons rfl .nil))))))))
  refine Ends.seq (Ends.region ?_)
  refine S.val hA (R.fieldAddr (q := 3) fi25_3 rfl rfl rfl) rfl ?_; clear hA a; intro a hA
  refine S.val hA (R.load sz22 rfl (hM.cell (k := 1) rfl rfl)) rfl ?_; clear hA a; intro a hA
  refine S.val hA (R.move rfl) rfl ?_; clear hA a; intro a hA
  refine S.buildSl (cells := #[.int .i64 (nm s m (2 * k))]) hA hM Tryd.underlying22 info3 rfl rfl rfl rfl (by kernel_rfl) rfl ?_; clear hA hM a; intro b6 w6 hb7 hM a hA
  replace hM : Mem _ _ [pt b6 #[.int .i64 (nm s m (2 * k))] 3, pt d #[.int .u64 (sd s (2 * k + 1)), .int .i64 m] 80, pt b3 #[.int .i64 1, .int .i64 n, .int .i64 0, .slice aw ((nmL s m evn k).length) cw, .slice av ((nmL s m odd1 k).length) cv, .slice none 0 0] 25, own 3 1 (.slice aw (((nmL s m evn k)).length) cw) (((nmL s m evn k)).length) (((nmL s m evn k)).map (Value.int .i64)), own 3 1 (.slice av (((nmL s m odd1 k)).length) cv) (((nmL s m odd1 k)).length) (((nmL s m odd1 k)).map (Value.int .i64)), pt b1 cz0 25] _ := hM
  refine S.append (k := 3) (k2 := 0) hA hM rfl rfl Tryd.underlying22 info3 rfl rfl rfl rfl rfl rfl rfl rfl rfl (by first | omega | (show (_ + 1) * 8 ≤ 140737488355328; simp only [nmL_len]; omega) | (show (_ + 1) * 8 ≤ 140737488355328; omega) | (simp only [nmL_len]; unfold maxLen; omega) | (unfold maxLen; omega)) (by first | omega | (show (_ + 1) * 8 ≤ 140737488355328; simp only [nmL_len]; omega) | (show (_ + 1) * 8 ≤ 140737488355328; omega) | (simp only [nmL_len]; unfold maxLen; omega) | (unfold maxLen; omega)) rfl ?_; clear hA hM a; intro a8 c9 w7 hM a hA
  replace hM : Mem _ _ [pt b6 #[.int .i64 (nm s m (2 * k))] 3, pt d #[.int .u64 (sd s (2 * k + 1)), .int .i64 m] 80, pt b3 #[.int .i64 1, .int .i64 n, .int .i64 0, .slice aw ((nmL s m evn k).length) cw, .slice av ((nmL s m odd1 k).length) cv, .slice none 0 0] 25, own 3 1 (.slice a8 ((((nmL s m evn k)).length) + 1) c9) ((((nmL s m evn k)).length) + 1) (((nmL s m evn k)).map (Value.int .i64) ++ [.int .i64 (nm s m (2 * k))]), own 3 1 (.slice av (((nmL s m odd1 k)).length) cv) (((nmL s m odd1 k)).length) (((nmL s m odd1 k)).map (Value.int .i64)), pt b1 cz0 25] _ := hM
  have hl10 : (((nmL s m evn k)).length) + 1 = ((nmL s m evn k) ++ [nm s m (2 * k)]).length := by simp
  rw [hl10, show ((nmL s m evn k)).map (Value.int .i64) ++ [.int .i64 (nm s m (2 * k))] = ((nmL s m evn k) ++ [nm s m (2 * k)]).map (Value.int .i64) by simp] at hM; rw [hl10] at hA
  clear hl10
  replace hM := hM.drop 0
  replace hM : Mem _ _ [pt d #[.int .u64 (sd s (2 * k + 1)), .int .i64 m] 80, pt b3 #[.int .i64 1, .int .i64 n, .int .i64 0, .slice aw ((nmL s m evn k).length) cw, .slice av ((nmL s m odd1 k).length) cv, .slice none 0 0] 25, own 3 1 (.slice a8 ((((nmL s m evn k) ++ [nm s m (2 * k)])).length) c9) ((((nmL s m evn k) ++ [nm s m (2 * k)])).length) ((((nmL s m evn k) ++ [nm s m (2 * k)])).map (Value.int .i64)), own 3 1 (.slice av (((nmL s m odd1 k)).length) cv) (((nmL s m odd1 k)).length) (((nmL s m odd1 k)).map (Value.int .i64)), pt b1 cz0 25] _ := hM
  refine S.val hA (R.fieldAddr (q := 3) fi25_3 rfl rfl rfl) rfl ?_; clear hA a; intro a hA
  refine S.store (k := 1) hA hM sz22 rfl rfl rfl rfl rfl ?_; clear hM
  intro w8 hM
  replace hM : Mem _ _ [pt d #[.int .u64 (sd s (2 * k + 1)), .int .i64 m] 80, pt b3 #[.int .i64 1, .int .i64 n, .int .i64 0, .slice a8 ((((nmL s m evn k) ++ [nm s m (2 * k)])).length) c9, .slice av ((nmL s m odd1 k).length) cv, .slice none 0 0] 25, own 3 1 (.slice a8 ((((nmL s m evn k) ++ [nm s m (2 * k)])).length) c9) ((((nmL s m evn k) ++ [nm s m (2 * k)])).length) ((((nmL s m evn k) ++ [nm s m (2 * k)])).map (Value.int .i64)), own 3 1 (.slice av (((nmL s m odd1 k)).length) cv) (((nmL s m odd1 k)).length) (((nmL s m odd1 k)).map (Value.int .i64)), pt b1 cz0 25] _ := hM
  refine S.done ?_
  replace hA : St 37 [(0, _), (4, _), (5, _), (6, _), (10, _), (11, _)] a := hA.sub ((.cons rfl (.cons rfl (.cons rfl (.cons rfl (.cons rfl (.cons rfl .nil)))))))
  refine Ends.drawn (Mem w (feet [pt d #[.int .u64 (sd s (0)), .int .i64 m] 80]) [pt b3 #[.int .i64 1, .int .i64 n, .int .i64 0, .slice a8 ((((nmL s m evn k) ++ [nm s m (2 * k)])).length) c9, .slice av ((nmL s m odd1 k).length) cv, .slice none 0 0] 25, pt b1 cz0 25]) (.cons (0, true) (.cons (1, true) (.cons (2, true) (.cons (3, false) (.cons (4, false) (.cons (5, false) (.cons (6, true) (.cons (7, false) .nil)))))))) 7 mixed (by kernel_rfl) (by kernel_rfl) (by kernel_rfl) (((hM.drop 3).drop 2).drop 0).drew ?_
  replace hM := hM.drew
  refine D.valF hA rfl (fun _ => R.fieldAddr (q := 4) fi25_4 rfl rfl rfl) rfl ?_; clear hA a; intro a hA
  refine D.val hA rfl (by kernel_rfl) (fun _ hM => R.load sz22 rfl (hM.cell (k := 0) rfl rfl)) rfl ?_; clear hA a; intro a hA
  refine D.valF hA rfl (fun _ => R.move rfl) rfl ?_; clear hA a; intro a hA
  refine D.call hA rfl (R.callF Tryd.func73 rfl rfl rfl) rfl (gnext d (sd s (2 * k + 1)) m hm _ (hM.hereN 1)) ?_; clear hA a
  rintro e w9 ⟨rfl, hn⟩
  replace hM : Mem _ _ [pt d #[.int .u64 (sd s (2 * k + 1 + 1)), .int .i64 m] 80, pt b3 #[.int .i64 1, .int .i64 n, .int .i64 0, .slice a8 ((((nmL s m evn k) ++ [nm s m (2 * k)])).length) c9, .slice av ((nmL s m odd1 k).length) cv, .slice none 0 0] 25, own 3 1 (.slice a8 ((((nmL s m evn k) ++ [nm s m (2 * k)])).length) c9) ((((nmL s m evn k) ++ [nm s m (2 * k)])).length) ((((nmL s m evn k) ++ [nm s m (2 * k)])).map (Value.int .i64)), own 3 1 (.slice av (((nmL s m odd1 k)).length) cv) (((nmL s m odd1 k)).length) (((nmL s m odd1 k)).map (Value.int .i64)), pt b1 cz0 25] _ := hM.callL 1 hn; clear hn
  refine ⟨.int .i64 (nm s m (2 * k + 1)), rfl, (((hM.drop 3).drop 2).drop 0), fun a hA => ?_⟩
  refine D.buildSl (cells := #[.int .i64 (nm s m (2 * k + 1))]) hA hM rfl Tryd.underlying22 info3 rfl rfl rfl rfl (by kernel_rfl) rfl ?_; clear hA hM a; intro b11 w10 hb12 hM; refine ⟨(fun hM => (((hM.drop 3).drop 2).drop 0)) hM.tail, fun a hA => ?_⟩
  replace hM : Mem _ _ [pt b11 #[.int .i64 (nm s m (2 * k + 1))] 3, pt d #[.int .u64 (sd s (2 * k + 1 + 1)), .int .i64 m] 80, pt b3 #[.int .i64 1, .int .i64 n, .int .i64 0, .slice a8 ((((nmL s m evn k) ++ [nm s m (2 * k)])).length) c9, .slice av ((nmL s m odd1 k).length) cv, .slice none 0 0] 25, own 3 1 (.slice a8 ((((nmL s m evn k) ++ [nm s m (2 * k)])).length) c9) ((((nmL s m evn k) ++ [nm s m (2 * k)])).length) ((((nmL s m evn k) ++ [nm s m (2 * k)])).map (Value.int .i64)), own 3 1 (.slice av (((nmL s m odd1 k)).length) cv) (((nmL s m odd1 k)).length) (((nmL s m odd1 k)).map (Value.int .i64)), pt b1 cz0 25] _ := hM
  refine D.append (k := 4) (k2 := 0) hA hM rfl rfl rfl Tryd.underlying22 info3 rfl rfl rfl rfl rfl rfl rfl rfl rfl (by first | omega | (show (_ + 1) * 8 ≤ 140737488355328; simp only [nmL_len]; omega) | (show (_ + 1) * 8 ≤ 140737488355328; omega) | (simp only [nmL_len]; unfold maxLen; omega) | (unfold maxLen; omega)) (by first | omega | (show (_ + 1) * 8 ≤ 140737488355328; simp only [nmL_len]; omega) | (show (_ + 1) * 8 ≤ 140737488355328; omega) | (simp only [nmL_len]; unfold maxLen; omega) | (unfold maxLen; omega)) rfl ?_; clear hA hM a; intro a13 c14 w11 hM
  replace hM : Mem _ _ [pt b11 #[.int .i64 (nm s m (2 * k + 1))] 3, pt d #[.int .u64 (sd s (2 * k + 1 + 1)), .int .i64 m] 80, pt b3 #[.int .i64 1, .int .i64 n, .int .i64 0, .slice a8 ((((nmL s m evn k) ++ [nm s m (2 * k)])).length) c9, .slice av ((nmL s m odd1 k).length) cv, .slice none 0 0] 25, own 3 1 (.slice a8 ((((nmL s m evn k) ++ [nm s m (2 * k)])).length) c9) ((((nmL s m evn k) ++ [nm s m (2 * k)])).length) ((((nmL s m evn k) ++ [nm s m (2 * k)])).map (Value.int .i64)), own 3 1 (.slice a13 ((((nmL s m odd1 k)).length) + 1) c14) ((((nmL s m odd1 k)).length) + 1) (((nmL s m odd1 k)).map (Value.int .i64) ++ [.int .i64 (nm s m (2 * k + 1))]), pt b1 cz0 25] _ := hM
  have hl15 : (((nmL s m odd1 k)).length) + 1 = ((nmL s m odd1 k) ++ [nm s m (2 * k + 1)]).length := by simp
  rw [hl15, show ((nmL s m odd1 k)).map (Value.int .i64) ++ [.int .i64 (nm s m (2 * k + 1))] = ((nmL s m odd1 k) ++ [nm s m (2 * k + 1)]).map (Value.int .i64) by simp] at hM
  replace hM := hM.drop 0
  replace hM : Mem _ _ [pt d #[.int .u64 (sd s (2 * k + 1 + 1)), .int .i64 m] 80, pt b3 #[.int .i64 1, .int .i64 n, .int .i64 0, .slice a8 ((((nmL s m evn k) ++ [nm s m (2 * k)])).length) c9, .slice av ((nmL s m odd1 k).length) cv, .slice none 0 0] 25, own 3 1 (.slice a8 ((((nmL s m evn k) ++ [nm s m (2 * k)])).length) c9) ((((nmL s m evn k) ++ [nm s m (2 * k)])).length) ((((nmL s m evn k) ++ [nm s m (2 * k)])).map (Value.int .i64)), own 3 1 (.slice a13 ((((nmL s m odd1 k) ++ [nm s m (2 * k + 1)])).length) c14) ((((nmL s m odd1 k) ++ [nm s m (2 * k + 1)])).length) ((((nmL s m odd1 k) ++ [nm s m (2 * k + 1)])).map (Value.int .i64)), pt b1 cz0 25] _ := hM
  refine ⟨(((hM.drop 3).drop 2).drop 0), fun a hA => ?_⟩; rw [hl15] at hA; clear hl15
  refine D.valF hA rfl (fun _ => R.fieldAddr (q := 4) fi25_4 rfl rfl rfl) rfl ?_; clear hA a; intro a hA
  refine D.store (k := 1) hA hM rfl sz22 rfl rfl rfl rfl rfl ?_; clear hM
  intro w12 hM; refine ⟨fun _ hne => absurd rfl hne, ?_⟩
  replace hM : Mem _ _ [pt d #[.int .u64 (sd s (2 * k + 1 + 1)), .int .i64 m] 80, pt b3 #[.int .i64 1, .int .i64 n, .int .i64 0, .slice a8 ((((nmL s m evn k) ++ [nm s m (2 * k)])).length) c9, .slice a13 ((((nmL s m odd1 k) ++ [nm s m (2 * k + 1)])).length) c14, .slice none 0 0] 25, own 3 1 (.slice a8 ((((nmL s m evn k) ++ [nm s m (2 * k)])).length) c9) ((((nmL s m evn k) ++ [nm s m (2 * k)])).length) ((((nmL s m evn k) ++ [nm s m (2 * k)])).map (Value.int .i64)), own 3 1 (.slice a13 ((((nmL s m odd1 k) ++ [nm s m (2 * k + 1)])).length) c14) ((((nmL s m odd1 k) ++ [nm s m (2 * k + 1)])).length) ((((nmL s m odd1 k) ++ [nm s m (2 * k + 1)])).map (Value.int .i64)), pt b1 cz0 25] _ := hM
  refine D.done ?_
  replace hA : St 37 [(0, _), (4, _), (5, _), (6, _), (10, _), (11, _)] a := hA.sub ((.cons rfl (.cons rfl (.cons rfl (.cons rfl (.cons rfl (.cons rfl .nil)))))))
  refine Ends.inBlock (Ends.region ?_)
  refine S.val hA (R.addI rfl rfl (r := ((k : Int)) + 1) rfl (by omega)) rfl ?_; clear hA a; intro a hA
  refine S.val hA (R.move rfl) rfl ?_; clear hA a; intro a hA
  refine S.done ?_
  replace hA : St 37 [(0, _), (4, _), (5, _), (6, _), (10, _), (11, _)] a := hA.sub ((.cons rfl (.cons rfl (.cons rfl (.cons rfl (.cons rfl (.cons rfl .nil)))))))
  rw [show nmL s m evn k ++ [nm s m (2 * k)] = nmL s m evn (k + 1) from nmL_succ s m evn k, show nmL s m odd1 k ++ [nm s m (2 * k + 1)] = nmL s m odd1 (k + 1) from nmL_succ s m odd1 k, show 2 * k + 1 + 1 = 2 * (k + 1) by omega] at hM
  rw [show (nmL s m evn k).sum + nm s m (2 * k) = (nmL s m evn (k + 1)).sum from (nmL_sumS s m evn k).symm] at hA
  replace hM := hM.front (k := 4) rfl
  replace hM := hM.front (k := 1) rfl
  replace hM := hM.front (k := 4) rfl
  replace hM := hM.front (k := 4) rfl
  replace hM := hM.front (k := 4) rfl
  exact hNext ((k + 1, a8, c9, a13, c14)) _ _ ((by show n.toNat - (k + 1) < n.toNat - k; omega)) ⟨hA.sub ((.cons rfl (.cons rfl (.cons rfl (.cons rfl (.cons rfl (.cons rfl .nil))))))), hM, (by omega)⟩
 ·
  obtain rfl : k = n.toNat := by omega
  have hsm := nmL_sum s m evn hm n.toNat
  refine Ends.exit rfl ?_
  replace hA : St 37 [(4, _), (5, _), (6, _)] a := hA.sub ((.cons rfl (.cons rfl (.cons rfl .nil))))
  refine Ends.seq (Ends.region ?_)
  refine S.val hA (R.move rfl) rfl ?_; clear hA a; intro a hA
  refine S.val hA (R.quoI rfl rfl (r := (nmL s m evn n.toNat).sum / 2) rfl (by omega)) rfl ?_; clear hA a; intro a hA
  refine S.val hA (R.min rfl rfl) rfl ?_; clear hA a; intro a hA
  refine S.val hA (R.fieldAddr (q := 2) fi25_2 rfl rfl rfl) rfl ?_; clear hA a; intro a hA
  refine S.store (k := 0) hA hM sz3 rfl rfl rfl rfl rfl ?_; clear hM
  intro w13 hM
  replace hM : Mem _ _ [pt b3 #[.int .i64 1, .int .i64 n, .int .i64 (min ((nmL s m evn n.toNat).sum / 2) 2147483647), .slice aw ((nmL s m evn n.toNat).length) cw, .slice av ((nmL s m odd1 n.toNat).length) cv, .slice none 0 0] 25, own 3 1 (.slice aw (((nmL s m evn n.toNat)).length) cw) (((nmL s m evn n.toNat)).length) (((nmL s m evn n.toNat)).map (Value.int .i64)), own 3 1 (.slice av (((nmL s m odd1 n.toNat)).length) cv) (((nmL s m odd1 n.toNat)).length) (((nmL s m odd1 n.toNat)).map (Value.int .i64)), pt d #[.int .u64 (sd s (2 * n.toNat)), .int .i64 m] 80, pt b1 cz0 25] _ := hM
  refine S.done ?_
  replace hA : St 37 [(4, _), (5, _)] a := hA.sub ((.cons rfl (.cons rfl .nil)))
  refine Ends.seq (Ends.region ?_)
  refine S.val hA (R.loadA sz25 rfl (hM.range (k := 0) rfl) rfl) rfl ?_; clear hA a; intro a hA
  refine S.storeA (k := 4) hA hM sz25 rfl rfl rfl rfl rfl rfl ?_; clear hM
  intro w14 hM
  replace hM : Mem _ _ [pt b3 #[.int .i64 1, .int .i64 n, .int .i64 (min ((nmL s m evn n.toNat).sum / 2) 2147483647), .slice aw ((nmL s m evn n.toNat).length) cw, .slice av ((nmL s m odd1 n.toNat).length) cv, .slice none 0 0] 25, own 3 1 (.slice aw (((nmL s m evn n.toNat)).length) cw) (((nmL s m evn n.toNat)).length) (((nmL s m evn n.toNat)).map (Value.int .i64)), own 3 1 (.slice av (((nmL s m odd1 n.toNat)).length) cv) (((nmL s m odd1 n.toNat)).length) (((nmL s m odd1 n.toNat)).map (Value.int .i64)), pt d #[.int .u64 (sd s (2 * n.toNat)), .int .i64 m] 80, pt b1 #[.int .i64 1, .int .i64 n, .int .i64 (min ((nmL s m evn n.toNat).sum / 2) 2147483647), .slice aw ((nmL s m evn n.toNat).length) cw, .slice av ((nmL s m odd1 n.toNat).length) cv, .slice none 0 0] 25] _ := hM
  refine S.done ?_
  replace hA : St 37 [(4, _)] a := hA.sub ((.cons rfl .nil))
  refine Ends.retC (k := 4) Tryd.func53 Tryd.results53 hA hM rfl rfl sz25 rfl ?_
  replace hM := hM.front (k := 3) rfl
  replace hM := hM.front (k := 3) rfl
  replace hM := hM.front (k := 3) rfl
  replace hM : Mem _ _ [own 3 1 (.slice aw (((nmL s m evn n.toNat)).length) cw) (((nmL s m evn n.toNat)).length) (((nmL s m evn n.toNat)).map (Value.int .i64)), own 3 1 (.slice av (((nmL s m odd1 n.toNat)).length) cv) (((nmL s m odd1 n.toNat)).length) (((nmL s m odd1 n.toNat)).map (Value.int .i64)), pt d #[.int .u64 (sd s (2 * n.toNat)), .int .i64 m] 80, pt b3 #[.int .i64 1, .int .i64 n, .int .i64 (min ((nmL s m evn n.toNat).sum / 2) 2147483647), .slice aw ((nmL s m evn n.toNat).length) cw, .slice av ((nmL s m odd1 n.toNat).length) cv, .slice none 0 0] 25, pt b1 #[.int .i64 1, .int .i64 n, .int .i64 (min ((nmL s m evn n.toNat).sum / 2) 2147483647), .slice aw ((nmL s m evn n.toNat).length) cw, .slice av ((nmL s m odd1 n.toNat).length) cv, .slice none 0 0] 25] _ := hM
  replace hM := hM.firstN 3
  replace hM : Mem _ _ [own 3 1 (.slice aw (((nmL s m evn n.toNat)).length) cw) (((nmL s m evn n.toNat)).length) (((nmL s m evn n.toNat)).map (Value.int .i64)), own 3 1 (.slice av (((nmL s m odd1 n.toNat)).length) cv) (((nmL s m odd1 n.toNat)).length) (((nmL s m odd1 n.toNat)).map (Value.int .i64)), pt d #[.int .u64 (sd s (2 * n.toNat)), .int .i64 m] 80] _ := hM
  replace hM := ((hM.bundleNil (e := 3)).ownNil 22 1)
  have hM1 := ((hM.front (k := 3) rfl).front (k := 3) rfl)
  refine ⟨aw, cw, av, cv, rfl, Mem.pack (cs := insL 3 22 (gK n m s) aw cw av cv none 0 []) hM1⟩
set_option maxRecDepth 100000 in
set_option maxHeartbeats 400000 in
theorem growsA (d : Nat) (n s m : Int) (hm : 0 ≤ m ∧ m ≤ 2147483647) (kd : Int) (hk : kd = 2 ∨ kd = 3) (hn : 1 ≤ n ∧ n ≤ 24) (w : World) (hM : Mem w (feet [pt d #[.int .u64 (sd s (0)), .int .i64 m] 80]) [pt d #[.int .u64 (sd s (0)), .int .i64 m] 80] w) :
  Calls Tryd.prog 54 #[.pointer (some ⟨d, 0, none⟩), .int .i64 kd, .int .i64 n] w fun e w' => ∃ ao co rs, e = .returned (insA (gR kd n m s) none 0 none 0 ao co rs) ∧ rs.map (·.Y) = rowsF kd s m n.toNat n.toNat ∧ Mem w (feet [pt d #[.int .u64 (sd s (0)), .int .i64 m] 80]) [bundle (insL 3 22 (gR kd n m s) none 0 none 0 ao co rs), pt d #[.int .u64 (sd s (rt kd n.toNat * n.toNat)), .int .i64 m] 80] w' := by
 refine Calls.of_ends (vs := [.pointer (some ⟨d, 0, none⟩), .int .i64 kd, .int .i64 n]) Tryd.func54 rfl Tryd.ntmps54 rfl ?_
 intro a hA
 replace hA : St 46 [(0, _), (1, _), (2, _)] a := hA
 refine Ends.seq (Ends.region ?_)
 refine S.alloc hA hM info25 rfl rfl ?_; clear hA hM a; intro b1 w1 hb2 hM a hA
 replace hM : Mem _ _ [pt b1 cz0 25, pt d #[.int .u64 (sd s (0)), .int .i64 m] 80] _ := hM
 refine S.done ?_
 replace hA : St 46 [(0, _), (1, _), (2, _), (6, _)] a := hA.sub ((.cons rfl (.cons rfl (.cons rfl (.cons rfl .nil)))))
 refine Ends.seq (Ends.region ?_)
 refine S.val hA (R.move rfl) rfl ?_; clear hA a; intro a hA
 refine S.val hA (R.move rfl) rfl ?_; clear hA a; intro a hA
 refine S.val hA (R.build (cells := #[.int .i64 kd, .int .i64 n, .int .i64 0, .slice none 0 0, .slice none 0 0, .slice none 0 0]) rfl (by kernel_rfl)) rfl ?_; clear hA a; intro a hA
 refine S.alloc hA hM info25 rfl rfl ?_; clear hA hM a; intro b3 w2 hb4 hM a hA
 replace hM : Mem _ _ [pt b3 cz0 25, pt b1 cz0 25, pt d #[.int .u64 (sd s (0)), .int .i64 m] 80] _ := hM
 refine S.storeA (k := 0) hA hM sz25 rfl rfl rfl rfl rfl rfl ?_; clear hM
 intro w3 hM
 replace hM : Mem _ _ [pt b3 #[.int .i64 kd, .int .i64 n, .int .i64 0, .slice none 0 0, .slice none 0 0, .slice none 0 0] 25, pt b1 cz0 25, pt d #[.int .u64 (sd s (0)), .int .i64 m] 80] _ := hM
 refine S.done ?_
 replace hA : St 46 [(0, _), (1, _), (2, _), (6, _), (7, _)] a := hA.sub ((.cons rfl (.cons rfl (.cons rfl (.cons rfl (.cons rfl .nil))))))
 refine Ends.seq (Ends.seq (Ends.region ?_))
 refine S.val hA (R.move rfl) rfl ?_; clear hA a; intro a hA
 refine S.val hA (R.move rfl) rfl ?_; clear hA a; intro a hA
 refine S.done ?_
 replace hA : St 46 [(0, _), (1, _), (2, _), (6, _), (7, _), (14, _), (15, _)] a := hA.sub ((.cons rfl (.cons rfl (.cons rfl (.cons rfl (.cons rfl (.cons rfl (.cons rfl .nil))))))))
 refine Ends.block ?_
 replace hM := (hM.bundleNil (e := 3)).ownNil 22 1
 replace hM := hM.front (k := 3) rfl
 replace hM := hM.front (k := 4) rfl
 replace hM := hM.front (k := 3) rfl
 replace hM := hM.front (k := 3) rfl
 replace hM := hM.front (k := 4) rfl
 replace hM : Mem _ _ [pt b3 #[.int .i64 kd, .int .i64 n, .int .i64 0, .slice none 0 0, .slice none 0 0, .slice none (([] : List OwR).length) 0] 25, own 22 1 (.slice none (([] : List OwR).length) 0) (([] : List OwR).length) ((([] : List OwR).map orV)), bundle (([] : List OwR).map (orC 3)), pt d #[.int .u64 (sd s (rt kd n.toNat * 0)), .int .i64 m] 80, pt b1 cz0 25] _ := hM
 refine Ends.loop (σ := Nat × Option Addr × Nat × List OwR) (fun (ar, ao, co, rs) (a : Act) (wv : World) => St 46 [(0, .pointer (some ⟨d, 0, none⟩)), (1, .int .i64 kd), (2, .int .i64 n), (6, .pointer (some ⟨b1, 0, none⟩)), (7, .pointer (some ⟨b3, 0, none⟩)), (14, .int .i64 n), (15, .int .i64 ((ar : Int)))] a ∧ Mem w (feet [pt d #[.int .u64 (sd s (0)), .int .i64 m] 80]) [pt b3 #[.int .i64 kd, .int .i64 n, .int .i64 0, .slice none 0 0, .slice none 0 0, .slice ao rs.length co] 25, own 22 1 (.slice ao rs.length co) rs.length ((rs.map orV)), bundle (rs.map (orC 3)), pt d #[.int .u64 (sd s (rt kd n.toNat * ar)), .int .i64 m] 80, pt b1 cz0 25] wv ∧ (ar ≤ n.toNat) ∧ (rs.map (·.Y) = rowsF kd s m n.toNat ar)) (fun (ar, ao, co, rs) => n.toNat - ar) ((0, none, 0, [])) ⟨hA.sub ((.cons rfl (.cons rfl (.cons rfl (.cons rfl (.cons rfl (.cons rfl (.cons rfl .nil)))))))), hM, (Nat.zero_le _), rfl⟩ ?_
 clear hA hM a
 rintro ⟨ar, ao, co, rs⟩ a w4 ⟨hA, hM, ha, hY⟩ hNext
 refine Ends.seq (Ends.region ?_)
 refine S.val hA (R.lss rfl rfl) rfl ?_; clear hA a; intro a hA
 refine S.done ?_
 replace hA : St 46 [(0, _), (1, _), (2, _), (6, _), (7, _), (14, _), (15, _), (16, _)] a := hA.sub ((.cons rfl (.cons rfl (.cons rfl (.cons rfl (.cons rfl (.cons rfl (.cons rfl (.cons rfl .nil)))))))))
 refine Ends.seq ?_
 refine Ends.ite hA rfl (fun hc5 => ?_) (fun hc5 => ?_)
 ·
  refine Ends.skip (Ends.seq (Ends.block (Ends.seq (Ends.region ?_))))
  refine S.val hA (R.move rfl) rfl ?_; clear hA a; intro a hA
  refine S.val hA (R.assign rfl) rfl ?_; clear hA a; intro a hA
  refine S.done ?_
  replace hA : St 46 [(0, _), (1, _), (2, _), (6, _), (7, _), (8, _), (14, _), (15, _)] a := hA.sub ((.cons rfl (.cons rfl (.cons rfl (.cons rfl (.cons rfl (.cons rfl (.cons rfl (.cons rfl .nil)))))))))
  refine Ends.seq (Ends.region ?_)
  refine S.val hA (R.move rfl) rfl ?_; clear hA a; intro a hA
  refine S.make hA hM Tryd.underlying22 info3 rfl rfl rfl (by omega) (by show (8 : Int) * _ ≤ _; omega) (by omega) rfl ?_; clear hA hM a; intro b6 w5 hb7 hM a hA
  replace hM : Mem _ _ [pt b6 (madeCells #[.int .i64 0] (n.toNat * 1)) 3, pt b3 #[.int .i64 kd, .int .i64 n, .int .i64 0, .slice none 0 0, .slice none 0 0, .slice ao rs.length co] 25, own 22 1 (.slice ao rs.length co) rs.length ((rs.map orV)), bundle (rs.map (orC 3)), pt d #[.int .u64 (sd s (rt kd n.toNat * ar)), .int .i64 m] 80, pt b1 cz0 25] _ := hM
  rw [Nat.mul_one, made_ints] at hM
  replace hM : Mem _ _ [pt b6 ((ints (List.replicate n.toNat 0))) 3, pt b3 #[.int .i64 kd, .int .i64 n, .int .i64 0, .slice none 0 0, .slice none 0 0, .slice ao rs.length co] 25, own 22 1 (.slice ao rs.length co) rs.length ((rs.map orV)), bundle (rs.map (orC 3)), pt d #[.int .u64 (sd s (rt kd n.toNat * ar)), .int .i64 m] 80, pt b1 cz0 25] _ := hM
  refine S.val hA (R.assign rfl) rfl ?_; clear hA a; intro a hA
  refine S.done ?_
  replace hA : St 46 [(0, _), (1, _), (2, _), (6, _), (7, _), (8, _), (9, _), (14, _), (15, _)] a := hA.sub ((.cons rfl (.cons rfl (.cons rfl (.cons rfl (.cons rfl (.cons rfl (.cons rfl (.cons rfl (.cons rfl .nil))))))))))
  refine Ends.seq (Ends.seq (Ends.region ?_))
  refine S.val hA (R.move rfl) rfl ?_; clear hA a; intro a hA
  refine S.val hA (R.lenS Tryd.underlying22 rfl rfl) rfl ?_; clear hA a; intro a hA
  refine S.val hA (R.move rfl) rfl ?_; clear hA a; intro a hA
  refine S.done ?_
  replace hA : St 46 [(0, _), (1, _), (2, _), (6, _), (7, _), (8, _), (9, _), (14, _), (15, _), (21, _), (22, _)] a := hA.sub ((.cons rfl (.cons rfl (.cons rfl (.cons rfl (.cons rfl (.cons rfl (.cons rfl (.cons rfl (.cons rfl (.cons rfl (.cons rfl .nil))))))))))))
  refine Ends.block ?_
  have hln : rs.length = ar := by have := congrArg List.length hY; simpa [rowsF] using this
  replace hM := hM.front (k := 5) rfl
  replace hM := hM.front (k := 4) rfl
  replace hM := hM.front (k := 4) rfl
  replace hM := hM.front (k := 4) rfl
  replace hM := hM.front (k := 5) rfl
  replace hM := hM.front (k := 5) rfl
  rw [show rt kd n.toNat * ar = rt kd n.toNat * ar + cb kd ar 0 by rw [cb_zero]; rfl] at hM
  replace hM : Mem _ _ [pt b6 ((ints (rowF kd s m n.toNat ar 0 ++ List.replicate (n.toNat - 0) 0))) 3, pt d #[.int .u64 (sd s (rt kd n.toNat * ar + cb kd ar 0)), .int .i64 m] 80, pt b3 #[.int .i64 kd, .int .i64 n, .int .i64 0, .slice none 0 0, .slice none 0 0, .slice ao rs.length co] 25, own 22 1 (.slice ao rs.length co) rs.length ((rs.map orV)), bundle (rs.map (orC 3)), pt b1 cz0 25] _ := hM
  refine Ends.loop (σ := Nat) (fun q (a : Act) (wv : World) => St 46 [(0, .pointer (some ⟨d, 0, none⟩)), (1, .int .i64 kd), (2, .int .i64 n), (6, .pointer (some ⟨b1, 0, none⟩)), (7, .pointer (some ⟨b3, 0, none⟩)), (8, .int .i64 ((ar : Int))), (9, .slice (some ⟨b6, 0, none⟩) n.toNat n.toNat), (14, .int .i64 n), (15, .int .i64 ((ar : Int))), (21, .int .i64 ((n.toNat : Int))), (22, .int .i64 ((q : Int)))] a ∧ Mem w (feet [pt d #[.int .u64 (sd s (0)), .int .i64 m] 80]) [pt b6 ((ints (rowF kd s m n.toNat ar q ++ List.replicate (n.toNat - q) 0))) 3, pt d #[.int .u64 (sd s (rt kd n.toNat * ar + cb kd ar q)), .int .i64 m] 80, pt b3 #[.int .i64 kd, .int .i64 n, .int .i64 0, .slice none 0 0, .slice none 0 0, .slice ao rs.length co] 25, own 22 1 (.slice ao rs.length co) rs.length ((rs.map orV)), bundle (rs.map (orC 3)), pt b1 cz0 25] wv ∧ (q ≤ n.toNat)) (fun q => n.toNat - q) 0 ⟨hA.sub ((.cons rfl (.cons rfl (.cons rfl (.cons rfl (.cons rfl (.cons rfl (.cons rfl (.cons rfl (.cons rfl (.cons rfl (.cons rfl .nil)))))))))))), hM, (Nat.zero_le _)⟩ ?_
  clear hA hM a
  rintro q a w6 ⟨hA, hM, hq⟩ hNext1
  refine Ends.seq (Ends.region ?_)
  refine S.val hA (R.lss rfl rfl) rfl ?_; clear hA a; intro a hA
  refine S.done ?_
  replace hA : St 46 [(0, _), (1, _), (2, _), (6, _), (7, _), (8, _), (9, _), (14, _), (15, _), (21, _), (22, _), (23, _)] a := hA.sub ((.cons rfl (.cons rfl (.cons rfl (.cons rfl (.cons rfl (.cons rfl (.cons rfl (.cons rfl (.cons rfl (.cons rfl (.cons rfl (.cons rfl .nil)))))))))))))
  refine Ends.seq ?_
  refine Ends.ite hA rfl (fun hc8 => ?_) (fun hc8 => ?_)
  ·
   refine Ends.skip (Ends.seq (Ends.block (Ends.seq (Ends.region ?_))))
   refine S.val hA (R.move rfl) rfl ?_; clear hA a; intro a hA
   refine S.val hA (R.assign rfl) rfl ?_; clear hA a; intro a hA
   refine S.done ?_
   replace hA : St 46 [(0, _), (1, _), (2, _), (6, _), (7, _), (8, _), (9, _), (10, _), (14, _), (15, _), (21, _), (22, _)] a := hA.sub ((.cons rfl (.cons rfl (.cons rfl (.cons rfl (.cons rfl (.cons rfl (.cons rfl (.cons rfl (.cons rfl (.cons rfl (.cons rfl (.cons rfl .nil)))))))))))))
   refine Ends.seq ?_
   refine Ends.cut (fun (a : Act) (wv : World) => St 46 [(0, .pointer (some ⟨d, 0, none⟩)), (1, .int .i64 kd), (2, .int .i64 n), (6, .pointer (some ⟨b1, 0, none⟩)), (7, .pointer (some ⟨b3, 0, none⟩)), (8, .int .i64 ((ar : Int))), (9, .slice (some ⟨b6, 0, none⟩) n.toNat n.toNat), (10, .int .i64 ((q : Int))), (14, .int .i64 n), (15, .int .i64 ((ar : Int))), (21, .int .i64 ((n.toNat : Int))), (22, .int .i64 ((q : Int))), (31, .bool (decide ((kd ≠ 3 ∨ ((ar : Int)) ≠ ((q : Int))))))] a ∧ Mem w (feet [pt d #[.int .u64 (sd s (0)), .int .i64 m] 80]) [pt b6 ((ints (rowF kd s m n.toNat ar q ++ List.replicate (n.toNat - q) 0))) 3, pt d #[.int .u64 (sd s (rt kd n.toNat * ar + cb kd ar q)), .int .i64 m] 80, pt b3 #[.int .i64 kd, .int .i64 n, .int .i64 0, .slice none 0 0, .slice none 0 0, .slice ao rs.length co] 25, own 22 1 (.slice ao rs.length co) rs.length ((rs.map orV)), bundle (rs.map (orC 3)), pt b1 cz0 25] wv) ?_ (fun k2 hJ => ?_)
   ·
    clear hA hM a; rintro a w7 ⟨hA, hM⟩
    refine Ends.ite hA rfl (fun hc9 => ?_) (fun hc9 => ?_)
    ·
     have hlen : (rowF kd s m n.toNat ar q ++ List.replicate (n.toNat - q) 0).length = n.toNat := by rw [List.length_append, rowF_len, List.length_replicate]; omega
     refine Ends.region ?_
     refine S.val hA (R.move rfl) rfl ?_; clear hA a; intro a hA
     refine S.val hA (R.move rfl) rfl ?_; clear hA a; intro a hA
     refine S.val hA (R.move rfl) rfl ?_; clear hA a; intro a hA
     replace hM := hM.front (k := 1) rfl
     replace hM : Mem _ _ [pt d #[.int .u64 (sd s (rt kd n.toNat * ar + cb kd ar q)), .int .i64 m] 80, pt b6 ((ints (rowF kd s m n.toNat ar q ++ List.replicate (n.toNat - q) 0))) 3, pt b3 #[.int .i64 kd, .int .i64 n, .int .i64 0, .slice none 0 0, .slice none 0 0, .slice ao rs.length co] 25, own 22 1 (.slice ao rs.length co) rs.length ((rs.map orV)), bundle (rs.map (orC 3)), pt b1 cz0 25] _ := hM
     refine S.call hA (R.callF Tryd.func73 rfl rfl rfl) rfl (gnext d (sd s (rt kd n.toNat * ar + cb kd ar q)) m hm _ (hM.hereN 1)) ?_; clear hA a
     rintro e w8 ⟨rfl, hn⟩
     replace hM : Mem _ _ [pt d #[.int .u64 (sd s (rt kd n.toNat * ar + cb kd ar q + 1)), .int .i64 m] 80, pt b6 ((ints (rowF kd s m n.toNat ar q ++ List.replicate (n.toNat - q) 0))) 3, pt b3 #[.int .i64 kd, .int .i64 n, .int .i64 0, .slice none 0 0, .slice none 0 0, .slice ao rs.length co] 25, own 22 1 (.slice ao rs.length co) rs.length ((rs.map orV)), bundle (rs.map (orC 3)), pt b1 cz0 25] _ := hM.callL 1 hn; clear hn
     refine ⟨.int .i64 (nm s m (rt kd n.toNat * ar + cb kd ar q)), rfl, fun a hA => ?_⟩
     refine S.val hA (R.indexAddr (q := q) sl22 rfl rfl (by omega) (by omega)) rfl ?_; clear hA a; intro a hA
     refine S.store (k := 1) hA hM sz3 rfl rfl rfl rfl (ints_getD ((rowF kd s m n.toNat ar q ++ List.replicate (n.toNat - q) 0)) _ (by omega)) ?_; clear hM
     intro w9 hM
     rw [ints_set] at hM
     replace hM : Mem _ _ [pt d #[.int .u64 (sd s (rt kd n.toNat * ar + cb kd ar q + 1)), .int .i64 m] 80, pt b6 ((ints (((rowF kd s m n.toNat ar q ++ List.replicate (n.toNat - q) 0)).set q (nm s m (rt kd n.toNat * ar + cb kd ar q))))) 3, pt b3 #[.int .i64 kd, .int .i64 n, .int .i64 0, .slice none 0 0, .slice none 0 0, .slice ao rs.length co] 25, own 22 1 (.slice ao rs.length co) rs.length ((rs.map orV)), bundle (rs.map (orC 3)), pt b1 cz0 25] _ := hM
     refine S.done ?_
     replace hA : St 46 [(0, _), (1, _), (2, _), (6, _), (7, _), (8, _), (9, _), (14, _), (15, _), (21, _), (22, _)] a := hA.sub ((.cons rfl (.cons rfl (.cons rfl (.cons rfl (.cons rfl (.cons rfl (.cons rfl (.cons rfl (.cons rfl (.cons rfl (.cons rfl .nil))))))))))))
     refine Ends.inBlock (Ends.region ?_)
     refine S.val hA (R.addI rfl rfl (r := ((q : Int)) + 1) rfl (by omega)) rfl ?_; clear hA a; intro a hA
     refine S.val hA (R.move rfl) rfl ?_; clear hA a; intro a hA
     refine S.done ?_
     replace hA : St 46 [(0, _), (1, _), (2, _), (6, _), (7, _), (8, _), (9, _), (14, _), (15, _), (21, _), (22, _)] a := hA.sub ((.cons rfl (.cons rfl (.cons rfl (.cons rfl (.cons rfl (.cons rfl (.cons rfl (.cons rfl (.cons rfl (.cons rfl (.cons rfl .nil))))))))))))
     have hns : ¬ (kd = 3 ∧ ar = q) := by have h9 := hc9; omega
     rw [show nm s m (rt kd n.toNat * ar + cb kd ar q) = ent kd s m n.toNat ar q from (ent_step hns).symm, grow_set kd s m n.toNat ar q n.toNat (by omega), show rt kd n.toNat * ar + cb kd ar q + 1 = rt kd n.toNat * ar + cb kd ar (q + 1) by rw [cb_step hns]; omega] at hM
     replace hM := hM.front (k := 5) rfl
     replace hM := hM.front (k := 5) rfl
     replace hM := hM.front (k := 5) rfl
     replace hM := hM.front (k := 5) rfl
     replace hM := hM.front (k := 4) rfl
     replace hM := hM.front (k := 5) rfl
     exact hNext1 ((q + 1)) _ _ ((by show n.toNat - (q + 1) < n.toNat - q; omega)) ⟨hA.sub ((.cons rfl (.cons rfl (.cons rfl (.cons rfl (.cons rfl (.cons rfl (.cons rfl (.cons rfl (.cons rfl (.cons rfl (.cons rfl .nil)))))))))))), hM, (by omega)⟩
    ·
     have hlen : (rowF kd s m n.toNat ar q ++ List.replicate (n.toNat - q) 0).length = n.toNat := by rw [List.length_append, rowF_len, List.length_replicate]; omega
     refine Ends.skip (Ends.inBlock (Ends.region ?_))
     refine S.val hA (R.addI rfl rfl (r := ((q : Int)) + 1) rfl (by omega)) rfl ?_; clear hA a; intro a hA
     refine S.val hA (R.move rfl) rfl ?_; clear hA a; intro a hA
     refine S.done ?_
     replace hA : St 46 [(0, _), (1, _), (2, _), (6, _), (7, _), (8, _), (9, _), (14, _), (15, _), (21, _), (22, _)] a := hA.sub ((.cons rfl (.cons rfl (.cons rfl (.cons rfl (.cons rfl (.cons rfl (.cons rfl (.cons rfl (.cons rfl (.cons rfl (.cons rfl .nil))))))))))))
     have hns : kd = 3 ∧ ar = q := by have h9 := hc9; omega
     rw [grow_skip kd s m n.toNat ar q n.toNat (by omega) (ent_skip hns), ← cb_skip hns] at hM
     replace hM := hM.front (k := 5) rfl
     replace hM := hM.front (k := 5) rfl
     replace hM := hM.front (k := 5) rfl
     replace hM := hM.front (k := 5) rfl
     replace hM := hM.front (k := 5) rfl
     replace hM := hM.front (k := 5) rfl
     exact hNext1 ((q + 1)) _ _ ((by show n.toNat - (q + 1) < n.toNat - q; omega)) ⟨hA.sub ((.cons rfl (.cons rfl (.cons rfl (.cons rfl (.cons rfl (.cons rfl (.cons rfl (.cons rfl (.cons rfl (.cons rfl (.cons rfl .nil)))))))))))), hM, (by omega)⟩
   ·
    refine Ends.region ?_
    refine S.val hA (R.move rfl) rfl ?_; clear hA a; intro a hA
    refine S.val hA (R.neq rfl rfl) rfl ?_; clear hA a; intro a hA
    refine S.val hA (R.move rfl) rfl ?_; clear hA a; intro a hA
    refine hA.split (d := 27) rfl ?_ ?_
    ·
     clear hA; intro hg10 hA
     refine S.no (dj := 27) hA (by kernel_rfl) rfl rfl rfl ?_; clear hA a; intro a hA
     refine S.no (dj := 27) hA (by kernel_rfl) rfl rfl rfl ?_; clear hA a; intro a hA
     refine S.no (dj := 27) hA (by kernel_rfl) rfl rfl rfl ?_; clear hA a; intro a hA
     refine S.val hA (R.pickT rfl rfl) rfl ?_; clear hA a; intro a hA
     refine S.done ?_
     replace hA : St 46 [(0, _), (1, _), (2, _), (6, _), (7, _), (8, _), (9, _), (10, _), (14, _), (15, _), (21, _), (22, _), (31, _)] a := hA.sub ((.cons rfl (.cons rfl (.cons rfl (.cons rfl (.cons rfl (.cons rfl (.cons rfl (.cons rfl (.cons rfl (.cons rfl (.cons rfl (.cons rfl (.cons rfl .nil))))))))))))))
     exact hJ _ _ ⟨hA.sub (.cons rfl (.cons rfl (.cons rfl (.cons rfl (.cons rfl (.cons rfl (.cons rfl (.cons rfl (.cons rfl (.cons rfl (.cons rfl (.cons rfl (.cons (by first | rfl | exact congrArg (fun b => some (Value.bool b)) (by first | (simp; done) | (simp [hg10]; done) | (have h80 := hg10; (try simp at h80); simp [h80]; done) | exact (decide_eq_false (fun h9 => hg10 h9.1)).symm)) .nil))))))))))))), hM⟩
    ·
     clear hA; intro hg10 hA
     refine S.valg (dj := 27) hA (by kernel_rfl) rfl (R.move rfl) rfl ?_; clear hA a; intro a hA
     refine S.valg (dj := 27) hA (by kernel_rfl) rfl (R.move rfl) rfl ?_; clear hA a; intro a hA
     refine S.valg (dj := 27) hA (by kernel_rfl) rfl (R.neq rfl rfl) rfl ?_; clear hA a; intro a hA
     refine S.val hA (R.pickF rfl rfl) rfl ?_; clear hA a; intro a hA
     refine S.done ?_
     replace hA : St 46 [(0, _), (1, _), (2, _), (6, _), (7, _), (8, _), (9, _), (10, _), (14, _), (15, _), (21, _), (22, _), (31, _)] a := hA.sub ((.cons rfl (.cons rfl (.cons rfl (.cons rfl (.cons rfl (.cons rfl (.cons rfl (.cons rfl (.cons rfl (.cons rfl (.cons rfl (.cons rfl (.cons rfl .nil))))))))))))))
     exact hJ _ _ ⟨hA.sub (.cons rfl (.cons rfl (.cons rfl (.cons rfl (.cons rfl (.cons rfl (.cons rfl (.cons rfl (.cons rfl (.cons rfl (.cons rfl (.cons rfl (.cons (by first | rfl | exact congrArg (fun b => some (Value.bool b)) (by first | (simp; done) | (simp [hg10]; done) | (have h80 := hg10; (try simp at h80); simp [h80]; done) | exact (decide_eq_false (fun h9 => hg10 h9.1)).symm)) .nil))))))))))))), hM⟩
  ·
   have hqn : q = n.toNat := by omega
   rw [hqn, Nat.sub_self, List.replicate_zero, List.append_nil, cb_end (show ar < n.toNat by omega)] at hM
   replace hM := hM.rowOwn (n := n.toNat) (rowF_len _ _ _ _ _ _) (by omega)
   replace hM : Mem _ _ [orC 3 ⟨rowF kd s m n.toNat ar n.toNat, some ⟨b6, 0, none⟩, n.toNat⟩, pt d #[.int .u64 (sd s (rt kd n.toNat * ar + rt kd n.toNat)), .int .i64 m] 80, pt b3 #[.int .i64 kd, .int .i64 n, .int .i64 0, .slice none 0 0, .slice none 0 0, .slice ao rs.length co] 25, own 22 1 (.slice ao rs.length co) rs.length ((rs.map orV)), bundle (rs.map (orC 3)), pt b1 cz0 25] _ := hM
   refine Ends.exit rfl ?_
   replace hA : St 46 [(0, _), (1, _), (2, _), (6, _), (7, _), (9, _), (14, _), (15, _)] a := hA.sub ((.cons rfl (.cons rfl (.cons rfl (.cons rfl (.cons rfl (.cons rfl (.cons rfl (.cons rfl .nil)))))))))
   refine Ends.region ?_
   refine S.val hA (R.fieldAddr (q := 5) fi25_5 rfl rfl rfl) rfl ?_; clear hA a; intro a hA
   refine S.val hA (R.load sz23 rfl (hM.cell (k := 2) rfl rfl)) rfl ?_; clear hA a; intro a hA
   refine S.val hA (R.move rfl) rfl ?_; clear hA a; intro a hA
   refine S.buildSl (cells := #[.slice (some ⟨b6, 0, none⟩) n.toNat n.toNat]) hA hM Tryd.underlying23 info22 rfl rfl rfl rfl (by kernel_rfl) rfl ?_; clear hA hM a; intro b11 w10 hb12 hM a hA
   replace hM : Mem _ _ [pt b11 #[.slice (some ⟨b6, 0, none⟩) n.toNat n.toNat] 22, orC 3 ⟨rowF kd s m n.toNat ar n.toNat, some ⟨b6, 0, none⟩, n.toNat⟩, pt d #[.int .u64 (sd s (rt kd n.toNat * ar + rt kd n.toNat)), .int .i64 m] 80, pt b3 #[.int .i64 kd, .int .i64 n, .int .i64 0, .slice none 0 0, .slice none 0 0, .slice ao rs.length co] 25, own 22 1 (.slice ao rs.length co) rs.length ((rs.map orV)), bundle (rs.map (orC 3)), pt b1 cz0 25] _ := hM
   refine S.append (k := 4) (k2 := 0) hA hM rfl rfl Tryd.underlying23 info22 rfl rfl rfl rfl rfl rfl rfl rfl rfl (by first | omega | (show (_ + 1) * 24 ≤ 140737488355328; omega) | (unfold maxLen; omega)) (by first | omega | (show (_ + 1) * 24 ≤ 140737488355328; omega) | (unfold maxLen; omega)) rfl ?_; clear hA hM a; intro a13 c14 w11 hM a hA
   replace hM : Mem _ _ [pt b11 #[.slice (some ⟨b6, 0, none⟩) n.toNat n.toNat] 22, orC 3 ⟨rowF kd s m n.toNat ar n.toNat, some ⟨b6, 0, none⟩, n.toNat⟩, pt d #[.int .u64 (sd s (rt kd n.toNat * ar + rt kd n.toNat)), .int .i64 m] 80, pt b3 #[.int .i64 kd, .int .i64 n, .int .i64 0, .slice none 0 0, .slice none 0 0, .slice ao rs.length co] 25, own 22 1 (.slice a13 (rs.length + 1) c14) (rs.length + 1) (((rs.map orV) ++ [.slice (some ⟨b6, 0, none⟩) n.toNat n.toNat])), bundle (rs.map (orC 3)), pt b1 cz0 25] _ := hM
   replace hM := hM.drop 0
   replace hM : Mem _ _ [orC 3 ⟨rowF kd s m n.toNat ar n.toNat, some ⟨b6, 0, none⟩, n.toNat⟩, pt d #[.int .u64 (sd s (rt kd n.toNat * ar + rt kd n.toNat)), .int .i64 m] 80, pt b3 #[.int .i64 kd, .int .i64 n, .int .i64 0, .slice none 0 0, .slice none 0 0, .slice ao rs.length co] 25, own 22 1 (.slice a13 (rs.length + 1) c14) (rs.length + 1) (((rs.map orV) ++ [.slice (some ⟨b6, 0, none⟩) n.toNat n.toNat])), bundle (rs.map (orC 3)), pt b1 cz0 25] _ := hM
   refine S.val hA (R.fieldAddr (q := 5) fi25_5 rfl rfl rfl) rfl ?_; clear hA a; intro a hA
   refine S.store (k := 2) hA hM sz23 rfl rfl rfl rfl rfl ?_; clear hM
   intro w12 hM
   replace hM : Mem _ _ [orC 3 ⟨rowF kd s m n.toNat ar n.toNat, some ⟨b6, 0, none⟩, n.toNat⟩, pt d #[.int .u64 (sd s (rt kd n.toNat * ar + rt kd n.toNat)), .int .i64 m] 80, pt b3 #[.int .i64 kd, .int .i64 n, .int .i64 0, .slice none 0 0, .slice none 0 0, .slice a13 (rs.length + 1) c14] 25, own 22 1 (.slice a13 (rs.length + 1) c14) (rs.length + 1) (((rs.map orV) ++ [.slice (some ⟨b6, 0, none⟩) n.toNat n.toNat])), bundle (rs.map (orC 3)), pt b1 cz0 25] _ := hM
   refine S.done ?_
   replace hA : St 46 [(0, _), (1, _), (2, _), (6, _), (7, _), (14, _), (15, _)] a := hA.sub ((.cons rfl (.cons rfl (.cons rfl (.cons rfl (.cons rfl (.cons rfl (.cons rfl .nil))))))))
   refine Ends.inBlock (Ends.region ?_)
   refine S.val hA (R.addI rfl rfl (r := ((ar : Int)) + 1) rfl (by omega)) rfl ?_; clear hA a; intro a hA
   refine S.val hA (R.move rfl) rfl ?_; clear hA a; intro a hA
   refine S.done ?_
   replace hA : St 46 [(0, _), (1, _), (2, _), (6, _), (7, _), (14, _), (15, _)] a := hA.sub ((.cons rfl (.cons rfl (.cons rfl (.cons rfl (.cons rfl (.cons rfl (.cons rfl .nil))))))))
   rw [show (Value.slice (some ⟨b6, 0, none⟩) n.toNat n.toNat) = orV ⟨rowF kd s m n.toNat ar n.toNat, some ⟨b6, 0, none⟩, n.toNat⟩ by simp [orV, rowF_len], orV_snoc, len_snoc rs ⟨rowF kd s m n.toNat ar n.toNat, some ⟨b6, 0, none⟩, n.toNat⟩] at hM
   replace hM := hM.front (k := 4) rfl
   replace hM := hM.front (k := 1) rfl
   replace hM := hM.bundleSnoc
   replace hM := hM.front (k := 4) rfl
   replace hM := hM.front (k := 2) rfl
   replace hM := hM.front (k := 2) rfl
   replace hM := hM.front (k := 4) rfl
   replace hM := hM.front (k := 4) rfl
   rw [show rt kd n.toNat * ar + rt kd n.toNat = rt kd n.toNat * (ar + 1) from rfl] at hM
   exact hNext ((ar + 1, a13, c14, rs ++ [⟨rowF kd s m n.toNat ar n.toNat, some ⟨b6, 0, none⟩, n.toNat⟩])) _ _ ((by show n.toNat - (ar + 1) < n.toNat - ar; omega)) ⟨hA.sub ((.cons rfl (.cons rfl (.cons rfl (.cons rfl (.cons rfl (.cons rfl (.cons rfl .nil)))))))), hM, (by omega), (Y_snoc hY)⟩
 ·
  obtain rfl : ar = n.toNat := by omega
  refine Ends.exit rfl ?_
  replace hA : St 46 [(6, _), (7, _)] a := hA.sub ((.cons rfl (.cons rfl .nil)))
  refine Ends.seq (Ends.region ?_)
  refine S.val hA (R.loadA sz25 rfl (hM.range (k := 0) rfl) rfl) rfl ?_; clear hA a; intro a hA
  refine S.storeA (k := 4) hA hM sz25 rfl rfl rfl rfl rfl rfl ?_; clear hM
  intro w13 hM
  replace hM : Mem _ _ [pt b3 #[.int .i64 kd, .int .i64 n, .int .i64 0, .slice none 0 0, .slice none 0 0, .slice ao rs.length co] 25, own 22 1 (.slice ao rs.length co) rs.length ((rs.map orV)), bundle (rs.map (orC 3)), pt d #[.int .u64 (sd s (rt kd n.toNat * n.toNat)), .int .i64 m] 80, pt b1 #[.int .i64 kd, .int .i64 n, .int .i64 0, .slice none 0 0, .slice none 0 0, .slice ao rs.length co] 25] _ := hM
  refine S.done ?_
  replace hA : St 46 [(6, _)] a := hA.sub ((.cons rfl .nil))
  refine Ends.retC (k := 4) Tryd.func54 Tryd.results54 hA hM rfl rfl sz25 rfl ?_
  replace hM := hM.front (k := 3) rfl
  replace hM := hM.front (k := 3) rfl
  replace hM := hM.front (k := 3) rfl
  replace hM : Mem _ _ [own 22 1 (.slice ao rs.length co) rs.length ((rs.map orV)), bundle (rs.map (orC 3)), pt d #[.int .u64 (sd s (rt kd n.toNat * n.toNat)), .int .i64 m] 80, pt b3 #[.int .i64 kd, .int .i64 n, .int .i64 0, .slice none 0 0, .slice none 0 0, .slice ao rs.length co] 25, pt b1 #[.int .i64 kd, .int .i64 n, .int .i64 0, .slice none 0 0, .slice none 0 0, .slice ao rs.length co] 25] _ := hM
  replace hM := hM.firstN 3
  replace hM : Mem _ _ [own 22 1 (.slice ao rs.length co) rs.length ((rs.map orV)), bundle (rs.map (orC 3)), pt d #[.int .u64 (sd s (rt kd n.toNat * n.toNat)), .int .i64 m] 80] _ := hM
  replace hM := ((hM.ownNil 3 1).ownNil 3 1)
  refine ⟨ao, co, rs, rfl, hY, Mem.pack (cs := insL 3 22 (gR kd n m s) none 0 none 0 ao co rs) hM⟩
end Go.Proofs.YtakfcekfmdjklaaDoor
namespace Go.Proofs.YtakfcekfmdjklaaDoor
open Go.RowKit
theorem gmk_kind {kd n m s : Int} {G : Ins} {er : Int} (hG : gmk kd n m s = (G, er)) (h : ¬ (1 ≤ kd ∧ kd ≤ 3)) : G = i0 ∧ er = 14 := by
  unfold gmk at hG; rw [if_pos h] at hG; cases hG; exact ⟨rfl, rfl⟩
theorem gmk_arg {kd n m s : Int} {G : Ins} {er : Int} (hG : gmk kd n m s = (G, er)) (h : 1 ≤ kd ∧ kd ≤ 3) (h2 : n < 1 ∨ m < 0 ∨ 2147483647 < m) : G = i0 ∧ er = 1 := by
  unfold gmk at hG; rw [if_neg (by omega), if_pos h2] at hG; cases hG; exact ⟨rfl, rfl⟩
theorem gmk_big {kd n m s : Int} {G : Ins} {er : Int} (hG : gmk kd n m s = (G, er)) (h : 1 ≤ kd ∧ kd ≤ 3) (h2 : ¬ (n < 1 ∨ m < 0 ∨ 2147483647 < m)) (h3 : n > 64 ∨ (1 < kd ∧ n > 24)) : G = i0 ∧ er = 5 := by
  unfold gmk at hG; rw [if_neg (by omega), if_neg h2, if_pos h3] at hG; cases hG; exact ⟨rfl, rfl⟩
theorem gmk_sack {n m s : Int} {G : Ins} {er : Int} (hG : gmk 1 n m s = (G, er)) (h2 : ¬ (n < 1 ∨ m < 0 ∨ 2147483647 < m)) (h3 : ¬ (n > 64)) : G = gK n m s ∧ er = 0 := by
  unfold gmk at hG; rw [if_neg (by omega), if_neg h2, if_neg (by omega), if_pos rfl] at hG; cases hG; exact ⟨rfl, rfl⟩
theorem gmk_rows {kd n m s : Int} {G : Ins} {er : Int} (hG : gmk kd n m s = (G, er)) (h : kd = 2 ∨ kd = 3) (h2 : ¬ (n < 1 ∨ m < 0 ∨ 2147483647 < m)) (h3 : ¬ (n > 24)) : G = gR kd n m s ∧ er = 0 := by
  unfold gmk at hG; rw [if_neg (by omega), if_neg h2, if_neg (by omega), if_neg (by omega)] at hG; cases hG; exact ⟨rfl, rfl⟩
set_option maxRecDepth 100000 in
set_option maxHeartbeats 400000 in
theorem gMake (kd n m s : Int) (G : Ins) (er : Int) (hG : gmk kd n m s = (G, er)) (w : World) :
  Calls Tryd.prog 34 #[.int .i64 kd, .int .i64 n, .int .i64 m, .int .u64 s] w fun e w' => ∃ aw cw av cv ac cc, e = .returned (.tuple #[insG G aw cw av cv ac cc, .int .i64 er]) ∧ insR w' G aw cw av cv ac cc ∧ Below w.heap.size w w' := by
 have hbs := Below.refl (B := w.heap.size) w
 have hM := Mem.start w
 refine Calls.of_ends (vs := [.int .i64 kd, .int .i64 n, .int .i64 m, .int .u64 s]) Tryd.func34 rfl Tryd.ntmps34 rfl ?_
 intro a hA
 replace hA : St 49 [(0, _), (1, _), (2, _), (3, _)] a := hA
 refine Ends.seq (Ends.region ?_)
 refine S.alloc hA hM info25 rfl rfl ?_; clear hA hM a; intro b1 w1 hb2 hM a hA
 replace hM : Mem _ _ [pt b1 cz0 25] _ := hM
 refine S.val hA (R.assign rfl) rfl ?_; clear hA a; intro a hA
 refine S.done ?_
 replace hA : St 49 [(0, _), (1, _), (2, _), (3, _), (8, _)] a := hA.sub ((.cons rfl (.cons rfl (.cons rfl (.cons rfl (.cons rfl .nil))))))
 refine Ends.seq (Ends.region ?_)
 refine S.val hA (R.assign rfl) rfl ?_; clear hA a; intro a hA
 refine S.done ?_
 replace hA : St 49 [(0, _), (1, _), (2, _), (3, _), (8, _), (10, _)] a := hA.sub ((.cons rfl (.cons rfl (.cons rfl (.cons rfl (.cons rfl (.cons rfl .nil)))))))
 refine Ends.seq (Ends.seq (Ends.region ?_))
 refine S.val hA (R.move rfl) rfl ?_; clear hA a; intro a hA
 refine S.done ?_
 replace hA : St 49 [(0, _), (1, _), (2, _), (3, _), (8, _), (10, _), (12, _)] a := hA.sub ((.cons rfl (.cons rfl (.cons rfl (.cons rfl (.cons rfl (.cons rfl (.cons rfl .nil))))))))
 refine Ends.block (Ends.seq (Ends.region ?_))
 refine S.val hA (R.eql rfl rfl) rfl ?_; clear hA a; intro a hA
 refine S.val hA (R.assign rfl) rfl ?_; clear hA a; intro a hA
 refine S.done ?_
 replace hA : St 49 [(0, _), (1, _), (2, _), (3, _), (8, _), (10, _), (12, _), (14, _)] a := hA.sub ((.cons rfl (.cons rfl (.cons rfl (.cons rfl (.cons rfl (.cons rfl (.cons rfl (.cons rfl .nil)))))))))
 refine Ends.ite hA rfl (fun hc3 => ?_) (fun hc3 => ?_)
 ·
  rw [decide_eq_true hc3] at hA
  refine Ends.region ?_
  refine S.val hA (R.assign rfl) rfl ?_; clear hA a; intro a hA
  refine S.done ?_
  replace hA : St 49 [(0, _), (1, _), (2, _), (3, _), (8, _), (10, _)] a := hA.sub ((.cons rfl (.cons rfl (.cons rfl (.cons rfl (.cons rfl (.cons rfl .nil)))))))
  refine Ends.inBlock (Ends.seq (Ends.block (Ends.seq ?_)))
  refine Ends.cut (fun (a : Act) (wv : World) => St 49 [(0, .int .i64 kd), (1, .int .i64 n), (2, .int .i64 m), (3, .int .u64 s), (8, .pointer (some ⟨b1, 0, none⟩)), (10, .int .i64 64), (19, .bool (decide (((n < 1 ∨ m < 0) ∨ 2147483647 < m))))] a ∧ Mem w nof [pt b1 cz0 25] wv) ?_ (fun k2 hJ => ?_)
  ·
   clear hA hM a; rintro a w2 ⟨hA, hM⟩
   refine Ends.ite hA rfl (fun hc4 => ?_) (fun hc4 => ?_)
   ·
    rw [decide_eq_true hc4] at hA
    refine Ends.seq (Ends.region ?_)
    refine S.val hA (R.build (cells := cz0) rfl (by kernel_rfl)) rfl ?_; clear hA a; intro a hA
    refine S.storeA (k := 0) hA hM sz25 rfl rfl rfl rfl rfl rfl ?_; clear hM
    intro w3 hM
    replace hM : Mem _ _ [pt b1 cz0 25] _ := hM
    refine S.val hA (R.assign rfl) rfl ?_; clear hA a; intro a hA
    refine S.done ?_
    replace hA : St 49 [(0, _), (1, _), (2, _), (3, _), (8, _), (9, _)] a := hA.sub ((.cons rfl (.cons rfl (.cons rfl (.cons rfl (.cons rfl (.cons rfl .nil)))))))
    refine Ends.retC2 (k := 0) Tryd.func34 Tryd.results34 hA hM rfl rfl rfl sz25 rfl ?_
    obtain ⟨rfl, rfl⟩ := gmk_arg hG (by omega) (by omega)
    exact ⟨none, 0, none, 0, none, 0, rfl, ⟨IntSl.nil _, IntSl.nil _, RowsV.nil _⟩, Mem.trans0 hbs hM.nilL⟩
   ·
    rw [decide_eq_false hc4] at hA
    refine Ends.seq (Ends.region ?_)
    refine S.val hA (R.move rfl) rfl ?_; clear hA a; intro a hA
    refine S.val hA (R.move rfl) rfl ?_; clear hA a; intro a hA
    refine S.val hA (R.gtr rfl rfl) rfl ?_; clear hA a; intro a hA
    refine S.val hA (R.assign rfl) rfl ?_; clear hA a; intro a hA
    refine S.done ?_
    replace hA : St 49 [(0, _), (1, _), (2, _), (3, _), (8, _), (31, _)] a := hA.sub ((.cons rfl (.cons rfl (.cons rfl (.cons rfl (.cons rfl (.cons rfl .nil)))))))
    refine Ends.ite hA rfl (fun hc5 => ?_) (fun hc5 => ?_)
    ·
     rw [decide_eq_true hc5] at hA
     refine Ends.seq (Ends.region ?_)
     refine S.val hA (R.build (cells := cz0) rfl (by kernel_rfl)) rfl ?_; clear hA a; intro a hA
     refine S.storeA (k := 0) hA hM sz25 rfl rfl rfl rfl rfl rfl ?_; clear hM
     intro w4 hM
     replace hM : Mem _ _ [pt b1 cz0 25] _ := hM
     refine S.val hA (R.assign rfl) rfl ?_; clear hA a; intro a hA
     refine S.done ?_
     replace hA : St 49 [(0, _), (1, _), (2, _), (3, _), (8, _), (9, _)] a := hA.sub ((.cons rfl (.cons rfl (.cons rfl (.cons rfl (.cons rfl (.cons rfl .nil)))))))
     refine Ends.retC2 (k := 0) Tryd.func34 Tryd.results34 hA hM rfl rfl rfl sz25 rfl ?_
     obtain ⟨rfl, rfl⟩ := gmk_big hG (by omega) (by omega) (by omega)
     exact ⟨none, 0, none, 0, none, 0, rfl, ⟨IntSl.nil _, IntSl.nil _, RowsV.nil _⟩, Mem.trans0 hbs hM.nilL⟩
    ·
     rw [decide_eq_false hc5] at hA
     refine Ends.skip (Ends.inBlock (Ends.seq (Ends.region ?_)))
     refine S.val hA (R.move rfl) rfl ?_; clear hA a; intro a hA
     refine S.val hA (R.move rfl) rfl ?_; clear hA a; intro a hA
     refine S.val hA (R.build (cells := #[.int .u64 s, .int .i64 m]) rfl (by kernel_rfl)) rfl ?_; clear hA a; intro a hA
     refine S.box hA hM rfl rfl ?_; clear hA hM a; intro b6 w5 hb7 hM a hA
     replace hM : Mem _ _ [pt b6 #[.int .u64 s, .int .i64 m] 80, pt b1 cz0 25] _ := hM
     refine S.val hA (R.assign rfl) rfl ?_; clear hA a; intro a hA
     refine S.done ?_
     replace hA : St 49 [(0, _), (1, _), (8, _), (11, _)] a := hA.sub ((.cons rfl (.cons rfl (.cons rfl (.cons rfl .nil)))))
     refine Ends.seq (Ends.seq (Ends.region ?_))
     refine S.val hA (R.move rfl) rfl ?_; clear hA a; intro a hA
     refine S.val hA (R.eql rfl rfl) rfl ?_; clear hA a; intro a hA
     refine S.done ?_
     replace hA : St 49 [(0, _), (1, _), (8, _), (11, _), (41, _)] a := hA.sub ((.cons rfl (.cons rfl (.cons rfl (.cons rfl (.cons rfl .nil))))))
     refine Ends.ite hA rfl (fun hc8 => ?_) (fun hc8 => ?_)
     ·
      rw [decide_eq_true hc8] at hA
      refine Ends.seq (Ends.region ?_)
      refine S.val hA (R.move rfl) rfl ?_; clear hA a; intro a hA
      refine S.val hA (R.move rfl) rfl ?_; clear hA a; intro a hA
      refine S.call hA (R.callF Tryd.func53 rfl rfl rfl) rfl (gknap b6 n s m (by omega) (by omega) _ (hM.hereN 1)) ?_; clear hA a
      rintro e w6 ⟨aw, cw, av, cv, rfl, hn⟩
      replace hM : Mem _ _ [bundle (insL 3 22 (gK n m s) aw cw av cv none 0 []), pt b6 #[.int .u64 (sd s (2 * n.toNat)), .int .i64 m] 80, pt b1 cz0 25] _ := hM.callL 1 hn; clear hn
      refine ⟨.agg #[.int .i64 1, .int .i64 n, .int .i64 (min ((nmL s m evn n.toNat).sum / 2) 2147483647), .slice aw ((nmL s m evn n.toNat).length) cw, .slice av ((nmL s m odd1 n.toNat).length) cv, .slice none 0 0], rfl, fun a hA => ?_⟩
      refine S.storeA (k := 2) hA hM sz25 rfl rfl rfl rfl rfl rfl ?_; clear hM
      intro w7 hM
      replace hM : Mem _ _ [bundle (insL 3 22 (gK n m s) aw cw av cv none 0 []), pt b6 #[.int .u64 (sd s (2 * n.toNat)), .int .i64 m] 80, pt b1 #[.int .i64 1, .int .i64 n, .int .i64 (min ((nmL s m evn n.toNat).sum / 2) 2147483647), .slice aw ((nmL s m evn n.toNat).length) cw, .slice av ((nmL s m odd1 n.toNat).length) cv, .slice none 0 0] 25] _ := hM
      refine S.val hA (R.assign rfl) rfl ?_; clear hA a; intro a hA
      refine S.done ?_
      replace hA : St 49 [(0, _), (1, _), (8, _), (9, _), (11, _)] a := hA.sub ((.cons rfl (.cons rfl (.cons rfl (.cons rfl (.cons rfl .nil))))))
      refine Ends.retC2 (k := 2) Tryd.func34 Tryd.results34 hA hM rfl rfl rfl sz25 rfl ?_
      have hkd : kd = 1 := by omega
      subst hkd
      obtain ⟨rfl, rfl⟩ := gmk_sack hG (by omega) (by omega)
      obtain ⟨he, hr⟩ := insR_of hM (k := 0) rfl rfl
      exact ⟨_, _, _, _, _, _, congrArg (fun x => Ending.returned (.tuple #[x, .int .i64 0])) he, hr, Mem.trans0 hbs hM.nilL⟩
     ·
      rw [decide_eq_false hc8] at hA
      refine Ends.skip (Ends.seq (Ends.region ?_))
      refine S.val hA (R.move rfl) rfl ?_; clear hA a; intro a hA
      refine S.val hA (R.move rfl) rfl ?_; clear hA a; intro a hA
      refine S.val hA (R.move rfl) rfl ?_; clear hA a; intro a hA
      refine S.call hA (R.callF Tryd.func54 rfl rfl rfl) rfl (growsA b6 n s m (by omega) kd (by omega) (by omega) _ (hM.hereN 1)) ?_; clear hA a
      rintro e w8 ⟨ac, cc, rs, rfl, hYY, hn⟩
      replace hM : Mem _ _ [bundle (insL 3 22 (gR kd n m s) none 0 none 0 ac cc rs), pt b6 #[.int .u64 (sd s (rt kd n.toNat * n.toNat)), .int .i64 m] 80, pt b1 cz0 25] _ := hM.callL 1 hn; clear hn
      refine ⟨.agg #[.int .i64 kd, .int .i64 n, .int .i64 0, .slice none 0 0, .slice none 0 0, .slice ac rs.length cc], rfl, fun a hA => ?_⟩
      refine S.storeA (k := 2) hA hM sz25 rfl rfl rfl rfl rfl rfl ?_; clear hM
      intro w9 hM
      replace hM : Mem _ _ [bundle (insL 3 22 (gR kd n m s) none 0 none 0 ac cc rs), pt b6 #[.int .u64 (sd s (rt kd n.toNat * n.toNat)), .int .i64 m] 80, pt b1 #[.int .i64 kd, .int .i64 n, .int .i64 0, .slice none 0 0, .slice none 0 0, .slice ac rs.length cc] 25] _ := hM
      refine S.val hA (R.assign rfl) rfl ?_; clear hA a; intro a hA
      refine S.done ?_
      replace hA : St 49 [(8, _), (9, _)] a := hA.sub ((.cons rfl (.cons rfl .nil)))
      refine Ends.retC2 (k := 2) Tryd.func34 Tryd.results34 hA hM rfl rfl rfl sz25 rfl ?_
      obtain ⟨rfl, rfl⟩ := gmk_rows hG (by omega) (by omega) (by omega)
      obtain ⟨he, hr⟩ := insR_of hM (k := 0) rfl hYY
      exact ⟨_, _, _, _, _, _, congrArg (fun x => Ending.returned (.tuple #[x, .int .i64 0])) he, hr, Mem.trans0 hbs hM.nilL⟩
  ·
   refine Ends.region ?_
   refine S.val hA (R.move rfl) rfl ?_; clear hA a; intro a hA
   refine S.val hA (R.lss rfl rfl) rfl ?_; clear hA a; intro a hA
   refine S.val hA (R.move rfl) rfl ?_; clear hA a; intro a hA
   refine hA.split (d := 22) rfl ?_ ?_
   ·
    clear hA; intro hg10 hA
    refine S.no (dj := 22) hA (by kernel_rfl) rfl rfl rfl ?_; clear hA a; intro a hA
    refine S.no (dj := 22) hA (by kernel_rfl) rfl rfl rfl ?_; clear hA a; intro a hA
    refine S.val hA (R.pickT rfl rfl) rfl ?_; clear hA a; intro a hA
    refine S.val hA (R.move rfl) rfl ?_; clear hA a; intro a hA
    refine S.no (dj := 26) hA (by kernel_rfl) rfl rfl rfl ?_; clear hA a; intro a hA
    refine S.no (dj := 26) hA (by kernel_rfl) rfl rfl rfl ?_; clear hA a; intro a hA
    refine S.val hA (R.pickT rfl rfl) rfl ?_; clear hA a; intro a hA
    refine S.val hA (R.assign rfl) rfl ?_; clear hA a; intro a hA
    refine S.done ?_
    replace hA : St 49 [(0, _), (1, _), (2, _), (3, _), (8, _), (10, _), (19, _)] a := hA.sub ((.cons rfl (.cons rfl (.cons rfl (.cons rfl (.cons rfl (.cons rfl (.cons rfl .nil))))))))
    exact hJ _ _ ⟨hA.sub (.cons rfl (.cons rfl (.cons rfl (.cons rfl (.cons rfl (.cons rfl (.cons (by first | rfl | exact congrArg (fun b => some (Value.bool b)) (by first | (simp; done) | (simp [hg10]; done) | (have h80 := hg10; (try simp at h80); simp [h80]; done) | exact (decide_eq_false (fun h9 => hg10 h9.1)).symm)) .nil))))))), hM⟩
   ·
    clear hA; intro hg10 hA
    refine S.valg (dj := 22) hA (by kernel_rfl) rfl (R.move rfl) rfl ?_; clear hA a; intro a hA
    refine S.valg (dj := 22) hA (by kernel_rfl) rfl (R.lss rfl rfl) rfl ?_; clear hA a; intro a hA
    refine S.val hA (R.pickF rfl rfl) rfl ?_; clear hA a; intro a hA
    refine S.val hA (R.move rfl) rfl ?_; clear hA a; intro a hA
    refine hA.split (d := 26) rfl ?_ ?_
    ·
     clear hA; intro hg11 hA
     refine S.no (dj := 26) hA (by kernel_rfl) rfl rfl rfl ?_; clear hA a; intro a hA
     refine S.no (dj := 26) hA (by kernel_rfl) rfl rfl rfl ?_; clear hA a; intro a hA
     refine S.val hA (R.pickT rfl rfl) rfl ?_; clear hA a; intro a hA
     refine S.val hA (R.assign rfl) rfl ?_; clear hA a; intro a hA
     refine S.done ?_
     replace hA : St 49 [(0, _), (1, _), (2, _), (3, _), (8, _), (10, _), (19, _)] a := hA.sub ((.cons rfl (.cons rfl (.cons rfl (.cons rfl (.cons rfl (.cons rfl (.cons rfl .nil))))))))
     exact hJ _ _ ⟨hA.sub (.cons rfl (.cons rfl (.cons rfl (.cons rfl (.cons rfl (.cons rfl (.cons (by first | rfl | exact congrArg (fun b => some (Value.bool b)) (by first | (simp; done) | (simp [hg10, hg11]; done) | (have h80 := hg10; (try simp at h80); have h81 := hg11; (try simp at h81); simp [h80, h81]; done) | exact (decide_eq_false (fun h9 => hg10 h9.1)).symm | exact (decide_eq_false (fun h9 => hg11 h9.1)).symm)) .nil))))))), hM⟩
    ·
     clear hA; intro hg11 hA
     refine S.valg (dj := 26) hA (by kernel_rfl) rfl (R.move rfl) rfl ?_; clear hA a; intro a hA
     refine S.valg (dj := 26) hA (by kernel_rfl) rfl (R.gtr rfl rfl) rfl ?_; clear hA a; intro a hA
     refine S.val hA (R.pickF rfl rfl) rfl ?_; clear hA a; intro a hA
     refine S.val hA (R.assign rfl) rfl ?_; clear hA a; intro a hA
     refine S.done ?_
     replace hA : St 49 [(0, _), (1, _), (2, _), (3, _), (8, _), (10, _), (19, _)] a := hA.sub ((.cons rfl (.cons rfl (.cons rfl (.cons rfl (.cons rfl (.cons rfl (.cons rfl .nil))))))))
     exact hJ _ _ ⟨hA.sub (.cons rfl (.cons rfl (.cons rfl (.cons rfl (.cons rfl (.cons rfl (.cons (by first | rfl | exact congrArg (fun b => some (Value.bool b)) (by first | (simp; done) | (simp [hg10, hg11]; done) | (have h80 := hg10; (try simp at h80); have h81 := hg11; (try simp at h81); simp [h80, h81]; done) | exact (decide_eq_false (fun h9 => hg10 h9.1)).symm | exact (decide_eq_false (fun h9 => hg11 h9.1)).symm)) .nil))))))), hM⟩
 ·
  rw [decide_eq_false hc3] at hA
  refine Ends.seq (Ends.seq (Ends.region ?_))
  refine S.val hA (R.eql rfl rfl) rfl ?_; clear hA a; intro a hA
  refine S.val hA (R.assign rfl) rfl ?_; clear hA a; intro a hA
  refine S.done ?_
  replace hA : St 49 [(0, _), (1, _), (2, _), (3, _), (8, _), (10, _), (12, _), (16, _)] a := hA.sub ((.cons rfl (.cons rfl (.cons rfl (.cons rfl (.cons rfl (.cons rfl (.cons rfl (.cons rfl .nil)))))))))
  refine Ends.ite hA rfl (fun hc12 => ?_) (fun hc12 => ?_)
  ·
   rw [decide_eq_true hc12] at hA
   refine Ends.skip ?_
   refine Ends.condT hA rfl ?_
   refine Ends.skip (Ends.inBlock (Ends.seq (Ends.block (Ends.seq ?_))))
   refine Ends.cut (fun (a : Act) (wv : World) => St 49 [(0, .int .i64 kd), (1, .int .i64 n), (2, .int .i64 m), (3, .int .u64 s), (8, .pointer (some ⟨b1, 0, none⟩)), (10, .int .i64 24), (19, .bool (decide (((n < 1 ∨ m < 0) ∨ 2147483647 < m))))] a ∧ Mem w nof [pt b1 cz0 25] wv) ?_ (fun k2 hJ => ?_)
   ·
    clear hA hM a; rintro a w10 ⟨hA, hM⟩
    refine Ends.ite hA rfl (fun hc13 => ?_) (fun hc13 => ?_)
    ·
     rw [decide_eq_true hc13] at hA
     refine Ends.seq (Ends.region ?_)
     refine S.val hA (R.build (cells := cz0) rfl (by kernel_rfl)) rfl ?_; clear hA a; intro a hA
     refine S.storeA (k := 0) hA hM sz25 rfl rfl rfl rfl rfl rfl ?_; clear hM
     intro w11 hM
     replace hM : Mem _ _ [pt b1 cz0 25] _ := hM
     refine S.val hA (R.assign rfl) rfl ?_; clear hA a; intro a hA
     refine S.done ?_
     replace hA : St 49 [(0, _), (1, _), (2, _), (3, _), (8, _), (9, _)] a := hA.sub ((.cons rfl (.cons rfl (.cons rfl (.cons rfl (.cons rfl (.cons rfl .nil)))))))
     refine Ends.retC2 (k := 0) Tryd.func34 Tryd.results34 hA hM rfl rfl rfl sz25 rfl ?_
     obtain ⟨rfl, rfl⟩ := gmk_arg hG (by omega) (by omega)
     exact ⟨none, 0, none, 0, none, 0, rfl, ⟨IntSl.nil _, IntSl.nil _, RowsV.nil _⟩, Mem.trans0 hbs hM.nilL⟩
    ·
     rw [decide_eq_false hc13] at hA
     refine Ends.seq (Ends.region ?_)
     refine S.val hA (R.move rfl) rfl ?_; clear hA a; intro a hA
     refine S.val hA (R.move rfl) rfl ?_; clear hA a; intro a hA
     refine S.val hA (R.gtr rfl rfl) rfl ?_; clear hA a; intro a hA
     refine S.val hA (R.assign rfl) rfl ?_; clear hA a; intro a hA
     refine S.done ?_
     replace hA : St 49 [(0, _), (1, _), (2, _), (3, _), (8, _), (31, _)] a := hA.sub ((.cons rfl (.cons rfl (.cons rfl (.cons rfl (.cons rfl (.cons rfl .nil)))))))
     refine Ends.ite hA rfl (fun hc14 => ?_) (fun hc14 => ?_)
     ·
      rw [decide_eq_true hc14] at hA
      refine Ends.seq (Ends.region ?_)
      refine S.val hA (R.build (cells := cz0) rfl (by kernel_rfl)) rfl ?_; clear hA a; intro a hA
      refine S.storeA (k := 0) hA hM sz25 rfl rfl rfl rfl rfl rfl ?_; clear hM
      intro w12 hM
      replace hM : Mem _ _ [pt b1 cz0 25] _ := hM
      refine S.val hA (R.assign rfl) rfl ?_; clear hA a; intro a hA
      refine S.done ?_
      replace hA : St 49 [(0, _), (1, _), (2, _), (3, _), (8, _), (9, _)] a := hA.sub ((.cons rfl (.cons rfl (.cons rfl (.cons rfl (.cons rfl (.cons rfl .nil)))))))
      refine Ends.retC2 (k := 0) Tryd.func34 Tryd.results34 hA hM rfl rfl rfl sz25 rfl ?_
      obtain ⟨rfl, rfl⟩ := gmk_big hG (by omega) (by omega) (by omega)
      exact ⟨none, 0, none, 0, none, 0, rfl, ⟨IntSl.nil _, IntSl.nil _, RowsV.nil _⟩, Mem.trans0 hbs hM.nilL⟩
     ·
      rw [decide_eq_false hc14] at hA
      refine Ends.skip (Ends.inBlock (Ends.seq (Ends.region ?_)))
      refine S.val hA (R.move rfl) rfl ?_; clear hA a; intro a hA
      refine S.val hA (R.move rfl) rfl ?_; clear hA a; intro a hA
      refine S.val hA (R.build (cells := #[.int .u64 s, .int .i64 m]) rfl (by kernel_rfl)) rfl ?_; clear hA a; intro a hA
      refine S.box hA hM rfl rfl ?_; clear hA hM a; intro b15 w13 hb16 hM a hA
      replace hM : Mem _ _ [pt b15 #[.int .u64 s, .int .i64 m] 80, pt b1 cz0 25] _ := hM
      refine S.val hA (R.assign rfl) rfl ?_; clear hA a; intro a hA
      refine S.done ?_
      replace hA : St 49 [(0, _), (1, _), (8, _), (11, _)] a := hA.sub ((.cons rfl (.cons rfl (.cons rfl (.cons rfl .nil)))))
      refine Ends.seq (Ends.seq (Ends.region ?_))
      refine S.val hA (R.move rfl) rfl ?_; clear hA a; intro a hA
      refine S.val hA (R.eql rfl rfl) rfl ?_; clear hA a; intro a hA
      refine S.done ?_
      replace hA : St 49 [(0, _), (1, _), (8, _), (11, _), (41, _)] a := hA.sub ((.cons rfl (.cons rfl (.cons rfl (.cons rfl (.cons rfl .nil))))))
      refine Ends.ite hA rfl (fun hc17 => ?_) (fun hc17 => ?_)
      ·
       rw [decide_eq_true hc17] at hA
       refine Ends.seq (Ends.region ?_)
       refine S.val hA (R.move rfl) rfl ?_; clear hA a; intro a hA
       refine S.val hA (R.move rfl) rfl ?_; clear hA a; intro a hA
       refine S.call hA (R.callF Tryd.func53 rfl rfl rfl) rfl (gknap b15 n s m (by omega) (by omega) _ (hM.hereN 1)) ?_; clear hA a
       rintro e w14 ⟨aw, cw, av, cv, rfl, hn⟩
       replace hM : Mem _ _ [bundle (insL 3 22 (gK n m s) aw cw av cv none 0 []), pt b15 #[.int .u64 (sd s (2 * n.toNat)), .int .i64 m] 80, pt b1 cz0 25] _ := hM.callL 1 hn; clear hn
       refine ⟨.agg #[.int .i64 1, .int .i64 n, .int .i64 (min ((nmL s m evn n.toNat).sum / 2) 2147483647), .slice aw ((nmL s m evn n.toNat).length) cw, .slice av ((nmL s m odd1 n.toNat).length) cv, .slice none 0 0], rfl, fun a hA => ?_⟩
       refine S.storeA (k := 2) hA hM sz25 rfl rfl rfl rfl rfl rfl ?_; clear hM
       intro w15 hM
       replace hM : Mem _ _ [bundle (insL 3 22 (gK n m s) aw cw av cv none 0 []), pt b15 #[.int .u64 (sd s (2 * n.toNat)), .int .i64 m] 80, pt b1 #[.int .i64 1, .int .i64 n, .int .i64 (min ((nmL s m evn n.toNat).sum / 2) 2147483647), .slice aw ((nmL s m evn n.toNat).length) cw, .slice av ((nmL s m odd1 n.toNat).length) cv, .slice none 0 0] 25] _ := hM
       refine S.val hA (R.assign rfl) rfl ?_; clear hA a; intro a hA
       refine S.done ?_
       replace hA : St 49 [(0, _), (1, _), (8, _), (9, _), (11, _)] a := hA.sub ((.cons rfl (.cons rfl (.cons rfl (.cons rfl (.cons rfl .nil))))))
       refine Ends.retC2 (k := 2) Tryd.func34 Tryd.results34 hA hM rfl rfl rfl sz25 rfl ?_
       have hkd : kd = 1 := by omega
       subst hkd
       obtain ⟨rfl, rfl⟩ := gmk_sack hG (by omega) (by omega)
       obtain ⟨he, hr⟩ := insR_of hM (k := 0) rfl rfl
       exact ⟨_, _, _, _, _, _, congrArg (fun x => Ending.returned (.tuple #[x, .int .i64 0])) he, hr, Mem.trans0 hbs hM.nilL⟩
      ·
       rw [decide_eq_false hc17] at hA
       refine Ends.skip (Ends.seq (Ends.region ?_))
       refine S.val hA (R.move rfl) rfl ?_; clear hA a; intro a hA
       refine S.val hA (R.move rfl) rfl ?_; clear hA a; intro a hA
       refine S.val hA (R.move rfl) rfl ?_; clear hA a; intro a hA
       refine S.call hA (R.callF Tryd.func54 rfl rfl rfl) rfl (growsA b15 n s m (by omega) kd (by omega) (by omega) _ (hM.hereN 1)) ?_; clear hA a
       rintro e w16 ⟨ac, cc, rs, rfl, hYY, hn⟩
       replace hM : Mem _ _ [bundle (insL 3 22 (gR kd n m s) none 0 none 0 ac cc rs), pt b15 #[.int .u64 (sd s (rt kd n.toNat * n.toNat)), .int .i64 m] 80, pt b1 cz0 25] _ := hM.callL 1 hn; clear hn
       refine ⟨.agg #[.int .i64 kd, .int .i64 n, .int .i64 0, .slice none 0 0, .slice none 0 0, .slice ac rs.length cc], rfl, fun a hA => ?_⟩
       refine S.storeA (k := 2) hA hM sz25 rfl rfl rfl rfl rfl rfl ?_; clear hM
       intro w17 hM
       replace hM : Mem _ _ [bundle (insL 3 22 (gR kd n m s) none 0 none 0 ac cc rs), pt b15 #[.int .u64 (sd s (rt kd n.toNat * n.toNat)), .int .i64 m] 80, pt b1 #[.int .i64 kd, .int .i64 n, .int .i64 0, .slice none 0 0, .slice none 0 0, .slice ac rs.length cc] 25] _ := hM
       refine S.val hA (R.assign rfl) rfl ?_; clear hA a; intro a hA
       refine S.done ?_
       replace hA : St 49 [(8, _), (9, _)] a := hA.sub ((.cons rfl (.cons rfl .nil)))
       refine Ends.retC2 (k := 2) Tryd.func34 Tryd.results34 hA hM rfl rfl rfl sz25 rfl ?_
       obtain ⟨rfl, rfl⟩ := gmk_rows hG (by omega) (by omega) (by omega)
       obtain ⟨he, hr⟩ := insR_of hM (k := 0) rfl hYY
       exact ⟨_, _, _, _, _, _, congrArg (fun x => Ending.returned (.tuple #[x, .int .i64 0])) he, hr, Mem.trans0 hbs hM.nilL⟩
   ·
    refine Ends.region ?_
    refine S.val hA (R.move rfl) rfl ?_; clear hA a; intro a hA
    refine S.val hA (R.lss rfl rfl) rfl ?_; clear hA a; intro a hA
    refine S.val hA (R.move rfl) rfl ?_; clear hA a; intro a hA
    refine hA.split (d := 22) rfl ?_ ?_
    ·
     clear hA; intro hg19 hA
     refine S.no (dj := 22) hA (by kernel_rfl) rfl rfl rfl ?_; clear hA a; intro a hA
     refine S.no (dj := 22) hA (by kernel_rfl) rfl rfl rfl ?_; clear hA a; intro a hA
     refine S.val hA (R.pickT rfl rfl) rfl ?_; clear hA a; intro a hA
     refine S.val hA (R.move rfl) rfl ?_; clear hA a; intro a hA
     refine S.no (dj := 26) hA (by kernel_rfl) rfl rfl rfl ?_; clear hA a; intro a hA
     refine S.no (dj := 26) hA (by kernel_rfl) rfl rfl rfl ?_; clear hA a; intro a hA
     refine S.val hA (R.pickT rfl rfl) rfl ?_; clear hA a; intro a hA
     refine S.val hA (R.assign rfl) rfl ?_; clear hA a; intro a hA
     refine S.done ?_
     replace hA : St 49 [(0, _), (1, _), (2, _), (3, _), (8, _), (10, _), (19, _)] a := hA.sub ((.cons rfl (.cons rfl (.cons rfl (.cons rfl (.cons rfl (.cons rfl (.cons rfl .nil))))))))
     exact hJ _ _ ⟨hA.sub (.cons rfl (.cons rfl (.cons rfl (.cons rfl (.cons rfl (.cons rfl (.cons (by first | rfl | exact congrArg (fun b => some (Value.bool b)) (by first | (simp; done) | (simp [hg19]; done) | (have h80 := hg19; (try simp at h80); simp [h80]; done) | exact (decide_eq_false (fun h9 => hg19 h9.1)).symm)) .nil))))))), hM⟩
    ·
     clear hA; intro hg19 hA
     refine S.valg (dj := 22) hA (by kernel_rfl) rfl (R.move rfl) rfl ?_; clear hA a; intro a hA
     refine S.valg (dj := 22) hA (by kernel_rfl) rfl (R.lss rfl rfl) rfl ?_; clear hA a; intro a hA
     refine S.val hA (R.pickF rfl rfl) rfl ?_; clear hA a; intro a hA
     refine S.val hA (R.move rfl) rfl ?_; clear hA a; intro a hA
     refine hA.split (d := 26) rfl ?_ ?_
     ·
      clear hA; intro hg20 hA
      refine S.no (dj := 26) hA (by kernel_rfl) rfl rfl rfl ?_; clear hA a; intro a hA
      refine S.no (dj := 26) hA (by kernel_rfl) rfl rfl rfl ?_; clear hA a; intro a hA
      refine S.val hA (R.pickT rfl rfl) rfl ?_; clear hA a; intro a hA
      refine S.val hA (R.assign rfl) rfl ?_; clear hA a; intro a hA
      refine S.done ?_
      replace hA : St 49 [(0, _), (1, _), (2, _), (3, _), (8, _), (10, _), (19, _)] a := hA.sub ((.cons rfl (.cons rfl (.cons rfl (.cons rfl (.cons rfl (.cons rfl (.cons rfl .nil))))))))
      exact hJ _ _ ⟨hA.sub (.cons rfl (.cons rfl (.cons rfl (.cons rfl (.cons rfl (.cons rfl (.cons (by first | rfl | exact congrArg (fun b => some (Value.bool b)) (by first | (simp; done) | (simp [hg19, hg20]; done) | (have h80 := hg19; (try simp at h80); have h81 := hg20; (try simp at h81); simp [h80, h81]; done) | exact (decide_eq_false (fun h9 => hg19 h9.1)).symm | exact (decide_eq_false (fun h9 => hg20 h9.1)).symm)) .nil))))))), hM⟩
     ·
      clear hA; intro hg20 hA
      refine S.valg (dj := 26) hA (by kernel_rfl) rfl (R.move rfl) rfl ?_; clear hA a; intro a hA
      refine S.valg (dj := 26) hA (by kernel_rfl) rfl (R.gtr rfl rfl) rfl ?_; clear hA a; intro a hA
      refine S.val hA (R.pickF rfl rfl) rfl ?_; clear hA a; intro a hA
      refine S.val hA (R.assign rfl) rfl ?_; clear hA a; intro a hA
      refine S.done ?_
      replace hA : St 49 [(0, _), (1, _), (2, _), (3, _), (8, _), (10, _), (19, _)] a := hA.sub ((.cons rfl (.cons rfl (.cons rfl (.cons rfl (.cons rfl (.cons rfl (.cons rfl .nil))))))))
      exact hJ _ _ ⟨hA.sub (.cons rfl (.cons rfl (.cons rfl (.cons rfl (.cons rfl (.cons rfl (.cons (by first | rfl | exact congrArg (fun b => some (Value.bool b)) (by first | (simp; done) | (simp [hg19, hg20]; done) | (have h80 := hg19; (try simp at h80); have h81 := hg20; (try simp at h81); simp [h80, h81]; done) | exact (decide_eq_false (fun h9 => hg19 h9.1)).symm | exact (decide_eq_false (fun h9 => hg20 h9.1)).symm)) .nil))))))), hM⟩
  ·
   rw [decide_eq_false hc12] at hA
   refine Ends.region ?_
   refine S.val hA (R.eql rfl rfl) rfl ?_; clear hA a; intro a hA
   refine S.val hA (R.assign rfl) rfl ?_; clear hA a; intro a hA
   refine S.done ?_
   replace hA : St 49 [(0, _), (1, _), (2, _), (3, _), (8, _), (10, _), (16, _)] a := hA.sub ((.cons rfl (.cons rfl (.cons rfl (.cons rfl (.cons rfl (.cons rfl (.cons rfl .nil))))))))
   refine Ends.ite hA rfl (fun hc21 => ?_) (fun hc21 => ?_)
   ·
    rw [decide_eq_true hc21] at hA
    refine Ends.skip (Ends.inBlock (Ends.seq (Ends.block (Ends.seq ?_))))
    refine Ends.cut (fun (a : Act) (wv : World) => St 49 [(0, .int .i64 kd), (1, .int .i64 n), (2, .int .i64 m), (3, .int .u64 s), (8, .pointer (some ⟨b1, 0, none⟩)), (10, .int .i64 24), (19, .bool (decide (((n < 1 ∨ m < 0) ∨ 2147483647 < m))))] a ∧ Mem w nof [pt b1 cz0 25] wv) ?_ (fun k2 hJ => ?_)
    ·
     clear hA hM a; rintro a w18 ⟨hA, hM⟩
     refine Ends.ite hA rfl (fun hc22 => ?_) (fun hc22 => ?_)
     ·
      rw [decide_eq_true hc22] at hA
      refine Ends.seq (Ends.region ?_)
      refine S.val hA (R.build (cells := cz0) rfl (by kernel_rfl)) rfl ?_; clear hA a; intro a hA
      refine S.storeA (k := 0) hA hM sz25 rfl rfl rfl rfl rfl rfl ?_; clear hM
      intro w19 hM
      replace hM : Mem _ _ [pt b1 cz0 25] _ := hM
      refine S.val hA (R.assign rfl) rfl ?_; clear hA a; intro a hA
      refine S.done ?_
      replace hA : St 49 [(0, _), (1, _), (2, _), (3, _), (8, _), (9, _)] a := hA.sub ((.cons rfl (.cons rfl (.cons rfl (.cons rfl (.cons rfl (.cons rfl .nil)))))))
      refine Ends.retC2 (k := 0) Tryd.func34 Tryd.results34 hA hM rfl rfl rfl sz25 rfl ?_
      obtain ⟨rfl, rfl⟩ := gmk_arg hG (by omega) (by omega)
      exact ⟨none, 0, none, 0, none, 0, rfl, ⟨IntSl.nil _, IntSl.nil _, RowsV.nil _⟩, Mem.trans0 hbs hM.nilL⟩
     ·
      rw [decide_eq_false hc22] at hA
      refine Ends.seq (Ends.region ?_)
      refine S.val hA (R.move rfl) rfl ?_; clear hA a; intro a hA
      refine S.val hA (R.move rfl) rfl ?_; clear hA a; intro a hA
      refine S.val hA (R.gtr rfl rfl) rfl ?_; clear hA a; intro a hA
      refine S.val hA (R.assign rfl) rfl ?_; clear hA a; intro a hA
      refine S.done ?_
      replace hA : St 49 [(0, _), (1, _), (2, _), (3, _), (8, _), (31, _)] a := hA.sub ((.cons rfl (.cons rfl (.cons rfl (.cons rfl (.cons rfl (.cons rfl .nil)))))))
      refine Ends.ite hA rfl (fun hc23 => ?_) (fun hc23 => ?_)
      ·
       rw [decide_eq_true hc23] at hA
       refine Ends.seq (Ends.region ?_)
       refine S.val hA (R.build (cells := cz0) rfl (by kernel_rfl)) rfl ?_; clear hA a; intro a hA
       refine S.storeA (k := 0) hA hM sz25 rfl rfl rfl rfl rfl rfl ?_; clear hM
       intro w20 hM
       replace hM : Mem _ _ [pt b1 cz0 25] _ := hM
       refine S.val hA (R.assign rfl) rfl ?_; clear hA a; intro a hA
       refine S.done ?_
       replace hA : St 49 [(0, _), (1, _), (2, _), (3, _), (8, _), (9, _)] a := hA.sub ((.cons rfl (.cons rfl (.cons rfl (.cons rfl (.cons rfl (.cons rfl .nil)))))))
       refine Ends.retC2 (k := 0) Tryd.func34 Tryd.results34 hA hM rfl rfl rfl sz25 rfl ?_
       obtain ⟨rfl, rfl⟩ := gmk_big hG (by omega) (by omega) (by omega)
       exact ⟨none, 0, none, 0, none, 0, rfl, ⟨IntSl.nil _, IntSl.nil _, RowsV.nil _⟩, Mem.trans0 hbs hM.nilL⟩
      ·
       rw [decide_eq_false hc23] at hA
       refine Ends.skip (Ends.inBlock (Ends.seq (Ends.region ?_)))
       refine S.val hA (R.move rfl) rfl ?_; clear hA a; intro a hA
       refine S.val hA (R.move rfl) rfl ?_; clear hA a; intro a hA
       refine S.val hA (R.build (cells := #[.int .u64 s, .int .i64 m]) rfl (by kernel_rfl)) rfl ?_; clear hA a; intro a hA
       refine S.box hA hM rfl rfl ?_; clear hA hM a; intro b24 w21 hb25 hM a hA
       replace hM : Mem _ _ [pt b24 #[.int .u64 s, .int .i64 m] 80, pt b1 cz0 25] _ := hM
       refine S.val hA (R.assign rfl) rfl ?_; clear hA a; intro a hA
       refine S.done ?_
       replace hA : St 49 [(0, _), (1, _), (8, _), (11, _)] a := hA.sub ((.cons rfl (.cons rfl (.cons rfl (.cons rfl .nil)))))
       refine Ends.seq (Ends.seq (Ends.region ?_))
       refine S.val hA (R.move rfl) rfl ?_; clear hA a; intro a hA
       refine S.val hA (R.eql rfl rfl) rfl ?_; clear hA a; intro a hA
       refine S.done ?_
       replace hA : St 49 [(0, _), (1, _), (8, _), (11, _), (41, _)] a := hA.sub ((.cons rfl (.cons rfl (.cons rfl (.cons rfl (.cons rfl .nil))))))
       refine Ends.ite hA rfl (fun hc26 => ?_) (fun hc26 => ?_)
       ·
        rw [decide_eq_true hc26] at hA
        refine Ends.seq (Ends.region ?_)
        refine S.val hA (R.move rfl) rfl ?_; clear hA a; intro a hA
        refine S.val hA (R.move rfl) rfl ?_; clear hA a; intro a hA
        refine S.call hA (R.callF Tryd.func53 rfl rfl rfl) rfl (gknap b24 n s m (by omega) (by omega) _ (hM.hereN 1)) ?_; clear hA a
        rintro e w22 ⟨aw, cw, av, cv, rfl, hn⟩
        replace hM : Mem _ _ [bundle (insL 3 22 (gK n m s) aw cw av cv none 0 []), pt b24 #[.int .u64 (sd s (2 * n.toNat)), .int .i64 m] 80, pt b1 cz0 25] _ := hM.callL 1 hn; clear hn
        refine ⟨.agg #[.int .i64 1, .int .i64 n, .int .i64 (min ((nmL s m evn n.toNat).sum / 2) 2147483647), .slice aw ((nmL s m evn n.toNat).length) cw, .slice av ((nmL s m odd1 n.toNat).length) cv, .slice none 0 0], rfl, fun a hA => ?_⟩
        refine S.storeA (k := 2) hA hM sz25 rfl rfl rfl rfl rfl rfl ?_; clear hM
        intro w23 hM
        replace hM : Mem _ _ [bundle (insL 3 22 (gK n m s) aw cw av cv none 0 []), pt b24 #[.int .u64 (sd s (2 * n.toNat)), .int .i64 m] 80, pt b1 #[.int .i64 1, .int .i64 n, .int .i64 (min ((nmL s m evn n.toNat).sum / 2) 2147483647), .slice aw ((nmL s m evn n.toNat).length) cw, .slice av ((nmL s m odd1 n.toNat).length) cv, .slice none 0 0] 25] _ := hM
        refine S.val hA (R.assign rfl) rfl ?_; clear hA a; intro a hA
        refine S.done ?_
        replace hA : St 49 [(0, _), (1, _), (8, _), (9, _), (11, _)] a := hA.sub ((.cons rfl (.cons rfl (.cons rfl (.cons rfl (.cons rfl .nil))))))
        refine Ends.retC2 (k := 2) Tryd.func34 Tryd.results34 hA hM rfl rfl rfl sz25 rfl ?_
        have hkd : kd = 1 := by omega
        subst hkd
        obtain ⟨rfl, rfl⟩ := gmk_sack hG (by omega) (by omega)
        obtain ⟨he, hr⟩ := insR_of hM (k := 0) rfl rfl
        exact ⟨_, _, _, _, _, _, congrArg (fun x => Ending.returned (.tuple #[x, .int .i64 0])) he, hr, Mem.trans0 hbs hM.nilL⟩
       ·
        rw [decide_eq_false hc26] at hA
        refine Ends.skip (Ends.seq (Ends.region ?_))
        refine S.val hA (R.move rfl) rfl ?_; clear hA a; intro a hA
        refine S.val hA (R.move rfl) rfl ?_; clear hA a; intro a hA
        refine S.val hA (R.move rfl) rfl ?_; clear hA a; intro a hA
        refine S.call hA (R.callF Tryd.func54 rfl rfl rfl) rfl (growsA b24 n s m (by omega) kd (by omega) (by omega) _ (hM.hereN 1)) ?_; clear hA a
        rintro e w24 ⟨ac, cc, rs, rfl, hYY, hn⟩
        replace hM : Mem _ _ [bundle (insL 3 22 (gR kd n m s) none 0 none 0 ac cc rs), pt b24 #[.int .u64 (sd s (rt kd n.toNat * n.toNat)), .int .i64 m] 80, pt b1 cz0 25] _ := hM.callL 1 hn; clear hn
        refine ⟨.agg #[.int .i64 kd, .int .i64 n, .int .i64 0, .slice none 0 0, .slice none 0 0, .slice ac rs.length cc], rfl, fun a hA => ?_⟩
        refine S.storeA (k := 2) hA hM sz25 rfl rfl rfl rfl rfl rfl ?_; clear hM
        intro w25 hM
        replace hM : Mem _ _ [bundle (insL 3 22 (gR kd n m s) none 0 none 0 ac cc rs), pt b24 #[.int .u64 (sd s (rt kd n.toNat * n.toNat)), .int .i64 m] 80, pt b1 #[.int .i64 kd, .int .i64 n, .int .i64 0, .slice none 0 0, .slice none 0 0, .slice ac rs.length cc] 25] _ := hM
        refine S.val hA (R.assign rfl) rfl ?_; clear hA a; intro a hA
        refine S.done ?_
        replace hA : St 49 [(8, _), (9, _)] a := hA.sub ((.cons rfl (.cons rfl .nil)))
        refine Ends.retC2 (k := 2) Tryd.func34 Tryd.results34 hA hM rfl rfl rfl sz25 rfl ?_
        obtain ⟨rfl, rfl⟩ := gmk_rows hG (by omega) (by omega) (by omega)
        obtain ⟨he, hr⟩ := insR_of hM (k := 0) rfl hYY
        exact ⟨_, _, _, _, _, _, congrArg (fun x => Ending.returned (.tuple #[x, .int .i64 0])) he, hr, Mem.trans0 hbs hM.nilL⟩
    ·
     refine Ends.region ?_
     refine S.val hA (R.move rfl) rfl ?_; clear hA a; intro a hA
     refine S.val hA (R.lss rfl rfl) rfl ?_; clear hA a; intro a hA
     refine S.val hA (R.move rfl) rfl ?_; clear hA a; intro a hA
     refine hA.split (d := 22) rfl ?_ ?_
     ·
      clear hA; intro hg28 hA
      refine S.no (dj := 22) hA (by kernel_rfl) rfl rfl rfl ?_; clear hA a; intro a hA
      refine S.no (dj := 22) hA (by kernel_rfl) rfl rfl rfl ?_; clear hA a; intro a hA
      refine S.val hA (R.pickT rfl rfl) rfl ?_; clear hA a; intro a hA
      refine S.val hA (R.move rfl) rfl ?_; clear hA a; intro a hA
      refine S.no (dj := 26) hA (by kernel_rfl) rfl rfl rfl ?_; clear hA a; intro a hA
      refine S.no (dj := 26) hA (by kernel_rfl) rfl rfl rfl ?_; clear hA a; intro a hA
      refine S.val hA (R.pickT rfl rfl) rfl ?_; clear hA a; intro a hA
      refine S.val hA (R.assign rfl) rfl ?_; clear hA a; intro a hA
      refine S.done ?_
      replace hA : St 49 [(0, _), (1, _), (2, _), (3, _), (8, _), (10, _), (19, _)] a := hA.sub ((.cons rfl (.cons rfl (.cons rfl (.cons rfl (.cons rfl (.cons rfl (.cons rfl .nil))))))))
      exact hJ _ _ ⟨hA.sub (.cons rfl (.cons rfl (.cons rfl (.cons rfl (.cons rfl (.cons rfl (.cons (by first | rfl | exact congrArg (fun b => some (Value.bool b)) (by first | (simp; done) | (simp [hg28]; done) | (have h80 := hg28; (try simp at h80); simp [h80]; done) | exact (decide_eq_false (fun h9 => hg28 h9.1)).symm)) .nil))))))), hM⟩
     ·
      clear hA; intro hg28 hA
      refine S.valg (dj := 22) hA (by kernel_rfl) rfl (R.move rfl) rfl ?_; clear hA a; intro a hA
      refine S.valg (dj := 22) hA (by kernel_rfl) rfl (R.lss rfl rfl) rfl ?_; clear hA a; intro a hA
      refine S.val hA (R.pickF rfl rfl) rfl ?_; clear hA a; intro a hA
      refine S.val hA (R.move rfl) rfl ?_; clear hA a; intro a hA
      refine hA.split (d := 26) rfl ?_ ?_
      ·
       clear hA; intro hg29 hA
       refine S.no (dj := 26) hA (by kernel_rfl) rfl rfl rfl ?_; clear hA a; intro a hA
       refine S.no (dj := 26) hA (by kernel_rfl) rfl rfl rfl ?_; clear hA a; intro a hA
       refine S.val hA (R.pickT rfl rfl) rfl ?_; clear hA a; intro a hA
       refine S.val hA (R.assign rfl) rfl ?_; clear hA a; intro a hA
       refine S.done ?_
       replace hA : St 49 [(0, _), (1, _), (2, _), (3, _), (8, _), (10, _), (19, _)] a := hA.sub ((.cons rfl (.cons rfl (.cons rfl (.cons rfl (.cons rfl (.cons rfl (.cons rfl .nil))))))))
       exact hJ _ _ ⟨hA.sub (.cons rfl (.cons rfl (.cons rfl (.cons rfl (.cons rfl (.cons rfl (.cons (by first | rfl | exact congrArg (fun b => some (Value.bool b)) (by first | (simp; done) | (simp [hg28, hg29]; done) | (have h80 := hg28; (try simp at h80); have h81 := hg29; (try simp at h81); simp [h80, h81]; done) | exact (decide_eq_false (fun h9 => hg28 h9.1)).symm | exact (decide_eq_false (fun h9 => hg29 h9.1)).symm)) .nil))))))), hM⟩
      ·
       clear hA; intro hg29 hA
       refine S.valg (dj := 26) hA (by kernel_rfl) rfl (R.move rfl) rfl ?_; clear hA a; intro a hA
       refine S.valg (dj := 26) hA (by kernel_rfl) rfl (R.gtr rfl rfl) rfl ?_; clear hA a; intro a hA
       refine S.val hA (R.pickF rfl rfl) rfl ?_; clear hA a; intro a hA
       refine S.val hA (R.assign rfl) rfl ?_; clear hA a; intro a hA
       refine S.done ?_
       replace hA : St 49 [(0, _), (1, _), (2, _), (3, _), (8, _), (10, _), (19, _)] a := hA.sub ((.cons rfl (.cons rfl (.cons rfl (.cons rfl (.cons rfl (.cons rfl (.cons rfl .nil))))))))
       exact hJ _ _ ⟨hA.sub (.cons rfl (.cons rfl (.cons rfl (.cons rfl (.cons rfl (.cons rfl (.cons (by first | rfl | exact congrArg (fun b => some (Value.bool b)) (by first | (simp; done) | (simp [hg28, hg29]; done) | (have h80 := hg28; (try simp at h80); have h81 := hg29; (try simp at h81); simp [h80, h81]; done) | exact (decide_eq_false (fun h9 => hg28 h9.1)).symm | exact (decide_eq_false (fun h9 => hg29 h9.1)).symm)) .nil))))))), hM⟩
   ·
    rw [decide_eq_false hc21] at hA
    refine Ends.seq (Ends.region ?_)
    refine S.val hA (R.build (cells := cz0) rfl (by kernel_rfl)) rfl ?_; clear hA a; intro a hA
    refine S.storeA (k := 0) hA hM sz25 rfl rfl rfl rfl rfl rfl ?_; clear hM
    intro w26 hM
    replace hM : Mem _ _ [pt b1 cz0 25] _ := hM
    refine S.val hA (R.assign rfl) rfl ?_; clear hA a; intro a hA
    refine S.done ?_
    replace hA : St 49 [(0, _), (1, _), (2, _), (3, _), (8, _), (9, _), (10, _)] a := hA.sub ((.cons rfl (.cons rfl (.cons rfl (.cons rfl (.cons rfl (.cons rfl (.cons rfl .nil))))))))
    refine Ends.retC2 (k := 0) Tryd.func34 Tryd.results34 hA hM rfl rfl rfl sz25 rfl ?_
    obtain ⟨rfl, rfl⟩ := gmk_kind hG (by omega)
    exact ⟨none, 0, none, 0, none, 0, rfl, ⟨IntSl.nil _, IntSl.nil _, RowsV.nil _⟩, Mem.trans0 hbs hM.nilL⟩
end Go.Proofs.YtakfcekfmdjklaaDoor
namespace Go.Proofs.YtakfcekfmdjklaaDoor
open Go.RowKit
theorem form_gmk {kd n m s : Int} {G : Ins} (hk : 1 ≤ kd ∧ kd ≤ 3) (hn : 1 ≤ n ∧ n ≤ 24) (hm : 0 ≤ m ∧ m ≤ 2147483647) : ∃ G, gmk kd n m s = (G, 0) ∧ chk G = 0 := by
  obtain ⟨N, rfl⟩ : ∃ N : Nat, n = (N : Int) := ⟨n.toNat, by omega⟩
  unfold gmk
  rw [if_neg (by omega), if_neg (by omega), if_neg (by omega)]
  by_cases h1 : kd = 1
  · rw [if_pos h1]
    refine ⟨_, rfl, chk_of ⟨?_, .inl ⟨rfl, ?_, ?_, rfl⟩, ?_⟩⟩
    · unfold sizeE gK; rw [if_neg (by simp only; omega), if_neg (by simp only; omega), if_neg (by simp only; omega)]
    · show ((nmL s m evn ((N : Int)).toNat).length : Int) = N; rw [nmL_len, Int.toNat_natCast]
    · show ((nmL s m odd1 ((N : Int)).toNat).length : Int) = N; rw [nmL_len, Int.toNat_natCast]
    · unfold numsE
      rw [if_pos (show (gK (N : Int) m s).kind = 1 from rfl)]
      have hs := nmL_sum s m evn hm ((N : Int)).toNat
      have e0 : numE (min ((nmL s m evn ((N : Int)).toNat).sum / 2) 2147483647) = 0 := numE_ok ⟨by omega, by omega⟩
      show (if numE (min ((nmL s m evn ((N : Int)).toNat).sum / 2) 2147483647) ≠ 0 then numE (min ((nmL s m evn ((N : Int)).toNat).sum / 2) 2147483647) else pfx _ ((N : Int)).toNat) = 0
      rw [if_neg (not_not_intro e0)]
      refine pfx_all _ (fun k hk => ?_)
      unfold itF gK
      show (if numE ((nmL s m evn ((N : Int)).toNat).getD k 0) ≠ 0 then numE ((nmL s m evn ((N : Int)).toNat).getD k 0) else numE ((nmL s m odd1 ((N : Int)).toNat).getD k 0)) = 0
      rw [nmL_get s m evn hk, nmL_get s m odd1 hk]
      have r1 := nm_bd s m (evn k) hm.1
      have r2 := nm_bd s m (odd1 k) hm.1
      rw [numE_ok ⟨r1.1, by omega⟩, numE_ok ⟨r2.1, by omega⟩]; rfl
  · rw [if_neg h1]
    refine ⟨_, rfl, chk_of ?_⟩
    have e : gR kd (N : Int) m s = ⟨kd, N, 0, [], [], mat N (ent kd s m N)⟩ := by
      unfold gR; rw [Int.toNat_natCast]; rfl
    rw [e]
    refine form_mat (by omega) (by omega) (by omega) (fun r c _ _ => ?_) (fun h3 r _ => ent_skip ⟨h3, rfl⟩)
    unfold ent
    split
    · decide
    · have := nm_bd s m (rt kd N * r + cb kd r c) hm.1; omega
theorem iSame_eqK (i : Ins) (ax3 : Option Addr) (cx3 : Nat) (ax4 : Option Addr) (cx4 : Nat) (ax5 : Option Addr) (cx5 : Nat) (ay3 : Option Addr) (cy3 : Nat) (ay4 : Option Addr) (cy4 : Nat) (ay5 : Option Addr) (cy5 : Nat) (w : World) (hx3 : IntSl w (.slice ax3 i.wt.length cx3) i.wt) (hx4 : IntSl w (.slice ax4 i.vl.length cx4) i.vl) (hx5 : RowsV w (.slice ax5 i.cost.length cx5) i.cost) (hy3 : IntSl w (.slice ay3 i.wt.length cy3) i.wt) (hy4 : IntSl w (.slice ay4 i.vl.length cy4) i.vl) (hy5 : RowsV w (.slice ay5 i.cost.length cy5) i.cost) :
    Calls Tryd.prog 26 #[.agg #[.int .i64 i.kind, .int .i64 i.n, .int .i64 i.cap, .slice ax3 i.wt.length cx3, .slice ax4 i.vl.length cx4, .slice ax5 i.cost.length cx5], .agg #[.int .i64 i.kind, .int .i64 i.n, .int .i64 i.cap, .slice ay3 i.wt.length cy3, .slice ay4 i.vl.length cy4, .slice ay5 i.cost.length cy5]] w fun e w' => e = .returned (.bool true) ∧ Below w.heap.size w w' :=
  (iSame i ax3 cx3 ax4 cx4 ax5 cx5 i ay3 cy3 ay4 cy4 ay5 cy5 w hx3 hx4 hx5 hy3 hy4 hy5).mono fun e w' h => ⟨by rw [h.1, decide_eq_true rfl], h.2⟩
set_option maxRecDepth 100000 in
set_option maxHeartbeats 400000 in
theorem stands_any  (w : World) :
    Calls Tryd.prog 31 #[] w fun e w' => e = .returned (.bool true) ∧ w = w' := by
  have hbs := Below.refl (B := w.heap.size) w
  have hM := Mem.start w
  refine Calls.of_ends (vs := []) Tryd.func31 rfl Tryd.ntmps31 rfl ?_
  intro a hA
  replace hA : St 12 [] a := hA
  refine Ends.seq (Ends.region ?_)
  refine S.val hA (R.assign rfl) rfl ?_; clear hA a; intro a hA
  refine S.done ?_
  refine Ends.seq (Ends.region ?_)
  refine S.call hA (R.callF Tryd.func51 rfl rfl rfl) rfl (add_ok 2 3 (by decide) (by decide) (by decide) (by decide) (by decide) _) ?_; clear hA a
  rintro e w1 ⟨rfl, rfl⟩
  refine ⟨.tuple #[.int .i64 5, .bool true], rfl, fun a hA => ?_⟩
  refine S.val hA (R.move rfl) rfl ?_; clear hA a; intro a hA
  refine S.val hA (R.extract (v := .int .i64 5) rfl rfl) rfl ?_; clear hA a; intro a hA
  refine S.val hA (R.extract (v := .bool true) rfl rfl) rfl ?_; clear hA a; intro a hA
  refine S.val hA (R.assign rfl) rfl ?_; clear hA a; intro a hA
  refine S.val hA (R.assign rfl) rfl ?_; clear hA a; intro a hA
  refine S.done ?_
  replace hA : St 12 [(1, _), (2, _)] a := hA.sub ((.cons rfl (.cons rfl .nil)))
  refine Ends.seq (Ends.region ?_)
  refine S.val hA (R.move rfl) rfl ?_; clear hA a; intro a hA
  refine S.val hA (R.move rfl) rfl ?_; clear hA a; intro a hA
  refine S.valg (dj := 8) hA (by kernel_rfl) rfl (R.move rfl) rfl ?_; clear hA a; intro a hA
  refine S.valg (dj := 8) hA (by kernel_rfl) rfl (R.tt (R.eql rfl rfl) (by first | decide | simp | omega)) rfl ?_; clear hA a; intro a hA
  refine S.val hA (R.pickT rfl rfl) rfl ?_; clear hA a; intro a hA
  refine S.val hA (R.assign rfl) rfl ?_; clear hA a; intro a hA
  refine S.done ?_
  replace hA : St 12 [(0, _)] a := hA.sub ((.cons rfl .nil))
  refine Ends.ret1 Tryd.func31 Tryd.results31 hA rfl ?_
  exact ⟨rfl, rfl⟩
end Go.Proofs.YtakfcekfmdjklaaDoor
namespace Go.Proofs.YtakfcekfmdjklaaDoor
def sepB (k : Nat) : UInt8 := if k % 4 = 0 then 32 else if k % 4 = 1 then 9 else if k % 4 = 2 then 10 else 13
def isB (c : UInt8) : Prop := c = 32 ∨ c = 10
instance (c : UInt8) : Decidable (isB c) := by unfold isB; infer_instance
def drw : Nat → List UInt8 → List UInt8
  | _, [] => []
  | k, c :: l => (if isB c then sepB k else c) :: drw (k + 1) l
theorem drw_len : ∀ (k : Nat) (l : List UInt8), (drw k l).length = l.length
  | _, [] => rfl
  | k, c :: l => by rw [drw, List.length_cons, drw_len, List.length_cons]
theorem drw_app : ∀ (k : Nat) (a b : List UInt8), drw k (a ++ b) = drw k a ++ drw (k + a.length) b
  | _, [], _ => rfl
  | k, c :: a, b => by rw [List.cons_append, drw, drw, drw_app, List.cons_append, List.length_cons, show k + 1 + a.length = k + (a.length + 1) by omega]
theorem drw_same : ∀ (k : Nat) (l : List UInt8), (∀ c ∈ l, ¬ isB c) → drw k l = l
  | _, [], _ => rfl
  | k, c :: l, h => by rw [drw, if_neg (h c (.head _)), drw_same _ l (fun d hd => h d (.tail _ hd))]
theorem sepB_blk (k : Nat) : blk1 (sepB k) := by
  unfold sepB blk1
  split
  · decide
  · split
    · decide
    · split <;> decide
def reS : Nat → List Pc → List Pc
  | _, [] => []
  | k, p :: ps => { p with s := sepB (k + p.b.length) } :: reS (k + (p.b.length + 1)) ps
theorem reS_len : ∀ (k : Nat) (ps : List Pc), (reS k ps).length = ps.length
  | _, [] => rfl
  | k, p :: ps => by rw [reS, List.length_cons, reS_len, List.length_cons]
theorem reS_get : ∀ (ps : List Pc) (k j : Nat), ((reS k ps).getD j pz).k = (ps.getD j pz).k ∧ ((reS k ps).getD j pz).x = (ps.getD j pz).x ∧ ((reS k ps).getD j pz).n = (ps.getD j pz).n
  | [], _, _ => ⟨rfl, rfl, rfl⟩
  | p :: ps, k, 0 => ⟨rfl, rfl, rfl⟩
  | p :: ps, k, j + 1 => by
    rw [reS, List.getD_cons_succ, List.getD_cons_succ]
    exact reS_get ps _ j
theorem reS_gd : ∀ (ps : List Pc) (k : Nat), (∀ p ∈ ps, gd p) → ∀ p ∈ reS k ps, gd p
  | [], _, _, p, hp => by cases hp
  | q :: ps, k, h, p, hp => by
    rw [reS] at hp
    rcases List.mem_cons.1 hp with rfl | hp
    · exact ⟨(h q (.head _)).1, sepB_blk _⟩
    · exact reS_gd ps _ (fun z hz => h z (.tail _ hz)) p hp
theorem gd_nb {p : Pc} (h : gd p) : ∀ c ∈ p.b, ¬ isB c := fun c hc hb => by
  obtain ⟨j, hj, rfl⟩ := List.mem_iff_getElem.1 hc
  have hk : kb (bs p.b) j = 1 := by
    rw [kb_in (by rw [bs_size]; exact hj), show bs p.b = ⟨p.b.toArray⟩ from rfl, byt_mk hj]
    rcases hb with e | e <;> rw [e] <;> decide
  rcases h.1.2.2.2.2 with ⟨-, g, -⟩ | ⟨-, g, -⟩
  · have := g j hj; rw [Nat.zero_add, hk] at this; cases this
  · have := g j hj; rw [Nat.zero_add, hk] at this; cases this
theorem drw_txt : ∀ (ps : List Pc) (k : Nat), (∀ p ∈ ps, gd p ∧ isB p.s) → drw k (txt ps) = txt (reS k ps)
  | [], _, _ => rfl
  | p :: ps, k, h => by
    obtain ⟨h1, h2⟩ := h p (.head _)
    rw [txt_cons, reS, txt_cons, drw_app, drw_app, drw_same k p.b (gd_nb h1), drw_txt ps _ (fun q hq => h q (.tail _ hq))]
    have e : drw (k + p.b.length) [p.s] = [sepB (k + p.b.length)] := by rw [drw, if_pos h2, drw]
    rw [e]
    have e2 : k + (p.b ++ [p.s]).length = k + (p.b.length + 1) := by simp
    rw [e2]
theorem rowP_s : ∀ (l : List Int), ∀ p ∈ rowP l, isB p.s
  | [], p, hp => by cases hp
  | [x], p, hp => by
    obtain rfl : p = nuP x 10 := by simpa [rowP] using hp
    exact .inr rfl
  | x :: y :: l, p, hp => by
    rw [rowP] at hp
    rcases List.mem_cons.1 hp with rfl | hp
    · exact .inl rfl
    · exact rowP_s (y :: l) p hp
theorem pcs_s (i : Ins) : ∀ p ∈ pcs i, isB p.s := fun p hp => by
  unfold pcs hdP at hp
  rcases List.mem_append.1 hp with hp | hp
  · (repeat' split at hp) <;> simp only [List.mem_cons, List.not_mem_nil, or_false] at hp
    · rcases hp with rfl | rfl | rfl
      · exact .inl rfl
      · exact .inl rfl
      · exact .inr rfl
    · rcases hp with rfl | rfl
      · exact .inl rfl
      · exact .inr rfl
    · rcases hp with rfl | rfl | rfl
      · exact .inl rfl
      · exact .inl rfl
      · exact .inr rfl
  · split at hp
    · obtain ⟨k, -, hk⟩ := List.mem_flatMap.1 hp
      exact rowP_s _ p hk
    · obtain ⟨k, -, hk⟩ := List.mem_flatMap.1 hp
      exact rowP_s _ p hk
def hdD : List UInt8 := [35, 32, 100, 114, 97, 119, 110, 10]
theorem ScB_hdD : ScB hdD [] := fun r => by
  have hb : ∀ j, j < 8 → byt (bs (hdD ++ r)) j = byt (bs hdD) j := fun j hj => byt_left hj
  have h := Going.rem (u := bs (hdD ++ r)) (p := 0) (k := 7) (X := []) (by rw [hb 0 (by decide)]; decide) (by decide) (fun j hj => ?_) (by rw [bs_size]; simp [hdD]) (by rw [Nat.zero_add, hb 7 (by decide)]; decide)
  · exact h
  · rw [Nat.zero_add, hb j (by omega)]
    match j, hj with
    | 0, _ => decide
    | 1, _ => decide
    | 2, _ => decide
    | 3, _ => decide
    | 4, _ => decide
    | 5, _ => decide
    | 6, _ => decide
    | j + 7, h => exact absurd h (by omega)
theorem ScB.hash {l : List UInt8} {T : List Tok} (h : ScB l T) (hl : l.length + 1 ≤ 65536) : scan (bs (l ++ [35])) = (T ++ [⟨3, ⟨#[]⟩, 0, (l.length + 1 : Nat)⟩], 0, 0) := by
  have h1 := h [35]
  have hsz : (bs (l ++ [35])).size = l.length + 1 := by rw [bs_size]; simp
  have hk : kb (bs (l ++ [35])) l.length = 4 := by
    have := kb_mid l [35] 0
    rw [Nat.add_zero] at this
    rw [this, kb_cons]; decide
  have h35 : byt (bs (l ++ [35])) l.length = 35 := by
    have := byt_mid (l := l) (r := [35]) (j := 0) (by decide)
    rw [Nat.add_zero] at this
    rw [this]; decide
  have he : eol (bs (l ++ [35])) l.length = 1 := eol_uniq (fun j hj => by
    obtain rfl : j = 0 := by omega
    exact ⟨by omega, by rw [Nat.add_zero, h35]; decide⟩) (fun q => by have := q.1; omega)
  have h2 := h1.trans (Going.step (by omega) (lst_4 hk))
  rw [he, List.append_nil] at h2
  obtain ⟨f', -, e⟩ := h2 (bs (l ++ [35])).size (by omega)
  unfold scan
  rw [if_neg (by omega), e, scF_end (by omega)]
  unfold tend; rw [hsz]
theorem rds_ofK (o : Nat) (ps : List Pc) (e : Int) : Rds (toks o ps ++ [⟨3, ⟨#[]⟩, 0, e⟩]) ps e := by
  have hl := toks_len o ps
  refine ⟨by rw [List.length_append, hl]; rfl, fun j hj => ?_, ?_⟩
  · rw [getD_app1 (by omega)]; exact toks_get ps o j hj
  · rw [← hl, getD_app2]; exact ⟨rfl, rfl⟩
def toI (l : List UInt8) : List Int := l.map fun b => (b.toNat : Int)
def dB (T : List UInt8) (m : Nat) : List UInt8 := hdD ++ (drw 8 (T.take m) ++ T.drop m)
theorem dB_len {T : List UInt8} {m : Nat} (h : m ≤ T.length) : (dB T m).length = 8 + T.length := by
  unfold dB
  rw [List.length_append, List.length_append, drw_len, List.length_take, List.length_drop]
  show 8 + _ = _; omega
theorem dB_all (T : List UInt8) : dB T T.length = hdD ++ drw 8 T := by unfold dB; rw [List.take_length, List.drop_length, List.append_nil]
theorem dB_pre {T : List UInt8} {m : Nat} (h : m ≤ T.length) : (hdD ++ drw 8 (T.take m)).length = 8 + m := by
  rw [List.length_append, drw_len, List.length_take]
  show 8 + _ = _; omega
theorem dB_cut {T : List UInt8} {m : Nat} (h : m < T.length) : dB T m = (hdD ++ drw 8 (T.take m)) ++ (T[m] :: T.drop (m + 1)) := by
  unfold dB; rw [List.drop_eq_getElem_cons h, List.append_assoc]
theorem dB_next {T : List UInt8} {m : Nat} (h : m < T.length) : dB T (m + 1) = (hdD ++ drw 8 (T.take m)) ++ ((if isB T[m] then sepB (8 + m) else T[m]) :: T.drop (m + 1)) := by
  unfold dB
  rw [List.take_succ_eq_append_getElem h, drw_app, List.length_take, Nat.min_eq_left (by omega), drw, drw]
  simp only [List.append_assoc, List.cons_append, List.nil_append]
theorem dB_get {T : List UInt8} {m : Nat} (h : m < T.length) (Q : List Int) : (toI (dB T m) ++ Q).getD (8 + m) 0 = ((T[m]).toNat : Int) := by
  have hp := dB_pre (T := T) (m := m) (by omega)
  rw [dB_cut h]
  unfold toI
  rw [List.map_append, List.append_assoc, List.getD_eq_getElem?_getD, List.getElem?_append_right (by rw [List.length_map, hp]; exact Nat.le_refl _), List.length_map, hp, Nat.sub_self]
  rfl
theorem dB_hit {T : List UInt8} {m : Nat} (h : m < T.length) (hb : isB T[m]) (Q : List Int) : (toI (dB T m) ++ Q).set (8 + m) ((sepB (8 + m)).toNat : Int) = toI (dB T (m + 1)) ++ Q := by
  have hp := dB_pre (T := T) (m := m) (by omega)
  rw [dB_cut h, dB_next h, if_pos hb]
  unfold toI
  generalize hdD ++ drw 8 (T.take m) = P at hp ⊢
  rw [List.map_append, List.map_append, List.append_assoc, List.append_assoc, List.set_append_right _ _ (by rw [List.length_map, hp]; exact Nat.le_refl _), List.length_map, hp, Nat.sub_self]
  rfl
theorem dB_miss {T : List UInt8} {m : Nat} (h : m < T.length) (hb : ¬ isB T[m]) : dB T (m + 1) = dB T m := by rw [dB_cut h, dB_next h, if_neg hb]
theorem toI_len (l : List UInt8) : (toI l).length = l.length := by simp [toI]
theorem dB_lt {T : List UInt8} {m : Nat} (h : m < T.length) (Q : List Int) : 8 + m < (toI (dB T m) ++ Q).length := by
  rw [List.length_append, toI_len, dB_len (by omega)]; omega
theorem getD_b {T : List UInt8} {m : Nat} (h : m < T.length) : T.getD m 0 = T[m] := by simp [List.getD, h]
theorem dB_getD {T : List UInt8} {m : Nat} (h : m < T.length) (Q : List Int) : (toI (dB T m) ++ Q).getD (8 + m) 0 = ((T.getD m 0).toNat : Int) := by rw [dB_get h, getD_b h]
theorem isB_iff {c : UInt8} : isB c ↔ (c.toNat : Int) = 32 ∨ (c.toNat : Int) = 10 := by
  unfold isB
  have h : ∀ d : UInt8, c = d ↔ (c.toNat : Int) = d.toNat := fun d => by
    constructor
    · intro e; rw [e]
    · intro e; exact UInt8.toNat_inj.1 (by omega)
  rw [h 32, h 10]; rfl
theorem toI_back (l : List UInt8) : (toI l).map (fun n => UInt8.ofNat n.toNat) = l := by
  unfold toI
  rw [List.map_map]
  conv => rhs; rw [← List.map_id l]
  exact List.map_congr_left fun c _ => by simp
theorem dB_on {T : List UInt8} {m : Nat} (h : m < T.length) (hb : ((T.getD m 0).toNat : Int) = 32 ∨ ((T.getD m 0).toNat : Int) = 10) (Q : List Int) : (toI (dB T m) ++ Q).set (8 + m) ((sepB (8 + m)).toNat : Int) = toI (dB T (m + 1)) ++ Q :=
  dB_hit h (isB_iff.2 (by rw [← getD_b h]; exact hb)) Q
theorem dB_off {T : List UInt8} {m : Nat} (h : m < T.length) (hb : ¬ ((T.getD m 0).toNat : Int) = 32) (hc : ¬ ((T.getD m 0).toNat : Int) = 10) : dB T m = dB T (m + 1) :=
  (dB_miss h (fun q => by rcases isB_iff.1 q with g | g <;> rw [← getD_b h] at g; exact hb g; exact hc g)).symm
theorem dB_back (T : List UInt8) (Q : List Int) : ((toI (dB T T.length) ++ Q).take (8 + T.length)).map (fun n => UInt8.ofNat n.toNat) = hdD ++ drw 8 T := by
  have hl : (toI (dB T T.length)).length = 8 + T.length := by rw [toI_len, dB_len (Nat.le_refl _)]
  rw [← hl, List.take_left, toI_back, dB_all]
theorem sep_byt (k : Nat) : byt ⟨#[32, 9, 10, 13]⟩ (k % 4) = ((sepB k).toNat : Int) := by
  have : k % 4 = 0 ∨ k % 4 = 1 ∨ k % 4 = 2 ∨ k % 4 = 3 := by omega
  unfold sepB
  rcases this with e | e | e | e <;> rw [e] <;> decide
def drawB (i : Ins) : List UInt8 := (hdD ++ drw 8 (textB i)) ++ [35]
theorem drawB_len {i : Ins} (h : InF i) : (drawB i).length ≤ 60009 := by
  have := textB_len h
  unfold drawB
  simp only [List.length_append, drw_len, List.length_cons, List.length_nil, hdD]; omega
theorem prs_draw {i : Ins} (h : InF i) : prs (bs (drawB i)) = (i, 0, 0) := by
  have hl := textB_len h
  have e : drw 8 (textB i) = txt (reS 8 (pcs i)) := by rw [textB_txt h]; exact drw_txt _ 8 (fun p hp => ⟨pcs_gd h p hp, pcs_s i p hp⟩)
  have hL : (hdD ++ txt (reS 8 (pcs i))).length ≤ 60008 := by
    rw [← e, List.length_append, drw_len]
    show 8 + _ ≤ _; omega
  have hB := ScB.txt (reS 8 (pcs i)) ScB_hdD (reS_gd (pcs i) 8 (pcs_gd h))
  have hs := hB.hash (by omega)
  unfold drawB
  rw [e]
  rw [List.nil_append, show hdD.length = 8 from rfl] at hs
  have hR := rds_ofK 8 (reS 8 (pcs i)) ((hdD ++ txt (reS 8 (pcs i))).length + 1 : Nat)
  have hp := pcs_len h
  have hrl := reS_len 8 (pcs i)
  obtain ⟨h1, h2⟩ := (pb_text (m := mI i) (fun j hj => by
    obtain ⟨a1, a2, a3⟩ := hR.at_ j (by omega)
    obtain ⟨b1, b2, b3⟩ := reS_get (pcs i) 8 j
    exact ⟨a1.trans b1, a2.trans b2, a3.trans b3⟩) h (Nat.le_refl _)).2 rfl
  have he : endR ((toks 8 (reS 8 (pcs i)) ++ [(⟨3, ⟨#[]⟩, 0, (((hdD ++ txt (reS 8 (pcs i))).length + 1 : Nat) : Int)⟩ : Tok)]).getD (j0I i + mI i) tz) = 0 := by
    rw [← hp, ← hrl]; exact if_neg (not_not_intro hR.end_.1)
  rw [(prs_of hs).1 (by rw [h1]; exact he), h2]
end Go.Proofs.YtakfcekfmdjklaaDoor
namespace Go.Proofs.YtakfcekfmdjklaaDoor
open Go.RowKit
theorem push_list (ns : List Int) : ∀ r : ByteArray, ns.foldl (fun r n => r.push (UInt8.ofNat n.toNat)) r = ⟨(r.data.toList ++ ns.map fun n => UInt8.ofNat n.toNat).toArray⟩ := by
  induction ns with
  | nil => intro r; simp
  | cons n ns ih =>
    intro r
    rw [List.foldl_cons, ih]
    congr 1
    simp [ByteArray.push]
def bys (l : List Int) : Array Value := (l.map (Value.int .u8)).toArray
theorem bys_get (l : List Int) (o : Nat) (h : o < l.length) : (bys l)[o]? = some (.int .u8 (l.getD o 0)) := by simp [bys, h]
theorem bys_set (l : List Int) (o : Nat) (v : Int) : (bys l).setIfInBounds o (.int .u8 v) = bys (l.set o v) := by simp [bys, List.map_set]
section
variable {P : Program} {l : List (Nat × Value)} {w w0 : World} {F : Nat → Prop} {L : List Ck} {ty src dst : TypeId} {x : Operand}
end
end Go.Proofs.YtakfcekfmdjklaaDoor
namespace Go.Proofs.YtakfcekfmdjklaaDoor
open Go.RowKit
def bz (b : Nat) (Z : List Int) (e : TypeId) : Ck :=
  ⟨fun c => c = b, fun w => w.heap[b]? = some (.cells (bys Z) e (Z.length, Z.length + 1)), fun w w' h hw => by rw [h b rfl]; exact hw⟩
def u8s (s : ByteArray) : List Int := s.data.toList.map fun b => (b.toNat : Int)
theorem u8s_bs (l : List UInt8) : u8s (bs l) = l.map fun b => (b.toNat : Int) := by simp [u8s, bs]
section
variable {w0 w w' : World} {F : Nat → Prop} {L L' : List Ck} {e : TypeId} {b k : Nat} {Z : List Int}
theorem Mem.blkZ (h : Mem w0 F L w) (hk : ith L k = some (bz b Z e)) : w.heap[b]? = some (.cells (bys Z) e (Z.length, Z.length + 1)) := h.mem hk
theorem Mem.cellZ (h : Mem w0 F L w) (hk : ith L k = some (bz b Z e)) {o : Nat} (ho : o < Z.length) : w.cell? ⟨b, o, none⟩ = some (.int .u8 (Z.getD o 0)) := by
  simp [World.cell?, h.blkZ hk, bys_get Z o ho]
theorem Mem.freeZ (h : Mem w0 F L w) (hk : ith L k = some (bz b Z e)) {o : Nat} (ho : o < Z.length) : w.frozen? ⟨b, o, none⟩ = false := by
  unfold World.frozen?
  rw [h.blkZ hk]
  simp; omega
theorem heap_setCell_Z {cs : Array Value} {t : TypeId} {fz : Nat × Nat} (h : w.heap[b]? = some (.cells cs t fz)) (i : Nat) (v : Value) : (w.setCell ⟨b, i, none⟩ v).heap[b]? = some (.cells (cs.setIfInBounds i v) t fz) := by
  have hlt := lt_of_block h
  have h' : w.heap[b] = .cells cs t fz := by simpa [Array.getElem?_eq_getElem hlt] using h
  show (w.heap.modify b _)[b]? = _
  rw [Array.getElem?_eq_getElem (by simpa using hlt), Array.getElem_modify_self, h']
  rfl
theorem Mem.storeZ (h : Mem w0 F L w) (hk : ith L k = some (bz b Z e)) (o : Nat) (n : Int) : Mem w0 F (setAt L k (bz b (Z.set o n) e)) (w.setCell ⟨b, o, none⟩ (.int .u8 n)) :=
  h.turn (c := bz b Z e) hk (fun _ h => h) (by
    have := heap_setCell_Z (h.blkZ hk) o (.int .u8 n)
    rw [bys_set] at this
    show _ = some (Obj.cells (bys (Z.set o n)) e ((Z.set o n).length, (Z.set o n).length + 1))
    rw [List.length_set]; exact this) rfl rfl rfl (by simp) (fun c _ hc => Below.heap_setCell w _ _ _ hc)
theorem Mem.strBytes (h : Mem w0 F L w) (e : TypeId) (s : ByteArray) : Mem w0 F (bz w.heap.size (u8s s ++ List.replicate (grownCap w s.size 0 e - s.size) 0) e :: L) (Lib.bytesWorld w e s) := by
  have hold : ∀ b, b < w.heap.size → (Lib.bytesWorld w e s).heap[b]? = w.heap[b]? := fun b hb => Lib.bytesWorld_at_old w e s b hb
  have hsz := Lib.bytesWorld_size w e s
  refine ⟨(show (Lib.bytesWorld w e s).os = w.os from rfl).trans h.os, (show (Lib.bytesWorld w e s).tape = w.tape from rfl).trans h.tape, (show (Lib.bytesWorld w e s).output = w.output from rfl).trans h.output, by have := h.size; omega, fun b hb hF => by rw [hold b (Nat.lt_of_lt_of_le hb h.size)]; exact h.old b hb hF, ?_, ?_, ?_⟩
  · intro c hc
    rcases List.mem_cons.1 hc with rfl | hc
    · have hc2 : Lib.bytesCells w e s = bys (u8s s ++ List.replicate (grownCap w s.size 0 e - s.size) 0) := by
        apply Array.toList_inj.1
        simp [Lib.bytesCells, bys, u8s]
      have hn := Lib.bytesWorld_at_new w e s
      rw [hc2] at hn
      have hl : (bys (u8s s ++ List.replicate (grownCap w s.size 0 e - s.size) 0)).size = (u8s s ++ List.replicate (grownCap w s.size 0 e - s.size) (0 : Int)).length := by simp [bys]
      rw [hl] at hn
      exact hn
    · exact c.loc w _ (fun b hb => hold b (h.inb c hc b hb).1) (h.holds c hc)
  · intro c hc b hb
    rcases List.mem_cons.1 hc with rfl | hc
    · have e : b = w.heap.size := hb
      subst e
      exact ⟨by omega, fun g => absurd h.size (by omega)⟩
    · have := h.inb c hc b hb
      exact ⟨by omega, this.2⟩
  · refine List.pairwise_cons.2 ⟨fun d hd b hb hdb => ?_, h.apart⟩
    have e : b = w.heap.size := hb
    have := (h.inb d hd b hdb).1
    omega
end
section
variable {P : Program} {l : List (Nat × Value)} {w w0 : World} {F : Nat → Prop} {L : List Ck} {ty src dst : TypeId} {x : Operand}
theorem R.strBytes {e : TypeId} {s : ByteArray} (hs : P.underlying src = some .string) (hd : P.underlying dst = some (.slice e)) (he : P.underlying e = some (.int .u8)) (hx : opv l x = some (.string s)) :
    Run P l w (.convert src dst x) ty (.slice (some ⟨w.heap.size, 0, none⟩) s.size (grownCap w s.size 0 e)) (Lib.bytesWorld w e s) := fun ev h _ _ _ _ => by
  have h1 := Lib.run_convert_string_bytes (P := P) w src dst e s hs hd he
  simp [execOp, h _ _ hx, h1]
theorem R.bytesStrZ {e t' : TypeId} {b k n c : Nat} {Z : List Int} (hM : Mem w0 F L w) (hk : ith L k = some (bz b Z t')) (hs : P.underlying src = some (.slice e)) (he : P.underlying e = some (.int .u8)) (hd : P.underlying dst = some .string) (hx : opv l x = some (.slice (some ⟨b, 0, none⟩) n c)) (hn : n ≤ Z.length) :
    Run P l w (.convert src dst x) ty (.string ⟨((Z.take n).map fun n => UInt8.ofNat n.toNat).toArray⟩) w := fun ev h _ _ _ _ => by
  have h1 := run_convert_bytes_string (P := P) w src dst e (some ⟨b, 0, none⟩) n c hs he hd
  have hl : (Z.take n).length = n := by rw [List.length_take]; omega
  have h2 : (Conv.bytesToString (.slice (some ⟨b, 0, none⟩) n c)).run P w = .ok (.string ⟨((Z.take n).map fun n => UInt8.ofNat n.toNat).toArray⟩) w := by
    have h3 : (loadCells ⟨b, 0, none⟩ n).run P w = .ok ((Z.take n).map (Value.int .u8)).toArray w := by
      have := run_loadCells_list (P := P) w ⟨b, 0, none⟩ ((Z.take n).map (Value.int .u8)) (fun j v hj => by
        rw [Addr.add_lit, Nat.zero_add]
        have hj2 : j < n := by
          have := (List.getElem?_eq_some_iff.1 hj).1
          rw [List.length_map, hl] at this; exact this
        rw [hM.cellZ hk (by omega)]
        rw [List.getElem?_map, List.getElem?_take, if_pos hj2] at hj
        rw [← hj, List.getD_eq_getElem?_getD, List.getElem?_eq_getElem (by omega)]; rfl)
      rwa [List.length_map, hl] at this
    have h4 := run_bytesToString w ⟨b, 0, none⟩ n c (Z.take n) h3
    rw [h4, push_list]
    rfl
  simp [execOp, h _ _ hx, h1, h2]
end
section
variable {P : Program} {R : Ending → World → Prop} {f : FuncId} {a : Act} {w w0 : World} {nn : Nat} {l : List (Nat × Value)} {ops : Array Oper} {Q : Exit → Act → World → Prop} {rest : List Oper} {F : Nat → Prop} {L : List Ck}
  {d : Nat} {t e ty src dst : TypeId} {x y : Operand} {pos : String} {aft : Array Edge} {s : ByteArray}
theorem S.strBytes (hA : St nn l a) (hM : Mem w0 F L w) (hs : P.underlying src = some .string) (hd' : P.underlying dst = some (.slice e)) (he : P.underlying e = some (.int .u8)) (hx : opv l x = some (.string s)) (hd : Nat.blt d nn = true)
    (h : ∀ b w' c, w0.heap.size ≤ b → Mem w0 F (bz b (u8s s ++ List.replicate (c - s.size) 0) e :: L) w' → ∀ a, St nn ((d, .slice (some ⟨b, 0, none⟩) s.size c) :: l) a → wpList P ops Q rest a w') :
    wpList P ops Q ({ dst := some d, op := .convert src dst x, type := ty, pos, after := aft, guard := none } :: rest) a w :=
  S.val hA (R.strBytes hs hd' he hx) hd (h _ _ _ hM.size (hM.strBytes e s))
theorem D.strBytes {S : World → Prop} {os : List Oper} {is : Ordt} {b0 : Bool} {i last : Nat} (hA : St nn l a) (hM : Mem w0 F L w) (ho : ith os i = some { dst := some d, op := .convert src dst x, type := ty, pos, after := aft, guard := none }) (hs : P.underlying src = some .string) (hd' : P.underlying dst = some (.slice e)) (he : P.underlying e = some (.int .u8)) (hx : opv l x = some (.string s)) (hd : Nat.blt d nn = true)
    (h : ∀ b w' c, w0.heap.size ≤ b → Mem w0 F (bz b (u8s s ++ List.replicate (c - s.size) 0) e :: L) w' → S w' ∧ ∀ a, St nn ((d, .slice (some ⟨b, 0, none⟩) s.size c) :: l) a → wpOrd P last os Q S b0 is a w') : wpOrd P last os Q S b0 (.cons (i, false) is) a w :=
  have g := h _ _ _ hM.size (hM.strBytes e s)
  D.eff hA ho (R.strBytes hs hd' he hx) hd g.1 g.2
theorem S.storeZ {k b o : Nat} {Z : List Int} {t' : TypeId} {n : Int} (hA : St nn l a) (hM : Mem w0 F L w) (hi : szOf P t = some (false, 1)) (hx : opv l x = some (.pointer (some ⟨b, o, none⟩))) (hy : opv l y = some (.int .u8 n))
    (hk : ith L k = some (bz b Z t')) (hu : o < Z.length) (h : ∀ w', Mem w0 F (setAt L k (bz b (Z.set o n) t')) w' → wpList P ops Q rest a w') :
    wpList P ops Q ({ dst := none, op := .store t x y, type := ty, pos, after := aft, guard := none } :: rest) a w :=
  S.skip hA (R.store hi hx hy rfl (hM.cellZ hk hu) (hM.freeZ hk hu)) (h _ (hM.storeZ hk o n))
theorem R.loadZ {k b o : Nat} {Z : List Int} {t' : TypeId} (hM : Mem w0 F L w) (hi : szOf P t = some (false, 1)) (hx : opv l x = some (.pointer (some ⟨b, o, none⟩))) (hk : ith L k = some (bz b Z t')) (hu : o < Z.length) : Run P l w (.load t x) ty (.int .u8 (Z.getD o 0)) w :=
  R.load hi hx (hM.cellZ hk hu)
end
end Go.Proofs.YtakfcekfmdjklaaDoor
namespace Go.Proofs.YtakfcekfmdjklaaDoor
open Go.RowKit
theorem prs_drawW {i : Ins} (h : chk i = 0) : prs (bs ((hdD ++ drw 8 (wtxt i)) ++ [35])) = (i, 0, 0) := by rw [wtxt_ok h]; exact prs_draw (chk_inF h)
theorem drawW_len {i : Ins} (h : chk i = 0) : ((hdD ++ drw 8 (wtxt i)) ++ [35]).length ≤ 60009 := by rw [wtxt_ok h]; exact drawB_len (chk_inF h)
theorem dB_u8 (T : List UInt8) : u8s (bs (hdD ++ T)) = toI (dB T 0) := by rw [u8s_bs]; rfl
set_option maxRecDepth 100000 in
set_option maxHeartbeats 400000 in
theorem kurganDrawn_w (x0 x1 x2 : Int) (w : World) (htab : Lib.TabIs Tryd.prog w "internal/strconv.uint64pow10" .u64 Lib.pow10Tab) (hut : U8T w) :
  Calls Tryd.prog 15 #[.int .i64 x0, .int .i64 x1, .int .u64 x2] w fun e w' => e = .returned (.bool true) ∧ Below w.heap.size w w' := by
 have hbs := Below.refl (B := w.heap.size) w
 have hM := Mem.start w
 refine Calls.of_ends (vs := [.int .i64 x0, .int .i64 x1, .int .u64 x2]) Tryd.func15 rfl Tryd.ntmps15 rfl ?_
 intro a hA
 replace hA : St 91 [(0, _), (1, _), (2, _)] a := hA
 refine Ends.seq (Ends.region ?_)
 refine S.val hA (R.assign rfl) rfl ?_; clear hA a; intro a hA
 refine S.done ?_
 refine Ends.seq (Ends.region ?_)
 refine S.val hA (R.move rfl) rfl ?_; clear hA a; intro a hA
 refine S.val hA (R.conv Tryd.underlying38 Tryd.underlying3 rfl) rfl ?_; clear hA a; intro a hA
 refine S.val hA (R.remI rfl rfl rfl ⟨u64_nn _, by decide⟩) rfl ?_; clear hA a; intro a hA
 obtain ⟨n1, hn2, en3⟩ := umod_ex x0 3 (by decide)
 refine S.val hA (R.to (v := .int .i64 (n1 : Int)) (R.conv Tryd.underlying3 Tryd.underlying38 rfl) (congrArg (Value.int .i64) en3)) rfl ?_; clear hA a; intro a hA
 refine S.val hA (R.addI rfl rfl (r := 1 + ((n1 : Int))) rfl (by omega)) rfl ?_; clear hA a; intro a hA
 refine S.val hA (R.move rfl) rfl ?_; clear hA a; intro a hA
 refine S.val hA (R.conv Tryd.underlying38 Tryd.underlying3 rfl) rfl ?_; clear hA a; intro a hA
 refine S.val hA (R.remI rfl rfl rfl ⟨u64_nn _, by decide⟩) rfl ?_; clear hA a; intro a hA
 obtain ⟨n4, hn5, en6⟩ := umod_ex x1 12 (by decide)
 refine S.val hA (R.to (v := .int .i64 (n4 : Int)) (R.conv Tryd.underlying3 Tryd.underlying38 rfl) (congrArg (Value.int .i64) en6)) rfl ?_; clear hA a; intro a hA
 refine S.val hA (R.addI rfl rfl (r := 1 + ((n4 : Int))) rfl (by omega)) rfl ?_; clear hA a; intro a hA
 refine S.val hA (R.assign rfl) rfl ?_; clear hA a; intro a hA
 refine S.val hA (R.assign rfl) rfl ?_; clear hA a; intro a hA
 refine S.done ?_
 replace hA : St 91 [(0, _), (1, _), (2, _)] a := hA.sub ((.cons rfl (.cons rfl (.cons rfl .nil))))
 refine Ends.seq (Ends.region ?_)
 refine S.val hA (R.move rfl) rfl ?_; clear hA a; intro a hA
 refine S.val hA (R.move rfl) rfl ?_; clear hA a; intro a hA
 refine S.val hA (R.move rfl) rfl ?_; clear hA a; intro a hA
 obtain ⟨G, hG, hzG⟩ := form_gmk (G := insZ) (kd := (1 + ((n1 : Int)))) (n := (1 + ((n4 : Int)))) (m := 1000) (s := x2) (by omega) (by omega) (by omega)
 have hFG := chk_inF hzG
 obtain ⟨hl1, hl2, hl3⟩ := inF_len hFG
 have htl := wtxt_len hzG
 refine S.call hA (R.callF Tryd.func34 rfl rfl rfl) rfl (gMake (1 + ((n1 : Int))) (1 + ((n4 : Int))) 1000 x2 G 0 hG _) ?_; clear hA a
 rintro e w1 ⟨ag73, cg73, ag74, cg74, ag75, cg75, rfl, ⟨hg73, hg74, hg75⟩, hb⟩
 replace hM := hM.callB hb; clear hb
 have hbs := hbs.trans (hM.below.mono hbs.size)
 replace hM := Mem.start w1
 refine ⟨.tuple #[.agg #[.int .i64 G.kind, .int .i64 G.n, .int .i64 G.cap, .slice ag73 G.wt.length cg73, .slice ag74 G.vl.length cg74, .slice ag75 G.cost.length cg75], .int .i64 0], rfl, fun a hA => ?_⟩
 refine S.val hA (R.move rfl) rfl ?_; clear hA a; intro a hA
 refine S.val hA (R.extract (v := .agg #[.int .i64 G.kind, .int .i64 G.n, .int .i64 G.cap, .slice ag73 G.wt.length cg73, .slice ag74 G.vl.length cg74, .slice ag75 G.cost.length cg75]) rfl rfl) rfl ?_; clear hA a; intro a hA
 refine S.val hA (R.extract (v := .int .i64 0) rfl rfl) rfl ?_; clear hA a; intro a hA
 refine S.alloc hA hM info25 rfl rfl ?_; clear hA hM a; intro b8 w2 hb9 hM a hA
 replace hM : Mem _ _ [pt b8 cz0 25] _ := hM
 refine S.storeA (k := 0) hA hM sz25 rfl rfl rfl rfl rfl rfl ?_; clear hM
 intro w3 hM
 replace hM : Mem _ _ [pt b8 #[.int .i64 G.kind, .int .i64 G.n, .int .i64 G.cap, .slice ag73 G.wt.length cg73, .slice ag74 G.vl.length cg74, .slice ag75 G.cost.length cg75] 25] _ := hM
 refine S.val hA (R.assign rfl) rfl ?_; clear hA a; intro a hA
 refine S.done ?_
 replace hA : St 91 [(7, _), (8, _)] a := hA.sub ((.cons rfl (.cons rfl .nil)))
 refine Ends.seq (Ends.region ?_)
 refine S.val hA (R.loadA sz25 rfl (hM.range (k := 0) rfl) rfl) rfl ?_; clear hA a; intro a hA
 refine S.call hA (R.callF Tryd.func20 rfl rfl rfl) rfl (write05 G ag73 cg73 ag74 cg74 ag75 cg75 ⟨by omega, by omega⟩ _ (hg73.mem hM) (hg74.mem hM) (hg75.mem hM) (tab_below htab (Mem.trans0 hbs hM.nilL))) ?_; clear hA a
 rintro e w4 ⟨rfl, hb⟩
 replace hM := hM.callB hb; clear hb
 refine ⟨.tuple #[.string ((bs (wtxt G))), .int .i64 (chk G)], rfl, fun a hA => ?_⟩
 refine S.val hA (R.move rfl) rfl ?_; clear hA a; intro a hA
 refine S.val hA (R.extract (v := .string ((bs (wtxt G)))) rfl rfl) rfl ?_; clear hA a; intro a hA
 refine S.val hA (R.extract (v := .int .i64 (chk G)) rfl rfl) rfl ?_; clear hA a; intro a hA
 refine S.val hA (R.assign rfl) rfl ?_; clear hA a; intro a hA
 refine S.val hA (R.assign rfl) rfl ?_; clear hA a; intro a hA
 refine S.done ?_
 replace hA : St 91 [(7, _), (8, _), (9, _), (10, _)] a := hA.sub ((.cons rfl (.cons rfl (.cons rfl (.cons rfl .nil)))))
 refine Ends.seq (Ends.region ?_)
 refine S.val hA (R.move rfl) rfl ?_; clear hA a; intro a hA
 refine S.val hA (R.to (v := .string (bs (hdD ++ wtxt G))) (R.addS rfl rfl (by rw [bs_size]; show 8 + _ ≤ _; omega)) (by rw [show (⟨#[35, 32, 100, 114, 97, 119, 110, 10]⟩ : ByteArray) = bs hdD from rfl, bs_app])) rfl ?_; clear hA a; intro a hA
 refine S.strBytes (s := bs (hdD ++ wtxt G)) hA hM Tryd.underlying9 Tryd.underlying54 Tryd.underlying5 rfl rfl ?_; clear hA hM a; intro b10 w5 c12 hb11 hM a hA
 rw [dB_u8] at hM; obtain ⟨Q, hQ⟩ : ∃ Q, Q = List.replicate (c12 - (bs (hdD ++ wtxt G)).size) (0 : Int) := ⟨_, rfl⟩; rw [← hQ] at hM
 have hsz : (bs (hdD ++ wtxt G)).size = 8 + (wtxt G).length := by rw [bs_size, List.length_append]; rfl
 rw [hsz] at hA
 replace hM : Mem _ _ [bz b10 (toI (dB (wtxt G) 0) ++ Q) 5, pt b8 #[.int .i64 G.kind, .int .i64 G.n, .int .i64 G.cap, .slice ag73 G.wt.length cg73, .slice ag74 G.vl.length cg74, .slice ag75 G.cost.length cg75] 25] _ := hM
 refine S.val hA (R.assign rfl) rfl ?_; clear hA a; intro a hA
 refine S.done ?_
 replace hA : St 91 [(7, _), (8, _), (10, _), (11, _)] a := hA.sub ((.cons rfl (.cons rfl (.cons rfl (.cons rfl .nil)))))
 refine Ends.seq (Ends.seq (Ends.region ?_))
 refine S.val hA (R.assign rfl) rfl ?_; clear hA a; intro a hA
 refine S.done ?_
 refine Ends.block ?_
 refine Ends.loop (σ := Nat) (fun m (a : Act) (wv : World) => St 91 [(7, .pointer (some ⟨b8, 0, none⟩)), (8, .int .i64 0), (10, .int .i64 (chk G)), (11, .slice (some ⟨b10, 0, none⟩) (((8 + (wtxt G).length : Nat))) c12), (12, .int .i64 (((8 + m : Nat) : Int)))] a ∧ Mem w1 nof [bz b10 (toI (dB (wtxt G) m) ++ Q) 5, pt b8 #[.int .i64 G.kind, .int .i64 G.n, .int .i64 G.cap, .slice ag73 G.wt.length cg73, .slice ag74 G.vl.length cg74, .slice ag75 G.cost.length cg75] 25] wv ∧ (m ≤ (wtxt G).length)) (fun m => (wtxt G).length - m) 0 ⟨hA.sub ((.cons rfl (.cons rfl (.cons rfl (.cons rfl (.cons rfl .nil)))))), hM, (Nat.zero_le _)⟩ ?_
 clear hA hM a
 rintro m a w6 ⟨hA, hM, hm⟩ hNext
 refine Ends.seq (Ends.seq (Ends.region ?_))
 refine S.val hA (R.move rfl) rfl ?_; clear hA a; intro a hA
 refine S.val hA (R.move rfl) rfl ?_; clear hA a; intro a hA
 refine S.val hA (R.lenS Tryd.underlying54 rfl rfl) rfl ?_; clear hA a; intro a hA
 refine S.val hA (R.lss rfl rfl) rfl ?_; clear hA a; intro a hA
 refine S.done ?_
 refine Ends.ite hA rfl (fun hc13 => ?_) (fun hc13 => ?_)
 ·
  refine Ends.skip (Ends.seq (Ends.block (Ends.seq ?_)))
  by_cases hs14 : (((wtxt G).getD m 0).toNat : Int) = 32
  ·
   refine Ends.region ?_
   refine S.val hA (R.move rfl) rfl ?_; clear hA a; intro a hA
   refine S.val hA (R.move rfl) rfl ?_; clear hA a; intro a hA
   refine S.val hA (R.indexAddr (q := (8 + m)) sl54 rfl rfl (by omega) (by omega)) rfl ?_; clear hA a; intro a hA
   refine S.val hA (R.to (v := .int .u8 (((wtxt G).getD m 0).toNat : Int)) (R.loadZ (k := 0) hM sz5 rfl rfl (dB_lt (by omega) Q)) (congrArg (Value.int .u8) (dB_getD (by omega) Q))) rfl ?_; clear hA a; intro a hA
   refine S.val hA (R.tt (R.eql rfl rfl) (by omega)) rfl ?_; clear hA a; intro a hA
   refine S.val hA (R.move rfl) rfl ?_; clear hA a; intro a hA
   refine S.no (dj := 52) hA (by kernel_rfl) rfl rfl rfl ?_; clear hA a; intro a hA
   refine S.no (dj := 52) hA (by kernel_rfl) rfl rfl rfl ?_; clear hA a; intro a hA
   refine S.no (dj := 52) hA (by kernel_rfl) rfl rfl rfl ?_; clear hA a; intro a hA
   refine S.no (dj := 52) hA (by kernel_rfl) rfl rfl rfl ?_; clear hA a; intro a hA
   refine S.no (dj := 52) hA (by kernel_rfl) rfl rfl rfl ?_; clear hA a; intro a hA
   refine S.val hA (R.pickT rfl rfl) rfl ?_; clear hA a; intro a hA
   refine S.done ?_
   replace hA : St 91 [(7, _), (8, _), (10, _), (11, _), (12, _), (58, _)] a := hA.sub ((.cons rfl (.cons rfl (.cons rfl (.cons rfl (.cons rfl (.cons rfl .nil)))))))
   refine Ends.condT hA rfl ?_
   refine Ends.region ?_
   refine S.val hA (R.move rfl) rfl ?_; clear hA a; intro a hA
   refine S.val hA (R.move rfl) rfl ?_; clear hA a; intro a hA
   refine S.val hA (R.move rfl) rfl ?_; clear hA a; intro a hA
   refine S.val hA (R.remI rfl rfl rfl (by omega)) rfl ?_; clear hA a; intro a hA
   refine S.val hA (R.to (v := .int .u8 ((sepB (8 + m)).toNat : Int)) (R.idxS Tryd.underlying9 rfl rfl (by show 0 ≤ _ ∧ _ < ((4 : Nat) : Int); omega)) (by rw [← sep_byt]; first | rfl | (congr 2; done) | (congr 2; omega))) rfl ?_; clear hA a; intro a hA
   refine S.val hA (R.indexAddr (q := (8 + m)) sl54 rfl rfl (by omega) (by omega)) rfl ?_; clear hA a; intro a hA
   refine S.storeZ (k := 0) hA hM sz5 rfl rfl rfl (dB_lt (by omega) Q) ?_; clear hM; intro w7 hM
   have hst := dB_on (T := wtxt G) (m := m) (by omega) (by omega) Q
   replace hM : Mem _ _ [bz b10 ((toI (dB (wtxt G) m) ++ Q).set (8 + m) ((sepB (8 + m)).toNat : Int)) 5, pt b8 #[.int .i64 G.kind, .int .i64 G.n, .int .i64 G.cap, .slice ag73 G.wt.length cg73, .slice ag74 G.vl.length cg74, .slice ag75 G.cost.length cg75] 25] _ := hM
   rw [hst] at hM
   replace hM : Mem _ _ [bz b10 (toI (dB (wtxt G) (m + 1)) ++ Q) 5, pt b8 #[.int .i64 G.kind, .int .i64 G.n, .int .i64 G.cap, .slice ag73 G.wt.length cg73, .slice ag74 G.vl.length cg74, .slice ag75 G.cost.length cg75] 25] _ := hM
   refine S.done ?_
   replace hA : St 91 [(7, _), (8, _), (10, _), (11, _), (12, _)] a := hA.sub ((.cons rfl (.cons rfl (.cons rfl (.cons rfl (.cons rfl .nil))))))
   refine Ends.inBlock (Ends.region ?_)
   refine S.val hA (R.move rfl) rfl ?_; clear hA a; intro a hA
   refine S.val hA (R.addI rfl rfl (r := (((8 + m : Nat) : Int)) + 1) rfl (by omega)) rfl ?_; clear hA a; intro a hA
   refine S.val hA (R.assign rfl) rfl ?_; clear hA a; intro a hA
   refine S.done ?_
   replace hM : Mem _ _ [bz b10 (toI (dB (wtxt G) (m + 1)) ++ Q) 5, pt b8 #[.int .i64 G.kind, .int .i64 G.n, .int .i64 G.cap, .slice ag73 G.wt.length cg73, .slice ag74 G.vl.length cg74, .slice ag75 G.cost.length cg75] 25] _ := hM
   exact hNext ((m + 1)) _ _ ((by show (wtxt G).length - (m + 1) < (wtxt G).length - m; omega)) ⟨hA.sub ((.cons rfl (.cons rfl (.cons rfl (.cons rfl (.cons rfl .nil)))))), hM, (by omega)⟩
  ·
   by_cases hs15 : (((wtxt G).getD m 0).toNat : Int) = 10
   ·
    refine Ends.region ?_
    refine S.val hA (R.move rfl) rfl ?_; clear hA a; intro a hA
    refine S.val hA (R.move rfl) rfl ?_; clear hA a; intro a hA
    refine S.val hA (R.indexAddr (q := (8 + m)) sl54 rfl rfl (by omega) (by omega)) rfl ?_; clear hA a; intro a hA
    refine S.val hA (R.to (v := .int .u8 (((wtxt G).getD m 0).toNat : Int)) (R.loadZ (k := 0) hM sz5 rfl rfl (dB_lt (by omega) Q)) (congrArg (Value.int .u8) (dB_getD (by omega) Q))) rfl ?_; clear hA a; intro a hA
    refine S.val hA (R.ff (R.eql rfl rfl) (by omega)) rfl ?_; clear hA a; intro a hA
    refine S.val hA (R.move rfl) rfl ?_; clear hA a; intro a hA
    refine S.valg (dj := 52) hA (by kernel_rfl) rfl (R.move rfl) rfl ?_; clear hA a; intro a hA
    refine S.valg (dj := 52) hA (by kernel_rfl) rfl (R.move rfl) rfl ?_; clear hA a; intro a hA
    refine S.valg (dj := 52) hA (by kernel_rfl) rfl (R.indexAddr (q := (8 + m)) sl54 rfl rfl (by omega) (by omega)) rfl ?_; clear hA a; intro a hA
    refine S.valg (dj := 52) hA (by kernel_rfl) rfl (R.to (v := .int .u8 (((wtxt G).getD m 0).toNat : Int)) (R.loadZ (k := 0) hM sz5 rfl rfl (dB_lt (by omega) Q)) (congrArg (Value.int .u8) (dB_getD (by omega) Q))) rfl ?_; clear hA a; intro a hA
    refine S.valg (dj := 52) hA (by kernel_rfl) rfl (R.tt (R.eql rfl rfl) (by omega)) rfl ?_; clear hA a; intro a hA
    refine S.val hA (R.pickF rfl rfl) rfl ?_; clear hA a; intro a hA
    refine S.done ?_
    replace hA : St 91 [(7, _), (8, _), (10, _), (11, _), (12, _), (58, _)] a := hA.sub ((.cons rfl (.cons rfl (.cons rfl (.cons rfl (.cons rfl (.cons rfl .nil)))))))
    refine Ends.condT hA rfl ?_
    refine Ends.region ?_
    refine S.val hA (R.move rfl) rfl ?_; clear hA a; intro a hA
    refine S.val hA (R.move rfl) rfl ?_; clear hA a; intro a hA
    refine S.val hA (R.move rfl) rfl ?_; clear hA a; intro a hA
    refine S.val hA (R.remI rfl rfl rfl (by omega)) rfl ?_; clear hA a; intro a hA
    refine S.val hA (R.to (v := .int .u8 ((sepB (8 + m)).toNat : Int)) (R.idxS Tryd.underlying9 rfl rfl (by show 0 ≤ _ ∧ _ < ((4 : Nat) : Int); omega)) (by rw [← sep_byt]; first | rfl | (congr 2; done) | (congr 2; omega))) rfl ?_; clear hA a; intro a hA
    refine S.val hA (R.indexAddr (q := (8 + m)) sl54 rfl rfl (by omega) (by omega)) rfl ?_; clear hA a; intro a hA
    refine S.storeZ (k := 0) hA hM sz5 rfl rfl rfl (dB_lt (by omega) Q) ?_; clear hM; intro w8 hM
    have hst := dB_on (T := wtxt G) (m := m) (by omega) (by omega) Q
    replace hM : Mem _ _ [bz b10 ((toI (dB (wtxt G) m) ++ Q).set (8 + m) ((sepB (8 + m)).toNat : Int)) 5, pt b8 #[.int .i64 G.kind, .int .i64 G.n, .int .i64 G.cap, .slice ag73 G.wt.length cg73, .slice ag74 G.vl.length cg74, .slice ag75 G.cost.length cg75] 25] _ := hM
    rw [hst] at hM
    replace hM : Mem _ _ [bz b10 (toI (dB (wtxt G) (m + 1)) ++ Q) 5, pt b8 #[.int .i64 G.kind, .int .i64 G.n, .int .i64 G.cap, .slice ag73 G.wt.length cg73, .slice ag74 G.vl.length cg74, .slice ag75 G.cost.length cg75] 25] _ := hM
    refine S.done ?_
    replace hA : St 91 [(7, _), (8, _), (10, _), (11, _), (12, _)] a := hA.sub ((.cons rfl (.cons rfl (.cons rfl (.cons rfl (.cons rfl .nil))))))
    refine Ends.inBlock (Ends.region ?_)
    refine S.val hA (R.move rfl) rfl ?_; clear hA a; intro a hA
    refine S.val hA (R.addI rfl rfl (r := (((8 + m : Nat) : Int)) + 1) rfl (by omega)) rfl ?_; clear hA a; intro a hA
    refine S.val hA (R.assign rfl) rfl ?_; clear hA a; intro a hA
    refine S.done ?_
    replace hM : Mem _ _ [bz b10 (toI (dB (wtxt G) (m + 1)) ++ Q) 5, pt b8 #[.int .i64 G.kind, .int .i64 G.n, .int .i64 G.cap, .slice ag73 G.wt.length cg73, .slice ag74 G.vl.length cg74, .slice ag75 G.cost.length cg75] 25] _ := hM
    exact hNext ((m + 1)) _ _ ((by show (wtxt G).length - (m + 1) < (wtxt G).length - m; omega)) ⟨hA.sub ((.cons rfl (.cons rfl (.cons rfl (.cons rfl (.cons rfl .nil)))))), hM, (by omega)⟩
   ·
    refine Ends.region ?_
    refine S.val hA (R.move rfl) rfl ?_; clear hA a; intro a hA
    refine S.val hA (R.move rfl) rfl ?_; clear hA a; intro a hA
    refine S.val hA (R.indexAddr (q := (8 + m)) sl54 rfl rfl (by omega) (by omega)) rfl ?_; clear hA a; intro a hA
    refine S.val hA (R.to (v := .int .u8 (((wtxt G).getD m 0).toNat : Int)) (R.loadZ (k := 0) hM sz5 rfl rfl (dB_lt (by omega) Q)) (congrArg (Value.int .u8) (dB_getD (by omega) Q))) rfl ?_; clear hA a; intro a hA
    refine S.val hA (R.ff (R.eql rfl rfl) (by omega)) rfl ?_; clear hA a; intro a hA
    refine S.val hA (R.move rfl) rfl ?_; clear hA a; intro a hA
    refine S.valg (dj := 52) hA (by kernel_rfl) rfl (R.move rfl) rfl ?_; clear hA a; intro a hA
    refine S.valg (dj := 52) hA (by kernel_rfl) rfl (R.move rfl) rfl ?_; clear hA a; intro a hA
    refine S.valg (dj := 52) hA (by kernel_rfl) rfl (R.indexAddr (q := (8 + m)) sl54 rfl rfl (by omega) (by omega)) rfl ?_; clear hA a; intro a hA
    refine S.valg (dj := 52) hA (by kernel_rfl) rfl (R.to (v := .int .u8 (((wtxt G).getD m 0).toNat : Int)) (R.loadZ (k := 0) hM sz5 rfl rfl (dB_lt (by omega) Q)) (congrArg (Value.int .u8) (dB_getD (by omega) Q))) rfl ?_; clear hA a; intro a hA
    refine S.valg (dj := 52) hA (by kernel_rfl) rfl (R.ff (R.eql rfl rfl) (by omega)) rfl ?_; clear hA a; intro a hA
    refine S.val hA (R.pickF rfl rfl) rfl ?_; clear hA a; intro a hA
    refine S.done ?_
    replace hA : St 91 [(7, _), (8, _), (10, _), (11, _), (12, _), (58, _)] a := hA.sub ((.cons rfl (.cons rfl (.cons rfl (.cons rfl (.cons rfl (.cons rfl .nil)))))))
    refine Ends.condF hA rfl ?_
    refine Ends.skip (Ends.inBlock (Ends.region ?_))
    refine S.val hA (R.move rfl) rfl ?_; clear hA a; intro a hA
    refine S.val hA (R.addI rfl rfl (r := (((8 + m : Nat) : Int)) + 1) rfl (by omega)) rfl ?_; clear hA a; intro a hA
    refine S.val hA (R.assign rfl) rfl ?_; clear hA a; intro a hA
    refine S.done ?_
    rw [dB_off (T := wtxt G) (m := m) (by omega) (by omega) (by omega)] at hM
    replace hM : Mem _ _ [bz b10 (toI (dB (wtxt G) (m + 1)) ++ Q) 5, pt b8 #[.int .i64 G.kind, .int .i64 G.n, .int .i64 G.cap, .slice ag73 G.wt.length cg73, .slice ag74 G.vl.length cg74, .slice ag75 G.cost.length cg75] 25] _ := hM
    exact hNext ((m + 1)) _ _ ((by show (wtxt G).length - (m + 1) < (wtxt G).length - m; omega)) ⟨hA.sub ((.cons rfl (.cons rfl (.cons rfl (.cons rfl (.cons rfl .nil)))))), hM, (by omega)⟩
 ·
  have hme : m = (wtxt G).length := by omega
  rw [hme] at hM
  refine Ends.exit rfl ?_
  replace hA : St 91 [(7, _), (8, _), (10, _), (11, _)] a := hA.sub ((.cons rfl (.cons rfl (.cons rfl (.cons rfl .nil)))))
  refine Ends.seq (Ends.region ?_)
  refine S.val hA (R.move rfl) rfl ?_; clear hA a; intro a hA
  refine S.val hA (R.to (v := .string (bs (hdD ++ drw 8 (wtxt G)))) (R.bytesStrZ (k := 0) hM rfl Tryd.underlying54 Tryd.underlying5 Tryd.underlying9 rfl (by rw [List.length_append, toI_len, dB_len (Nat.le_refl _)]; omega)) (by rw [dB_back]; rfl)) rfl ?_; clear hA a; intro a hA
  refine S.val hA (R.to (v := .string (bs ((hdD ++ drw 8 (wtxt G)) ++ [35]))) (R.addS rfl rfl (by rw [bs_size, List.length_append, drw_len]; show 8 + _ + 1 ≤ _; omega)) (by rw [show (⟨#[35]⟩ : ByteArray) = bs [35] from rfl, bs_app])) rfl ?_; clear hA a; intro a hA
  refine S.call hA (R.callF Tryd.func28 rfl rfl rfl) rfl (parse_eq (bs ((hdD ++ drw 8 (wtxt G)) ++ [35])) (by rw [bs_size]; have h9 := drawW_len hzG; omega) G 0 0 (prs_drawW hzG) _ (U8T.below hut (Mem.trans0 hbs hM.nilL))) ?_; clear hA a
  rintro e w9 ⟨ap163, cp163, ap164, cp164, ap165, cp165, rfl, ⟨hp163, hp164, hp165⟩, hb⟩
  replace hM := hM.callB hb; clear hb
  have hbx18 := hM.block (k := 1) rfl
  have hbs := hbs.trans (hM.below.mono hbs.size)
  have hg73 := hg73.mem hM
  have hg74 := hg74.mem hM
  have hg75 := hg75.mem hM
  replace hM := Mem.start w9
  refine ⟨.tuple #[.agg #[.int .i64 G.kind, .int .i64 G.n, .int .i64 G.cap, .slice ap163 G.wt.length cp163, .slice ap164 G.vl.length cp164, .slice ap165 G.cost.length cp165], .int .i64 0, .int .i64 0], rfl, fun a hA => ?_⟩
  refine S.val hA (R.move rfl) rfl ?_; clear hA a; intro a hA
  refine S.val hA (R.extract (v := .agg #[.int .i64 G.kind, .int .i64 G.n, .int .i64 G.cap, .slice ap163 G.wt.length cp163, .slice ap164 G.vl.length cp164, .slice ap165 G.cost.length cp165]) rfl rfl) rfl ?_; clear hA a; intro a hA
  refine S.val hA (R.extract (v := .int .i64 0) rfl rfl) rfl ?_; clear hA a; intro a hA
  refine S.val hA (R.extract (v := .int .i64 0) rfl rfl) rfl ?_; clear hA a; intro a hA
  refine S.alloc hA hM info25 rfl rfl ?_; clear hA hM a; intro b19 w10 hb20 hM a hA
  replace hM : Mem _ _ [pt b19 cz0 25] _ := hM
  refine S.storeA (k := 0) hA hM sz25 rfl rfl rfl rfl rfl rfl ?_; clear hM
  intro w11 hM
  replace hM : Mem _ _ [pt b19 #[.int .i64 G.kind, .int .i64 G.n, .int .i64 G.cap, .slice ap163 G.wt.length cp163, .slice ap164 G.vl.length cp164, .slice ap165 G.cost.length cp165] 25] _ := hM
  refine S.val hA (R.assign rfl) rfl ?_; clear hA a; intro a hA
  refine S.val hA (R.assign rfl) rfl ?_; clear hA a; intro a hA
  refine S.done ?_
  replace hA : St 91 [(7, _), (8, _), (10, _), (13, _), (15, _)] a := hA.sub ((.cons rfl (.cons rfl (.cons rfl (.cons rfl (.cons rfl .nil))))))
  refine Ends.seq (Ends.region ?_)
  refine S.call hA (R.callF Tryd.func31 rfl rfl rfl) rfl (stands_any _) ?_; clear hA a
  rintro e w12 ⟨rfl, rfl⟩
  refine ⟨.bool true, rfl, fun a hA => ?_⟩
  refine S.val hA (R.move rfl) rfl ?_; clear hA a; intro a hA
  refine S.valg (dj := 74) hA (by kernel_rfl) rfl (R.move rfl) rfl ?_; clear hA a; intro a hA
  refine S.valg (dj := 74) hA (by kernel_rfl) rfl (R.tt (R.eql rfl rfl) (by first | decide | simp | omega)) rfl ?_; clear hA a; intro a hA
  refine S.val hA (R.pickT rfl rfl) rfl ?_; clear hA a; intro a hA
  refine S.val hA (R.move rfl) rfl ?_; clear hA a; intro a hA
  refine S.valg (dj := 78) hA (by kernel_rfl) rfl (R.move rfl) rfl ?_; clear hA a; intro a hA
  refine S.valg (dj := 78) hA (by kernel_rfl) rfl (R.tt (R.eql rfl rfl) (hzG)) rfl ?_; clear hA a; intro a hA
  refine S.val hA (R.pickT rfl rfl) rfl ?_; clear hA a; intro a hA
  refine S.val hA (R.move rfl) rfl ?_; clear hA a; intro a hA
  refine S.valg (dj := 82) hA (by kernel_rfl) rfl (R.move rfl) rfl ?_; clear hA a; intro a hA
  refine S.valg (dj := 82) hA (by kernel_rfl) rfl (R.tt (R.eql rfl rfl) (by first | decide | simp | omega)) rfl ?_; clear hA a; intro a hA
  refine S.val hA (R.pickT rfl rfl) rfl ?_; clear hA a; intro a hA
  refine S.val hA (R.move rfl) rfl ?_; clear hA a; intro a hA
  refine S.valg (dj := 86) hA (by kernel_rfl) rfl (R.loadA sz25 rfl (hM.oldRange hbx18) rfl) rfl ?_; clear hA a; intro a hA
  refine S.valg (dj := 86) hA (by kernel_rfl) rfl (R.loadA sz25 rfl (hM.range (k := 0) rfl) rfl) rfl ?_; clear hA a; intro a hA
  refine S.callg (dj := 86) hA (by kernel_rfl) rfl (R.callF Tryd.func26 rfl rfl rfl) rfl (iSame_eqK G ag73 cg73 ag74 cg74 ag75 cg75 ap163 cp163 ap164 cp164 ap165 cp165 _ (hg73.mem hM) (hg74.mem hM) (hg75.mem hM) (hp163.mem hM) (hp164.mem hM) (hp165.mem hM)) ?_; clear hA a
  rintro e w13 ⟨rfl, hb⟩
  replace hM := hM.callB hb; clear hb
  refine ⟨.bool true, rfl, fun a hA => ?_⟩
  refine S.val hA (R.pickT rfl rfl) rfl ?_; clear hA a; intro a hA
  refine S.val hA (R.assign rfl) rfl ?_; clear hA a; intro a hA
  refine S.done ?_
  replace hA : St 91 [(6, _)] a := hA.sub ((.cons rfl .nil))
  refine Ends.ret1 Tryd.func15 Tryd.results15 hA rfl ?_
  exact ⟨rfl, Mem.trans0 hbs hM.nilL⟩
theorem kurganDrawn_any (n0 n1 n2 : Int) (_h0 : (Lit.int .i64 n0).wf = true) (_h1 : (Lit.int .i64 n1).wf = true) (_h2 : (Lit.int .u64 n2).wf = true) (w : World) (htab : Lib.TabIs Tryd.prog w "internal/strconv.uint64pow10" .u64 Lib.pow10Tab) (hut : U8T w) : Calls Tryd.prog 15 #[.int .i64 n0, .int .i64 n1, .int .u64 n2] w fun e w' => e = .returned (.bool true) ∧ Below w.heap.size w w' := kurganDrawn_w n0 n1 n2 w htab hut
end Go.Proofs.YtakfcekfmdjklaaDoor
