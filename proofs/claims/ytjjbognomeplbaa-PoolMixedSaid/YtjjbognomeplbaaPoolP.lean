/-
  The acts of package pool in plain numbers: what a step makes of an act, of the worker's own slots and of the cells.
-/
import Derived.Test.YtjjbognomeplbaaPacks
namespace Go.Proofs.Ytjjbognomeplbaa

structure PAct where
  give : Bool
  slot : Int
  ph : Int
  top : Int
  next : Int
structure PSt where
  t : PAct
  Y : List Int
  l : List Int
  s : Int
def atI (x : Int) : Int := x % 4294967296 - 1
def upI (x p : Int) : Int := packI (x / 4294967296 % 1073741824 + 1) p
/-- A step. -/
def pstep (bs : Int) (z : PSt) : PSt :=
  if z.t.ph = 0 then
    if z.t.give = true ∧ z.Y.length < 2 then ⟨{ z.t with ph := 3 }, z.Y ++ [z.t.slot], z.l, z.s⟩
    else if z.t.give = false ∧ 0 < z.Y.length then ⟨{ z.t with ph := 3, slot := z.Y.getD (z.Y.length - 1) 0 }, z.Y.take (z.Y.length - 1), z.l, z.s⟩
    else ⟨{ z.t with top := z.l.getD bs.toNat 0, ph := if z.t.give = false ∧ atI (z.l.getD bs.toNat 0) < 0 then 3 else 1 }, z.Y, z.l, z.s + 1⟩
  else if z.t.ph = 1 then
    if z.t.give = true then ⟨{ z.t with ph := 2 }, z.Y, z.l.set (bs + 1 + z.t.slot).toNat (atI z.t.top), z.s + 1⟩
    else ⟨{ z.t with ph := 2, next := z.l.getD (bs + 1 + atI z.t.top).toNat 0 }, z.Y, z.l, z.s + 1⟩
  else if z.t.ph = 2 then
    if z.l.getD bs.toNat 0 = z.t.top then ⟨{ z.t with ph := 3, slot := if z.t.give = true then z.t.slot else atI z.t.top }, z.Y, z.l.set bs.toNat (upI z.t.top (if z.t.give = true then z.t.slot else z.t.next)), z.s + 1⟩
    else ⟨{ z.t with ph := 0 }, z.Y, z.l, z.s + 1⟩
  else z
def TopOK (n x : Int) : Prop := 0 ≤ x ∧ x < 4611686018427387904 ∧ atI x < n
def MI (bs n : Int) (l : List Int) : Prop :=
  0 ≤ bs ∧ 1 ≤ n ∧ n ≤ 4096 ∧ bs + n + 1 ≤ l.length ∧ l.length ≤ 1000000 ∧ TopOK n (l.getD bs.toNat 0) ∧ ∀ j : Int, 0 ≤ j → j < n → -1 ≤ l.getD (bs + 1 + j).toNat 0 ∧ l.getD (bs + 1 + j).toNat 0 < n
def AOK (n : Int) (t : PAct) : Prop :=
  (t.give = true → 0 ≤ t.slot ∧ t.slot < n) ∧ (t.ph = 0 ∨ t.ph = 1 ∨ t.ph = 2 ∨ t.ph = 3) ∧ (t.ph = 1 ∨ t.ph = 2 → TopOK n t.top ∧ (t.give = false → 0 ≤ atI t.top)) ∧ (t.ph = 2 → t.give = false → -1 ≤ t.next ∧ t.next < n)
def YOK (n : Int) (Y : List Int) : Prop := ∀ y ∈ Y, 0 ≤ y ∧ y < n
def SOK (bs n : Int) (z : PSt) : Prop := MI bs n z.l ∧ AOK n z.t ∧ YOK n z.Y ∧ z.Y.length ≤ 2 ∧ 0 ≤ z.s

theorem atI_low (x : Int) : -1 ≤ atI x := by unfold atI; omega
theorem upI_ok {n x p : Int} (hn : n ≤ 4096) (h : -1 ≤ p ∧ p < n) : TopOK n (upI x p) ∧ atI (upI x p) = p := by
  have hp : plc p = p := by
    by_cases h0 : 0 ≤ p
    · exact plc_in (by omega)
    · rw [plc_out (by omega)]; omega
  have h1 := packI_p (x / 4294967296 % 1073741824 + 1) p
  have h2 := packI_bd (x / 4294967296 % 1073741824 + 1) p
  have h3 : atI (upI x p) = p := by
    unfold atI upI; rw [h1, hp]
  refine ⟨⟨h2.1, h2.2, by omega⟩, h3⟩
theorem getD_set_ne (l : List Int) (i j : Nat) (v : Int) (h : i ≠ j) : (l.set i v).getD j 0 = l.getD j 0 := by
  rw [List.getD_eq_getElem?_getD, List.getElem?_set_ne h, ← List.getD_eq_getElem?_getD]
theorem getD_set_at (l : List Int) (i : Nat) (v : Int) (h : i < l.length) : (l.set i v).getD i 0 = v := by
  rw [List.getD_eq_getElem?_getD, List.getElem?_set_self h]; rfl
theorem set_getD (l : List Int) (i : Nat) (h : i < l.length) : l.set i (l.getD i 0) = l := by
  apply List.ext_getElem?
  intro j
  by_cases e : i = j
  · subst e; rw [List.getElem?_set_self h, List.getD_eq_getElem?_getD, List.getElem?_eq_getElem h]; rfl
  · rw [List.getElem?_set_ne e]
theorem mi_link {bs n : Int} {l : List Int} (h : MI bs n l) {i v : Int} (hi : 0 ≤ i ∧ i < n) (hv : -1 ≤ v ∧ v < n) : MI bs n (l.set (bs + 1 + i).toNat v) := by
  obtain ⟨h1, h2, h3, h4, h5, h6, h7⟩ := h
  refine ⟨h1, h2, h3, by rw [List.length_set]; exact h4, by rw [List.length_set]; exact h5, ?_, fun j hj hjn => ?_⟩
  · rw [getD_set_ne _ _ _ _ (by omega)]; exact h6
  · by_cases e : i = j
    · subst e; rw [getD_set_at _ _ _ (by omega)]; exact hv
    · rw [getD_set_ne _ _ _ _ (by omega)]; exact h7 j hj hjn
theorem mi_top {bs n : Int} {l : List Int} (h : MI bs n l) {v : Int} (hv : TopOK n v) : MI bs n (l.set bs.toNat v) := by
  obtain ⟨h1, h2, h3, h4, h5, h6, h7⟩ := h
  refine ⟨h1, h2, h3, by rw [List.length_set]; exact h4, by rw [List.length_set]; exact h5, ?_, fun j hj hjn => ?_⟩
  · rw [getD_set_at _ _ _ (by omega)]; exact hv
  · rw [getD_set_ne _ _ _ _ (by omega)]; exact h7 j hj hjn

section
variable {bs n : Int} {t : PAct} {Y l : List Int} {s : Int}
theorem pstep_keep (h : t.ph = 0) (hg : t.give = true) (hY : Y.length < 2) : pstep bs ⟨t, Y, l, s⟩ = ⟨{ t with ph := 3 }, Y ++ [t.slot], l, s⟩ := by
  simp only [pstep]; rw [if_pos h, if_pos ⟨hg, hY⟩]
theorem pstep_own (h : t.ph = 0) (hg : t.give = false) (hY : 0 < Y.length) : pstep bs ⟨t, Y, l, s⟩ = ⟨{ t with ph := 3, slot := Y.getD (Y.length - 1) 0 }, Y.take (Y.length - 1), l, s⟩ := by
  simp only [pstep]; rw [if_pos h, if_neg (by simp [hg]), if_pos ⟨hg, hY⟩]
theorem pstep_none (h : t.ph = 0) (hg : t.give = false) (hY : Y = []) (ht : atI (l.getD bs.toNat 0) < 0) : pstep bs ⟨t, Y, l, s⟩ = ⟨{ t with top := l.getD bs.toNat 0, ph := 3 }, Y, l, s + 1⟩ := by
  simp only [pstep]; rw [if_pos h, if_neg (by simp [hg]), if_neg (by simp [hY]), if_pos ⟨hg, ht⟩]
theorem pstep_some (h : t.ph = 0) (hg : t.give = false) (hY : Y = []) (ht : 0 ≤ atI (l.getD bs.toNat 0)) : pstep bs ⟨t, Y, l, s⟩ = ⟨{ t with top := l.getD bs.toNat 0, ph := 1 }, Y, l, s + 1⟩ := by
  simp only [pstep]; rw [if_pos h, if_neg (by simp [hg]), if_neg (by simp [hY]), if_neg (by omega)]
theorem pstep_full (h : t.ph = 0) (hg : t.give = true) (hY : 2 ≤ Y.length) : pstep bs ⟨t, Y, l, s⟩ = ⟨{ t with top := l.getD bs.toNat 0, ph := 1 }, Y, l, s + 1⟩ := by
  simp only [pstep]; rw [if_pos h, if_neg (by omega), if_neg (by simp [hg]), if_neg (by simp [hg])]
theorem pstep_link (h : t.ph = 1) (hg : t.give = true) : pstep bs ⟨t, Y, l, s⟩ = ⟨{ t with ph := 2 }, Y, l.set (bs + 1 + t.slot).toNat (atI t.top), s + 1⟩ := by
  simp only [pstep]; rw [if_neg (by omega), if_pos h, if_pos hg]
theorem pstep_next (h : t.ph = 1) (hg : t.give = false) : pstep bs ⟨t, Y, l, s⟩ = ⟨{ t with ph := 2, next := l.getD (bs + 1 + atI t.top).toNat 0 }, Y, l, s + 1⟩ := by
  simp only [pstep]; rw [if_neg (by omega), if_pos h, if_neg (by simp [hg])]
theorem pstep_push (h : t.ph = 2) (hg : t.give = true) (hh : l.getD bs.toNat 0 = t.top) : pstep bs ⟨t, Y, l, s⟩ = ⟨{ t with ph := 3 }, Y, l.set bs.toNat (upI t.top t.slot), s + 1⟩ := by
  simp only [pstep]; rw [if_neg (by omega), if_neg (by omega), if_pos h, if_pos hh, if_pos hg, if_pos hg]
theorem pstep_pop (h : t.ph = 2) (hg : t.give = false) (hh : l.getD bs.toNat 0 = t.top) : pstep bs ⟨t, Y, l, s⟩ = ⟨{ t with ph := 3, slot := atI t.top }, Y, l.set bs.toNat (upI t.top t.next), s + 1⟩ := by
  simp only [pstep]; rw [if_neg (by omega), if_neg (by omega), if_pos h, if_pos hh, if_neg (by simp [hg]), if_neg (by simp [hg])]
theorem pstep_miss (h : t.ph = 2) (hh : l.getD bs.toNat 0 ≠ t.top) : pstep bs ⟨t, Y, l, s⟩ = ⟨{ t with ph := 0 }, Y, l, s + 1⟩ := by
  simp only [pstep]; rw [if_neg (by omega), if_neg (by omega), if_pos h, if_neg hh]
theorem pstep_over (h : t.ph = 3) : pstep bs ⟨t, Y, l, s⟩ = ⟨t, Y, l, s⟩ := by
  simp only [pstep]; rw [if_neg (by omega), if_neg (by omega), if_neg (by omega)]
/-- What a step may be. -/
inductive PCase (bs : Int) (t : PAct) (Y l : List Int) : Prop
  | keep (h : t.ph = 0) (hg : t.give = true) (hY : Y.length < 2)
  | own (h : t.ph = 0) (hg : t.give = false) (hY : 0 < Y.length)
  | none (h : t.ph = 0) (hg : t.give = false) (hY : Y = []) (ht : atI (l.getD bs.toNat 0) < 0)
  | some (h : t.ph = 0) (hg : t.give = false) (hY : Y = []) (ht : 0 ≤ atI (l.getD bs.toNat 0))
  | full (h : t.ph = 0) (hg : t.give = true) (hY : 2 ≤ Y.length)
  | link (h : t.ph = 1) (hg : t.give = true)
  | next (h : t.ph = 1) (hg : t.give = false)
  | push (h : t.ph = 2) (hg : t.give = true) (hh : l.getD bs.toNat 0 = t.top)
  | pop (h : t.ph = 2) (hg : t.give = false) (hh : l.getD bs.toNat 0 = t.top)
  | miss (h : t.ph = 2) (hh : l.getD bs.toNat 0 ≠ t.top)
  | over (h : t.ph = 3)
theorem pcase (h : AOK n t) (bs : Int) (Y l : List Int) : PCase bs t Y l := by
  rcases h.2.1 with h | h | h | h
  · cases hg : t.give with
    | true =>
      by_cases hY : Y.length < 2
      · exact .keep h hg hY
      · exact .full h hg (by omega)
    | false =>
      by_cases hY : Y = []
      · by_cases ht : atI (l.getD bs.toNat 0) < 0
        · exact .none h hg hY ht
        · exact .some h hg hY (by omega)
      · exact .own h hg (List.length_pos_iff.2 hY)
  · cases hg : t.give with
    | true => exact .link h hg
    | false => exact .next h hg
  · by_cases hh : l.getD bs.toNat 0 = t.top
    · cases hg : t.give with
      | true => exact .push h hg hh
      | false => exact .pop h hg hh
    · exact .miss h hh
  · exact .over h
theorem sok_step (h : SOK bs n ⟨t, Y, l, s⟩) : SOK bs n (pstep bs ⟨t, Y, l, s⟩) := by
  obtain ⟨hm, ha, hy, hy2, hs⟩ := h
  have ha0 : AOK n t := ha
  obtain ⟨ha1, ha2, ha3, ha4⟩ := ha
  simp only at hm ha1 ha2 ha3 ha4 hy hy2 hs
  rcases pcase ha0 bs Y l with ⟨h, hg, hY⟩ | ⟨h, hg, hY⟩ | ⟨h, hg, hY, ht⟩ | ⟨h, hg, hY, ht⟩ | ⟨h, hg, hY⟩ | ⟨h, hg⟩ | ⟨h, hg⟩ | ⟨h, hg, hh⟩ | ⟨h, hg, hh⟩ | ⟨h, hh⟩ | ⟨h⟩
  · rw [pstep_keep h hg hY]
    refine ⟨hm, ⟨ha1, by simp, by simp, by simp⟩, fun y hy' => ?_, by simp; omega, hs⟩
    rcases List.mem_append.1 hy' with h' | h'
    · exact hy y h'
    · obtain rfl : y = t.slot := by simpa using h'
      exact ha1 hg
  · rw [pstep_own h hg hY]
    refine ⟨hm, ⟨by simp [hg], by simp, by simp, by simp⟩, fun y hy' => hy y (List.mem_of_mem_take hy'), by simp; omega, hs⟩
  · rw [pstep_none h hg hY ht]
    exact ⟨hm, ⟨ha1, by simp, by simp, by simp⟩, hy, hy2, by simp; omega⟩
  · rw [pstep_some h hg hY ht]
    exact ⟨hm, ⟨ha1, by simp, fun _ => ⟨hm.2.2.2.2.2.1, fun _ => ht⟩, by simp⟩, hy, hy2, by simp; omega⟩
  · rw [pstep_full h hg hY]
    exact ⟨hm, ⟨ha1, by simp, fun _ => ⟨hm.2.2.2.2.2.1, fun h0 => by simp [hg] at h0⟩, by simp⟩, hy, hy2, by simp; omega⟩
  · rw [pstep_link h hg]
    have h3 := ha3 (.inl h)
    exact ⟨mi_link hm (ha1 hg) ⟨atI_low _, h3.1.2.2⟩, ⟨ha1, by simp, fun _ => h3, fun _ h0 => by simp [hg] at h0⟩, hy, hy2, by simp; omega⟩
  · rw [pstep_next h hg]
    have h3 := ha3 (.inl h)
    have h4 := hm.2.2.2.2.2.2 (atI t.top) (h3.2 hg) h3.1.2.2
    exact ⟨hm, ⟨ha1, by simp, fun _ => h3, fun _ _ => h4⟩, hy, hy2, by simp; omega⟩
  · rw [pstep_push h hg hh]
    have h1 := ha1 hg
    exact ⟨mi_top hm (upI_ok hm.2.2.1 ⟨by omega, h1.2⟩).1, ⟨ha1, by simp, by simp, by simp⟩, hy, hy2, by simp; omega⟩
  · rw [pstep_pop h hg hh]
    have h4 := ha4 h hg
    exact ⟨mi_top hm (upI_ok hm.2.2.1 h4).1, ⟨by simp [hg], by simp, by simp, by simp⟩, hy, hy2, by simp; omega⟩
  · rw [pstep_miss h hh]
    exact ⟨hm, ⟨ha1, by simp, by simp, by simp⟩, hy, hy2, by simp; omega⟩
  · rw [pstep_over h]
    exact ⟨hm, ⟨ha1, ha2, ha3, ha4⟩, hy, hy2, hs⟩
end
/-- Steps until it is over, five at most: how many, and what is then. -/
def prun (bs : Int) : Nat → PSt → Int × PSt
  | 0, z => (-1, z)
  | f + 1, z => if z.t.ph = 3 then (4 - f, z) else prun bs f (pstep bs z)
theorem prun_hit {bs : Int} {z : PSt} {j : Nat} (h : z.t.ph = 3) (hj : j ≤ 4) : prun bs (5 - j) z = ((j : Int), z) := by
  obtain ⟨f, hf⟩ : ∃ f, 5 - j = f + 1 := ⟨4 - j, by omega⟩
  rw [hf]
  simp only [prun]
  rw [if_pos h]
  congr 1
  omega
theorem prun_on {bs : Int} {z : PSt} {j : Nat} (h : ¬ z.t.ph = 3) (hj : j ≤ 4) : prun bs (5 - j) z = prun bs (5 - (j + 1)) (pstep bs z) := by
  obtain ⟨f, hf⟩ : ∃ f, 5 - j = f + 1 := ⟨4 - j, by omega⟩
  have h2 : 5 - (j + 1) = f := by omega
  rw [hf, h2]
  simp only [prun]
  rw [if_neg h]
theorem pstep_s (bs : Int) (z : PSt) : z.s ≤ (pstep bs z).s ∧ (pstep bs z).s ≤ z.s + 1 := by
  unfold pstep
  repeat' split
  all_goals first | omega | (simp only; omega)
theorem sok_steps {bs n : Int} {z : PSt} (h : SOK bs n z) : SOK bs n (pstep bs z) := sok_step h
theorem sok_run {bs n : Int} : ∀ (f : Nat) {z : PSt}, SOK bs n z → SOK bs n (prun bs f z).2
  | 0, _, h => h
  | f + 1, z, h => by
    simp only [prun]
    split
    · exact h
    · exact sok_run f (sok_steps h)
theorem aok_take (n s a b : Int) : AOK n ⟨false, s, 0, a, b⟩ := ⟨(fun h => nomatch h), .inl rfl, (fun h => by simp at h), (fun h => by simp at h)⟩
theorem aok_give {n j : Int} (h : 0 ≤ j ∧ j < n) (a b : Int) : AOK n ⟨true, j, 0, a, b⟩ := ⟨fun _ => h, .inl rfl, (fun h => by simp at h), (fun h => by simp at h)⟩
end Go.Proofs.Ytjjbognomeplbaa
