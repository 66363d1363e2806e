/-
  Pools in plain numbers: the stack as a list, who holds what, and what a step of one of several acts leaves true.
-/
import Derived.Test.YtjjbognomeplbaaPoolP
namespace Go.Proofs.Ytjjbognomeplbaa

/-- From a place on the cells lead through a list. -/
def Chn (bs : Int) (l : List Int) : Int → List Int → Prop
  | p, [] => p = -1
  | p, x :: r => p = x ∧ 0 ≤ x ∧ Chn bs l (l.getD (bs + 1 + x).toNat 0) r
/-- F are just the slots that nobody holds. -/
def Held (n : Int) (H F : List Int) : Prop := (H.length : Int) = n ∧ F.Nodup ∧ (∀ x ∈ F, 0 ≤ x ∧ x < n) ∧ ∀ j : Int, 0 ≤ j → j < n → (j ∈ F ↔ H.getD j.toNat 0 = -1)
def verI (x : Int) : Int := x / 4294967296
def ActI (bs n : Int) (l H : List Int) (j : Nat) (t : PAct) : Prop :=
  AOK n t ∧ t.ph ≠ 3 ∧ (t.give = true → H.getD t.slot.toNat 0 = j) ∧ (t.ph = 1 ∨ t.ph = 2 → t.top = l.getD bs.toNat 0 ∨ verI t.top < verI (l.getD bs.toNat 0)) ∧
    (t.ph = 2 → t.give = false → t.top = l.getD bs.toNat 0 → t.next = l.getD (bs + 1 + atI t.top).toNat 0) ∧ (t.ph = 2 → t.give = true → l.getD (bs + 1 + t.slot).toNat 0 = atI t.top)
structure GI (bs n V : Int) (l H xs : List Int) (ys : List (List Int)) (ac : List (Option PAct)) : Prop where
  mi : MI bs n l
  chn : Chn bs l (atI (l.getD bs.toNat 0)) xs
  held : Held n H (ys.flatten ++ xs)
  own : ∀ y ∈ ys, y.length ≤ 2
  acts : ∀ (j : Nat) (t : PAct), ac[j]? = some (some t) → ActI bs n l H j t
  ver : verI (l.getD bs.toNat 0) ≤ V

theorem chn_top {bs : Int} (hb : 0 ≤ bs) {l : List Int} (v : Int) : ∀ {xs : List Int} {p : Int}, Chn bs l p xs → Chn bs (l.set bs.toNat v) p xs
  | [], _, h => h
  | x :: r, p, h => ⟨h.1, h.2.1, by have := h.2.1; rw [getD_set_ne _ _ _ _ (by omega)]; exact chn_top hb v h.2.2⟩
theorem chn_link {bs : Int} (hb : 0 ≤ bs) {l : List Int} (s v : Int) (hs : 0 ≤ s) : ∀ {xs : List Int} {p : Int}, Chn bs l p xs → s ∉ xs → Chn bs (l.set (bs + 1 + s).toNat v) p xs
  | [], _, h, _ => h
  | x :: r, p, h, hn => ⟨h.1, h.2.1, by
      have h0 := h.2.1
      have h1 : s ≠ x := fun e => hn (by rw [e]; exact List.mem_cons_self ..)
      rw [getD_set_ne _ _ _ _ (by omega)]; exact chn_link hb s v hs h.2.2 (fun e => hn (List.mem_cons_of_mem _ e))⟩
theorem chn_pos {bs : Int} {l xs : List Int} {p : Int} (h : Chn bs l p xs) (hp : 0 ≤ p) : ∃ r, xs = p :: r ∧ Chn bs l (l.getD (bs + 1 + p).toNat 0) r := by
  cases xs with
  | nil => have : p = -1 := h; omega
  | cons x r => obtain ⟨rfl, h1, h2⟩ := h; exact ⟨r, rfl, h2⟩
theorem chn_neg {bs : Int} {l xs : List Int} {p : Int} (h : Chn bs l p xs) (hp : p < 0) : xs = [] := by
  cases xs with
  | nil => rfl
  | cons x r => obtain ⟨rfl, h1, h2⟩ := h; omega
theorem verI_up {x p : Int} (h : 0 ≤ verI x ∧ verI x < 1073741823) : verI (upI x p) = verI x + 1 := by
  unfold verI at *
  unfold upI
  rw [packI_v]
  omega
theorem Held.perm {n : Int} {H F F' : List Int} (h : Held n H F) (hp : F.Perm F') : Held n H F' :=
  ⟨h.1, hp.nodup_iff.1 h.2.1, fun x hx => h.2.2.1 x (hp.mem_iff.2 hx), fun j h0 h1 => by rw [← hp.mem_iff]; exact h.2.2.2 j h0 h1⟩
theorem Held.take {n s v : Int} {H F F' : List Int} (h : Held n H F) (hp : F.Perm (s :: F')) (hv : v ≠ -1) : 0 ≤ s ∧ s < n ∧ H.getD s.toNat 0 = -1 ∧ Held n (H.set s.toNat v) F' := by
  have h1 := h.perm hp
  have hs := h1.2.2.1 s (List.mem_cons_self ..)
  have hl := h1.1
  have hnd := List.nodup_cons.1 h1.2.1
  refine ⟨hs.1, hs.2, (h1.2.2.2 s hs.1 hs.2).1 (List.mem_cons_self ..), by rw [List.length_set]; exact hl, hnd.2, fun x hx => h1.2.2.1 x (List.mem_cons_of_mem _ hx), fun j h0 hj => ?_⟩
  by_cases e : j = s
  · subst e
    rw [getD_set_at _ _ _ (by omega)]
    exact ⟨fun hm => absurd hm hnd.1, fun hm => absurd hm hv⟩
  · rw [getD_set_ne _ _ _ _ (by omega), ← h1.2.2.2 j h0 hj]
    exact ⟨fun hm => List.mem_cons_of_mem _ hm, fun hm => (List.mem_cons.1 hm).resolve_left e⟩
theorem Held.give {n s : Int} {H F F' : List Int} (h : Held n H F) (hp : F'.Perm (s :: F)) (hs : 0 ≤ s ∧ s < n) (hv : H.getD s.toNat 0 ≠ -1) : Held n (H.set s.toNat (-1)) F' := by
  have hl := h.1
  have hnot : s ∉ F := fun hm => hv ((h.2.2.2 s hs.1 hs.2).1 hm)
  refine Held.perm ?_ hp.symm
  refine ⟨by rw [List.length_set]; exact hl, List.nodup_cons.2 ⟨hnot, h.2.1⟩, fun x hx => ?_, fun j h0 hj => ?_⟩
  · rcases List.mem_cons.1 hx with rfl | hx
    · exact hs
    · exact h.2.2.1 x hx
  · by_cases e : j = s
    · subst e
      rw [getD_set_at _ _ _ (by omega)]
      exact ⟨fun _ => rfl, fun _ => List.mem_cons_self ..⟩
    · rw [getD_set_ne _ _ _ _ (by omega), ← h.2.2.2 j h0 hj]
      exact ⟨fun hm => (List.mem_cons.1 hm).resolve_left e, fun hm => List.mem_cons_of_mem _ hm⟩
theorem flat_set : ∀ {ys : List (List Int)} {k : Nat} {y : List Int}, ys[k]? = some y → ∀ y' : List Int, ∃ A B, ys.flatten = A ++ (y ++ B) ∧ (ys.set k y').flatten = A ++ (y' ++ B)
  | [], _, _, h, _ => by simp at h
  | z :: ys, 0, y, h, y' => by
    have e : z = y := by simpa using h
    subst e
    exact ⟨[], ys.flatten, by simp, by simp⟩
  | z :: ys, k + 1, y, h, y' => by
    obtain ⟨A, B, h1, h2⟩ := flat_set (ys := ys) (k := k) (y := y) (by simpa using h) y'
    exact ⟨z ++ A, B, by simp [h1], by simp [h2]⟩
theorem set_self {α : Type} {l : List α} {k : Nat} {x : α} (h : l[k]? = some x) : l.set k x = l := by
  obtain ⟨h1, h2⟩ := List.getElem?_eq_some_iff.1 h
  rw [← h2]; exact List.set_getElem_self h1
section
variable {bs n V : Int} {l H xs : List Int} {ys : List (List Int)} {ac : List (Option PAct)} {k : Nat} {t : PAct} {Y : List Int}
/-- The acts of others, when the cells and the holders have turned. -/
theorem acts_keep (h : GI bs n V l H xs ys ac) {l' H' : List Int} {x : Option PAct} (hk : ∀ t', x = some t' → ActI bs n l' H' k t')
    (ho : ∀ j t, j ≠ k → ActI bs n l H j t → ActI bs n l' H' j t) : ∀ (j : Nat) (t : PAct), (ac.set k x)[j]? = some (some t) → ActI bs n l' H' j t := by
  intro j t hj
  rw [List.getElem?_set] at hj
  split at hj
  · rename_i e
    subst e
    split at hj
    · exact hk t (by simpa using hj)
    · cases hj
  · rename_i e
    exact ho j t (fun e' => e e'.symm) (h.acts j t hj)
/-- A giver's slot is in nobody's list. -/
theorem gi_out (h : GI bs n V l H xs ys ac) (ha : ActI bs n l H k t) (hg : t.give = true) : t.slot ∉ ys.flatten ++ xs := by
  intro hm
  have hs := ha.1.1 hg
  have := (h.held.2.2.2 t.slot hs.1 hs.2).1 hm
  have h2 := ha.2.2.1 hg
  omega
theorem keep_link (h : GI bs n V l H xs ys ac) (ha : ActI bs n l H k t) (hg : t.give = true) (v : Int) : ∀ j u, j ≠ k → ActI bs n l H j u → ActI bs n (l.set (bs + 1 + t.slot).toNat v) H j u := by
  intro j u hj ⟨u1, u2, u3, u4, u5, u6⟩
  have hb := h.mi.1
  have hs := ha.1.1 hg
  have hout := gi_out h ha hg
  have htop : (l.set (bs + 1 + t.slot).toNat v).getD bs.toNat 0 = l.getD bs.toNat 0 := getD_set_ne _ _ _ _ (by omega)
  refine ⟨u1, u2, u3, by rw [htop]; exact u4, fun h2 hg2 ht => ?_, fun h2 hg2 => ?_⟩
  · rw [htop] at ht
    have h0 := (u1.2.2.1 (.inr h2)).2 hg2
    obtain ⟨r, hr, -⟩ := chn_pos h.chn (by rw [← ht]; exact h0)
    have hne : t.slot ≠ atI u.top := fun e => hout (by rw [hr, ← ht, ← e]; simp)
    rw [getD_set_ne _ _ _ _ (by omega)]
    exact u5 h2 hg2 ht
  · have hs2 := u1.1 hg2
    have e2 := u3 hg2
    have e1 := ha.2.2.1 hg
    have hne : t.slot ≠ u.slot := fun e => hj (by rw [e] at e1; omega)
    rw [getD_set_ne _ _ _ _ (by omega)]
    exact u6 h2 hg2
theorem keep_top (h : GI bs n V l H xs ys ac) (hV : V < 1073741823) {p : Int} : ∀ (j : Nat) (u : PAct), ActI bs n l H j u → ActI bs n (l.set bs.toNat (upI (l.getD bs.toNat 0) p)) H j u := by
  intro j u ⟨u1, u2, u3, u4, u5, u6⟩
  have hm := h.mi
  obtain ⟨hb, hn1, hn2, hl, hl2, ht0, -⟩ := hm
  have hv := h.ver
  have hv0 : 0 ≤ verI (l.getD bs.toNat 0) := by have := ht0.1; unfold verI; omega
  have hup := verI_up (x := l.getD bs.toNat 0) (p := p) ⟨hv0, by omega⟩
  have htop : (l.set bs.toNat (upI (l.getD bs.toNat 0) p)).getD bs.toNat 0 = upI (l.getD bs.toNat 0) p := getD_set_at _ _ _ (by omega)
  have hlt : u.ph = 1 ∨ u.ph = 2 → verI u.top < verI (upI (l.getD bs.toNat 0) p) := fun hp => by
    rw [hup]
    rcases u4 hp with e | e
    · rw [e]; omega
    · omega
  refine ⟨u1, u2, u3, fun hp => .inr (by rw [htop]; exact hlt hp), fun h2 hg2 ht => ?_, fun h2 hg2 => ?_⟩
  · rw [htop] at ht
    have := hlt (.inr h2)
    rw [ht] at this; omega
  · have hs2 := u1.1 hg2
    rw [getD_set_ne _ _ _ _ (by omega)]
    exact u6 h2 hg2
theorem keep_held {s v : Int} {l : List Int} (hs : 0 ≤ s) (hh : ∀ j : Nat, j ≠ k → H.getD s.toNat 0 ≠ j) : ∀ j u, j ≠ k → ActI bs n l H j u → ActI bs n l (H.set s.toNat v) j u := by
  intro j u hj ⟨u1, u2, u3, u4⟩
  refine ⟨u1, u2, fun hg => ?_, u4⟩
  have h2 := u3 hg
  have hs2 := u1.1 hg
  have hne : s ≠ u.slot := fun e => hh j hj (by rw [e]; exact h2)
  rw [getD_set_ne _ _ _ _ (by omega)]
  exact h2
/-- What a step of one act leaves. -/
inductive POut (bs n V : Int) (H : List Int) (ys : List (List Int)) (ac : List (Option PAct)) (k : Nat) (g : Bool) (slot : Int) (z : PSt) : Prop
  | on (xs : List Int) (h : GI bs n V z.l H xs (ys.set k z.Y) (ac.set k (some z.t))) (h3 : z.t.ph ≠ 3) (hg : z.t.give = g) (hs : z.t.slot = slot)
  | gave (xs : List Int) (hg : g = true) (h3 : z.t.ph = 3) (hs : z.t.slot = slot) (h : GI bs n (V + 1) z.l (H.set slot.toNat (-1)) xs (ys.set k z.Y) (ac.set k none))
  | empty (hg : g = false) (h3 : z.t.ph = 3) (hs : z.t.slot = slot) (hY : z.Y = []) (h : GI bs n V z.l H [] (ys.set k z.Y) (ac.set k none))
  | took (xs : List Int) (hg : g = false) (h3 : z.t.ph = 3) (hs : 0 ≤ z.t.slot ∧ z.t.slot < n) (hh : H.getD z.t.slot.toNat 0 = -1) (h : GI bs n (V + 1) z.l (H.set z.t.slot.toNat k) xs (ys.set k z.Y) (ac.set k none))
theorem gi_step (h : GI bs n V l H xs ys ac) (hV : V < 1073741823) (hk : ac[k]? = some (some t)) (hY : ys[k]? = some Y) (s : Int) : POut bs n V H ys ac k t.give t.slot (pstep bs ⟨t, Y, l, s⟩) := by
  have ha := h.acts k t hk
  have ha' := ha
  obtain ⟨a1, a2, a3, a4, a5, a6⟩ := ha'
  have hm := h.mi
  obtain ⟨hb, hn1, hn2, hl, hl2, ht0, hlk⟩ := h.mi
  have hYm : Y ∈ ys := List.mem_of_getElem? hY
  have hYl := h.own Y hYm
  have hYs : ys.set k Y = ys := set_self hY
  have hown : ∀ y', y'.length ≤ 2 → ∀ y ∈ ys.set k y', y.length ≤ 2 := fun y' hy' y hy => by
    rcases List.mem_or_eq_of_mem_set hy with h1 | h1
    · exact h.own y h1
    · rw [h1]; exact hy'
  have hv0 : 0 ≤ verI (l.getD bs.toNat 0) := by have := ht0.1; unfold verI; omega
  have hv := h.ver
  rcases pcase a1 bs Y l with ⟨h0, hg, hc⟩ | ⟨h0, hg, hc⟩ | ⟨h0, hg, hc, ht⟩ | ⟨h0, hg, hc, ht⟩ | ⟨h0, hg, hc⟩ | ⟨h0, hg⟩ | ⟨h0, hg⟩ | ⟨h0, hg, hh⟩ | ⟨h0, hg, hh⟩ | ⟨h0, hh⟩ | ⟨h0⟩
  · rw [pstep_keep h0 hg hc]
    have hs := a1.1 hg
    have e3 := a3 hg
    refine .gave xs hg rfl rfl ⟨hm, h.chn, ?_, hown _ (by simp; omega), acts_keep h (fun t' ht' => nomatch ht') (keep_held hs.1 (fun j hj e => hj (by omega))), by show _ ≤ _; simp only; omega⟩
    obtain ⟨A, B, h1, h2⟩ := flat_set hY (Y ++ [t.slot])
    refine h.held.give ?_ hs (by rw [e3]; omega)
    simp only
    rw [h1, h2]
    refine List.perm_iff_count.2 fun c => ?_
    simp [List.count_append, List.count_cons]; omega
  · rw [pstep_own h0 hg hc]
    obtain ⟨A, B, h1, h2⟩ := flat_set hY (Y.take (Y.length - 1))
    have hYe : Y = Y.take (Y.length - 1) ++ [Y.getD (Y.length - 1) 0] := by
      conv => lhs; rw [← List.take_append_drop (Y.length - 1) Y]
      rw [List.drop_eq_getElem_cons (by omega), List.getD_eq_getElem?_getD, List.getElem?_eq_getElem (by omega), show Y.length - 1 + 1 = Y.length by omega, List.drop_length]
      rfl
    have hp : (ys.flatten ++ xs).Perm (Y.getD (Y.length - 1) 0 :: ((ys.set k (Y.take (Y.length - 1))).flatten ++ xs)) := by
      rw [h1, h2]
      conv => lhs; rw [hYe]
      refine List.perm_iff_count.2 fun c => ?_
      simp only [List.count_append, List.count_cons, List.count_nil]; omega
    obtain ⟨g1, g2, g3, g4⟩ := h.held.take hp (v := (k : Int)) (by omega)
    exact .took xs hg rfl ⟨g1, g2⟩ g3 ⟨hm, h.chn, g4, hown _ (by simp; omega), acts_keep h (fun t' ht' => nomatch ht') (keep_held g1 (fun j hj e => by have := g3.symm.trans e; omega)), by simp only; omega⟩
  · rw [pstep_none h0 hg hc ht]
    have hx := chn_neg h.chn ht
    subst hx
    exact .empty hg rfl rfl hc ⟨hm, h.chn, by rw [hYs]; exact h.held, by rw [hYs]; exact h.own, acts_keep h (fun t' ht' => nomatch ht') (fun j u _ hu => hu), hv⟩
  · rw [pstep_some h0 hg hc ht]
    refine .on xs ⟨hm, h.chn, by rw [hYs]; exact h.held, by rw [hYs]; exact h.own, acts_keep h (fun t' ht' => ?_) (fun j u _ hu => hu), hv⟩ (by simp) rfl rfl
    obtain rfl := Option.some.inj ht'
    exact ⟨⟨a1.1, by simp, fun _ => ⟨ht0, fun _ => ht⟩, by simp⟩, by simp, a3, fun _ => .inl rfl, by simp, by simp⟩
  · rw [pstep_full h0 hg hc]
    refine .on xs ⟨hm, h.chn, by rw [hYs]; exact h.held, by rw [hYs]; exact h.own, acts_keep h (fun t' ht' => ?_) (fun j u _ hu => hu), hv⟩ (by simp) rfl rfl
    obtain rfl := Option.some.inj ht'
    exact ⟨⟨a1.1, by simp, fun _ => ⟨ht0, fun h1 => by rw [hg] at h1; cases h1⟩, by simp⟩, by simp, a3, fun _ => .inl rfl, by simp, by simp⟩
  · rw [pstep_link h0 hg]
    have hs := a1.1 hg
    have htp := a1.2.2.1 (.inl h0)
    have htop : (l.set (bs + 1 + t.slot).toNat (atI t.top)).getD bs.toNat 0 = l.getD bs.toNat 0 := getD_set_ne _ _ _ _ (by omega)
    have hout := gi_out h ha hg
    refine .on xs ⟨mi_link hm hs ⟨atI_low _, htp.1.2.2⟩, by simp only; rw [htop]; exact chn_link hb _ _ hs.1 h.chn (fun e => hout (List.mem_append_right _ e)), by rw [hYs]; exact h.held, by rw [hYs]; exact h.own, acts_keep h (fun t' ht' => ?_) (keep_link h ha hg _), by simp only; rw [htop]; exact hv⟩ (by simp) rfl rfl
    obtain rfl := Option.some.inj ht'
    refine ⟨⟨a1.1, by simp, fun _ => htp, fun _ h1 => by rw [hg] at h1; cases h1⟩, by simp, a3, fun _ => by rw [htop]; exact a4 (.inl h0), fun _ h1 => (by rw [hg] at h1; cases h1), fun _ _ => ?_⟩
    exact getD_set_at _ _ _ (by omega)
  · rw [pstep_next h0 hg]
    have htp := a1.2.2.1 (.inl h0)
    refine .on xs ⟨hm, h.chn, by rw [hYs]; exact h.held, by rw [hYs]; exact h.own, acts_keep h (fun t' ht' => ?_) (fun j u _ hu => hu), hv⟩ (by simp) rfl rfl
    obtain rfl := Option.some.inj ht'
    exact ⟨⟨a1.1, by simp, fun _ => htp, fun _ _ => hlk _ (htp.2 hg) htp.1.2.2⟩, by simp, a3, fun _ => a4 (.inl h0), fun _ _ _ => rfl, fun _ h1 => by rw [hg] at h1; cases h1⟩
  · rw [pstep_push h0 hg hh]
    have hs := a1.1 hg
    have e3 := a3 hg
    have hup := upI_ok (x := t.top) hn2 (p := t.slot) ⟨by omega, hs.2⟩
    have hver := verI_up (x := l.getD bs.toNat 0) (p := t.slot) ⟨hv0, by omega⟩
    have htop : (l.set bs.toNat (upI t.top t.slot)).getD bs.toNat 0 = upI t.top t.slot := getD_set_at _ _ _ (by omega)
    refine .gave (t.slot :: xs) hg rfl rfl ⟨mi_top hm hup.1, ?_, ?_, by rw [hYs]; exact h.own, acts_keep h (fun t' ht' => nomatch ht') (fun j u hj hu => ?_), ?_⟩
    · simp only
      rw [htop, hup.2]
      refine ⟨rfl, hs.1, ?_⟩
      rw [getD_set_ne _ _ _ _ (by omega), a6 h0 hg, ← hh]
      exact chn_top hb _ h.chn
    · rw [hYs]
      refine h.held.give ?_ hs (by rw [e3]; omega)
      exact List.perm_middle
    · simp only
      rw [← hh]
      exact keep_held hs.1 (fun j hj e => hj (by omega)) j u hj (keep_top h hV j u hu)
    · simp only
      rw [htop, ← hh, hver]; omega
  · rw [pstep_pop h0 hg hh]
    have htp := a1.2.2.1 (.inr h0)
    have hp0 := htp.2 hg
    have hnx := a1.2.2.2 h0 hg
    have hup := upI_ok (x := t.top) hn2 (p := t.next) hnx
    have hver := verI_up (x := l.getD bs.toNat 0) (p := t.next) ⟨hv0, by omega⟩
    have htop : (l.set bs.toNat (upI t.top t.next)).getD bs.toNat 0 = upI t.top t.next := getD_set_at _ _ _ (by omega)
    obtain ⟨r, hr, hcr⟩ := chn_pos h.chn (by rw [hh]; exact hp0)
    rw [hh] at hr hcr
    have hperm : (ys.flatten ++ xs).Perm (atI t.top :: (ys.flatten ++ r)) := by rw [hr]; exact List.perm_middle
    obtain ⟨g1, g2, g3, g4⟩ := h.held.take hperm (v := (k : Int)) (by omega)
    refine .took r hg rfl ⟨g1, g2⟩ g3 ⟨mi_top hm hup.1, ?_, by rw [hYs]; exact g4, by rw [hYs]; exact h.own, acts_keep h (fun t' ht' => nomatch ht') (fun j u hj hu => ?_), ?_⟩
    · simp only
      rw [htop, hup.2, a5 h0 hg hh.symm]
      exact chn_top hb _ hcr
    · simp only
      rw [← hh] at g1 g3 ⊢
      exact keep_held g1 (fun j hj e => by omega) j u hj (keep_top h hV j u hu)
    · simp only
      rw [htop, ← hh, hver]; omega
  · rw [pstep_miss h0 hh]
    refine .on xs ⟨hm, h.chn, by rw [hYs]; exact h.held, by rw [hYs]; exact h.own, acts_keep h (fun t' ht' => ?_) (fun j u _ hu => hu), hv⟩ (by simp) rfl rfl
    obtain rfl := Option.some.inj ht'
    exact ⟨⟨a1.1, by simp, by simp, by simp⟩, by simp, a3, by simp, by simp, by simp⟩
  · exact absurd h0 a2
theorem gi_sok (h : GI bs n V l H xs ys ac) (hk : ac[k]? = some (some t)) (hY : ys[k]? = some Y) {s : Int} (hs : 0 ≤ s) : SOK bs n ⟨t, Y, l, s⟩ := by
  refine ⟨h.mi, (h.acts k t hk).1, fun y hy => ?_, h.own Y (List.mem_of_getElem? hY), hs⟩
  exact h.held.2.2.1 y (List.mem_append_left _ (List.mem_flatten.2 ⟨Y, List.mem_of_getElem? hY, hy⟩))
theorem gi_begin (h : GI bs n V l H xs ys ac) (ha : ActI bs n l H k t) : GI bs n V l H xs ys (ac.set k (some t)) :=
  ⟨h.mi, h.chn, h.held, h.own, acts_keep h (fun t' ht' => by obtain rfl := Option.some.inj ht'; exact ha) (fun _ _ _ hu => hu), h.ver⟩
theorem acti_take (bs n : Int) (l H : List Int) (k : Nat) : ActI bs n l H k ⟨false, -1, 0, 0, 0⟩ :=
  ⟨aok_take _ _ _ _, by simp, by simp, by simp, by simp, by simp⟩
theorem acti_give {bs n : Int} {l H : List Int} {k : Nat} {j : Int} (hj : 0 ≤ j ∧ j < n) (hh : H.getD j.toNat 0 = k) : ActI bs n l H k ⟨true, j, 0, 0, 0⟩ :=
  ⟨aok_give hj _ _, by simp, fun _ => hh, by simp, by simp, by simp⟩
/-- How far the end is, for one that is alone. -/
def rnk (bs : Int) (z : PSt) : Nat :=
  if z.t.ph = 3 then 0 else if z.t.ph = 2 then (if z.l.getD bs.toNat 0 = z.t.top then 1 else 4) else if z.t.ph = 1 then (if z.l.getD bs.toNat 0 = z.t.top then 2 else 5) else 3
theorem rnk_step {s : Int} (h : SOK bs n ⟨t, Y, l, s⟩) (h3 : t.ph ≠ 3) : rnk bs (pstep bs ⟨t, Y, l, s⟩) < rnk bs ⟨t, Y, l, s⟩ := by
  obtain ⟨hm, ha, -, -, -⟩ := h
  have ha0 : AOK n t := ha
  have hm0 : MI bs n l := hm
  obtain ⟨hb, hn1, hn2, hl, hl2, ht0, hlk⟩ := hm0
  rcases pcase ha0 bs Y l with ⟨h0, hg, hc⟩ | ⟨h0, hg, hc⟩ | ⟨h0, hg, hc, ht⟩ | ⟨h0, hg, hc, ht⟩ | ⟨h0, hg, hc⟩ | ⟨h0, hg⟩ | ⟨h0, hg⟩ | ⟨h0, hg, hh⟩ | ⟨h0, hg, hh⟩ | ⟨h0, hh⟩ | ⟨h0⟩
  · rw [pstep_keep h0 hg hc]; simp [rnk, h0]
  · rw [pstep_own h0 hg hc]; simp [rnk, h0]
  · rw [pstep_none h0 hg hc ht]; simp [rnk, h0]
  · rw [pstep_some h0 hg hc ht]; simp [rnk, h0]
  · rw [pstep_full h0 hg hc]; simp [rnk, h0]
  · rw [pstep_link h0 hg]
    have hs := ha0.1 hg
    have htop : (l.set (bs + 1 + t.slot).toNat (atI t.top)).getD bs.toNat 0 = l.getD bs.toNat 0 := getD_set_ne _ _ _ _ (by omega)
    simp only [rnk, h0, htop]
    simp
    split <;> omega
  · rw [pstep_next h0 hg]
    simp [rnk, h0]
    split <;> omega
  · rw [pstep_push h0 hg hh]
    simp [rnk, h0]
    split <;> omega
  · rw [pstep_pop h0 hg hh]
    simp [rnk, h0]
    split <;> omega
  · rw [pstep_miss h0 hh]
    simp only [rnk, h0]
    simp
    rw [if_neg (by simpa using hh)]
    omega
  · exact absurd h0 h3
theorem rnk_le (bs : Int) (z : PSt) : rnk bs z ≤ 5 := by
  unfold rnk
  repeat' split
  all_goals omega
theorem rnk_0 {bs : Int} {z : PSt} (h : rnk bs z = 0) : z.t.ph = 3 := by
  unfold rnk at h
  split at h
  · assumption
  · repeat' split at h
    all_goals omega
/-- What an act that is alone has done in the end. -/
inductive PEnd (bs n V : Int) (H : List Int) (ys : List (List Int)) (ac : List (Option PAct)) (k : Nat) (g : Bool) (slot : Int) (z : PSt) : Prop
  | gave (xs : List Int) (hg : g = true) (h3 : z.t.ph = 3) (hs : z.t.slot = slot) (h : GI bs n (V + 1) z.l (H.set slot.toNat (-1)) xs (ys.set k z.Y) (ac.set k none))
  | empty (hg : g = false) (h3 : z.t.ph = 3) (hs : z.t.slot = slot) (hY : z.Y = []) (h : GI bs n (V + 1) z.l H [] (ys.set k z.Y) (ac.set k none))
  | took (xs : List Int) (hg : g = false) (h3 : z.t.ph = 3) (hs : 0 ≤ z.t.slot ∧ z.t.slot < n) (hh : H.getD z.t.slot.toNat 0 = -1) (h : GI bs n (V + 1) z.l (H.set z.t.slot.toNat k) xs (ys.set k z.Y) (ac.set k none))
theorem GI.more (h : GI bs n V l H xs ys ac) {V' : Int} (hv : V ≤ V') : GI bs n V' l H xs ys ac := ⟨h.mi, h.chn, h.held, h.own, h.acts, by have := h.ver; omega⟩
theorem prun_over {z : PSt} (h : z.t.ph = 3) : ∀ f, (prun bs f z).2 = z
  | 0 => rfl
  | f + 1 => by simp only [prun]; rw [if_pos h]
theorem run_out : ∀ (f : Nat) {V : Int} {l H xs : List Int} {ys : List (List Int)} {ac : List (Option PAct)} {t : PAct} {Y : List Int} (s : Int), GI bs n V l H xs ys ac → V < 1073741823 → 0 ≤ s → ac[k]? = some (some t) → ys[k]? = some Y → rnk bs ⟨t, Y, l, s⟩ ≤ f →
    PEnd bs n V H ys ac k t.give t.slot (prun bs f ⟨t, Y, l, s⟩).2
  | f, V, l, H, xs, ys, ac, t, Y, s, h, hV, hs, hk, hY, hr => by
    have h3 := (h.acts k t hk).2.1
    have hs1 := (pstep_s bs ⟨t, Y, l, s⟩).1
    simp only at hs1
    have hrs := rnk_step (gi_sok h hk hY hs) h3
    match f with
    | 0 => omega
    | f + 1 =>
      simp only [prun]
      rw [if_neg h3]
      have hkl : k < ac.length := (List.getElem?_eq_some_iff.1 hk).1
      have hyl : k < ys.length := (List.getElem?_eq_some_iff.1 hY).1
      rcases gi_step h hV hk hY s with ⟨xs', h', g3, hg, hsl⟩ | ⟨xs', hg, g3, hsl, h'⟩ | ⟨hg, g3, hsl, hYe, h'⟩ | ⟨xs', hg, g3, hsl, hh, h'⟩
      · generalize pstep bs ⟨t, Y, l, s⟩ = z at *
        obtain ⟨t', Y', l', s'⟩ := z
        simp only at hs1 h'
        have hr' : rnk bs ⟨t', Y', l', s'⟩ ≤ f := by omega
        have := run_out f s' h' hV (by omega) (List.getElem?_set_self hkl) (List.getElem?_set_self hyl) hr'
        simp only at hg hsl g3
        rw [hg] at this
        rcases this with ⟨x2, q1, q2, q3, q4⟩ | ⟨q1, q2, q3, q4, q5⟩ | ⟨x2, q1, q2, q3, q4, q5⟩
        · rw [hsl] at q3 q4
          simp only [List.set_set] at q4
          exact .gave x2 q1 q2 q3 q4
        · simp only [List.set_set] at q5
          exact .empty q1 q2 (q3.trans hsl) q4 q5
        · simp only [List.set_set] at q5
          exact .took x2 q1 q2 q3 q4 q5
      · rw [prun_over g3]
        exact .gave xs' hg g3 hsl h'
      · rw [prun_over g3]
        exact .empty hg g3 hsl hYe (h'.more (by omega))
      · rw [prun_over g3]
        exact .took xs' hg g3 hsl hh h'
theorem run_pos : ∀ (f : Nat) {z : PSt}, SOK bs n z → rnk bs z ≤ f → f ≤ 4 → 0 ≤ (prun bs (f + 1) z).1
  | f, z, h, hr, hf => by
    simp only [prun]
    by_cases h3 : z.t.ph = 3
    · rw [if_pos h3]; simp only; omega
    · rw [if_neg h3]
      have hrs := rnk_step (t := z.t) (Y := z.Y) (l := z.l) (s := z.s) h h3
      match f with
      | 0 => have : rnk bs z ≠ 0 := fun e => h3 (rnk_0 e); omega
      | f + 1 => exact run_pos f (sok_steps h) (by have : rnk bs (pstep bs z) < rnk bs z := hrs; omega) (by omega)
end

/-! ### counts -/
def cntL (N : Nat) (F : List Int) : List Int := (List.range N).map (fun (s : Nat) => ((F.count (Int.ofNat s) : Nat) : Int))
theorem cntL_len (N : Nat) (F : List Int) : (cntL N F).length = N := by simp [cntL]
theorem cntL_nil (N : Nat) : cntL N [] = List.replicate N 0 := by
  apply List.ext_getElem
  · simp [cntL]
  · intro i h1 h2; simp [cntL]
theorem cntL_at (N : Nat) (F : List Int) (s : Nat) (h : s < N) : (cntL N F).getD s 0 = (F.count (s : Int) : Nat) := by
  simp [cntL, List.getD_eq_getElem?_getD, h]
theorem cntL_snoc (N : Nat) (F : List Int) (x : Int) (h : 0 ≤ x ∧ x < N) : cntL N (F ++ [x]) = (cntL N F).set x.toNat ((cntL N F).getD x.toNat 0 + 1) := by
  apply List.ext_getElem
  · simp [cntL]
  · intro i h1 h2
    have hi : i < N := by simpa [cntL] using h1
    rw [List.getElem_set]
    split
    · rename_i e
      subst e
      rw [cntL_at _ _ _ (by omega), show ((x.toNat : Nat) : Int) = x from Int.toNat_of_nonneg h.1]
      simp only [cntL, List.getElem_map, List.getElem_range, List.count_append, List.count_cons, List.count_nil]
      rw [show Int.ofNat x.toNat = x from Int.toNat_of_nonneg h.1]
      simp
    · rename_i e
      simp only [cntL, List.getElem_map, List.getElem_range, List.count_append, List.count_cons, List.count_nil]
      rw [if_neg (by simp; omega)]
      simp
theorem cntL_take (N : Nat) (A Y : List Int) (b : Nat) (hb : b < Y.length) (h : 0 ≤ Y.getD b 0 ∧ Y.getD b 0 < N) : (cntL N (A ++ Y.take b)).set (Y.getD b 0).toNat ((cntL N (A ++ Y.take b)).getD (Y.getD b 0).toNat 0 + 1) = cntL N (A ++ Y.take (b + 1)) := by
  have e : Y[b] = Y.getD b 0 := by rw [List.getD_eq_getElem?_getD, List.getElem?_eq_getElem hb]; rfl
  rw [List.take_succ_eq_append_getElem hb, ← List.append_assoc, e, cntL_snoc _ _ _ h]
theorem getD_mem (Y : List Int) (b : Nat) (hb : b < Y.length) : Y.getD b 0 ∈ Y := by
  rw [List.getD_eq_getElem?_getD, List.getElem?_eq_getElem hb]; exact List.getElem_mem hb
theorem cntL_one {N : Nat} {A F : List Int} (h : F.Nodup) (hs : A.Sublist F) (s : Nat) (hN : s < N) : 0 ≤ (cntL N A).getD s 0 ∧ (cntL N A).getD s 0 ≤ 1 := by
  rw [cntL_at _ _ _ hN, (h.sublist hs).count]
  split <;> simp
theorem held_cnt {n : Int} {H F : List Int} (h : Held n H F) (s : Nat) (hs : (s : Int) < n) : (H.getD s 0 = -1 → (cntL n.toNat F).getD s 0 = 1) ∧ (H.getD s 0 ≠ -1 → (cntL n.toNat F).getD s 0 = 0) := by
  have h4 := h.2.2.2 (s : Int) (by omega) hs
  rw [cntL_at _ _ _ (by omega)]
  have e : ((s : Int)).toNat = s := by omega
  rw [e] at h4
  refine ⟨fun g => ?_, fun g => ?_⟩
  · have := h4.2 g
    rw [h.2.1.count, if_pos this]; rfl
  · have : (s : Int) ∉ F := fun m => g (h4.1 m)
    rw [List.count_eq_zero.2 this]; rfl
theorem held_no {n : Int} {H : List Int} (h : Held n H []) : H.count (-1) = 0 := by
  refine List.count_eq_zero.2 fun hm => ?_
  obtain ⟨i, hi, he⟩ := List.getElem_of_mem hm
  have hl := h.1
  have := (h.2.2.2 (i : Int) (by omega) (by omega)).2 (by rw [show ((i : Int)).toNat = i by omega, List.getD_eq_getElem?_getD, List.getElem?_eq_getElem hi]; exact he)
  cases this
theorem cnt_pos {H : List Int} {s : Nat} (h : H.getD s 0 = -1) : 0 < H.count (-1) := by
  refine List.count_pos_iff.2 ?_
  rw [List.getD_eq_getElem?_getD] at h
  by_cases hs : s < H.length
  · rw [List.getElem?_eq_getElem hs] at h
    have e : H[s] = -1 := h
    rw [← e]; exact List.getElem_mem hs
  · rw [List.getElem?_eq_none (by omega)] at h; cases h
theorem cnt_take {H : List Int} {s : Nat} {v : Int} (h : H.getD s 0 = -1) (hv : v ≠ -1) : (H.set s v).count (-1) + 1 = H.count (-1) := by
  have h0 := cnt_pos h
  have hs : s < H.length := by
    rw [List.getD_eq_getElem?_getD] at h
    by_cases hs : s < H.length
    · exact hs
    · rw [List.getElem?_eq_none (by omega)] at h; cases h
  rw [List.getD_eq_getElem?_getD, List.getElem?_eq_getElem hs] at h
  have e : H[s] = -1 := h
  rw [List.count_set hs, e]
  simp [hv]
  omega
theorem cnt_give {H : List Int} {s : Nat} (hs : s < H.length) (h : H.getD s 0 ≠ -1) : (H.set s (-1)).count (-1) = H.count (-1) + 1 := by
  rw [List.getD_eq_getElem?_getD, List.getElem?_eq_getElem hs] at h
  have e : H[s] ≠ -1 := h
  rw [List.count_set hs]
  simp [e]
section
variable {bs n V slot : Int} {H Y : List Int} {t : PAct} {z : PSt}
theorem alone_take (h : PEnd bs n V H [Y] [some t] 0 false slot z) (hc : 0 < H.count (-1)) : ∃ xs, z.t.ph = 3 ∧ (0 ≤ z.t.slot ∧ z.t.slot < n) ∧ H.getD z.t.slot.toNat 0 = -1 ∧ GI bs n (V + 1) z.l (H.set z.t.slot.toNat 0) xs [z.Y] [none] := by
  rcases h with ⟨xs, hg, -⟩ | ⟨hg, h3, hs, hY, h⟩ | ⟨xs, hg, h3, hs, hh, h⟩
  · cases hg
  · have h1 : Held n H ([z.Y].flatten ++ []) := h.held
    rw [hY] at h1
    have := held_no h1
    omega
  · exact ⟨xs, h3, hs, hh, h⟩
theorem alone_none (h : PEnd bs n V H [Y] [some t] 0 false slot z) (hc : H.count (-1) = 0) : z.t.ph = 3 ∧ z.t.slot = slot ∧ GI bs n (V + 1) z.l H [] [z.Y] [none] := by
  rcases h with ⟨xs, hg, -⟩ | ⟨hg, h3, hs, hY, h⟩ | ⟨xs, hg, h3, hs, hh, h⟩
  · cases hg
  · exact ⟨h3, hs, h⟩
  · have := cnt_pos hh
    omega
theorem alone_give (h : PEnd bs n V H [Y] [some t] 0 true slot z) : ∃ xs, z.t.ph = 3 ∧ z.t.slot = slot ∧ GI bs n (V + 1) z.l (H.set slot.toNat (-1)) xs [z.Y] [none] := by
  rcases h with ⟨xs, hg, h3, hs, h⟩ | ⟨hg, -⟩ | ⟨xs, hg, -⟩
  · exact ⟨xs, h3, hs, h⟩
  · cases hg
  · cases hg
end

def Two (H : List Int) : Prop := ∀ j, j < H.length → H.getD j 0 = -1 ∨ H.getD j 0 = 0
theorem two_set {H : List Int} (h : Two H) (i : Nat) {v : Int} (hv : v = -1 ∨ v = 0) : Two (H.set i v) := by
  intro j hj
  rw [List.length_set] at hj
  by_cases e : i = j
  · subst e; rw [getD_set_at _ _ _ hj]; exact hv
  · rw [getD_set_ne _ _ _ _ e]; exact h j hj
theorem two_new (N : Nat) : Two (List.replicate N (-1)) := by
  intro j hj
  left
  rw [List.length_replicate] at hj
  rw [List.getD_eq_getElem?_getD, List.getElem?_replicate, if_pos hj]; rfl
theorem cnt_new (N : Nat) : (List.replicate N (-1) : List Int).count (-1) = N := by simp
theorem ex_held {H : List Int} (h : H.count (-1) < H.length) : ∃ j, j < H.length ∧ H.getD j 0 ≠ -1 := by
  apply Classical.byContradiction
  intro hno
  have : H.count (-1) = H.length := by
    refine List.count_eq_length.2 fun b hb => ?_
    obtain ⟨i, hi, rfl⟩ := List.getElem_of_mem hb
    apply Classical.byContradiction
    intro hne
    exact hno ⟨i, hi, by rw [List.getD_eq_getElem?_getD, List.getElem?_eq_getElem hi]; exact fun e => hne e.symm⟩
  omega
def dist (N j d : Nat) : Nat := if d ≤ j then j - d else j + N - d
theorem dist_dec {n : Int} {j d d2 : Nat} (hj : (j : Int) < n) (hd : (d : Int) < n) (hne : d ≠ j) (h : (d2 : Int) = ((d : Int) + 1) % n) : dist n.toNat j d2 < dist n.toNat j d ∧ (d2 : Int) < n := by
  have h1 := Int.emod_lt_of_pos ((d : Int) + 1) (show 0 < n by omega)
  refine ⟨?_, by omega⟩
  unfold dist
  by_cases e : (d : Int) + 1 = n
  · rw [e, Int.emod_self] at h
    repeat' split
    all_goals omega
  · rw [Int.emod_eq_of_lt (by omega) (by omega)] at h
    repeat' split
    all_goals omega
theorem nodup_len : ∀ (N : Nat) (F : List Int), F.Nodup → (∀ x ∈ F, 0 ≤ x ∧ x < N) → F.length ≤ N
  | 0, F, _, h => by
    cases F with
    | nil => exact Nat.le_refl _
    | cons x r => have := h x (List.mem_cons_self ..); omega
  | N + 1, F, hn, h => by
    have h1 := nodup_len N (F.erase (N : Int)) (hn.erase _) (fun x hx => by
      have h2 := (hn.mem_erase_iff).1 hx
      have h3 := h x h2.2
      have h4 := h2.1
      omega)
    by_cases hm : (N : Int) ∈ F
    · rw [List.length_erase_of_mem hm] at h1; omega
    · rw [List.erase_of_not_mem hm] at h1; omega
theorem held_len {n : Int} {H F : List Int} (hn : 0 ≤ n) (h : Held n H F) : F.length ≤ n.toNat := nodup_len _ _ h.2.1 (fun x hx => by have := h.2.2.1 x hx; omega)
end Go.Proofs.Ytjjbognomeplbaa
