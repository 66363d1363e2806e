/-
  Tokens of one text in another text, with other blanks between. It holds of every program; nothing is assumed.
-/
import Derived.Test.YtdbbigjoloinpaaDoorLex2
namespace Go.Proofs.YtdbbigjoloinpaaDoor
open Go.RowKit
theorem byt_l {x y : ByteArray} {j : Nat} (h : j < x.size) : byt (x ++ y) j = byt x j := by
  have h2 : j < (x ++ y).size := by rw [ByteArray.size_append]; omega
  rw [← byt_at h2, ← byt_at h, ByteArray.getElem_append_left h]
theorem byt_r {x y : ByteArray} {j : Nat} (h : j < y.size) : byt (x ++ y) (x.size + j) = byt y j := by
  have h2 : x.size + j < (x ++ y).size := by rw [ByteArray.size_append]; omega
  rw [← byt_at h2, ← byt_at h, ByteArray.getElem_append_right (Nat.le_add_right _ _)]
  congr 2
  simp
theorem ba_ext {x y : ByteArray} (h : x.size = y.size) (hb : ∀ j, j < x.size → byt x j = byt y j) : x = y :=
  ByteArray.ext_getElem h fun j h1 h2 => UInt8.toNat.inj (by have := hb j h1; rw [← byt_at h1, ← byt_at h2] at this; omega)
theorem kb_byt {s u : ByteArray} {p q : Nat} (h1 : p < s.size) (h2 : q < u.size) (h : byt u q = byt s p) : kb u q = kb s p := by
  rw [kb_in h1, kb_in h2, h]
theorem kb_r {x y : ByteArray} {j : Nat} : kb (x ++ y) (x.size + j) = kb y j := by
  by_cases h : j < y.size
  · exact kb_byt h (by rw [ByteArray.size_append]; omega) (byt_r h)
  · rw [kb_out h, kb_out (by rw [ByteArray.size_append]; omega)]
/-! ### a scan that goes on -/
def Going (u : ByteArray) (p : Nat) (X : List Tok) (q : Nat) (Y : List Tok) : Prop := ∀ f, u.size ≤ p + f → ∃ f', u.size ≤ q + f' ∧ scF u f p X = scF u f' q Y
theorem Going.refl (u : ByteArray) (p : Nat) (X : List Tok) : Going u p X p X := fun f h => ⟨f, h, rfl⟩
theorem Going.trans {u : ByteArray} {p q r : Nat} {X Y Z : List Tok} (h1 : Going u p X q Y) (h2 : Going u q Y r Z) : Going u p X r Z := fun f h => by
  obtain ⟨f1, g1, e1⟩ := h1 f h
  obtain ⟨f2, g2, e2⟩ := h2 f1 g1
  exact ⟨f2, g2, e1.trans e2⟩
theorem Going.step {u : ByteArray} {p q : Nat} {X N : List Tok} (hp : p < u.size) (he : lst u p = (0, q, N)) : Going u p X q (X ++ N) := fun f h => by
  have hb := (lst_bd hp).2.2.1 (by rw [he])
  rw [he] at hb
  refine ⟨f - 1, by simp only at hb; omega, ?_⟩
  rw [scF_go hp (by omega) (by rw [he]), he]
theorem Going.blank {u : ByteArray} {p : Nat} {X : List Tok} (hp : p < u.size) (h : kb u p = 1) : Going u p X (p + 1) X := by
  have := Going.step (X := X) hp (lst_1 h)
  rwa [List.append_nil] at this
theorem Going.rem {u : ByteArray} {p k : Nat} {X : List Tok} (h35 : byt u p = 35) (hk : 0 < k) (h : ∀ j, j < k → byt u (p + j) ≠ 10) (hs : p + k < u.size) (he : byt u (p + k) = 10) : Going u p X (p + k + 1) X := by
  have h4 : kb u p = 4 := by rw [kb_in (by omega), h35]; decide
  have e : eol u p = k := eol_uniq (fun j hj => ⟨by omega, h j hj⟩) (fun h => h.2 he)
  have h1 := Going.step (X := X) (show p < u.size by omega) (lst_4 h4)
  rw [List.append_nil, e] at h1
  exact h1.trans (Going.blank hs (by rw [kb_in hs, he]; decide))
def blks : List ByteArray := [⟨#[32]⟩, ⟨#[10, 9]⟩, ⟨#[32, 35, 32, 114, 101, 109, 97, 114, 107, 32, 49, 10]⟩, ⟨#[35, 255, 10, 32]⟩, ⟨#[13, 10]⟩]
theorem blks_bd : ∀ b ∈ blks, 0 < b.size ∧ b.size ≤ 12 ∧ kb b 0 ≠ 2 ∧ kb b 0 ≠ 3 := by decide
theorem Going.blk {u b : ByteArray} {q : Nat} {X : List Tok} (hb : b ∈ blks) (h : ∀ j, j < b.size → q + j < u.size ∧ byt u (q + j) = byt b j) : Going u q X (q + b.size) X := by
  have one : ∀ j, j < b.size → kb b j = 1 → Going u (q + j) X (q + j + 1) X := fun j hj hk => Going.blank (h j hj).1 (by rw [kb_byt hj (h j hj).1 (h j hj).2]; exact hk)
  simp only [blks, List.mem_cons, List.not_mem_nil, or_false] at hb
  rcases hb with rfl | rfl | rfl | rfl | rfl
  · exact one 0 (by decide) (by decide)
  · exact (one 0 (by decide) (by decide)).trans (one 1 (by decide) (by decide))
  · refine (one 0 (by decide) (by decide)).trans (Going.rem (p := q + 1) (k := 10) ?_ (by decide) (fun j hj => ?_) (h 11 (by decide)).1 ?_)
    · rw [(h 1 (by decide)).2]; decide
    · rw [Nat.add_assoc, (h (1 + j) (by show 1 + j < 12; omega)).2]
      exact (show ∀ j, j < 10 → byt ⟨#[32, 35, 32, 114, 101, 109, 97, 114, 107, 32, 49, 10]⟩ (1 + j) ≠ 10 by decide) j hj
    · rw [(h 11 (by decide)).2]; decide
  · refine (Going.rem (p := q) (k := 2) ?_ (by decide) (fun j hj => ?_) (h 2 (by decide)).1 ?_).trans (one 3 (by decide) (by decide))
    · exact (h 0 (by decide)).2
    · rw [(h j (by show j < 4; omega)).2]
      exact (show ∀ j, j < 2 → byt ⟨#[35, 255, 10, 32]⟩ j ≠ 10 by decide) j hj
    · rw [(h 2 (by decide)).2]; decide
  · exact (one 0 (by decide) (by decide)).trans (one 1 (by decide) (by decide))
/-! ### where tokens stand -/
def TK (s : ByteArray) (t : Tok) (A d : Nat) : Prop :=
  t.a = (A : Int) ∧ 0 < d ∧ A + d ≤ s.size ∧ (kb s (A + d) ≠ 2 ∧ kb s (A + d) ≠ 3) ∧
  ((t.k = 1 ∧ (∀ j, j < d → kb s (A + j) = 3) ∧ d ≤ 16 ∧ t.x = s.extract A (A + d) ∧ t.n = 0) ∨
   (t.k = 2 ∧ (∀ j, j < d → kb s (A + j) = 2) ∧ d ≤ 18 ∧ ¬ (1 < d ∧ byt s A = 48) ∧ t.x = ⟨#[]⟩ ∧ t.n = numv s A d))
def TJ (s : ByteArray) (X : List Tok) (p : Nat) : Prop :=
  ∀ i, i < X.length → ∃ A d, TK s (X.getD i tz) A d ∧ ((A + d : Nat) : Int) ≤ if i + 1 < X.length then (X.getD (i + 1) tz).a else p
theorem TJ.mono {s : ByteArray} {X : List Tok} {p q : Nat} (h : TJ s X p) (hq : p ≤ q) : TJ s X q := fun i hi => by
  obtain ⟨A, d, h1, h2⟩ := h i hi
  refine ⟨A, d, h1, ?_⟩
  split at h2
  · rw [if_pos (by assumption)]; exact h2
  · rw [if_neg (by assumption)]; omega
theorem TJ.snoc {s : ByteArray} {X : List Tok} {p d : Nat} {t : Tok} (h : TJ s X p) (ht : TK s t p d) : TJ s (X ++ [t]) (p + d) := fun i hi => by
  rw [List.length_append, List.length_singleton] at hi ⊢
  rcases Nat.lt_or_ge i X.length with g | g
  · obtain ⟨A, d', h1, h2⟩ := h i g
    rw [getD_app1 g, if_pos (by omega)]
    refine ⟨A, d', h1, ?_⟩
    rcases Nat.lt_or_ge (i + 1) X.length with g2 | g2
    · rw [if_pos g2] at h2; rw [getD_app1 g2]; exact h2
    · rw [if_neg (by omega)] at h2
      rw [show i + 1 = X.length by omega, getD_app2, ht.1]; exact h2
  · obtain rfl : i = X.length := by omega
    rw [getD_app2, if_neg (by omega)]
    exact ⟨p, d, ht, Int.le_refl _⟩
theorem lst_TJ {s : ByteArray} {X : List Tok} {p : Nat} (hp : p < s.size) (h : TJ s X p) (he : (lst s p).1 = 0) : TJ s (X ++ (lst s p).2.2) (lst s p).2.1 := by
  rcases kb_rng s p with hk | hk | hk | hk | hk
  · rw [lst_0 hk] at he; simp at he
  · rw [lst_1 hk, List.append_nil]; exact h.mono (Nat.le_succ _)
  · rw [lst_2 hk] at he ⊢
    by_cases h1 : 1 < dgs s p ∧ byt s p = 48
    · rw [if_pos h1] at he; simp at he
    · rw [if_neg h1] at he ⊢
      by_cases h2 : 18 < dgs s p
      · rw [if_pos h2] at he; simp at he
      · rw [if_neg h2] at he ⊢
        have h3 : kb s (p + dgs s p) ≠ 3 := fun e => by rw [if_pos e] at he; simp at he
        have hd := dgs_spec s p
        exact h.snoc ⟨rfl, dgs_pos hk, dgs_le s (Nat.le_of_lt hp), ⟨fun e => hd.2 (dig_kb.2 e), h3⟩, .inr ⟨rfl, fun j hj => dig_kb.1 (hd.1 j hj), by omega, h1, rfl, rfl⟩⟩
  · rw [lst_3 hk] at he ⊢
    by_cases h1 : 16 < ltrs s p
    · rw [if_pos h1] at he; simp at he
    · rw [if_neg h1] at he ⊢
      have h3 : kb s (p + ltrs s p) ≠ 2 := fun e => by rw [if_pos e] at he; simp at he
      have hd := ltrs_spec s p
      exact h.snoc ⟨rfl, ltrs_pos hk, ltrs_le s (Nat.le_of_lt hp), ⟨h3, hd.2⟩, .inl ⟨rfl, hd.1, by omega, rfl, rfl⟩⟩
  · rw [lst_4 hk, List.append_nil]; exact h.mono (Nat.le_add_right _ _)
theorem scF_TJ (s : ByteArray) : ∀ f p X, s.size ≤ p + f → p ≤ s.size → TJ s X p → (scF s f p X).2.2 = 0 → ∃ Y, (scF s f p X) = (Y ++ [tend s], 0, 0) ∧ TJ s Y s.size
  | 0, p, X, h0, h1, h => fun _ => ⟨X, rfl, h.mono h1⟩
  | f + 1, p, X, h0, h1, h => by
    by_cases hp : p < s.size
    · by_cases he : (lst s p).1 = 0
      · have hbd := lst_bd hp
        have := hbd.2.2.1 he
        rw [scF_go hp (Nat.succ_pos f) he]
        exact scF_TJ s f _ _ (by omega) hbd.2.1 (lst_TJ hp h he)
      · rw [scF_err hp (Nat.succ_pos f) he]
        exact fun h => absurd h he
    · rw [scF_end hp]
      exact fun _ => ⟨X, rfl, h.mono h1⟩
theorem scan_TJ {s : ByteArray} (he : (scan s).2.2 = 0) {i : Nat} (hi : i + 1 < (scan s).1.length) : ∃ A d, TK s ((scan s).1.getD i tz) A d ∧ ((A + d : Nat) : Int) ≤ ((scan s).1.getD (i + 1) tz).a ∧ ((scan s).1.getD (i + 1) tz).a ≤ s.size := by
  have hsz : ¬ 65536 < s.size := fun h => by unfold scan at he; rw [if_pos h] at he; simp at he
  have h0 : scan s = scF s s.size 0 [] := by unfold scan; rw [if_neg hsz]
  have he2 := he
  rw [h0] at he2
  obtain ⟨Y, hY, hT⟩ := scF_TJ s s.size 0 [] (by omega) (by omega) (fun i h => absurd h (Nat.not_lt_zero i)) he2
  rw [h0, hY] at hi ⊢
  simp only [List.length_append, List.length_singleton] at hi
  obtain ⟨A, d, h1, h2⟩ := hT i (by omega)
  refine ⟨A, d, ?_, ?_⟩
  · show TK s ((Y ++ [tend s]).getD i tz) A d
    rw [getD_app1 (by omega)]; exact h1
  · show _ ≤ ((Y ++ [tend s]).getD (i + 1) tz).a ∧ ((Y ++ [tend s]).getD (i + 1) tz).a ≤ _
    rcases Nat.lt_or_ge (i + 1) Y.length with g | g
    · rw [if_pos g] at h2
      rw [getD_app1 g]
      obtain ⟨A', d', h3, -⟩ := hT (i + 1) g
      refine ⟨h2, ?_⟩
      rw [h3.1]; have := h3.2.2.1; omega
    · rw [if_neg (by omega)] at h2
      rw [show i + 1 = Y.length by omega, getD_app2]; exact ⟨h2, Int.le_refl _⟩
/-! ### the same token elsewhere -/
def same3 (t t' : Tok) : Prop := t'.k = t.k ∧ t'.x = t.x ∧ t'.n = t.n
theorem numv_congr {s u : ByteArray} {A q : Nat} : ∀ d, (∀ j, j < d → byt u (q + j) = byt s (A + j)) → numv u q d = numv s A d
  | 0, _ => rfl
  | d + 1, h => by
    simp only [numv]
    rw [numv_congr d (fun j hj => h j (by omega)), h d (by omega)]
theorem lst_copy {s u : ByteArray} {t : Tok} {A d q : Nat} (ht : TK s t A d) (hu : ∀ j, j < d → q + j < u.size ∧ byt u (q + j) = byt s (A + j)) (hend : kb u (q + d) ≠ 2 ∧ kb u (q + d) ≠ 3) : ∃ t', lst u q = (0, q + d, [t']) ∧ same3 t t' := by
  obtain ⟨ha, hd, hle, hne, hc⟩ := ht
  have hk : ∀ j, j < d → kb u (q + j) = kb s (A + j) := fun j hj => kb_byt (by omega) (hu j hj).1 (hu j hj).2
  have hq := (hu (d - 1) (by omega)).1
  rcases hc with ⟨h1, h2, h3, h4, h5⟩ | ⟨h1, h2, h3, h4, h5, h6⟩
  · have hk0 : kb u q = 3 := by have := hk 0 hd; rw [h2 0 hd] at this; exact this
    have hl : ltrs u q = d := ltrs_uniq (fun j hj => by rw [hk j hj]; exact h2 j hj) hend.2
    have e := lst_3 hk0
    rw [hl, if_neg (by omega), if_neg hend.1] at e
    refine ⟨_, e, h1.symm, ?_, h5.symm⟩
    show u.extract q (q + d) = t.x
    rw [h4]
    refine ba_ext (by rw [size_ext (by omega), size_ext hle]; omega) (fun j hj => ?_)
    rw [size_ext (by omega)] at hj
    rw [byt_ext (by omega) (by omega), byt_ext (by omega) hle]
    exact (hu j (by omega)).2
  · have hk0 : kb u q = 2 := by have := hk 0 hd; rw [h2 0 hd] at this; exact this
    have hl : dgs u q = d := dgs_uniq (fun j hj => dig_kb.2 (by rw [hk j hj]; exact h2 j hj)) (fun h => hend.1 (dig_kb.1 h))
    have e := lst_2 hk0
    have hb0 : byt u q = byt s A := (hu 0 hd).2
    rw [hl, if_neg (by rw [hb0]; exact h4), if_neg (by omega), if_neg hend.2] at e
    refine ⟨_, e, h1.symm, h5.symm, ?_⟩
    show numv u q d = t.n
    rw [h6]; exact numv_congr d (fun j hj => (hu j hj).2)
/-- A text that has been built: what a scan of it, and of what stands behind, comes to at its end. -/
def Built (Y : List Tok) (t : ByteArray) (i : Nat) : Prop :=
  t.size ≤ 30 * i ∧ ∃ m : List Tok, m.length = i ∧ (∀ j, j < i → same3 (Y.getD j tz) (m.getD j tz)) ∧ ∀ v, (kb v 0 ≠ 2 ∧ kb v 0 ≠ 3) → Going (t ++ v) 0 [] t.size m
theorem Built.nil (Y : List Tok) : Built Y ⟨#[]⟩ 0 := ⟨Nat.le_refl _, [], rfl, fun j h => absurd h (Nat.not_lt_zero j), fun _ _ => Going.refl _ _ _⟩
theorem blk_in {t b v u : ByteArray} (hu : u = t ++ (b ++ v)) : ∀ j, j < b.size → t.size + j < u.size ∧ byt u (t.size + j) = byt b j := fun j hj => by
  subst hu
  refine ⟨by rw [ByteArray.size_append, ByteArray.size_append]; omega, ?_⟩
  rw [byt_r (by rw [ByteArray.size_append]; omega), byt_l hj]
theorem blk_kb {b v : ByteArray} (hb : b ∈ blks) : kb (b ++ v) 0 ≠ 2 ∧ kb (b ++ v) 0 ≠ 3 := by
  have h := blks_bd b hb
  rw [kb_byt h.1 (by rw [ByteArray.size_append]; omega) (byt_l h.1)]
  exact h.2.2
theorem Built.more {s : ByteArray} {Y : List Tok} {t b : ByteArray} {i A d : Nat} (h : Built Y t i) (hb : b ∈ blks) (ht : TK s (Y.getD i tz) A d) : Built Y ((t ++ b) ++ s.extract A (A + d)) (i + 1) := by
  obtain ⟨h0, m, h1, h2, h3⟩ := h
  have hbd := blks_bd b hb
  have hle := ht.2.2.1
  have hd18 : d ≤ 18 := by rcases ht.2.2.2.2 with ⟨_, _, h, _⟩ | ⟨_, _, h, _⟩ <;> omega
  have hx : (s.extract A (A + d)).size = d := by rw [size_ext hle]; omega
  have hsz : ((t ++ b) ++ s.extract A (A + d)).size = t.size + b.size + d := by rw [ByteArray.size_append, ByteArray.size_append, hx]
  refine ⟨by rw [hsz]; omega, ?_⟩
  have htok : ∀ v, (kb v 0 ≠ 2 ∧ kb v 0 ≠ 3) → ∃ t', lst (((t ++ b) ++ s.extract A (A + d)) ++ v) (t.size + b.size) = (0, t.size + b.size + d, [t']) ∧ same3 (Y.getD i tz) t' := fun v hv => by
    have hts : (t ++ b).size = t.size + b.size := ByteArray.size_append
    refine lst_copy ht (fun j hj => ?_) ?_
    · rw [ByteArray.append_assoc, ← hts]
      refine ⟨by simp only [ByteArray.size_append, hx]; omega, ?_⟩
      rw [byt_r (by rw [ByteArray.size_append, hx]; omega), byt_l (by omega), byt_ext (by omega) hle]
    · have : kb (((t ++ b) ++ s.extract A (A + d)) ++ v) (t.size + b.size + d) = kb v 0 := by
        rw [← hsz]; have := kb_r (x := (t ++ b) ++ s.extract A (A + d)) (y := v) (j := 0); rwa [Nat.add_zero] at this
      rw [this]; exact hv
  obtain ⟨t0, -, -⟩ := htok ⟨#[]⟩ (by decide)
  have key : ∀ v, (kb v 0 ≠ 2 ∧ kb v 0 ≠ 3) → ∀ t', lst (((t ++ b) ++ s.extract A (A + d)) ++ v) (t.size + b.size) = (0, t.size + b.size + d, [t']) → Going (((t ++ b) ++ s.extract A (A + d)) ++ v) 0 [] (t.size + b.size + d) (m ++ [t']) := fun v hv t' ht' => by
    have e : (((t ++ b) ++ s.extract A (A + d)) ++ v) = t ++ (b ++ (s.extract A (A + d) ++ v)) := by rw [ByteArray.append_assoc, ByteArray.append_assoc]
    have g1 := h3 (b ++ (s.extract A (A + d) ++ v)) (blk_kb hb)
    rw [← e] at g1
    have g2 := Going.blk (u := ((t ++ b) ++ s.extract A (A + d)) ++ v) (q := t.size) (X := m) hb (blk_in e)
    have g3 := Going.step (X := m) (show t.size + b.size < (((t ++ b) ++ s.extract A (A + d)) ++ v).size by rw [ByteArray.size_append, hsz]; have := ht.2.1; omega) ht'
    exact (g1.trans g2).trans g3
  obtain ⟨t1, e1, s1⟩ := htok ⟨#[]⟩ (by decide)
  refine ⟨m ++ [t1], by rw [List.length_append, h1]; rfl, fun j hj => ?_, fun v hv => ?_⟩
  · rcases Nat.lt_or_ge j i with g | g
    · rw [getD_app1 (by omega)]; exact h2 j g
    · obtain rfl : j = m.length := by omega
      rw [getD_app2, h1]; exact s1
  · rw [hsz]
    obtain ⟨t2, e2, s2⟩ := htok v hv
    have : t2 = t1 := by
      have p1 : ∀ v t', lst (((t ++ b) ++ s.extract A (A + d)) ++ v) (t.size + b.size) = (0, t.size + b.size + d, [t']) → t'.a = ((t.size + b.size : Nat) : Int) := fun v t' ht' => by
        have hp : t.size + b.size < (((t ++ b) ++ s.extract A (A + d)) ++ v).size := by rw [ByteArray.size_append, hsz]; have := ht.2.1; omega
        revert ht'
        unfold lst
        repeat' split
        all_goals (intro ht'; first | (simp at ht'; done) | (simp only [Prod.mk.injEq, List.cons.injEq] at ht'; rw [← ht'.2.2.1]))
      have a1 := p1 _ _ e1
      have a2 := p1 _ _ e2
      cases t1; cases t2
      simp only [same3] at s1 s2
      simp only [Tok.mk.injEq]
      exact ⟨s2.1.trans s1.1.symm, s2.2.1.trans s1.2.1.symm, s2.2.2.trans s1.2.2.symm, a2.trans a1.symm⟩
    rw [this] at e2
    exact key v hv _ e2
theorem Built.last {Y : List Tok} {t b : ByteArray} {i : Nat} (h : Built Y t i) (hb : b ∈ blks) (hi : i ≤ 2000) : ∃ m : List Tok, m.length = i ∧ (∀ j, j < i → same3 (Y.getD j tz) (m.getD j tz)) ∧ scan (t ++ b) = (m ++ [tend (t ++ b)], 0, 0) := by
  obtain ⟨h0, m, h1, h2, h3⟩ := h
  have hbd := blks_bd b hb
  have hsz : (t ++ b).size = t.size + b.size := ByteArray.size_append
  refine ⟨m, h1, h2, ?_⟩
  have g1 := h3 b (by have := blk_kb (v := ⟨#[]⟩) hb; have e : b ++ (⟨#[]⟩ : ByteArray) = b := ByteArray.append_empty; rwa [e] at this)
  have g2 := Going.blk (u := t ++ b) (q := t.size) (X := m) hb (blk_in (v := ⟨#[]⟩) (by have e : b ++ (⟨#[]⟩ : ByteArray) = b := ByteArray.append_empty; rw [e]))
  obtain ⟨f, hf, e⟩ := (g1.trans g2) (t ++ b).size (by omega)
  unfold scan
  rw [if_neg (by omega), e]
  exact scF_end (by omega) _ _
/-! ### what is cut out -/
def isA (u : ByteArray) (j : Nat) : Bool := kb u j = 2 ∨ kb u j = 3
def alr (u : ByteArray) : Nat := runQ (isA u) u.size 0
theorem isA_lt {u : ByteArray} {j : Nat} (h : isA u j = true) : j < u.size := by
  have : kb u j = 2 ∨ kb u j = 3 := of_decide_eq_true h
  exact kb_lt (by omega)
theorem alr_uniq {u : ByteArray} {k : Nat} (h1 : ∀ j, j < k → kb u j = 2 ∨ kb u j = 3) (h2 : ¬ (kb u k = 2 ∨ kb u k = 3)) : alr u = k :=
  runQ_uniq (fun j h => isA_lt h) (by omega) (fun j hj => by rw [Nat.zero_add]; exact decide_eq_true (h1 j hj)) (by rw [Nat.zero_add]; exact decide_eq_false h2)
theorem alr_TK {s : ByteArray} {t : Tok} {A d E : Nat} (ht : TK s t A d) (hE : A + d ≤ E) (hs : E ≤ s.size) : alr (s.extract A E) = d ∧ (s.extract A E).extract 0 d = s.extract A (A + d) := by
  obtain ⟨ha, hd, hle, hne, hc⟩ := ht
  have hx : (s.extract A E).size = E - A := size_ext hs
  have hk : ∀ j, A + j < E → kb (s.extract A E) j = kb s (A + j) := fun j hj => kb_byt (by omega) (by omega) (byt_ext hj hs)
  refine ⟨alr_uniq (fun j hj => ?_) (fun h => ?_), ?_⟩
  · rw [hk j (by omega)]
    rcases hc with ⟨_, h2, _⟩ | ⟨_, h2, _⟩
    · exact .inr (h2 j hj)
    · exact .inl (h2 j hj)
  · have hlt : d < (s.extract A E).size := kb_lt (by omega)
    rw [hk d (by omega)] at h
    exact h.elim hne.1 hne.2
  · rw [ByteArray.extract_extract]
    congr 1
    omega
end Go.Proofs.YtdbbigjoloinpaaDoor
