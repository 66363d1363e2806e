/-
  Tokens of a text in plain Lean: what a scan tells. It holds of every program; nothing is assumed.
-/
import Derived.Test.YtdbbigjoloinpaaDoorDig
import Derived.Lib.IndexLaws
import Derived.Shelf.Unicode.DecodeSlow
namespace Go.Proofs.YtdbbigjoloinpaaDoor
open Go.RowKit

/-! ### how long something goes on -/
def runQ (q : Nat → Bool) : Nat → Nat → Nat
  | 0, _ => 0
  | f + 1, i => if q i then runQ q f (i + 1) + 1 else 0
theorem runQ_spec (q : Nat → Bool) (N : Nat) (hq : ∀ j, q j = true → j < N) : ∀ f i, N ≤ i + f → (∀ j, j < runQ q f i → q (i + j) = true) ∧ q (i + runQ q f i) = false
  | 0, i, h => ⟨fun j hj => absurd hj (Nat.not_lt_zero j), by
      cases hb : q (i + 0) with
      | false => exact hb
      | true => have := hq _ hb; omega⟩
  | f + 1, i, h => by
    simp only [runQ]
    cases hd : q i with
    | true =>
      rw [if_pos rfl]
      obtain ⟨h1, h2⟩ := runQ_spec q N hq f (i + 1) (by omega)
      refine ⟨fun j hj => ?_, ?_⟩
      · match j with
        | 0 => exact hd
        | j + 1 => have := h1 j (by omega); rwa [show i + (j + 1) = i + 1 + j by omega]
      · rwa [show i + (runQ q f (i + 1) + 1) = i + 1 + runQ q f (i + 1) by omega]
    | false => exact ⟨fun j hj => absurd hj (Nat.not_lt_zero j), hd⟩
theorem runQ_uniq {q : Nat → Bool} {N f i k : Nat} (hq : ∀ j, q j = true → j < N) (hf : N ≤ i + f) (h1 : ∀ j, j < k → q (i + j) = true) (h2 : q (i + k) = false) : runQ q f i = k := by
  obtain ⟨g1, g2⟩ := runQ_spec q N hq f i hf
  rcases Nat.lt_trichotomy (runQ q f i) k with h | h | h
  · have := h1 _ h; rw [g2] at this; cases this
  · exact h
  · have := g1 _ h; rw [h2] at this; cases this
/-- The kind of the sign at a place (behind the end: a blank). -/
def kb (s : ByteArray) (p : Nat) : Int := if p < s.size then kindI (byt s p) else 1
theorem kb_in {s : ByteArray} {p : Nat} (h : p < s.size) : kb s p = kindI (byt s p) := if_pos h
theorem kb_out {s : ByteArray} {p : Nat} (h : ¬ p < s.size) : kb s p = 1 := if_neg h
theorem kb_lt {s : ByteArray} {p : Nat} (h : kb s p ≠ 1) : p < s.size := Classical.byContradiction fun hn => h (kb_out hn)
def isL (s : ByteArray) (p : Nat) : Bool := kb s p = 3
def inR (s : ByteArray) (p : Nat) : Bool := p < s.size ∧ byt s p ≠ 10
/-- How many letters stand from a place on; how many bytes it is to the line's end. -/
def ltrs (s : ByteArray) (i : Nat) : Nat := runQ (isL s) (s.size - i) i
def eol (s : ByteArray) (i : Nat) : Nat := runQ (inR s) (s.size - i) i
theorem isL_lt {s : ByteArray} {j : Nat} (h : isL s j = true) : j < s.size := kb_lt (by have : kb s j = 3 := by simpa [isL] using h
                                                                                        omega)
theorem inR_lt {s : ByteArray} {j : Nat} (h : inR s j = true) : j < s.size := by have := of_decide_eq_true h; exact this.1
theorem ltrs_spec (s : ByteArray) (i : Nat) : (∀ j, j < ltrs s i → kb s (i + j) = 3) ∧ kb s (i + ltrs s i) ≠ 3 := by
  obtain ⟨h1, h2⟩ := runQ_spec (isL s) s.size (fun j h => isL_lt h) (s.size - i) i (by omega)
  exact ⟨fun j hj => by have := h1 j hj; simpa [isL] using this, by have : isL s (i + ltrs s i) = false := h2; simpa [isL] using this⟩
theorem ltrs_uniq {s : ByteArray} {i k : Nat} (h1 : ∀ j, j < k → kb s (i + j) = 3) (h2 : kb s (i + k) ≠ 3) : ltrs s i = k :=
  runQ_uniq (fun j h => isL_lt h) (by omega) (fun j hj => by simp [isL, h1 j hj]) (by simp [isL, h2])
theorem eol_spec (s : ByteArray) (i : Nat) : (∀ j, j < eol s i → i + j < s.size ∧ byt s (i + j) ≠ 10) ∧ ¬ (i + eol s i < s.size ∧ byt s (i + eol s i) ≠ 10) := by
  obtain ⟨h1, h2⟩ := runQ_spec (inR s) s.size (fun j h => inR_lt h) (s.size - i) i (by omega)
  exact ⟨fun j hj => of_decide_eq_true (h1 j hj), of_decide_eq_false (show inR s (i + eol s i) = false from h2)⟩
theorem eol_uniq {s : ByteArray} {i k : Nat} (h1 : ∀ j, j < k → i + j < s.size ∧ byt s (i + j) ≠ 10) (h2 : ¬ (i + k < s.size ∧ byt s (i + k) ≠ 10)) : eol s i = k :=
  runQ_uniq (fun j h => inR_lt h) (by omega) (fun j hj => decide_eq_true (h1 j hj)) (decide_eq_false h2)
theorem ltrs_le (s : ByteArray) {i : Nat} (hi : i ≤ s.size) : i + ltrs s i ≤ s.size := by
  rcases Nat.eq_zero_or_pos (ltrs s i) with h | h
  · omega
  · have := kb_lt (s := s) (p := i + (ltrs s i - 1)) (by rw [(ltrs_spec s i).1 _ (by omega)]; decide); omega
theorem ltrs_pos {s : ByteArray} {i : Nat} (h : kb s i = 3) : 0 < ltrs s i := by
  rcases Nat.eq_zero_or_pos (ltrs s i) with e | e
  · have := (ltrs_spec s i).2; rw [e, Nat.add_zero] at this; exact absurd h this
  · exact e
theorem eol_le (s : ByteArray) {i : Nat} (hi : i ≤ s.size) : i + eol s i ≤ s.size := by
  rcases Nat.eq_zero_or_pos (eol s i) with h | h
  · omega
  · have := ((eol_spec s i).1 (eol s i - 1) (by omega)).1; omega
theorem kindI_35 {c : Int} (h : kindI c = 4) : c = 35 := by
  revert h; unfold kindI
  repeat' split
  all_goals (intro h; first | omega | (simp at h))
theorem kindI_dig {c : Int} : kindI c = 2 ↔ 48 ≤ c ∧ c ≤ 57 := by
  unfold kindI
  constructor
  · repeat' split
    all_goals (intro h; first | omega | (simp at h))
  · intro h
    rw [if_neg (by omega), if_pos h]
theorem eol_pos {s : ByteArray} {i : Nat} (h : kb s i = 4) : 0 < eol s i := by
  have hlt := kb_lt (s := s) (p := i) (by omega)
  rw [kb_in hlt] at h
  rcases Nat.eq_zero_or_pos (eol s i) with e | e
  · have := (eol_spec s i).2; rw [e, Nat.add_zero, kindI_35 h] at this; exact absurd ⟨hlt, by decide⟩ this
  · exact e
theorem dig_kb {s : ByteArray} {i : Nat} : dig s i ↔ kb s i = 2 := by
  constructor
  · intro h; rw [kb_in h.1]; exact kindI_dig.2 h.2
  · intro h
    have hlt := kb_lt (s := s) (p := i) (by omega)
    rw [kb_in hlt] at h
    exact ⟨hlt, kindI_dig.1 h⟩
theorem dgs_pos {s : ByteArray} {i : Nat} (h : kb s i = 2) : 0 < dgs s i := by
  rcases Nat.eq_zero_or_pos (dgs s i) with e | e
  · have := (dgs_spec s i).2; rw [e, Nat.add_zero] at this; exact absurd (dig_kb.2 h) this
  · exact e
/-- What the sign's rune tells is what its first byte tells. -/
theorem dec_kb {s : ByteArray} {p : Nat} (h : p < s.size) : kindI (Utf8.decode s p).1 = kb s p ∧ (kb s p ≠ 0 → (Utf8.decode s p).2 = 1) := by
  have hb := byt_at h
  rw [kb_in h]
  by_cases ha : (s[p]'h).toNat < 128
  · rw [decode_ascii s p h ha, ← hb]
    exact ⟨rfl, fun _ => rfl⟩
  · have h2 := (decode_high s p h (by omega)).1
    have k0 : ∀ c : Int, 128 ≤ c → kindI c = 0 := fun c hc => by
      unfold kindI
      rw [if_neg (by omega), if_neg (by omega), if_neg (by omega), if_neg (by omega)]
    have h3 : kindI (byt s p) = 0 := k0 _ (by rw [← hb]; omega)
    rw [h3]
    exact ⟨k0 _ (by omega), fun e => absurd rfl e⟩
/-! ### the scan -/
structure Tok where
  k : Int
  x : ByteArray
  n : Int
  a : Int
def tokv (X : List Tok) : List Value := X.flatMap fun t => [.int .i64 t.k, .string t.x, .int .i64 t.n, .int .i64 t.a]
theorem tokv_app (X : List Tok) (t : Tok) : tokv X ++ [.int .i64 t.k, .string t.x, .int .i64 t.n, .int .i64 t.a] = tokv (X ++ [t]) := by simp [tokv]
theorem tokv_len (X : List Tok) : (tokv X).length = X.length * 4 := by
  induction X with
  | nil => rfl
  | cons t X ih => simp only [tokv, List.flatMap_cons, List.length_append, List.length_cons, List.length_nil] at ih ⊢; omega
def tz : Tok := ⟨0, ⟨#[]⟩, 0, 0⟩
theorem tokv_get : ∀ (X : List Tok) (i : Nat), i < X.length → (tokv X)[i * 4]? = some (.int .i64 (X.getD i tz).k) ∧ (tokv X)[i * 4 + 1]? = some (.string (X.getD i tz).x) ∧ (tokv X)[i * 4 + 2]? = some (.int .i64 (X.getD i tz).n) ∧ (tokv X)[i * 4 + 3]? = some (.int .i64 (X.getD i tz).a)
  | [], i, h => absurd h (Nat.not_lt_zero i)
  | t :: X, 0, _ => ⟨rfl, rfl, rfl, rfl⟩
  | t :: X, i + 1, h => by
    have := tokv_get X i (by simpa using h)
    have e : ∀ j, (tokv (t :: X))[(i + 1) * 4 + j]? = (tokv X)[i * 4 + j]? := fun j => by
      show ([Value.int .i64 t.k, .string t.x, .int .i64 t.n, .int .i64 t.a] ++ tokv X)[(i + 1) * 4 + j]? = _
      rw [List.getElem?_append_right (by simp; omega)]
      congr 1
      simp; omega
    have e0 := e 0
    simp only [Nat.add_zero] at e0
    rw [e0, e 1, e 2, e 3]
    exact this
/-- One step of a scan: the error, the place, what is found. -/
def lst (s : ByteArray) (p : Nat) : Int × Nat × List Tok :=
  if kb s p = 1 then (0, p + 1, [])
  else if kb s p = 4 then (0, p + eol s p, [])
  else if kb s p = 3 then
    if 16 < ltrs s p then (5, p, []) else (if kb s (p + ltrs s p) = 2 then 2 else 0, p + ltrs s p, [⟨1, s.extract p (p + ltrs s p), 0, p⟩])
  else if kb s p = 2 then
    if 1 < dgs s p ∧ byt s p = 48 then (4, p, []) else if 18 < dgs s p then (5, p, []) else (if kb s (p + dgs s p) = 3 then 2 else 0, p + dgs s p, [⟨2, ⟨#[]⟩, numv s p (dgs s p), p⟩])
  else (2, p, [])
def tend (s : ByteArray) : Tok := ⟨3, ⟨#[]⟩, 0, s.size⟩
def scF (s : ByteArray) : Nat → Nat → List Tok → List Tok × Int × Int
  | 0, _, X => (X ++ [tend s], 0, 0)
  | f + 1, p, X => if p < s.size then (if (lst s p).1 ≠ 0 then ([], ((lst s p).2.1 : Int), (lst s p).1) else scF s f (lst s p).2.1 (X ++ (lst s p).2.2)) else (X ++ [tend s], 0, 0)
/-- What a scan tells: the tokens, the place where it is wrong, the error. -/
def scan (s : ByteArray) : List Tok × Int × Int := if 65536 < s.size then ([], 0, 5) else scF s s.size 0 []
theorem lst_bd {s : ByteArray} {p : Nat} (h : p < s.size) : p ≤ (lst s p).2.1 ∧ (lst s p).2.1 ≤ s.size ∧ ((lst s p).1 = 0 → p < (lst s p).2.1) ∧ (lst s p).2.2.length ≤ 1 := by
  have h1 := ltrs_le s (Nat.le_of_lt h)
  have h2 := eol_le s (Nat.le_of_lt h)
  have h3 := dgs_le s (Nat.le_of_lt h)
  have h4 := @ltrs_pos s p
  have h5 := @eol_pos s p
  have h6 := @dgs_pos s p
  unfold lst
  repeat' split
  all_goals (simp only [List.length_nil, List.length_cons]; refine ⟨?_, ?_, ?_, ?_⟩ <;> first | omega | (intro; omega))
theorem scF_end {s : ByteArray} {p : Nat} (h : ¬ p < s.size) : ∀ (f : Nat) (X : List Tok), scF s f p X = (X ++ [tend s], 0, 0)
  | 0, _ => rfl
  | f + 1, X => by rw [scF, if_neg h]
theorem scF_err {s : ByteArray} {p f : Nat} {X : List Tok} (h : p < s.size) (hf : 0 < f) (he : (lst s p).1 ≠ 0) : scF s f p X = ([], ((lst s p).2.1 : Int), (lst s p).1) := by
  cases f with
  | zero => omega
  | succ f => rw [scF, if_pos h, if_pos he]
theorem scF_go {s : ByteArray} {p f : Nat} {X : List Tok} (h : p < s.size) (hf : 0 < f) (he : (lst s p).1 = 0) : scF s f p X = scF s (f - 1) (lst s p).2.1 (X ++ (lst s p).2.2) := by
  cases f with
  | zero => omega
  | succ f => rw [scF, if_pos h, if_neg (by simp [he])]; rfl
theorem readI_at {s : ByteArray} {p : Nat} (h : p < s.size) (hk : kb s p = 2) : readI s (p : Int) = if 1 < dgs s p ∧ byt s p = 48 then (0, 0, 4) else if 18 < dgs s p then (0, 0, 5) else (numv s p (dgs s p), ((p + dgs s p : Nat) : Int), 0) := by
  have h6 := dgs_pos hk
  unfold readI
  rw [if_neg (by omega)]
  simp only [Int.toNat_natCast]
  by_cases h1 : 1 < dgs s p ∧ byt s p = 48
  · rw [if_pos (.inr h1), if_pos h1]
  · rw [if_neg (by intro h; rcases h with h | h; omega; exact h1 h), if_neg h1]
    split
    · rfl
    · congr 2
theorem lst_1 {s : ByteArray} {p : Nat} (h : kb s p = 1) : lst s p = (0, p + 1, []) := if_pos h
theorem lst_4 {s : ByteArray} {p : Nat} (h : kb s p = 4) : lst s p = (0, p + eol s p, []) := by unfold lst; rw [if_neg (by omega), if_pos h]
theorem lst_3 {s : ByteArray} {p : Nat} (h : kb s p = 3) : lst s p = if 16 < ltrs s p then (5, p, []) else (if kb s (p + ltrs s p) = 2 then 2 else 0, p + ltrs s p, [⟨1, s.extract p (p + ltrs s p), 0, p⟩]) := by unfold lst; rw [if_neg (by omega), if_neg (by omega), if_pos h]
theorem lst_2 {s : ByteArray} {p : Nat} (h : kb s p = 2) : lst s p = if 1 < dgs s p ∧ byt s p = 48 then (4, p, []) else if 18 < dgs s p then (5, p, []) else (if kb s (p + dgs s p) = 3 then 2 else 0, p + dgs s p, [⟨2, ⟨#[]⟩, numv s p (dgs s p), p⟩]) := by unfold lst; rw [if_neg (by omega), if_neg (by omega), if_neg (by omega), if_pos h]
theorem kindI_rng (c : Int) : kindI c = 0 ∨ kindI c = 1 ∨ kindI c = 2 ∨ kindI c = 3 ∨ kindI c = 4 := by
  unfold kindI
  repeat' split
  all_goals simp
theorem kb_rng (s : ByteArray) (p : Nat) : kb s p = 0 ∨ kb s p = 1 ∨ kb s p = 2 ∨ kb s p = 3 ∨ kb s p = 4 := by
  unfold kb; split
  · exact kindI_rng _
  · simp
theorem lst_0 {s : ByteArray} {p : Nat} (h : kb s p = 0) : lst s p = (2, p, []) := by unfold lst; rw [if_neg (by omega), if_neg (by omega), if_neg (by omega), if_neg (by omega)]
theorem dgo_kb {s : ByteArray} {p : Nat} (h : p < s.size) : kindI (Lib.decodeGo (s.extract p s.size)).1 = kb s p := by
  have hs : (s.extract p s.size).size = s.size - p := size_ext (Nat.le_refl _)
  unfold Lib.decodeGo
  rw [if_neg (by omega), (dec_kb (by omega)).1, kb_in (by omega), kb_in h, byt_ext (by omega) (Nat.le_refl _), Nat.add_zero]
/-- The byte that ends a line, as the library looks for it. -/
theorem ixb_eol {s : ByteArray} {p : Nat} (h : p ≤ s.size) : (Lib.indexByte (s.extract p s.size).data.toList 10 = -1 ∧ p + eol s p = s.size) ∨ (Lib.indexByte (s.extract p s.size).data.toList 10 = (eol s p : Int) ∧ p + eol s p < s.size) := by
  have hge := Lib.indexByte_ge (s.extract p s.size).data.toList 10
  have hl : (s.extract p s.size).data.toList.length = s.size - p := by rw [Array.length_toList]; exact size_ext (Nat.le_refl _)
  have hg : ∀ k : Nat, (s.extract p s.size).data.toList[k]? = some 10 ↔ (p + k < s.size ∧ byt s (p + k) = 10) := fun k => by
    have hsz : (s.extract p s.size).size = s.size - p := size_ext (Nat.le_refl _)
    by_cases hk : p + k < s.size
    · have hk' : k < (s.extract p s.size).size := by omega
      have e := byt_at hk'
      rw [byt_ext hk (Nat.le_refl _)] at e
      rw [List.getElem?_eq_getElem (by omega), Option.some.injEq, ← e]
      have e2 : (s.extract p s.size).data.toList[k]'(by omega) = (s.extract p s.size)[k]'hk' := by simp [ByteArray.getElem_eq_getElem_data]
      rw [e2]
      constructor
      · intro h; rw [h]; exact ⟨hk, rfl⟩
      · intro ⟨_, h⟩
        apply UInt8.toNat.inj
        have : ((s.extract p s.size)[k]'hk').toNat = 10 := by omega
        rw [this]; rfl
    · rw [List.getElem?_eq_none (by omega)]
      simp; omega
  by_cases hn : Lib.indexByte (s.extract p s.size).data.toList 10 = -1
  · refine .inl ⟨hn, ?_⟩
    have h2 := (eol_spec s p).2
    have h3 := eol_le s h
    rcases Nat.lt_or_ge (p + eol s p) s.size with q | q
    · exfalso
      refine Lib.indexByte_none hn (eol s p) ((hg _).2 ⟨q, ?_⟩)
      exact Classical.byContradiction fun e => h2 ⟨q, e⟩
    · omega
  · obtain ⟨o, ho⟩ : ∃ o : Nat, Lib.indexByte (s.extract p s.size).data.toList 10 = o := ⟨_, (Int.toNat_of_nonneg (by omega)).symm⟩
    obtain ⟨h1, h2⟩ := Lib.indexByte_some ho
    have h1' := (hg o).1 h1
    have e : eol s p = o := eol_uniq (fun j hj => ⟨by omega, fun e => h2 j hj ((hg j).2 ⟨by omega, e⟩)⟩) (fun h => h.2 h1'.2)
    exact .inr ⟨by rw [ho, e], by omega⟩
end Go.Proofs.YtdbbigjoloinpaaDoor
