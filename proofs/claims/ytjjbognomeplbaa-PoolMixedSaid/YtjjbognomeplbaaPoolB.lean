/-
  Several workers of a pool: their own slots and their acts as lists; what the statement holds of them.
-/
import Derived.Test.YtjjbognomeplbaaPoolR
import Derived.Test.YtjjbognomeplbaaBundle
import Derived.Test.YtjjbognomeplbaaOpenS
import Derived.Test.YtjjbognomeplbaaEngA
namespace Go.Proofs.Ytjjbognomeplbaa
open Go.RowKit

structure OwS where
  Y : List Int
  a : Option Addr
  c : Nat
def owV (o : OwS) : Value := .slice o.a o.Y.length o.c
def owC (o : OwS) : Ck := own 3 1 (.slice o.a o.Y.length o.c) o.Y.length (o.Y.map (Value.int .i64))
def qC (q m nb ns ob ws : Nat) (bs : Int) : Ck := pt q #[.pointer (some ⟨m, 0, none⟩), .int .i64 bs, .slice (some ⟨nb, 0, none⟩) ns ns, .slice (some ⟨ob, 0, none⟩) ws ws] 128
def obC (ob : Nat) (gs : List OwS) : Ck := pt ob (vals (gs.map owV)) 43
theorem owV_at {gs : List OwS} {k : Nat} {o : OwS} (h : gs[k]? = some o) : (gs.map owV)[k]? = some (.slice o.a o.Y.length o.c) := by rw [List.getElem?_map, h]; rfl
theorem owV_at3 {gs : List OwS} {k : Nat} {Y : List Int} {a : Option Addr} {c : Nat} (h : gs[k]? = some ⟨Y, a, c⟩) : (gs.map owV)[k]? = some (.slice a Y.length c) := by rw [List.getElem?_map, h]; rfl
theorem ows_some {gs : List OwS} {k : Nat} (h : k < gs.length) : ∃ o, gs[k]? = some o := ⟨_, List.getElem?_eq_getElem h⟩

/-- Own, of a worker among several. -/
theorem pown_b (q m nb ns ob ws : Nat) (bs : Int) (k : Nat) (gs : List OwS) (o : OwS) (hi : k < ws) (hk : gs[k]? = some o) (hY : o.Y.length ≤ 1000) (w : World)
    (hM : Mem w (feet [qC q m nb ns ob ws bs, obC ob gs, bundle (gs.map owC)]) [qC q m nb ns ob ws bs, obC ob gs, bundle (gs.map owC)] w) :
    Calls Try.prog 52 #[.pointer (some ⟨q, 0, none⟩), .int .i64 (k : Int)] w fun e w' => ∃ a2 c2, e = .returned (.slice a2 o.Y.length c2) ∧
      Mem w (feet [qC q m nb ns ob ws bs, obC ob gs, bundle (gs.map owC)]) [own 3 1 (.slice a2 o.Y.length c2) o.Y.length (o.Y.map (Value.int .i64)), qC q m nb ns ob ws bs, obC ob gs, bundle (gs.map owC)] w' := by
  have h1 := (hM.front (k := 2) rfl).openB hk
  have h2 : Mem w _ [qC q m nb ns ob ws bs, obC ob gs, owC o, bundle ((gs.eraseIdx k).map owC)] w := (((h1.front (k := 1) rfl).front (k := 1) rfl).front (k := 3) rfl).front (k := 3) rfl
  refine (pown_ok q m nb ns ob ws bs k (gs.map owV) o.a o.Y o.c (by omega) (owV_at hk) hY w (h2.hereN 3)).mono ?_
  rintro e w' ⟨a2, c2, he, hn⟩
  have h3 := h2.callL 3 hn
  have h4 := Mem.closeB (f := owC) (y := o) ((h3.front (k := 4) rfl).front (k := 4) rfl) hk
  rw [set_self hk] at h4
  exact ⟨a2, c2, he, ((h4.front (k := 3) rfl).front (k := 3) rfl).front (k := 3) rfl⟩
section
variable (p q m nb ns ob ws c : Nat) (bs n V : Int) (o : CellOp) (hmc : m ≠ c) (gs : List OwS) (hgl : gs.length = ws) (t : PAct) (l : List Int) (s : Int) (hs : 0 ≤ s ∧ s < 9223372036854775800) (H xs : List Int) (ac : List (Option PAct)) (k : Nat) (y : OwS)
def acks (p q m nb ns ob ws c : Nat) (bs : Int) (o : CellOp) (gs : List OwS) (t : PAct) (l : List Int) (s : Int) (k : Nat) : List Ck := [actC p q k t, qC q m nb ns ob ws bs, obC ob gs, bundle (gs.map owC), memO m c l s o]
theorem acks_open {w : World} (hy : gs[k]? = some y) {w0 : World} {F : Nat → Prop} (hM : Mem w0 F (acks p q m nb ns ob ws c bs o gs t l s k) w) :
    Mem w0 F (pcks p q m nb ns ob ws c bs k (gs.map owV) y.a y.c o ⟨t, y.Y, l, s⟩ ++ [bundle ((gs.eraseIdx k).map owC)]) w := by
  have h1 := (hM.front (k := 3) rfl).openB hy
  have h2 : Mem w0 F [actC p q k t, qC q m nb ns ob ws bs, obC ob gs, owC y, memO m c l s o, bundle ((gs.eraseIdx k).map owC)] w :=
    ((((h1.front (k := 5) rfl).front (k := 1) rfl).front (k := 5) rfl).front (k := 5) rfl).front (k := 5) rfl
  have e : (gs.map owV).set k (.slice y.a y.Y.length y.c) = gs.map owV := set_self (owV_at hy)
  unfold obC at h2
  rw [← e] at h2
  exact h2
theorem acks_close {w : World} (hy : gs[k]? = some y) {w0 : World} {F : Nat → Prop} {a' : Option Addr} {c' : Nat} {o' : CellOp} {z : PSt}
    (hM : Mem w0 F (pcks p q m nb ns ob ws c bs k (gs.map owV) a' c' o' z ++ [bundle ((gs.eraseIdx k).map owC)]) w) :
    Mem w0 F (acks p q m nb ns ob ws c bs o' (gs.set k ⟨z.Y, a', c'⟩) z.t z.l z.s k) w := by
  have h2 : Mem w0 F [actC p q k z.t, qC q m nb ns ob ws bs, pt ob (vals ((gs.map owV).set k (.slice a' z.Y.length c'))) 43, owC ⟨z.Y, a', c'⟩, memO m c z.l z.s o', bundle ((gs.eraseIdx k).map owC)] w := hM
  have e : (gs.map owV).set k (.slice a' z.Y.length c') = (gs.set k ⟨z.Y, a', c'⟩).map owV := by rw [List.map_set]; rfl
  rw [e] at h2
  have h3 : Mem w0 F (owC ⟨z.Y, a', c'⟩ :: bundle ((gs.eraseIdx k).map owC) :: [actC p q k z.t, qC q m nb ns ob ws bs, obC ob (gs.set k ⟨z.Y, a', c'⟩), memO m c z.l z.s o']) w := (h2.front (k := 5) rfl).front (k := 4) rfl
  have h4 := Mem.closeB (f := owC) h3 hy
  have h5 : Mem w0 F [actC p q k z.t, qC q m nb ns ob ws bs, obC ob (gs.set k ⟨z.Y, a', c'⟩), bundle ((gs.set k ⟨z.Y, a', c'⟩).map owC), memO m c z.l z.s o'] w :=
    ((h4.front (k := 3) rfl).front (k := 3) rfl).front (k := 3) rfl
  exact h5
include hmc hgl hs
theorem pstep_b (h : GI bs n V l H xs (gs.map (·.Y)) ac) (hV : V < 1073741823) (hk : ac[k]? = some (some t)) (hy : gs[k]? = some y) (hkw : k < ws) (w : World) (hM : Mem w (feet (acks p q m nb ns ob ws c bs o gs t l s k)) (acks p q m nb ns ob ws c bs o gs t l s k) w) :
    Calls Try.prog 55 #[.pointer (some ⟨p, 0, none⟩)] w fun e w' => ∃ a' c' o' z, e = .returned (.bool (decide (z.t.ph = 3))) ∧ Mem w (feet (acks p q m nb ns ob ws c bs o gs t l s k)) (acks p q m nb ns ob ws c bs o' (gs.set k ⟨z.Y, a', c'⟩) z.t z.l z.s k) w' ∧
      (s ≤ z.s ∧ z.s ≤ s + 1) ∧ POut bs n V H (gs.map (·.Y)) ac k t.give t.slot z := by
  have h1 := acks_open p q m nb ns ob ws c bs o gs t l s k y hy hM
  refine (pstep_gi p q m nb ns ob ws c bs k n V (gs.map owV) y.a y.c o hmc (by omega) (by rw [List.length_map]; exact hgl) t y.Y l s hs H xs (gs.map (·.Y)) ac k h hV hk (by rw [List.getElem?_map, hy]; rfl) w (h1.hereN 5)).mono ?_
  rintro e w' ⟨a', c', o', z, he, hn, hs2, hp⟩
  have h2 := h1.callL 5 hn
  exact ⟨a', c', o', z, he, acks_close p q m nb ns ob ws c bs gs k y hy h2, hs2, hp⟩
theorem prun_b (h : GI bs n V l H xs (gs.map (·.Y)) ac) (hV : V < 1073741823) (hk : ac[k]? = some (some t)) (hy : gs[k]? = some y) (hkw : k < ws) (w : World) (hM : Mem w (feet (acks p q m nb ns ob ws c bs o gs t l s k)) (acks p q m nb ns ob ws c bs o gs t l s k) w) :
    Calls Try.prog 59 #[.pointer (some ⟨p, 0, none⟩)] w fun e w' => ∃ a' c' o' r z, e = .returned (.int .i64 r) ∧ Mem w (feet (acks p q m nb ns ob ws c bs o gs t l s k)) (acks p q m nb ns ob ws c bs o' (gs.set k ⟨z.Y, a', c'⟩) z.t z.l z.s k) w' ∧
      (s ≤ z.s ∧ z.s ≤ s + 5) ∧ SOK bs n z ∧ PEnd bs n V H (gs.map (·.Y)) ac k t.give t.slot z := by
  have h1 := acks_open p q m nb ns ob ws c bs o gs t l s k y hy hM
  have hYk : (gs.map (·.Y))[k]? = some y.Y := by rw [List.getElem?_map, hy]; rfl
  refine (prun_any p q m nb ns ob ws c bs k n (gs.map owV) y.a y.c o hmc (by omega) (by rw [List.length_map]; exact hgl) ⟨t, y.Y, l, s⟩ (gi_sok h hk hYk hs.1) hs.2 w (h1.hereN 5)).mono ?_
  rintro e w' ⟨a', c', o', he, hn⟩
  have h2 := h1.callL 5 hn
  exact ⟨a', c', o', _, _, he, acks_close p q m nb ns ob ws c bs gs k y hy h2, prun_s bs 5 ⟨t, y.Y, l, s⟩, sok_run 5 (gi_sok h hk hYk hs.1), run_out 5 s h hV hs.1 hk hYk (rnk_le _ _)⟩
theorem prun_b2 (hz : SOK bs n ⟨t, y.Y, l, s⟩) (h3 : t.ph = 3) (hy : gs[k]? = some y) (hkw : k < ws) (w : World) (hM : Mem w (feet (acks p q m nb ns ob ws c bs o gs t l s k)) (acks p q m nb ns ob ws c bs o gs t l s k) w) :
    Calls Try.prog 59 #[.pointer (some ⟨p, 0, none⟩)] w fun e w' => ∃ a' c' o', e = .returned (.int .i64 0) ∧ Mem w (feet (acks p q m nb ns ob ws c bs o gs t l s k)) (acks p q m nb ns ob ws c bs o' (gs.set k ⟨y.Y, a', c'⟩) t l s k) w' := by
  have h1 := acks_open p q m nb ns ob ws c bs o gs t l s k y hy hM
  refine (prun_to p q m nb ns ob ws c bs k n (gs.map owV) y.a y.c o hmc (by omega) (by rw [List.length_map]; exact hgl) ⟨t, y.Y, l, s⟩ hz hs.2 0 ⟨t, y.Y, l, s⟩ (prun_hit (j := 0) h3 (by omega)) w (h1.hereN 5)).mono ?_
  rintro e w' ⟨a', c', o', he, hn⟩
  exact ⟨a', c', o', he, acks_close p q m nb ns ob ws c bs gs k y hy (h1.callL 5 hn)⟩
end
/-! ### the statement's acts -/
structure MAct where
  b1 : Nat
  b2 : Nat
  t : PAct
  gv : Bool
  sl : Int
  fr : Int
  wr : Int
abbrev MS := Option MAct
def maV : MS → Value
  | none => .pointer none
  | some x => .pointer (some ⟨x.b1, 0, none⟩)
def maC (q : Nat) : MS → Ck
  | none => emp
  | some x => bundle [pt x.b1 #[.pointer (some ⟨x.b2, 0, none⟩), .bool x.gv, .int .i64 x.sl, .int .i64 x.fr] 102, actC x.b2 q x.wr x.t]
def tsOf (ms : List MS) : List (Option PAct) := ms.map (Option.map MAct.t)
def MOK1 (j : Nat) (x : MAct) : Prop := x.wr = j ∧ x.gv = x.t.give ∧ (x.gv = true → x.sl = x.t.slot) ∧ (x.gv = false → x.t.slot = -1)
def MOK (ms : List MS) : Prop := ∀ (j : Nat) (x : MAct), ms[j]? = some (some x) → MOK1 j x
theorem mok_set {ms : List MS} {k : Nat} {x : MS} (h : MOK ms) (hx : ∀ y, x = some y → MOK1 k y) : MOK (ms.set k x) := by
  intro j y hj
  rw [List.getElem?_set] at hj
  split at hj
  · rename_i e; subst e
    split at hj
    · exact hx y (by simpa using hj)
    · cases hj
  · exact h j y hj
/-- The same but for what it counts. -/
def er (x : MAct) : MAct := ⟨x.b1, x.b2, x.t, x.gv, x.sl, 0, x.wr⟩
def ErEq (a b : List MS) : Prop := a.map (Option.map er) = b.map (Option.map er)
theorem er_at {a b : List MS} (h : ErEq a b) {j : Nat} {x : MAct} (hj : a[j]? = some (some x)) : ∃ y, b[j]? = some (some y) ∧ er x = er y := by
  have h1 : (a.map (Option.map er))[j]? = (b.map (Option.map er))[j]? := by rw [h]
  rw [List.getElem?_map, List.getElem?_map, hj] at h1
  match hb : b[j]?, h1 with
  | none, h1 => cases h1
  | some none, h1 => cases h1
  | some (some y), h1 => exact ⟨y, rfl, by simpa using h1⟩
theorem er_fr {a b : List MS} (h : ErEq a b) {j : Nat} {y : MAct} (hj : b[j]? = some (some y)) : ∃ f, a[j]? = some (some ⟨y.b1, y.b2, y.t, y.gv, y.sl, f, y.wr⟩) := by
  obtain ⟨x, hx, e⟩ := er_at (a := b) (b := a) h.symm hj
  refine ⟨x.fr, ?_⟩
  rw [hx]
  obtain ⟨x1, x2, x3, x4, x5, x6, x7⟩ := x
  obtain ⟨y1, y2, y3, y4, y5, y6, y7⟩ := y
  simp only [er, MAct.mk.injEq] at e
  obtain ⟨rfl, rfl, rfl, rfl, rfl, -, rfl⟩ := e
  rfl
theorem er_ts {a b : List MS} (h : ErEq a b) : tsOf a = tsOf b := by
  have h1 : ∀ c : List MS, tsOf c = (c.map (Option.map er)).map (Option.map MAct.t) := fun c => by
    unfold tsOf
    rw [List.map_map]
    refine List.map_congr_left fun x _ => ?_
    cases x <;> rfl
  rw [h1 a, h1 b, h]
theorem er_mok {a b : List MS} (h : ErEq a b) (hb : MOK b) : MOK a := by
  intro j x hj
  obtain ⟨y, hy, e⟩ := er_at h hj
  have h1 := hb j y hy
  obtain ⟨x1, x2, x3, x4, x5, x6, x7⟩ := x
  obtain ⟨y1, y2, y3, y4, y5, y6, y7⟩ := y
  simp only [er, MAct.mk.injEq] at e
  obtain ⟨rfl, rfl, rfl, rfl, rfl, -, rfl⟩ := e
  exact h1
theorem er_len {a b : List MS} (h : ErEq a b) : a.length = b.length := by
  have := congrArg List.length h
  simpa using this
theorem er_set {a b : List MS} (h : ErEq a b) {j : Nat} {x : MAct} (hj : a[j]? = some (some x)) (f : Int) : ErEq (a.set j (some ⟨x.b1, x.b2, x.t, x.gv, x.sl, f, x.wr⟩)) b := by
  unfold ErEq at *
  rw [List.map_set, ← h]
  exact set_self (by rw [List.getElem?_map, hj]; rfl)
theorem tsOf_set (ms : List MS) (k : Nat) (x : MS) : tsOf (ms.set k x) = (tsOf ms).set k (x.map MAct.t) := by unfold tsOf; rw [List.map_set]
theorem tsOf_at {ms : List MS} {k : Nat} {x : MS} (h : ms[k]? = some x) : (tsOf ms)[k]? = some (x.map MAct.t) := by unfold tsOf; rw [List.getElem?_map, h]; rfl
theorem maV_at {ms : List MS} {j : Nat} {x : MS} (hx : ms[j]? = some x) : (ms.map maV)[j]? = some (maV x) := by rw [List.getElem?_map, hx]; rfl
theorem ma_some {ms : List MS} {j : Nat} (hj : j < ms.length) (h : ¬ ms[j]? = some none) : ∃ t, ms[j]? = some (some t) := by
  rw [List.getElem?_eq_getElem hj] at h ⊢
  match hx : ms[j], h with
  | none, h => exact absurd rfl h
  | some t, _ => exact ⟨t, rfl⟩
theorem maV_set {ms : List MS} {j : Nat} {t t' : MAct} (hx : ms[j]? = some (some t)) (hb : t'.b1 = t.b1) : (ms.set j (some t')).map maV = ms.map maV := by
  rw [List.map_set]
  exact set_self (by rw [List.getElem?_map, hx]; simp [maV, hb])
/-- Who holds what. -/
def HoldI (n : Int) (H : List Int) (hy : List (List Int)) (ts : List (Option PAct)) : Prop :=
  ∀ (j : Nat) (Y : List Int), hy[j]? = some Y → Y.Nodup ∧ (∀ x ∈ Y, 0 ≤ x ∧ x < n ∧ H.getD x.toNat 0 = j) ∧ ∀ t, ts[j]? = some (some t) → t.give = true → t.slot ∉ Y
section
variable {n : Int} {H : List Int} {hy : List (List Int)} {ts : List (Option PAct)} {k : Nat}
theorem hold_len (h : HoldI n H hy ts) (hn : 0 ≤ n) {Y : List Int} (hk : hy[k]? = some Y) : Y.length ≤ n.toNat :=
  nodup_len _ _ (h k Y hk).1 (fun x hx => by have := (h k Y hk).2.1 x hx; omega)
theorem set_cases {α : Type} {l : List α} {k j : Nat} {x y : α} (h : (l.set k x)[j]? = some y) : (j = k ∧ y = x) ∨ (j ≠ k ∧ l[j]? = some y) := by
  rw [List.getElem?_set] at h
  split at h
  · rename_i e; subst e
    split at h
    · exact .inl ⟨rfl, (Option.some.inj h).symm⟩
    · cases h
  · rename_i e; exact .inr ⟨fun e' => e e'.symm, h⟩
theorem hold_act (h : HoldI n H hy ts) {x : Option PAct} (hx : ∀ t, x = some t → t.give = true → ∀ Y, hy[k]? = some Y → t.slot ∉ Y) : HoldI n H hy (ts.set k x) := by
  intro j Y hj
  obtain ⟨h1, h2, h3⟩ := h j Y hj
  refine ⟨h1, h2, fun t ht hg => ?_⟩
  rcases set_cases ht with ⟨rfl, e⟩ | ⟨_, e⟩
  · exact hx t e.symm hg Y hj
  · exact h3 t e hg
theorem hold_give (h : HoldI n H hy ts) {Y : List Int} (hk : hy[k]? = some Y) {i : Nat} (hi : i < Y.length) (a b c d : Int) : HoldI n H (hy.set k (Y.eraseIdx i)) (ts.set k (some ⟨true, Y.getD i 0, a, b, c⟩)) ∧ 0 ≤ Y.getD i 0 ∧ Y.getD i 0 < n ∧ H.getD (Y.getD i 0).toNat 0 = k := by
  have _ := d
  obtain ⟨g1, g2, g3⟩ := h k Y hk
  have hm := getD_mem Y i hi
  refine ⟨fun j Z hj => ?_, (g2 _ hm).1, (g2 _ hm).2.1, (g2 _ hm).2.2⟩
  rcases set_cases hj with ⟨rfl, rfl⟩ | ⟨hne, e⟩
  · refine ⟨g1.sublist (List.eraseIdx_sublist _ _), fun x hx => g2 x (List.mem_of_mem_eraseIdx hx), fun t ht hg => ?_⟩
    rcases set_cases ht with ⟨_, e⟩ | ⟨e, _⟩
    · obtain rfl := Option.some.inj e
      have hp := perm_at (xs := Y) (j := i) (x := Y.getD i 0) (by rw [List.getD_eq_getElem?_getD, List.getElem?_eq_getElem hi]; rfl)
      exact (List.nodup_cons.1 (hp.nodup_iff.1 g1)).1
    · exact absurd rfl e
  · obtain ⟨f1, f2, f3⟩ := h j Z e
    refine ⟨f1, f2, fun t ht hg => ?_⟩
    rcases set_cases ht with ⟨e1, _⟩ | ⟨_, e1⟩
    · exact absurd e1 hne
    · exact f3 t e1 hg
theorem hold_gave (h : HoldI n H hy ts) {s : Int} (hs : 0 ≤ s) (hh : H.getD s.toNat 0 = k) (hnot : ∀ Y, hy[k]? = some Y → s ∉ Y) : HoldI n (H.set s.toNat (-1)) hy (ts.set k none) := by
  intro j Y hj
  obtain ⟨h1, h2, h3⟩ := h j Y hj
  refine ⟨h1, fun x hx => ?_, fun t ht hg => ?_⟩
  · have hx2 := h2 x hx
    have hne : s ≠ x := fun e => by
      subst e
      have hjk : j = k := by have := hx2.2.2; omega
      subst hjk
      exact hnot Y hj hx
    rw [getD_set_ne _ _ _ _ (by omega)]
    exact hx2
  · rcases set_cases ht with ⟨_, e⟩ | ⟨_, e⟩
    · cases e
    · exact h3 t e hg
theorem hold_took (h : HoldI n H hy ts) (hl : (H.length : Int) = n) {Y : List Int} (hk : hy[k]? = some Y) {s : Int} (hs : 0 ≤ s ∧ s < n) (hh : H.getD s.toNat 0 = -1) : HoldI n (H.set s.toNat k) (hy.set k (Y ++ [s])) (ts.set k none) := by
  have hout : ∀ j Z, hy[j]? = some Z → s ∉ Z := fun j Z hj hm => by have := ((h j Z hj).2.1 s hm).2.2; omega
  intro j Z hj
  rcases set_cases hj with ⟨rfl, rfl⟩ | ⟨hne, e⟩
  · obtain ⟨h1, h2, h3⟩ := h j Y hk
    refine ⟨List.nodup_append.2 ⟨h1, by simp, fun x hx y hy e => ?_⟩, fun x hx => ?_, fun t ht _ => ?_⟩
    · obtain rfl : y = s := by simpa using hy
      subst e
      exact hout j Y hk hx
    · rcases List.mem_append.1 hx with hx | hx
      · have hx2 := h2 x hx
        have : s ≠ x := fun e => hout j Y hk (e ▸ hx)
        rw [getD_set_ne _ _ _ _ (by omega)]; exact hx2
      · obtain rfl : x = s := by simpa using hx
        exact ⟨hs.1, hs.2, getD_set_at _ _ _ (by omega)⟩
    · rcases set_cases ht with ⟨_, e⟩ | ⟨e, _⟩
      · cases e
      · exact absurd rfl e
  · obtain ⟨h1, h2, h3⟩ := h j Z e
    refine ⟨h1, fun x hx => ?_, fun t ht hg => ?_⟩
    · have hx2 := h2 x hx
      have : s ≠ x := fun e' => hout j Z e (e' ▸ hx)
      rw [getD_set_ne _ _ _ _ (by omega)]; exact hx2
    · rcases set_cases ht with ⟨_, e⟩ | ⟨_, e⟩
      · cases e
      · exact h3 t e hg
end
theorem RowSl.three {w : World} {a : Option Addr} {n cap : Nat} {l : List Int} (h : RowSl w (.slice a n cap) 3 n l) {i : Nat} (hi : i < n) :
    ∃ b off x0 x1 x2, a = some ⟨b, off, none⟩ ∧ ∀ j v, ([.int .i64 x0, .int .i64 x1, .int .i64 x2] : List Value)[j]? = some v → w.cell? ⟨b, off + i * 3 + j, none⟩ = some v := by
  obtain ⟨b, off, rfl, hc⟩ := h.at hi
  refine ⟨b, off, l.getD (i * 3 + 0) 0, l.getD (i * 3 + 1) 0, l.getD (i * 3 + 2) 0, rfl, fun j v hj => ?_⟩
  match j, hj with
  | 0, hj => exact (hc 0 (by omega)).trans hj
  | 1, hj => exact (hc 1 (by omega)).trans hj
  | 2, hj => exact (hc 2 (by omega)).trans hj
  | j + 3, hj => simp at hj

theorem news_take {f : Int → Value} {X : List Int} {m j : Nat} {u : Value} (h : ((X.take m).map f)[j]? = some u) : (X.map f)[j]? = some u := by
  rw [List.map_take, List.getElem?_take] at h
  split at h
  · exact h
  · cases h
theorem news_drop {f : Int → Value} {X : List Int} {m j : Nat} {u : Value} (h : ((X.drop m).map f)[j]? = some u) : (X.map f)[m + j]? = some u := by
  rwa [List.map_drop, List.getElem?_drop] at h
theorem chn_uniq {bs : Int} {l : List Int} : ∀ {xs ys : List Int} {p : Int}, Chn bs l p xs → Chn bs l p ys → xs = ys
  | [], [], _, _, _ => rfl
  | [], y :: ys, p, h, h2 => by have e : p = -1 := h; have := h2.1; have := h2.2.1; omega
  | x :: xs, [], p, h, h2 => by have e : p = -1 := h2; have := h.1; have := h.2.1; omega
  | x :: xs, y :: ys, p, h, h2 => by
    obtain ⟨rfl, -, h3⟩ := h
    obtain ⟨rfl, -, h4⟩ := h2
    rw [chn_uniq h3 h4]
/-- What is looked at: the stack, and how long the lists are. -/
structure Look (n : Int) (l xs : List Int) (ys : List (List Int)) : Prop where
  mi : MI 3 n l
  chn : Chn 3 l (atI (l.getD (3 : Int).toNat 0)) xs
  len : xs.length ≤ n.toNat
  rng : ∀ x ∈ xs, 0 ≤ x ∧ x < n
  own : ∀ y ∈ ys, y.length ≤ 2
section
variable {n V slot : Int} {l H xs : List Int} {ys : List (List Int)} {ac : List (Option PAct)} {k : Nat} {g : Bool} {z : PSt}
theorem GI.look (h : GI 3 n V l H xs ys ac) : Look n l xs ys := by
  refine ⟨h.mi, h.chn, ?_, fun x hx => h.held.2.2.1 x (List.mem_append_right _ hx), h.own⟩
  have := held_len (by have := h.mi.2.1; omega) h.held
  rw [List.length_append] at this; omega
theorem pout_look (h : POut 3 n V H ys ac k g slot z) : ∃ xs, Look n z.l xs (ys.set k z.Y) := by
  rcases h with ⟨xs, h, _⟩ | ⟨xs, _, _, _, h⟩ | ⟨_, _, _, _, h⟩ | ⟨xs, _, _, _, _, h⟩
  all_goals exact ⟨_, h.look⟩
theorem pout_on (h : POut 3 n V H ys ac k g slot z) (h3 : z.t.ph ≠ 3) : ∃ xs, GI 3 n V z.l H xs (ys.set k z.Y) (ac.set k (some z.t)) ∧ z.t.give = g ∧ z.t.slot = slot := by
  rcases h with ⟨xs, h, _, hg, hs⟩ | ⟨xs, _, h4, _⟩ | ⟨_, h4, _⟩ | ⟨xs, _, h4, _⟩
  · exact ⟨xs, h, hg, hs⟩
  all_goals exact absurd h4 h3
theorem pout_gave (h : POut 3 n V H ys ac k g slot z) (h3 : z.t.ph = 3) (hg : g = true) : ∃ xs, z.t.slot = slot ∧ GI 3 n (V + 1) z.l (H.set slot.toNat (-1)) xs (ys.set k z.Y) (ac.set k none) := by
  rcases h with ⟨xs, h, h4, _⟩ | ⟨xs, _, _, hs, h⟩ | ⟨hg', _⟩ | ⟨xs, hg', _⟩
  · exact absurd h3 h4
  · exact ⟨xs, hs, h⟩
  all_goals (rw [hg] at hg'; cases hg')
theorem pout_empty (h : POut 3 n V H ys ac k g slot z) (h3 : z.t.ph = 3) (hg : g = false) (hs : z.t.slot = -1) : z.Y = [] ∧ GI 3 n V z.l H [] (ys.set k z.Y) (ac.set k none) := by
  rcases h with ⟨xs, h, h4, _⟩ | ⟨xs, hg', _⟩ | ⟨_, _, _, hY, h⟩ | ⟨xs, _, _, hs', _⟩
  · exact absurd h3 h4
  · rw [hg] at hg'; cases hg'
  · exact ⟨hY, h⟩
  · omega
theorem pout_took (h : POut 3 n V H ys ac k g slot z) (h3 : z.t.ph = 3) (hg : g = false) (hs : z.t.slot ≠ -1) (hsl : slot = -1) : ∃ xs, (0 ≤ z.t.slot ∧ z.t.slot < n) ∧ H.getD z.t.slot.toNat 0 = -1 ∧ GI 3 n (V + 1) z.l (H.set z.t.slot.toNat k) xs (ys.set k z.Y) (ac.set k none) := by
  rcases h with ⟨xs, h, h4, _⟩ | ⟨xs, hg', _⟩ | ⟨_, _, hs', _⟩ | ⟨xs, _, _, hs', hh, h⟩
  · exact absurd h3 h4
  · rw [hg] at hg'; cases hg'
  · exact absurd (hs'.trans hsl) hs
  · exact ⟨xs, hs', hh, h⟩
theorem pend_ph (h : PEnd 3 n V H ys ac k g slot z) : z.t.ph = 3 := by
  rcases h with ⟨_, _, h, _⟩ | ⟨_, h, _⟩ | ⟨_, _, h, _⟩ <;> exact h
theorem pend_gave (h : PEnd 3 n V H ys ac k g slot z) (hg : g = true) : ∃ xs, z.t.slot = slot ∧ GI 3 n (V + 1) z.l (H.set slot.toNat (-1)) xs (ys.set k z.Y) (ac.set k none) := by
  rcases h with ⟨xs, _, _, hs, h⟩ | ⟨hg', _⟩ | ⟨xs, hg', _⟩
  · exact ⟨xs, hs, h⟩
  all_goals (rw [hg] at hg'; cases hg')
theorem pend_empty (h : PEnd 3 n V H ys ac k g slot z) (hg : g = false) (hs : z.t.slot < 0) : GI 3 n (V + 1) z.l H [] (ys.set k z.Y) (ac.set k none) := by
  rcases h with ⟨xs, hg', _⟩ | ⟨_, _, _, _, h⟩ | ⟨xs, _, _, hs', _⟩
  · rw [hg] at hg'; cases hg'
  · exact h
  · omega
theorem pend_took (h : PEnd 3 n V H ys ac k g slot z) (hg : g = false) (hs : 0 ≤ z.t.slot) (hsl : slot = -1) : ∃ xs, z.t.slot < n ∧ H.getD z.t.slot.toNat 0 = -1 ∧ GI 3 n (V + 1) z.l (H.set z.t.slot.toNat k) xs (ys.set k z.Y) (ac.set k none) := by
  rcases h with ⟨xs, hg', _⟩ | ⟨_, _, hs', _⟩ | ⟨xs, _, _, hs', hh, h⟩
  · rw [hg] at hg'; cases hg'
  · omega
  · exact ⟨xs, hs'.2, hh, h⟩
end
theorem hold_new {n : Int} {H : List Int} (N : Nat) (ts : List (Option PAct)) : HoldI n H (List.replicate N []) ts := by
  intro j Y hj
  have e := List.eq_of_mem_replicate (List.mem_of_getElem? hj)
  subst e
  exact ⟨List.nodup_nil, fun x hx => (by cases hx), fun t _ _ hm => (by cases hm)⟩
theorem mok_new (N : Nat) : MOK (List.replicate N none) := fun j x hj => by
  have e := List.eq_of_mem_replicate (List.mem_of_getElem? hj)
  cases e
theorem list4 {α : Type} {l : List α} (h : l.length = 4) : ∃ a b c d, l = [a, b, c, d] := by
  match l, h with
  | [a, b, c, d], _ => exact ⟨a, b, c, d, rfl⟩
theorem Mem.nilOw {w0 w : World} {F : Nat → Prop} {L : List Ck} (h : Mem w0 F L w) : Mem w0 F (bundle ((List.replicate 4 (⟨[], none, 0⟩ : OwS)).map owC) :: L) w :=
  Mem.pack (cs := (List.replicate 4 (⟨[], none, 0⟩ : OwS)).map owC) ((((h.ownNil 3 1).ownNil 3 1).ownNil 3 1).ownNil 3 1)
theorem empsA : ∀ n, apartL (List.replicate n emp)
  | 0 => List.Pairwise.nil
  | n + 1 => by
    rw [List.replicate_succ]
    exact List.pairwise_cons.2 ⟨fun d _ b hb => hb.elim, empsA n⟩
theorem Mem.empsB {w0 w : World} {F : Nat → Prop} {L : List Ck} (h : Mem w0 F L w) (n : Nat) : Mem w0 F (bundle (List.replicate n emp) :: L) w :=
  h.consNo ⟨fun c hc => by rw [List.eq_of_mem_replicate hc]; trivial, empsA n⟩ (fun b ⟨c, hc, hb⟩ => by rw [List.eq_of_mem_replicate hc] at hb; exact hb)
end Go.Proofs.Ytjjbognomeplbaa
