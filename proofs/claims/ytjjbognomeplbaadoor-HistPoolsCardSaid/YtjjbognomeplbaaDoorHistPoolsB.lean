/-
  HistPools, part 2 of 5: what the code computes, and plain laws; no condition beside those that each theorem tells.
-/
import Derived.Test.YtjjbognomeplbaaDoorHistPoolsA
import Derived.Shelf.Slices.Turned
import Derived.Ground.Names2Prog
import Derived.Shelf.Slices.Clone
import Derived.Shelf.Slices.Delete
import Derived.Shelf.Slices.Cells
import Derived.Shelf.Slices.Empties
import Derived.Test.YtjjbognomeplbaaDoorProg
import Derived.Test.YtjjbognomeplbaaDoorRows
namespace Go.Proofs.YtjjbognomeplbaaDoor
open Go.RowKit
structure HOp where
  k : Int
  i : Int
  f : Int
  t : Int
def hop (ops : List HOp) (j : Nat) : HOp := ops.getD j ⟨0, 0, 0, 0⟩
def hopv : List HOp → List Int
  | [] => []
  | o :: l => o.k :: o.i :: o.f :: o.t :: hopv l
theorem hopv_len : ∀ l : List HOp, (hopv l).length = l.length * 4
  | [] => rfl
  | o :: l => by simp only [hopv, List.length_cons, hopv_len l]; omega
theorem hopv_app : ∀ l m : List HOp, hopv (l ++ m) = hopv l ++ hopv m
  | [], m => rfl
  | o :: l, m => by simp [hopv, hopv_app l m]
theorem hopv_at : ∀ (l : List HOp) (j : Nat), j < l.length → (hopv l).getD (j * 4) 0 = (hop l j).k ∧ (hopv l).getD (j * 4 + 1) 0 = (hop l j).i ∧ (hopv l).getD (j * 4 + 2) 0 = (hop l j).f ∧ (hopv l).getD (j * 4 + 3) 0 = (hop l j).t
  | [], j, h => absurd h (Nat.not_lt_zero _)
  | o :: l, 0, _ => ⟨rfl, rfl, rfl, rfl⟩
  | o :: l, j + 1, h => by
    obtain ⟨h1, h2, h3, h4⟩ := hopv_at l j (by simpa using h)
    have e : (j + 1) * 4 = j * 4 + 4 := by omega
    rw [e]
    exact ⟨h1, h2, h3, h4⟩
def woF (f : Nat → Bool) (k : Nat) (b : Nat) : Bool := f b && !decide (b = k)
def tlt (ops : List HOp) (k : Nat) (a : Int) : Bool := decide ((hop ops a.toNat).t < (hop ops k).f)
def mayP (ops : List HOp) (f : Nat → Bool) (k : Nat) : Bool := (eL (woF f k) 0).all fun a => !tlt ops k a
def doP (o : HOp) (bag : List Int) : Option (List Int) :=
  if o.k = 1 then some (bag ++ [o.i]) else if o.i = -1 then (if bag = [] then some bag else none) else if o.i ∈ bag then some (bag.erase o.i) else none
def keyF (f : Nat → Bool) : Int × Int := (loW f, hiW f)
abbrev Ded := List (Int × Int)
def addK (k : Int × Int) (d : Ded) : Ded := if k ∈ d then d else d ++ [k]
def fgo (ops : List HOp) (f : Nat → Bool) (bag : List Int) (rec : (Nat → Bool) → List Int → Ded → Option (List Int) × Ded) : List Int → Ded → Option (List Int) × Ded
  | [], d => (none, addK (keyF f) d)
  | k :: ks, d => if mayP ops f k.toNat = true then
      match doP (hop ops k.toNat) bag with
      | none => fgo ops f bag rec ks d
      | some bag' => match rec (woF f k.toNat) bag' d with
        | (some r, d') => (some (k :: r), d')
        | (none, d') => fgo ops f bag rec ks d'
    else fgo ops f bag rec ks d
def fnd (ops : List HOp) : Nat → (Nat → Bool) → List Int → Ded → Option (List Int) × Ded
  | 0, _, _, d => (some [], d)
  | n + 1, f, bag, d => if keyF f = (0, 0) then (some [], d) else if keyF f ∈ d then (none, d) else fgo ops f bag (fnd ops n) (eL f 0) d
theorem eL_mem {f : Nat → Bool} : ∀ n b, 128 - b = n → ∀ x, x ∈ eL f b ↔ ∃ c : Nat, x = (c : Int) ∧ b ≤ c ∧ c < 128 ∧ f c = true
  | 0, b, h, x => by
    rw [eL_stop (by omega)]
    constructor
    · intro h; cases h
    · rintro ⟨c, -, h1, h2, -⟩; omega
  | n + 1, b, h, x => by
    rw [eL_step (by omega)]
    by_cases hf : f b = true
    · rw [if_pos hf, List.mem_cons, eL_mem n (b + 1) (by omega) x]
      constructor
      · rintro (rfl | ⟨c, h1, h2, h3, h4⟩)
        · exact ⟨b, rfl, Nat.le_refl _, by omega, hf⟩
        · exact ⟨c, h1, by omega, h3, h4⟩
      · rintro ⟨c, h1, h2, h3, h4⟩
        rcases Nat.lt_or_ge b c with g | g
        · exact .inr ⟨c, h1, g, h3, h4⟩
        · exact .inl (by rw [h1, show c = b by omega])
    · rw [if_neg hf, eL_mem n (b + 1) (by omega) x]
      constructor
      · rintro ⟨c, h1, h2, h3, h4⟩; exact ⟨c, h1, by omega, h3, h4⟩
      · rintro ⟨c, h1, h2, h3, h4⟩
        refine ⟨c, h1, ?_, h3, h4⟩
        rcases Nat.lt_or_ge b c with g | g
        · exact g
        · exfalso; rw [show c = b by omega] at h4; exact hf h4
theorem mem_eL {f : Nat → Bool} {x : Int} : x ∈ eL f 0 ↔ ∃ c : Nat, x = (c : Int) ∧ c < 128 ∧ f c = true := by
  rw [eL_mem 128 0 rfl x]
  constructor
  · rintro ⟨c, h1, _, h3, h4⟩; exact ⟨c, h1, h3, h4⟩
  · rintro ⟨c, h1, h3, h4⟩; exact ⟨c, h1, Nat.zero_le _, h3, h4⟩
theorem key_zero {f : Nat → Bool} : keyF f = (0, 0) ↔ ∀ b, b < 128 → f b = false := by
  constructor
  · intro h b hb
    have h1 : loW f = 0 := congrArg Prod.fst h
    have h2 : hiW f = 0 := congrArg Prod.snd h
    rcases nx_rng f 128 0 rfl with ⟨-, h⟩ | ⟨m, h3, -, -, -, -⟩
    · exact h b (Nat.zero_le _) hb
    · rw [nx_z h1 h2] at h3; omega
  · intro h
    have h1 : loW f = 0 := by unfold loW; rw [wdB_none (fun b hb => h b (by omega))]; rfl
    have h2 : hiW f = 0 := by unfold hiW; rw [wdB_none (f := fun b => f (64 + b)) (fun b hb => h (64 + b) (by omega))]; rfl
    unfold keyF; rw [h1, h2]
theorem key_nil {f : Nat → Bool} : keyF f = (0, 0) ↔ eL f 0 = [] := by
  rw [key_zero]
  constructor
  · intro h
    rcases hl : eL f 0 with _ | ⟨x, l⟩
    · rfl
    · obtain ⟨c, -, h2, h3⟩ := mem_eL.1 (show x ∈ eL f 0 by rw [hl]; exact .head _)
      rw [h c h2] at h3; cases h3
  · intro h b hb
    cases hf : f b with
    | false => rfl
    | true =>
      have : ((b : Nat) : Int) ∈ eL f 0 := mem_eL.2 ⟨b, rfl, hb, hf⟩
      rw [h] at this; cases this
theorem cnt_wo {f : Nat → Bool} {k : Nat} (hf : f k = true) : ∀ n, cnt (woF f k) n + (if k < n then 1 else 0) = cnt f n
  | 0 => by simp [cnt]
  | n + 1 => by
    have ih := cnt_wo hf n
    rw [cnt, cnt]
    by_cases e : n = k
    · subst e
      have h1 : woF f n n = false := by simp [woF]
      rw [h1, hf, if_pos (Nat.lt_succ_self _), if_neg (Nat.lt_irrefl _)] at *
      simp at *; omega
    · have h1 : woF f k n = f n := by simp [woF, e]
      rw [h1]
      by_cases h2 : k < n
      · rw [if_pos h2] at ih; rw [if_pos (show k < n + 1 by omega)]; omega
      · rw [if_neg h2] at ih; rw [if_neg (show ¬ k < n + 1 by omega)]; omega
theorem eL_wo {f : Nat → Bool} {k : Nat} (hk : k < 128) (hf : f k = true) : (eL (woF f k) 0).length + 1 = (eL f 0).length := by
  have h := cnt_wo hf 128
  rw [if_pos hk] at h
  rw [eL_len, eL_len]; exact h
def OkC (ops : List HOp) : List Int → (Nat → Bool) → List Int → Prop
  | [], f, _ => keyF f = (0, 0)
  | k :: r, f, bag => ∃ m : Nat, k = (m : Int) ∧ m < 128 ∧ f m = true ∧ mayP ops f m = true ∧ (∀ a, a < m → f a = true → mayP ops f a = false ∨ doP (hop ops a) bag = none) ∧ ∃ bag', doP (hop ops m) bag = some bag' ∧ OkC ops r (woF f m) bag'
theorem fgo_skip {ops : List HOp} {f : Nat → Bool} {bag : List Int} {rec : (Nat → Bool) → List Int → Ded → Option (List Int) × Ded} {d : Ded} {m : Nat} (hm : m < 128) (h : ∀ a, a < m → f a = true → mayP ops f a = false ∨ doP (hop ops a) bag = none) : ∀ n b, m - b = n → b ≤ m → fgo ops f bag rec (eL f b) d = fgo ops f bag rec (eL f m) d
  | 0, b, e, hb => by rw [show b = m by omega]
  | n + 1, b, e, hb => by
    rw [eL_step (by omega)]
    by_cases hf : f b = true
    · rw [if_pos hf, fgo]
      have e2 : ((b : Nat) : Int).toNat = b := rfl
      rw [e2]
      rcases h b (by omega) hf with h1 | h1
      · rw [h1, if_neg (by simp), fgo_skip hm h n (b + 1) (by omega) (by omega)]
      · rw [h1]
        split
        · exact fgo_skip hm h n (b + 1) (by omega) (by omega)
        · exact fgo_skip hm h n (b + 1) (by omega) (by omega)
    · rw [if_neg hf, fgo_skip hm h n (b + 1) (by omega) (by omega)]
theorem fnd_ok {ops : List HOp} : ∀ (r : List Int) (n : Nat) (f : Nat → Bool) (bag : List Int), OkC ops r f bag → r.length ≤ n → fnd ops n f bag [] = (some r, [])
  | [], 0, f, bag, h, _ => rfl
  | [], n + 1, f, bag, h, _ => by rw [fnd, if_pos (show keyF f = (0, 0) from h)]
  | k :: r, 0, f, bag, h, hn => by simp at hn
  | k :: r, n + 1, f, bag, h, hn => by
    obtain ⟨m, rfl, hm, hf, hmay, hsk, bag', hdo, hr⟩ := h
    have hne : keyF f ≠ (0, 0) := fun e => by rw [key_zero.1 e m hm] at hf; cases hf
    have ih := fnd_ok r n (woF f m) bag' hr (by simpa using hn)
    rw [fnd, if_neg hne, if_neg (by simp), fgo_skip hm hsk m 0 rfl (Nat.zero_le _), eL_step hm, if_pos hf, fgo]
    have e2 : ((m : Nat) : Int).toNat = m := rfl
    rw [e2, if_pos hmay, hdo]
    show (match fnd ops n (woF f m) bag' [] with | (some r, d') => (some ((m : Int) :: r), d') | (none, d') => fgo ops f bag (fnd ops n) (eL f (m + 1)) d') = _
    rw [ih]
def rightP (o : HOp) : Bool := if o.k = 1 then decide (o.i ≠ -1) && decide (o.f ≤ o.t) else if o.k = 2 then decide (o.f ≤ o.t) else false
def hordP (start : List Int) (ops : List HOp) : List Int × Int :=
  if ops.all rightP = true then
    if 12 < ops.length ∨ 100 < start.length then ([], 5) else
    match (fnd ops ops.length (lessF ops.length) start []).1 with
    | some r => (r, 0)
    | none => ([], 11)
  else ([], 1)
theorem hordP_ok {start r : List Int} {ops : List HOp} (h1 : ops.all rightP = true) (h2 : ops.length ≤ 12) (h3 : start.length ≤ 100) (h4 : OkC ops r (lessF ops.length) start) (h5 : r.length ≤ ops.length) : hordP start ops = (r, 0) := by
  unfold hordP
  rw [if_pos h1, if_neg (by omega), fnd_ok r _ _ _ h4 h5]
end Go.Proofs.YtjjbognomeplbaaDoor
namespace Go.Proofs.YtjjbognomeplbaaDoor
open Go.RowKit
theorem wdB_one (i : Nat) : ∀ k, wdB (fun b => decide (b = i)) k = if i < k then 2 ^ i else 0
  | 0 => by simp [wdB]
  | k + 1 => by
    rw [wdB, wdB_one i k]
    by_cases h : k = i
    · subst h; rw [if_neg (Nat.lt_irrefl _), if_pos (by simp), if_pos (Nat.lt_succ_self _), Nat.zero_add]
    · rw [if_neg (show ¬ (decide (k = i) = true) by simpa using h), Nat.add_zero]
      by_cases h2 : i < k
      · rw [if_pos h2, if_pos (show i < k + 1 by omega)]
      · rw [if_neg h2, if_neg (show ¬ i < k + 1 by omega)]
theorem sub_lo {f : Nat → Bool} {i : Nat} (h : i < 64) : bits BinOp.andNot IntKind.u64 (loW f) (IntKind.u64.wrap (1 * 2 ^ min i IntKind.u64.bits)) = loW (woF f i) ∧ hiW (woF f i) = hiW f := by
  refine ⟨?_, ?_⟩
  · rw [u64_pow h]
    have e := wdB_one i 64
    rw [if_pos h] at e
    unfold loW
    rw [← e, andNot_wd]
    rfl
  · unfold hiW; rw [wdB_congr (g := fun b => f (64 + b)) (fun b _ => by unfold woF; rw [decide_eq_false (by omega)]; simp)]
theorem sub_hi {f : Nat → Bool} {i : Nat} (h : i < 64) : bits BinOp.andNot IntKind.u64 (hiW f) (IntKind.u64.wrap (1 * 2 ^ min i IntKind.u64.bits)) = hiW (woF f (64 + i)) ∧ loW (woF f (64 + i)) = loW f := by
  refine ⟨?_, ?_⟩
  · rw [u64_pow h]
    have e := wdB_one i 64
    rw [if_pos h] at e
    unfold hiW
    rw [← e, andNot_wd]
    exact congrArg (fun n : Nat => (n : Int)) (wdB_congr (fun b hb => by unfold woF miF; congr 2; exact decide_eq_decide.2 (by omega)))
  · unfold loW; rw [wdB_congr (g := f) (fun b hb => by unfold woF; rw [decide_eq_false (by omega)]; simp)]
abbrev Mb (f : Nat → Bool) := { x : Int // ∃ m : Nat, x = (m : Int) ∧ m < 128 ∧ f m = true }
def vs {f : Nat → Bool} (l : List (Mb f)) : List Int := l.map (·.1)
theorem vs_app {f : Nat → Bool} (l : List (Mb f)) (x : Mb f) : vs (l ++ [x]) = vs l ++ [x.1] := by simp [vs]
section
variable {ops : List HOp} {f : Nat → Bool} {X Y r ks : List Int} {rec : (Nat → Bool) → List Int → Ded → Option (List Int) × Ded} {d d' : Ded} {m : Nat}
theorem fgo_no (h : mayP ops f m = false) : fgo ops f X rec ((m : Int) :: ks) d = fgo ops f X rec ks d := by
  rw [fgo, show ((m : Nat) : Int).toNat = m from rfl, h, if_neg (by simp)]
theorem fgo_none (h : mayP ops f m = true) (hd : doP (hop ops m) X = none) : fgo ops f X rec ((m : Int) :: ks) d = fgo ops f X rec ks d := by
  rw [fgo, show ((m : Nat) : Int).toNat = m from rfl, if_pos h, hd]
theorem fgo_hit (h : mayP ops f m = true) (hd : doP (hop ops m) X = some Y) (hr : rec (woF f m) Y d = (some r, d')) : fgo ops f X rec ((m : Int) :: ks) d = (some ((m : Int) :: r), d') := by
  rw [fgo, show ((m : Nat) : Int).toNat = m from rfl, if_pos h, hd]
  show (match rec (woF f m) Y d with | (some r, d') => (some ((m : Int) :: r), d') | (none, d') => fgo ops f X rec ks d') = _
  rw [hr]
theorem fgo_back (h : mayP ops f m = true) (hd : doP (hop ops m) X = some Y) (hr : rec (woF f m) Y d = (none, d')) : fgo ops f X rec ((m : Int) :: ks) d = fgo ops f X rec ks d' := by
  rw [fgo, show ((m : Nat) : Int).toNat = m from rfl, if_pos h, hd]
  show (match rec (woF f m) Y d with | (some r, d') => (some ((m : Int) :: r), d') | (none, d') => fgo ops f X rec ks d') = _
  rw [hr]
theorem fnd_zero (h : keyF f = (0, 0)) : ∀ n, fnd ops n f X d = (some [], d)
  | 0 => rfl
  | n + 1 => by rw [fnd, if_pos h]
theorem doP_len (h : doP (hop ops m) X = some Y) : Y.length ≤ X.length + 1 := by
  unfold doP at h
  split at h
  · cases h; simp
  · split at h
    · split at h
      · cases h; omega
      · cases h
    · split at h
      · cases h; have := List.length_erase_le (a := (hop ops m).i) (l := X); omega
      · cases h
theorem wo_mem {a : Nat} (h : woF f m a = true) : f a = true := by
  unfold woF at h
  simp only [Bool.and_eq_true] at h
  exact h.1
theorem may_yes (h : ∀ x ∈ eL (woF f m) 0, tlt ops m x = false) : mayP ops f m = true := by
  unfold mayP
  exact List.all_eq_true.2 fun x hx => by rw [h x hx]; rfl
theorem may_not {l : List Int} (hl : l = (eL (woF f m) 0).take l.length) (h : ∃ x ∈ l, tlt ops m x = true) : mayP ops f m = false := by
  obtain ⟨x, hx, ht⟩ := h
  rw [hl] at hx
  have h1 := List.mem_of_mem_take hx
  unfold mayP
  cases hq : (eL (woF f m) 0).all fun a => !tlt ops m a with
  | false => rfl
  | true =>
    have := List.all_eq_true.1 hq x h1
    rw [ht] at this; cases this
end
def outO (U : List Int) : Option (List Int) → List Int
  | some r => U ++ r
  | none => U
end Go.Proofs.YtjjbognomeplbaaDoor
namespace Go.Proofs.YtjjbognomeplbaaDoor
open Go.RowKit
theorem sz56 : szOf Tryd.prog 56 = some (false, 1) := by kernel_rfl
def kvV (p : Int × Int) : Value := .agg #[.int .u64 p.1, .int .u64 p.2]
def mpO (d : Ded) (es : Array MapEntry) : Prop := es.toList.map (fun e => (e.key, e.val)) = d.map (fun p => (kvV p, Value.bool true))
def mpc (b : Nat) (d : Ded) : Ck := ⟨fun c => c = b, fun w => ∃ es clock, w.heap[b]? = some (.map es clock) ∧ mpO d es, fun w w' h hw => by rw [h b rfl]; exact hw⟩
theorem run_gm {P : Program} {w : World} {r : Nat} {es : Array MapEntry} {clock : Nat} (hb : w.heap[r]? = some (.map es clock)) : (getObj r).run P w = .ok (.map es clock) w := by simp [getObj, Sem.run, hb]
theorem run_sm {P : Program} {w : World} {r : Nat} {es : Array MapEntry} {clock : Nat} (o : Obj) (hb : w.heap[r]? = some (.map es clock)) : (setObj r o).run P w = .ok () { w with heap := w.heap.setIfInBounds r o } := by simp [setObj, Sem.run, hb]
theorem eq_key (p q : Int × Int) (w : World) : (Op.equal 61 (kvV p) (kvV q)).run Tryd.prog w = .ok (decide (p = q)) w := by
  have h := eq_set p.1 p.2 q.1 q.2 w
  show (Op.equalIn 10000 61 (.agg #[.int .u64 p.1, .int .u64 p.2]) (.agg #[.int .u64 q.1, .int .u64 q.2])).run Tryd.prog w = _
  rw [h]
  congr 1
  exact decide_eq_decide.2 ⟨fun ⟨a, b⟩ => Prod.ext a b, fun e => by rw [e]; exact ⟨rfl, rfl⟩⟩
theorem chk_key (p : Int × Int) (e : Bool) (w : World) : (Instr.checkKey e 10000 61 (kvV p)).run Tryd.prog w = .ok () w := by
  have u1 := Tryd.underlying61
  have u3 := Tryd.underlying24
  have q3 := Tryd.isAgg24
  have z3 := Tryd.sizeOf24
  have h1 : ∀ a : Int, (Instr.checkKey e 9999 24 (.int .u64 a)).run Tryd.prog w = .ok () w := fun a => by
    rw [show (9999 : Nat) = 9998 + 1 from rfl]
    unfold Instr.checkKey
    go_simp
  unfold kvV
  rw [show (10000 : Nat) = 9999 + 1 from rfl]
  unfold Instr.checkKey
  have hr : List.range' 0 2 = [0, 1] := rfl
  go_simp
theorem find_asks (p : Int × Int) (w : World) : ∀ (es : List MapEntry) (d : Ded) (i : Nat), es.map (fun e => (e.key, e.val)) = d.map (fun p => (kvV p, Value.bool true)) →
    (p ∈ d → ∃ j e, es[j]? = some e ∧ e.key = kvV p ∧ e.val = .bool true ∧ (Instr.findAsking 61 (kvV p) es i).run Tryd.prog w = .ok (some (i + j, .bool true)) w) ∧
    (p ∉ d → (Instr.findAsking 61 (kvV p) es i).run Tryd.prog w = .ok none w)
  | [], [], i, _ => ⟨fun h => (by cases h), fun _ => rfl⟩
  | [], _ :: _, _, h => by simp at h
  | _ :: _, [], _, h => by simp at h
  | e :: es, q :: d, i, h => by
    simp only [List.map_cons, List.cons.injEq, Prod.mk.injEq] at h
    obtain ⟨⟨h1, h2⟩, h3⟩ := h
    obtain ⟨g1, g2⟩ := find_asks p w es d (i + 1) h3
    unfold Instr.findAsking
    simp only [Sem.run_bind, h1, h2, eq_key, Result.andThen]
    by_cases hq : p = q
    · subst hq
      refine ⟨fun _ => ⟨0, e, rfl, h1, h2, ?_⟩, fun hn => absurd (.head _) hn⟩
      simp
    · refine ⟨fun hm => ?_, fun hn => ?_⟩
      · have hm' : p ∈ d := by
          cases hm with
          | head => exact absurd rfl hq
          | tail _ hm => exact hm
        obtain ⟨j, e', k1, k2, k3, k4⟩ := g1 hm'
        refine ⟨j + 1, e', k1, k2, k3, ?_⟩
        simp only [hq, decide_false, Bool.false_eq_true, if_false]
        rw [k4, show i + 1 + j = i + (j + 1) by omega]
      · simp only [hq, decide_false, Bool.false_eq_true, if_false]
        exact g2 fun hm => hn (.tail _ hm)
theorem find_key (p : Int × Int) (w : World) (es : List MapEntry) (d : Ded) (h : es.map (fun e => (e.key, e.val)) = d.map (fun p => (kvV p, Value.bool true))) :
    (p ∈ d → ∃ j e, es[j]? = some e ∧ e.key = kvV p ∧ e.val = .bool true ∧ (Instr.findKey 61 (kvV p) es).run Tryd.prog w = .ok (some (j, .bool true)) w) ∧
    (p ∉ d → (Instr.findKey 61 (kvV p) es).run Tryd.prog w = .ok none w) := by
  have u1 := Tryd.underlying61
  obtain ⟨g1, g2⟩ := find_asks p w es d 0 h
  have hk : ∀ r, (match Instr.findNow (.array 2 24) (kvV p) es 0 with | some r => pure r | none => Instr.findAsking 61 (kvV p) es : Sem (Option (Nat × Value))).run Tryd.prog w = r → (Instr.findKey 61 (kvV p) es).run Tryd.prog w = r := fun r h => by
    unfold Instr.findKey
    simp only [Sem.run_bind, run_underlying u1, Result.andThen]
    exact h
  cases es with
  | nil =>
    cases d with
    | nil => exact ⟨fun h => (by cases h), fun _ => hk _ (by simp [Instr.findNow])⟩
    | cons _ _ => simp at h
  | cons e es =>
    have hn : Instr.findNow (.array 2 24) (kvV p) (e :: es) 0 = none := by
      show Instr.findNow (.array 2 24) (.agg #[.int .u64 p.1, .int .u64 p.2]) (e :: es) 0 = none
      simp only [Instr.findNow, Instr.sameNow]
    simp only [hn] at hk
    exact ⟨fun hm => by
      obtain ⟨j, e', k1, k2, k3, k4⟩ := g1 hm
      exact ⟨j, e', k1, k2, k3, hk _ (by rw [k4, Nat.zero_add])⟩, fun hm => hk _ (g2 hm)⟩
section
variable {l : List (Nat × Value)} {w w0 : World} {F : Nat → Prop} {L : List Ck} {b k : Nat} {d : Ded} {p : Int × Int} {x y : Operand} {ty : TypeId}
theorem R.lookM (hM : Mem w0 F L w) (hk : ith L k = some (mpc b d)) (hx : opv l x = some (.map (some b))) (hy : opv l y = some (kvV p)) :
    Run Tryd.prog l w (.lookup 56 x y false) ty (.bool (decide (p ∈ d))) w := fun ev h _ _ _ _ => by
  obtain ⟨es, clock, hb, ho⟩ := hM.mem hk
  have um := Tryd.underlying56
  obtain ⟨g1, g2⟩ := find_key p w es.toList d ho
  have hz : (zeroValue 4).run Tryd.prog w = .ok (.bool false) w := by have := info4; go_simp
  simp only [execOp, h _ _ hx, h _ _ hy]
  unfold Instr.lookup
  by_cases hm : p ∈ d
  · obtain ⟨j, e', -, -, -, g⟩ := g1 hm
    simp [um, Result.andThen, run_gm hb, chk_key, g, hm]
  · simp [um, Result.andThen, run_gm hb, chk_key, g2 hm, hm, hz]
theorem updM_all (hM : Mem w0 F L w) (hk : ith L k = some (mpc b d)) :
  ∃ w', (∀ (l : List (Nat × Value)) (x y z : Operand) (ty : TypeId), opv l x = some (.map (some b)) → opv l y = some (kvV p) → opv l z = some (.bool true) → RunN Tryd.prog l w (.mapUpdate 56 x y z) ty .skip w') ∧ (mpc b (addK p d)).holds w' ∧ w.grownBy w' (some b) := by
 obtain ⟨es, clock, hb, ho⟩ := hM.mem hk
 have um := Tryd.underlying56
 obtain ⟨g1, g2⟩ := find_key p w es.toList d ho
 have hlt := (Array.getElem?_eq_some_iff.1 hb).1
 by_cases hm : p ∈ d
 ·
  obtain ⟨j, e', k1, k2, k3, g⟩ := g1 hm
  have hstay : (Instr.keyThatStays (((es[j]?).map (·.key)).getD (kvV p)) (kvV p)).run Tryd.prog w = .ok (kvV p) w := by
   have e1 : es[j]? = some e' := by simpa using k1
   rw [e1]
   show (Instr.keyThatStays e'.key (kvV p)).run Tryd.prog w = _
   rw [k2]
   unfold Instr.keyThatStays kvV
   simp [Instr.sameBits]
  refine ⟨{ w with heap := w.heap.setIfInBounds b (.map (es.modify j fun e => { e with key := kvV p, val := .bool true }) clock) }, ?_, Exists.intro (es.modify j fun e => { e with key := kvV p, val := .bool true }) (Exists.intro clock (And.intro ?_ ?_)), ?_⟩
  ·
   intro l x y z ty hx hy hz ev h _ _ _ _
   simp only [execOp, h _ _ hx, h _ _ hy, h _ _ hz]
   unfold Instr.mapUpdate
   simp [um, Result.andThen, run_gm hb, chk_key, g, hstay, run_sm _ hb]
  · simp [hlt]
  ·
   unfold mpO addK
   rw [if_pos hm, ← ho]
   refine List.ext_getElem? fun i => ?_
   simp only [Array.toList_modify, List.getElem?_map, List.getElem?_modify]
   by_cases hi : j = i
   · subst hi; rw [k1]; simp [k2, k3]
   ·
    cases es.toList[i]? with
    | none => rfl
    | some e9 => simp [hi]
  ·
   exact ⟨rfl, rfl, rfl, by simp, fun i _ hi => by
    have : b ≠ i := fun e => hi (by rw [e])
    simp [Array.getElem?_setIfInBounds, this]⟩
 ·
  refine ⟨{ w with heap := w.heap.setIfInBounds b (.map (es.push { key := kvV p, val := .bool true, born := clock }) (clock + 1)) }, ?_, Exists.intro (es.push { key := kvV p, val := .bool true, born := clock }) (Exists.intro (clock + 1) (And.intro ?_ ?_)), ?_⟩
  ·
   intro l x y z ty hx hy hz ev h _ _ _ _
   simp only [execOp, h _ _ hx, h _ _ hy, h _ _ hz]
   unfold Instr.mapUpdate
   simp [um, Result.andThen, run_gm hb, chk_key, g2 hm, run_sm _ hb]
  · simp [hlt]
  ·
   have ho' : es.toList.map (fun e => (e.key, e.val)) = d.map (fun p => (kvV p, Value.bool true)) := ho
   unfold mpO addK
   rw [if_neg hm]
   simp [ho']
  ·
   exact ⟨rfl, rfl, rfl, by simp, fun i _ hi => by
    have : b ≠ i := fun e => hi (by rw [e])
    simp [Array.getElem?_setIfInBounds, this]⟩
theorem Mem.updM {w' : World} {d' : Ded} (hM : Mem w0 F L w) (hk : ith L k = some (mpc b d)) (hh : (mpc b d').holds w') (hg : w.grownBy w' (some b)) : Mem w0 F (mpc b d' :: dropAt L k) w' := by
  have h1 := hM.front hk
  have hb := h1.inb _ (.head _) b rfl
  have h2 : Mem w0 F (dropAt L k) w' := h1.tail.grow hg fun r e => by
    cases e
    refine ⟨?_, fun c hc hf => (List.pairwise_cons.1 h1.apart).1 c hc b rfl hf⟩
    rcases Nat.lt_or_ge b w0.heap.size with g | g
    · exact .inr (hb.2 g)
    · exact .inl g
  refine ⟨h2.os, h2.tape, h2.output, h2.size, h2.old, fun c hc => ?_, fun c hc q hq => ?_, List.pairwise_cons.2 ⟨fun c hc q hq => by cases hq; exact (List.pairwise_cons.1 h1.apart).1 c hc b rfl, h2.apart⟩⟩
  · rcases List.mem_cons.1 hc with rfl | hc
    · exact hh
    · exact h2.holds c hc
  · rcases List.mem_cons.1 hc with rfl | hc
    · cases hq; exact ⟨Nat.lt_of_lt_of_le hb.1 hg.size, hb.2⟩
    · exact h2.inb c hc q hq
end
section
variable {P : Program} {nn n : Nat} {l : List (Nat × Value)} {a : Act} {w w0 : World} {F : Nat → Prop} {L : List Ck} {Q : Exit → Act → World → Prop} {ops : Array Oper} {rest : List Oper} {d : Nat} {t ty : TypeId} {pos : String} {aft : Array Edge}
theorem S.mkMap (hA : St n l a) (hM : Mem w0 F L w) (hd : Nat.blt d n = true)
    (h : ∀ b w', w0.heap.size ≤ b → Mem w0 F (mpc b [] :: L) w' → ∀ a, St n ((d, .map (some b)) :: l) a → wpList P ops Q rest a w') :
    wpList P ops Q ({ dst := some d, op := .makeMap t none, type := ty, pos, after := aft, guard := none } :: rest) a w := by
  have hr : Run P l w (.makeMap t none) ty (.map (some w.heap.size)) (w.alloc (.map #[] 0)) := fun ev _ _ _ _ _ => by
    simp [execOp, Instr.makeMap, Result.andThen]
  have hm : Mem w0 F (mpc w.heap.size [] :: L) (w.alloc (.map #[] 0)) := by
    have h2 : Mem w0 F L (w.alloc (.map #[] 0)) := hM.grow (row := none) (World.grownBy_alloc w _ none) (fun r e => by cases e)
    refine ⟨h2.os, h2.tape, h2.output, h2.size, h2.old, fun c hc => ?_, fun c hc q hq => ?_, List.pairwise_cons.2 ⟨fun c hc q hq hf => ?_, h2.apart⟩⟩
    · rcases List.mem_cons.1 hc with rfl | hc
      · exact ⟨#[], 0, World.alloc_heap_new w _, rfl⟩
      · exact h2.holds c hc
    · rcases List.mem_cons.1 hc with rfl | hc
      · cases hq
        have := hM.size
        exact ⟨by rw [World.size_alloc]; omega, fun g => by omega⟩
      · exact h2.inb c hc q hq
    · cases hq
      have := (hM.inb c hc _ hf).1
      omega
  exact S.val hA hr hd fun a hA => h _ _ hM.size hm a hA
end
section
variable {P : Program} {l : List (Nat × Value)} {w : World} {x : Operand} {t ty : TypeId} {av : Option Addr} {c q : Nat} {ops : List HOp}
theorem R.loadHop (h : RowSl w (.slice av ops.length c) 4 ops.length (hopv ops)) (hq : q < ops.length) (hi : szOf P t = some (true, 4)) (hx : opv l x = some (pR av (q * 4 + 0))) :
    Run P l w (.load t x) ty (.agg #[.int .i64 (hop ops q).k, .int .i64 (hop ops q).i, .int .i64 (hop ops q).f, .int .i64 (hop ops q).t]) w := by
  obtain ⟨h1, h2, h3, h4⟩ := hopv_at ops q hq
  have := R.loadRow4 (ty := ty) h hq hi hx
  rwa [h1, h2, h3, h4] at this
theorem R.loadHopF (h : RowSl w (.slice av ops.length c) 4 ops.length (hopv ops)) (hq : q < ops.length) (hi : szOf P t = some (false, 1)) (hx : opv l x = some (pR av (q * 4 + (0 + 2)))) : Run P l w (.load t x) ty (.int .i64 (hop ops q).f) w := by
  have := R.loadRow (ty := ty) h hq (by decide) hi hx
  rwa [show q * 4 + (0 + 2) = q * 4 + 2 from rfl, (hopv_at ops q hq).2.2.1] at this
theorem R.loadHopT (h : RowSl w (.slice av ops.length c) 4 ops.length (hopv ops)) (hq : q < ops.length) (hi : szOf P t = some (false, 1)) (hx : opv l x = some (pR av (q * 4 + (0 + 3)))) : Run P l w (.load t x) ty (.int .i64 (hop ops q).t) w := by
  have := R.loadRow (ty := ty) h hq (by decide) hi hx
  rwa [show q * 4 + (0 + 3) = q * 4 + 3 from rfl, (hopv_at ops q hq).2.2.2] at this
end
end Go.Proofs.YtjjbognomeplbaaDoor
namespace Go.Proofs.YtjjbognomeplbaaDoor
section
variable (lt : Int → Int → Bool)
def rbo (a b : Int) : Bool := lt a b || (!lt b a && decide (a < b))
end
section
variable {lt : Int → Int → Bool}
variable {A : Int → Prop} (htr : ∀ a b c, A a → A b → A c → rbo lt a b = true → rbo lt b c = true → rbo lt a c = true)
include htr
end
section
variable {rb : Int → Int → Bool}
def laid (n : Nat) (s out : List Int) (m : Nat) : Prop := out.length = n ∧ ∀ j (h : j < s.length), s[j] < m → out.getD j 0 = s[j]
end
end Go.Proofs.YtjjbognomeplbaaDoor
namespace Go.Proofs.YtjjbognomeplbaaDoor
theorem take_snoc {X : List Int} {k : Nat} (h : k < X.length) : X.take (k + 1) = X.take k ++ [X.getD k 0] := by
  rw [List.take_succ_eq_append_getElem h, List.getD_eq_getElem?_getD, List.getElem?_eq_getElem h]; rfl
end Go.Proofs.YtjjbognomeplbaaDoor
namespace Go.Proofs
open Go.Shelf
def Tryd.lays108_ren : Go.Shelf.Ren := ⟨fun | 108 => 46 | n => n, fun | 28 => 22 | 3 => 3 | 0 => 0 | 4 => 4 | n => n, fun | n => n⟩
theorem Tryd.lays108 : Go.Proofs.Lays.n108 Tryd.prog Tryd.lays108_ren := {
  mixed := by kernel_rfl
  f108 := Tryd.func46.trans (congrArg some (by kernel_rfl))
  t0 := Tryd.underlying0
  a0 := Tryd.isAgg0
  z0 := Tryd.sizeOf0
  v0 := Tryd.zeroValue0
  t3 := Tryd.underlying3
  a3 := Tryd.isAgg3
  z3 := Tryd.sizeOf3
  v3 := Tryd.zeroValue3
  t4 := Tryd.underlying4
  a4 := Tryd.isAgg4
  z4 := Tryd.sizeOf4
  v4 := Tryd.zeroValue4
  t28 := Tryd.underlying22
  a28 := Tryd.isAgg22
  z28 := Tryd.sizeOf22
  v28 := Tryd.zeroValue22 }
open Go.Lib in
theorem Tryd.slices_Index_int (b off n c : Nat) (zs : List Int) (x : Int) (w : World) (hz : n ≤ zs.length) (hbig : n ≤ 9223372036854775807) (hc : ∀ j, j < zs.length → w.cell? ⟨b, off + j, none⟩ = some (.int .i64 (zs.getD j 0))) :
    Calls Tryd.prog 46 #[.slice (some ⟨b, off, none⟩) n c, .int .i64 x] w fun e w' => e = .returned (.int .i64 (Lib.idxOf (zs.take n) x)) ∧ w' = w := Any.slices_Index_int Tryd.lays108 b off n c zs x w hz hbig hc
open Go.Lib in
theorem Tryd.slices_Index_int_empty (a : Option Addr) (c : Nat) (x : Int) (w : World) :
    Calls Tryd.prog 46 #[.slice a 0 c, .int .i64 x] w fun e w' => e = .returned (.int .i64 (Lib.idxOf [] x)) ∧ w' = w := Any.slices_Index_int_empty Tryd.lays108 a c x w
def Tryd.laysNm215_ren : Go.Shelf.Ren := ⟨fun | 15 => 45 | n => n, fun | 22 => 22 | 3 => 3 | 4 => 4 | n => n, fun | n => n⟩
theorem Tryd.laysNm215 : Go.Proofs.Lays2.n15 Tryd.prog Tryd.laysNm215_ren := {
  mixed := by kernel_rfl
  f15 := Tryd.func45.trans (congrArg some (by kernel_rfl))
  t3 := Tryd.underlying3
  a3 := Tryd.isAgg3
  z3 := Tryd.sizeOf3
  v3 := Tryd.zeroValue3
  t4 := Tryd.underlying4
  a4 := Tryd.isAgg4
  z4 := Tryd.sizeOf4
  v4 := Tryd.zeroValue4
  t22 := Tryd.underlying22
  a22 := Tryd.isAgg22
  z22 := Tryd.sizeOf22
  v22 := Tryd.zeroValue22
  i3 := by kernel_rfl }
open Go.RowKit Go.Lib in
theorem Tryd.slices_Clone_int (b off n c : Nat) (zs : List Int) (w : World) (hz : n ≤ zs.length) (hbig : n * 8 ≤ 140737488355328) (hc : ∀ j, j < zs.length → w.cell? ⟨b, off + j, none⟩ = some (.int .i64 (zs.getD j 0))) :
    Calls Tryd.prog 45 #[.slice (some ⟨b, off, none⟩) n c] w fun e w' => ∃ v', e = .returned v' ∧ w'.ownsRow w.heap.size 3 1 v' n ((zs.take n).map (Value.int .i64)) ∧ v' ≠ .slice none 0 0 ∧ Below w.heap.size w w' := Any.slices_Clone_int Tryd.laysNm215 b off n c zs w hz hbig hc
open Go.RowKit Go.Lib in
theorem Tryd.slices_Clone_int_nil (n c : Nat) (w : World) :
    Calls Tryd.prog 45 #[.slice none n c] w fun e w' => e = .returned (.slice none 0 0) ∧ w' = w := Any.slices_Clone_int_nil Tryd.laysNm215 n c w
open Go.RowKit Go.Lib in
theorem Tryd.slices_Clone_int_zero (a : Addr) (c : Nat) (w : World) :
    Calls Tryd.prog 45 #[.slice (some a) 0 c] w fun e w' => ∃ v', e = .returned v' ∧ w'.ownsRow w.heap.size 3 1 v' 0 [] ∧ v' ≠ .slice none 0 0 ∧ Below w.heap.size w w' := Any.slices_Clone_int_zero Tryd.laysNm215 a c w
def Tryd.laysNm223_ren : Go.Shelf.Ren := ⟨fun | 23 => 47 | n => n, fun | 22 => 22 | 3 => 3 | 4 => 4 | 0 => 0 | n => n, fun | n => n⟩
theorem Tryd.laysNm223 : Go.Proofs.Lays2.n23 Tryd.prog Tryd.laysNm223_ren := {
  mixed := by kernel_rfl
  f23 := Tryd.func47.trans (congrArg some (by kernel_rfl))
  t0 := Tryd.underlying0
  a0 := Tryd.isAgg0
  z0 := Tryd.sizeOf0
  v0 := Tryd.zeroValue0
  t3 := Tryd.underlying3
  a3 := Tryd.isAgg3
  z3 := Tryd.sizeOf3
  v3 := Tryd.zeroValue3
  t4 := Tryd.underlying4
  a4 := Tryd.isAgg4
  z4 := Tryd.sizeOf4
  v4 := Tryd.zeroValue4
  t22 := Tryd.underlying22
  a22 := Tryd.isAgg22
  z22 := Tryd.sizeOf22
  v22 := Tryd.zeroValue22
  i3 := by kernel_rfl }
open Go.RowKit Go.Lib Go.Sort in
theorem Tryd.slices_Delete_int (blk off cap i j : Nat) (zs : List Int) (w : World) (hH : Holds (Value.int .i64) w blk off zs.toArray) (hcap : zs.length ≤ cap) (hm : cap ≤ 9223372036854775807) (hij : i ≤ j) (hj : j ≤ zs.length) :
    Calls Tryd.prog 47 #[.slice (some ⟨blk, off, none⟩) zs.length cap, .int .i64 i, .int .i64 j] w fun e w' => e = .returned (.slice (some ⟨blk, off, none⟩) (zs.length - (j - i)) cap) ∧ ∃ q, w' = putRow (Value.int .i64) (Sort.ahead w q) blk off (zs.take i ++ zs.drop j ++ List.replicate (j - i) 0).toArray := Any.slices_Delete_int Tryd.laysNm223 blk off cap i j zs w hH hcap hm hij hj
end Go.Proofs
namespace Go.Proofs.YtjjbognomeplbaaDoor
open Go.RowKit
section
variable {w0 w : World} {F : Nat → Prop} {L : List Ck} {e : TypeId} {g cap : Nat}
theorem Mem.ahead (h : Mem w0 F L w) (q : Nat) : Mem w0 F L (Sort.ahead w q) := ⟨h.os, h.tape, h.output, h.size, h.old, fun c hc => c.loc w (Sort.ahead w q) (fun _ _ => rfl) (h.holds c hc), h.inb, h.apart⟩
theorem Mem.holdsI {X : List Int} {k : Nat} (h : Mem w0 F L w) (hk : ith L k = some (own e 1 (.slice (some ⟨g, 0, none⟩) X.length cap) X.length (X.map (Value.int .i64)))) : Sort.Holds (Value.int .i64) w g 0 X.toArray := fun j hj => by
  have hj' : j < X.length := by simpa using hj
  rw [Nat.zero_add]
  refine ⟨?_, h.ownFree hk j⟩
  rw [h.ownCell hk (mapi_get X j hj')]
  simp [List.getD, hj', getElem!_pos]
theorem Mem.putRow {X Y : List Int} (h : Mem w0 F (own e 1 (.slice (some ⟨g, 0, none⟩) X.length cap) X.length (X.map (Value.int .i64)) :: L) w) (hl : Y.length = X.length) :
    Mem w0 F (own e 1 (.slice (some ⟨g, 0, none⟩) Y.length cap) Y.length (Y.map (Value.int .i64)) :: L) (Sort.putRow (Value.int .i64) w g 0 Y.toArray) := by
  have key : ∀ j, j ≤ X.length → Mem w0 F (own e 1 (.slice (some ⟨g, 0, none⟩) X.length cap) X.length ((Y.take j ++ X.drop j).map (Value.int .i64)) :: L) (Sort.putRow (Value.int .i64) w g 0 (Y.take j ++ X.drop j).toArray) := by
    intro j
    induction j with
    | zero =>
      intro _
      rw [List.take_zero, List.nil_append, List.drop_zero, Sort.putRow_self _ _ _ _ _ (h.holdsI (k := 0) rfl)]
      exact h
    | succ j ih =>
      intro hj
      have h1 := (ih (by omega)).ownStore (k := 0) rfl j (.int .i64 (Y.getD j 0))
      have hlj : (Y.take j).length = j := by rw [List.length_take]; omega
      have e1 : (Y.take j ++ X.drop j).set j (Y.getD j 0) = Y.take (j + 1) ++ X.drop (j + 1) := by
        rw [List.set_append_right _ _ (by omega), hlj, Nat.sub_self, List.drop_eq_getElem_cons (show j < X.length by omega), List.set_cons_zero, take_snoc (show j < Y.length by omega), List.append_assoc]
        rfl
      have e2 := Sort.putRow_set (Value.int .i64) w g 0 (Y.take j ++ X.drop j).toArray j (Y.getD j 0) (by simp; omega)
      rw [Nat.zero_add] at e2
      rw [e2] at h1
      have e3 : (Y.take j ++ X.drop j).toArray.setIfInBounds j (Y.getD j 0) = (Y.take (j + 1) ++ X.drop (j + 1)).toArray := by rw [← e1]; simp
      rw [e3] at h1
      rw [← e1, List.map_set]
      rw [← e1] at h1
      exact h1
  have h1 := key X.length (Nat.le_refl _)
  rw [List.drop_length, List.append_nil, List.take_of_length_le (by omega)] at h1
  rw [hl]
  exact h1
theorem Mem.ownCutD {X : List Int} {m : Nat} (h : Mem w0 F (own e 1 (.slice (some ⟨g, 0, none⟩) X.length cap) X.length (X.map (Value.int .i64)) :: L) w) (hm : m ≤ X.length) :
    Mem w0 F (own e 1 (.slice (some ⟨g, 0, none⟩) (X.take m).length cap) (X.take m).length ((X.take m).map (Value.int .i64)) :: L) w := by
  refine h.head ?_ (fun b hb => hb)
  have ho : w.ownsRow 0 e 1 (.slice (some ⟨g, 0, none⟩) X.length cap) X.length (X.map (Value.int .i64)) := h.mem (k := 0) rfl
  rcases ho with ⟨h1, ⟨h2, -⟩ | ⟨g', cap', cur, h2, h3, h4, h5, h6, h7, h8⟩⟩
  · cases h2
  · cases h2
    refine ⟨by simp, .inr ⟨g, cap, cur, rfl, h3, h4, by rw [List.length_take]; omega, h6, h7, ?_⟩⟩
    rw [List.length_take, Nat.min_eq_left hm, List.map_take, ← h8, List.take_take]
    congr 1
    omega
end
set_option maxHeartbeats 400000 in
theorem del09 (g cap i : Nat) (X : List Int) (hi : i < X.length) (w : World) (hM : Mem w (feet [own 3 1 (.slice (some ⟨g, 0, none⟩) X.length cap) X.length (X.map (Value.int .i64))]) [own 3 1 (.slice (some ⟨g, 0, none⟩) X.length cap) X.length (X.map (Value.int .i64))] w) :
    Calls Tryd.prog 47 #[.slice (some ⟨g, 0, none⟩) X.length cap, .int .i64 (i : Int), .int .i64 ((i : Int) + 1)] w fun e w' => e = .returned (.slice (some ⟨g, 0, none⟩) (X.eraseIdx i).length cap) ∧
      Mem w (feet [own 3 1 (.slice (some ⟨g, 0, none⟩) X.length cap) X.length (X.map (Value.int .i64))]) [own 3 1 (.slice (some ⟨g, 0, none⟩) (X.eraseIdx i).length cap) (X.eraseIdx i).length ((X.eraseIdx i).map (Value.int .i64))] w' := by
  have hle := hM.ownLe (k := 0) rfl
  have hc := Tryd.slices_Delete_int g 0 cap i (i + 1) X w (hM.holdsI (k := 0) rfl) hle.1 (by have := hle.2; unfold maxLen at this; exact this) (by omega) (by omega)
  have e0 : ((i + 1 : Nat) : Int) = (i : Int) + 1 := by omega
  rw [e0] at hc
  refine hc.mono fun e w' ⟨he, q, hw⟩ => ?_
  have hlE : (X.eraseIdx i).length = X.length - 1 := by rw [List.length_eraseIdx_of_lt hi]
  have h1 := (hM.ahead q).putRow (Y := X.take i ++ X.drop (i + 1) ++ List.replicate (i + 1 - i) 0) (by simp only [List.length_append, List.length_take, List.length_drop, List.length_replicate]; omega)
  have h2 := h1.ownCutD (m := X.length - 1) (by simp only [List.length_append, List.length_take, List.length_drop, List.length_replicate]; omega)
  have e1 : (X.take i ++ X.drop (i + 1) ++ List.replicate (i + 1 - i) 0).take (X.length - 1) = X.eraseIdx i := by
    rw [← List.eraseIdx_eq_take_drop_succ, ← hlE, List.take_left']
    rfl
  rw [e1] at h2
  subst hw
  refine ⟨?_, h2⟩
  rw [he, hlE, show i + 1 - i = 1 by omega]
end Go.Proofs.YtjjbognomeplbaaDoor
namespace Go.Proofs.YtjjbognomeplbaaDoor
open Go.RowKit
theorem IntSl.empty {w w' : World} {a : Option Addr} {n c : Nat} (h : IntSl w (.slice a n c) []) : IntSl w' (.slice a n c) [] := by
  obtain ⟨a', c', he, h1, h2, h3, -⟩ := h
  exact ⟨a', c', he, h1, h2, h3, fun hn => absurd rfl hn⟩
theorem idx_from (x : Int) : ∀ (X : List Int) (i : Nat), (x ∈ X → ∃ j : Nat, Lib.idxFrom X x i = ((i + j : Nat) : Int) ∧ j < X.length ∧ X.eraseIdx j = X.erase x) ∧ (x ∉ X → Lib.idxFrom X x i = -1)
  | [], i => ⟨fun h => (by cases h), fun _ => rfl⟩
  | z :: X, i => by
    obtain ⟨g1, g2⟩ := idx_from x X (i + 1)
    by_cases hz : z = x
    · subst hz
      exact ⟨fun _ => ⟨0, by simp [Lib.idxFrom], by simp, by simp⟩, fun h => absurd (.head _) h⟩
    · refine ⟨fun h => ?_, fun h => ?_⟩
      · have h' : x ∈ X := by
          cases h with
          | head => exact absurd rfl hz
          | tail _ h => exact h
        obtain ⟨j, h1, h2, h3⟩ := g1 h'
        refine ⟨j + 1, ?_, by simpa using h2, ?_⟩
        · rw [Lib.idxFrom, if_neg hz, h1]; omega
        · rw [List.eraseIdx_cons_succ, h3, List.erase_cons_tail (by simpa using hz)]
      · rw [Lib.idxFrom, if_neg hz, g2 fun hm => h (.tail _ hm)]
theorem index21 (a : Option Addr) (X : List Int) (c : Nat) (x : Int) (w : World) (h : IntSl w (.slice a X.length c) X) (hl : X.length ≤ 1000) : Calls Tryd.prog 46 #[.slice a X.length c, .int .i64 x] w fun e w' => e = .returned (.int .i64 (Lib.idxOf X x)) ∧ w = w' := by
  cases X with
  | nil => exact (Tryd.slices_Index_int_empty a c x w).mono fun e w' ⟨h1, h2⟩ => ⟨h1, h2.symm⟩
  | cons z X =>
    obtain ⟨a', c', he, -, -, -, h4⟩ := h
    obtain ⟨b, off, hb, -, hc⟩ := h4 (by simp)
    cases he
    subst hb
    refine (Tryd.slices_Index_int b off (z :: X).length c (z :: X) x w (Nat.le_refl _) (by omega) hc).mono fun e w' ⟨h1, h2⟩ => ⟨?_, h2.symm⟩
    rw [h1, List.take_length]
theorem clone21 (a : Option Addr) (X : List Int) (c : Nat) (w : World) (h : IntSl w (.slice a X.length c) X) (hl : X.length ≤ 1000) : Calls Tryd.prog 45 #[.slice a X.length c] w fun e w' => ∃ a2 c2, e = .returned (.slice a2 X.length c2) ∧ Mem w nof [own 3 1 (.slice a2 X.length c2) X.length (X.map (Value.int .i64))] w' := by
  cases a with
  | none =>
    have hX : X = [] := by
      obtain ⟨a', c', he, h1, -, h3, -⟩ := h
      cases he
      exact List.length_eq_zero_iff.1 (by have := h3 rfl; omega)
    subst hX
    exact (Tryd.slices_Clone_int_nil 0 c w).mono fun e w' ⟨h1, h2⟩ => ⟨none, 0, h1, by rw [h2]; exact (Mem.start w).ownNil _ _⟩
  | some p =>
    cases X with
    | nil =>
      refine (Tryd.slices_Clone_int_zero p c w).mono fun e w' ⟨v', he, hown, _, hb⟩ => ?_
      obtain ⟨a2, c2, rfl, hm⟩ := own_slice hown hb
      exact ⟨a2, c2, he, hm⟩
    | cons z X =>
      obtain ⟨a', c', he, -, -, -, h4⟩ := h
      obtain ⟨b, off, hb, -, hc⟩ := h4 (by simp)
      cases he
      cases hb
      refine (Tryd.slices_Clone_int b off (z :: X).length c (z :: X) w (Nat.le_refl _) (by omega) hc).mono fun e w' ⟨v', he, hown, _, hb⟩ => ?_
      rw [List.take_length] at hown
      obtain ⟨a2, c2, rfl, hm⟩ := own_slice hown hb
      exact ⟨a2, c2, he, hm⟩
set_option maxRecDepth 100000 in
set_option maxHeartbeats 400000 in
theorem wo02 (f : Nat → Bool) (k : Nat) (hk : k < 128) (w : World) :
  Calls Tryd.prog 34 #[.agg #[.int .u64 (loW f), .int .u64 (hiW f)], .int .i64 ((k : Int))] w fun e w' => e = .returned (.agg #[.int .u64 (loW (woF f k)), .int .u64 (hiW (woF f k))]) ∧ Below w.heap.size w w' := by
 have hbs := Below.refl (B := w.heap.size) w
 have hM := Mem.start w
 refine Calls.of_ends (vs := [.agg #[.int .u64 (loW f), .int .u64 (hiW f)], .int .i64 ((k : Int))]) Tryd.func34 rfl Tryd.ntmps34 rfl ?_
 intro a hA
 replace hA : St 17 [(0, _), (1, _)] a := hA
 refine Ends.seq (Ends.region ?_)
 refine S.box hA hM rfl rfl ?_; clear hA hM a; intro b1 w1 hb2 hM a hA
 replace hM : Mem _ _ [pt b1 #[.int .u64 (loW f), .int .u64 (hiW f)] 61] _ := hM
 refine S.alloc hA hM info61 rfl rfl ?_; clear hA hM a; intro b3 w2 hb4 hM a hA
 replace hM : Mem _ _ [pt b3 #[.int .u64 0, .int .u64 0] 61, pt b1 #[.int .u64 (loW f), .int .u64 (hiW f)] 61] _ := hM
 refine S.done ?_
 refine Ends.seq (Ends.seq (Ends.region ?_))
 refine S.val hA (R.move rfl) rfl ?_; clear hA a; intro a hA
 refine S.call hA (R.callF Tryd.func49 rfl rfl rfl) rfl (within02 ((k : Int)) _) ?_; clear hA a
 rintro e w3 ⟨rfl, hb⟩
 replace hM := hM.callB hb; clear hb
 refine ⟨.bool (decide (0 ≤ ((k : Int)) ∧ ((k : Int)) < 128)), rfl, fun a hA => ?_⟩
 refine S.done ?_
 refine Ends.ite hA rfl (fun hc5 => ?_) (fun hc5 => ?_)
 ·
  by_cases hs6 : k < 64
  ·
   obtain ⟨m, hm, hmi⟩ : ∃ m : Nat, m < 64 ∧ k = m := ⟨k, by omega, by omega⟩
   have e9 : ((k : Int) % 64).toNat = m := by omega
   refine Ends.drawn (Mem w nof [pt b3 #[.int .u64 0, .int .u64 0] 61, pt b1 #[.int .u64 (loW f), .int .u64 (hiW f)] 61]) (.cons (0, true) (.cons (1, true) (.cons (2, true) (.cons (3, true) (.cons (4, true) (.cons (5, true) (.cons (6, true) (.cons (7, true) (.cons (8, true) (.cons (9, false) .nil)))))))))) 9 mixed (by kernel_rfl) (by kernel_rfl) (by kernel_rfl) hM.drew ?_
   replace hM := hM.drew
   refine D.valF hA rfl (fun _ => R.move rfl) rfl ?_; clear hA a; intro a hA
   refine D.valF hA rfl (fun _ => R.quoI rfl rfl rfl (by omega)) rfl ?_; clear hA a; intro a hA
   refine D.valF hA rfl (fun _ => R.indexAddrA (q := 0) ar61 rfl rfl (by omega) (by omega)) rfl ?_; clear hA a; intro a hA
   refine D.val hA rfl (by kernel_rfl) (fun _ hM => R.load sz24 rfl (hM.cell (k := 1) rfl rfl)) rfl ?_; clear hA a; intro a hA
   refine D.valF hA rfl (fun _ => R.move rfl) rfl ?_; clear hA a; intro a hA
   refine D.valF hA rfl (fun _ => R.remI rfl rfl rfl (by omega)) rfl ?_; clear hA a; intro a hA
   refine D.valF hA rfl (fun _ => R.shl rfl rfl (by omega)) rfl ?_; clear hA a; intro a hA
   refine D.valF hA rfl (fun _ => R.bits (by simp) rfl rfl) rfl ?_; clear hA a; intro a hA
   refine D.valF hA rfl (fun _ => R.indexAddrA (q := 0) ar61 rfl rfl (by omega) (by omega)) rfl ?_; clear hA a; intro a hA
   refine D.store (k := 1) hA hM rfl sz24 rfl rfl rfl rfl rfl ?_; clear hM
   intro w4 hM; refine ⟨fun _ hne => absurd rfl hne, ?_⟩
   replace hM : Mem _ _ [pt b3 #[.int .u64 0, .int .u64 0] 61, pt b1 #[.int .u64 (bits .andNot .u64 (loW f) (IntKind.u64.wrap (1 * 2 ^ min (((k : Int)) % 64).toNat (IntKind.u64).bits))), .int .u64 (hiW f)] 61] _ := hM
   refine D.done ?_
   obtain ⟨g1, g2⟩ := sub_lo (f := f) hm
   have hwk : woF f m = woF f k := by rw [hmi]
   rw [hwk] at g1 g2
   rw [e9, g1, ← g2] at hM
   replace hM : Mem _ _ [pt b3 #[.int .u64 0, .int .u64 0] 61, pt b1 #[.int .u64 (loW (woF f k)), .int .u64 (hiW (woF f k))] 61] _ := hM
   replace hA : St 17 [(2, _), (4, _)] a := hA.sub ((.cons rfl (.cons rfl .nil)))
   refine Ends.seq (Ends.region ?_)
   refine S.val hA (R.loadA sz61 rfl (hM.range (k := 1) rfl) rfl) rfl ?_; clear hA a; intro a hA
   refine S.storeA (k := 0) hA hM sz61 rfl rfl rfl rfl rfl rfl ?_; clear hM
   intro w5 hM
   replace hM : Mem _ _ [pt b3 #[.int .u64 (loW (woF f k)), .int .u64 (hiW (woF f k))] 61, pt b1 #[.int .u64 (loW (woF f k)), .int .u64 (hiW (woF f k))] 61] _ := hM
   refine S.done ?_
   refine Ends.retC (k := 0) Tryd.func34 Tryd.results34 hA hM rfl rfl sz61 rfl ?_
   exact ⟨rfl, Mem.trans0 hbs hM.nilL⟩
  ·
   obtain ⟨m, hm, hmi⟩ : ∃ m : Nat, m < 64 ∧ k = 64 + m := ⟨k - 64, by omega, by omega⟩
   have e9 : ((k : Int) % 64).toNat = m := by omega
   refine Ends.drawn (Mem w nof [pt b3 #[.int .u64 0, .int .u64 0] 61, pt b1 #[.int .u64 (loW f), .int .u64 (hiW f)] 61]) (.cons (0, true) (.cons (1, true) (.cons (2, true) (.cons (3, true) (.cons (4, true) (.cons (5, true) (.cons (6, true) (.cons (7, true) (.cons (8, true) (.cons (9, false) .nil)))))))))) 9 mixed (by kernel_rfl) (by kernel_rfl) (by kernel_rfl) hM.drew ?_
   replace hM := hM.drew
   refine D.valF hA rfl (fun _ => R.move rfl) rfl ?_; clear hA a; intro a hA
   refine D.valF hA rfl (fun _ => R.quoI rfl rfl rfl (by omega)) rfl ?_; clear hA a; intro a hA
   refine D.valF hA rfl (fun _ => R.indexAddrA (q := 1) ar61 rfl rfl (by omega) (by omega)) rfl ?_; clear hA a; intro a hA
   refine D.val hA rfl (by kernel_rfl) (fun _ hM => R.load sz24 rfl (hM.cell (k := 1) rfl rfl)) rfl ?_; clear hA a; intro a hA
   refine D.valF hA rfl (fun _ => R.move rfl) rfl ?_; clear hA a; intro a hA
   refine D.valF hA rfl (fun _ => R.remI rfl rfl rfl (by omega)) rfl ?_; clear hA a; intro a hA
   refine D.valF hA rfl (fun _ => R.shl rfl rfl (by omega)) rfl ?_; clear hA a; intro a hA
   refine D.valF hA rfl (fun _ => R.bits (by simp) rfl rfl) rfl ?_; clear hA a; intro a hA
   refine D.valF hA rfl (fun _ => R.indexAddrA (q := 1) ar61 rfl rfl (by omega) (by omega)) rfl ?_; clear hA a; intro a hA
   refine D.store (k := 1) hA hM rfl sz24 rfl rfl rfl rfl rfl ?_; clear hM
   intro w6 hM; refine ⟨fun _ hne => absurd rfl hne, ?_⟩
   replace hM : Mem _ _ [pt b3 #[.int .u64 0, .int .u64 0] 61, pt b1 #[.int .u64 (loW f), .int .u64 (bits .andNot .u64 (hiW f) (IntKind.u64.wrap (1 * 2 ^ min (((k : Int)) % 64).toNat (IntKind.u64).bits)))] 61] _ := hM
   refine D.done ?_
   obtain ⟨g1, g2⟩ := sub_hi (f := f) hm
   have hwk : woF f (64 + m) = woF f k := by rw [hmi]
   rw [hwk] at g1 g2
   rw [e9, g1, ← g2] at hM
   replace hM : Mem _ _ [pt b3 #[.int .u64 0, .int .u64 0] 61, pt b1 #[.int .u64 (loW (woF f k)), .int .u64 (hiW (woF f k))] 61] _ := hM
   replace hA : St 17 [(2, _), (4, _)] a := hA.sub ((.cons rfl (.cons rfl .nil)))
   refine Ends.seq (Ends.region ?_)
   refine S.val hA (R.loadA sz61 rfl (hM.range (k := 1) rfl) rfl) rfl ?_; clear hA a; intro a hA
   refine S.storeA (k := 0) hA hM sz61 rfl rfl rfl rfl rfl rfl ?_; clear hM
   intro w7 hM
   replace hM : Mem _ _ [pt b3 #[.int .u64 (loW (woF f k)), .int .u64 (hiW (woF f k))] 61, pt b1 #[.int .u64 (loW (woF f k)), .int .u64 (hiW (woF f k))] 61] _ := hM
   refine S.done ?_
   refine Ends.retC (k := 0) Tryd.func34 Tryd.results34 hA hM rfl rfl sz61 rfl ?_
   exact ⟨rfl, Mem.trans0 hbs hM.nilL⟩
 · exact absurd (by omega) hc5
set_option maxRecDepth 100000 in
set_option maxHeartbeats 400000 in
theorem seq02P (f : Nat → Bool) (bx : Nat) (G : Nat → Prop) (hGx : G bx) (hGt : G 0) (w : World) (hq : w.heap[bx]? = some (.cells #[.int .u64 (loW f), .int .u64 (hiW f)] 61 (0, 0))) (htab : Lib.TabIs Tryd.prog w "math/bits.deBruijn64tab" .u8 debT)
  (l : Nat) (J Jx : List Int → World → Prop) (wi : World) (hbW : Below w.heap.size w wi) (hJ : AbidesFrom wi.heap.size J) (hJx : AbidesFrom wi.heap.size Jx)
  (hY : ∀ pre (x : Int) W1, (∃ m : Nat, x = (m : Int) ∧ m < 128 ∧ f m = true) → J pre W1 → pre.length < 128 → YieldAt Fence.wide 7 Tryd.prog l #[.int .i64 x] W1 fun e W' => (e = .returned (.bool true) ∧ J (pre ++ [x]) W' ∧ KpB G W1 W') ∨ (e = .returned (.bool false) ∧ Jx (pre ++ [x]) W'))
  (h0 : J [] wi) : CallsIn Fence.wide 8 Tryd.prog 42 (#[.func (.yield l) #[] #[]] ++ #[.pointer (some ⟨bx, 0, none⟩)]) wi
   fun e W' => (∃ v, e = .returned v) ∧ ((∃ xs, xs = eL f 0 ∧ J xs W') ∨ (∃ pre, (pre = (eL f 0).take pre.length ∧ pre.length ≤ (eL f 0).length) ∧ Jx pre W')) := by
 have hqb := (hbW.block bx (Array.getElem?_eq_some_iff.1 hq).1).trans hq
 have ht9 := tab_below htab hbW
 have hM := Mem.start wi
 refine CallsIn.of_endsW (vs := [.func (.yield l) #[] #[], .pointer (some ⟨bx, 0, none⟩)]) Tryd.func42 rfl Tryd.ntmps42 rfl ?_
 intro a hA
 replace hA : St 15 [(0, _), (1, _)] a := hA
 refine EndsW.seq ?_
 refine EndsW.region ?_
 refine S.val hA (R.loadA sz61 rfl (hM.oldRange hqb) rfl) rfl ?_; clear hA a; intro a hA
 refine S.call hA (R.callF Tryd.func43 rfl rfl rfl) rfl (first02 f _ (tab_below ht9 hM.nilL.below)) ?_; clear hA a
 rintro e w1 ⟨rfl, hb⟩
 replace hM := hM.callB hb; clear hb
 refine ⟨.int .i64 (nx f 0), rfl, fun a hA => ?_⟩
 refine S.val hA (R.assign rfl) rfl ?_; clear hA a; intro a hA
 refine S.doneW ?_
 refine EndsW.block ?_
 refine EndsW.loop (σ := Nat) (fun b (a : Act) (wv : World) => St 15 [(0, .func (.yield l) #[] #[]), (1, .pointer (some ⟨bx, 0, none⟩)), (3, .int .i64 (nx f b))] a ∧ wv.heap[bx]? = some (.cells #[.int .u64 (loW f), .int .u64 (hiW f)] 61 (0, 0)) ∧ Lib.TabIs Tryd.prog wv "math/bits.deBruijn64tab" .u8 debT ∧ J ((eL f 0).take (cnt f b)) wv ∧ b ≤ 128) (fun b => 128 - b) 0 ⟨hA.sub ((.cons rfl (.cons rfl (.cons rfl .nil)))), hM.keepB hqb, (tab_below ht9 hM.nilL.below), hJ _ _ _ none h0 (grown_of hM.nilL.below) (fun r e => by cases e), by omega⟩ ?_
 clear hA hM a hqb ht9 h0
 rintro b a w2 ⟨hA, hqb, ht9, h0, hb9⟩ J9 hNext
 have hM := Mem.start w2
 refine EndsW.seq ?_
 refine EndsW.seq ?_
 refine EndsW.region ?_
 refine S.val hA (R.move rfl) rfl ?_; clear hA a; intro a hA
 refine S.val hA (R.geq rfl rfl) rfl ?_; clear hA a; intro a hA
 refine S.doneW ?_
 refine EndsW.ite hA rfl (fun hc1 => ?_) (fun hc1 => ?_)
 ·
  obtain ⟨mm, hmm⟩ : ∃ mm : Nat, nx f b = (mm : Int) := ⟨(nx f b).toNat, by omega⟩
  have hcm := eL_cons hmm
  have htk := eL_take hb9 hmm
  have hmm2 : mm < 128 := hcm.2.2.1
  have hbm := hcm.2.1
  have hcl := cnt_le f b
  rw [hmm] at hA
  refine EndsW.skip ?_
  refine EndsW.seq ?_
  refine EndsW.block ?_
  refine EndsW.seq ?_
  have hlt := (List.length_take_le (cnt f b) (eL f 0))
  have h1 := hJ _ _ _ none h0 (grown_of hM.nilL.below) (fun r e => by cases e)
  have hqb1 := hM.keepB hqb
  have ht1 := (tab_below ht9 hM.nilL.below)
  refine EndsW.regionI ?_
  refine SI.val hA (R.move rfl) rfl ?_; clear hA a; intro a hA
  refine SI.val hA (R.move rfl) rfl ?_; clear hA a; intro a hA
  refine SI.yield hA rfl rfl rfl (hY _ (mm : Int) _ ⟨mm, rfl, hmm2, hcm.2.2.2.1⟩ h1 (by rw [List.length_take]; omega)) ?_; clear hA hM a h0 hqb ht9
  rintro e w3 (⟨rfl, h0, hK⟩ | ⟨rfl, hx0⟩)
  ·
   refine ⟨.bool true, rfl, fun a hA => ?_⟩
   refine SI.val hA (R.not rfl) rfl ?_; clear hA a; intro a hA
   refine SI.done ?_
   rw [htk.1] at h0
   have hqb := (hK bx hGx).trans hqb1
   have ht9 := tab_at ht1 (g := 0) (by kernel_rfl) (hK _ hGt)
   have hM := Mem.start w3
   replace hA : St 15 [(0, .func (.yield l) #[] #[]), (1, .pointer (some ⟨bx, 0, none⟩)), (3, .int .i64 ((mm : Int))), (14, .bool false)] a := hA.sub (.cons rfl (.cons rfl (.cons rfl (.cons rfl .nil))))
   refine EndsW.condF hA rfl ?_
   refine EndsW.skip ?_
   refine EndsW.inBlock ?_
   refine EndsW.region ?_
   refine S.val hA (R.loadA sz61 rfl (hM.oldRange hqb) rfl) rfl ?_; clear hA a; intro a hA
   refine S.val hA (R.move rfl) rfl ?_; clear hA a; intro a hA
   refine S.call hA (R.callF Tryd.func44 rfl rfl rfl) rfl (next_at f mm hmm2 _ (tab_below ht9 hM.nilL.below)) ?_; clear hA a
   rintro e w4 ⟨rfl, hb⟩
   replace hM := hM.callB hb; clear hb
   refine ⟨.int .i64 (nx f (mm + 1)), rfl, fun a hA => ?_⟩
   refine S.val hA (R.assign rfl) rfl ?_; clear hA a; intro a hA
   refine S.doneW ?_
   replace hA : St 15 [(0, _), (1, _), (3, _)] a := hA.sub ((.cons rfl (.cons rfl (.cons rfl .nil))))
   exact hNext (mm + 1) _ _ (by show 128 - (mm + 1) < 128 - b; omega) ⟨hA.sub ((.cons rfl (.cons rfl (.cons rfl .nil)))), hM.keepB hqb, (tab_below ht9 hM.nilL.below), hJ _ _ _ none h0 (grown_of hM.nilL.below) (fun r e => by cases e), by omega⟩
  ·
   refine ⟨.bool false, rfl, fun a hA => ?_⟩
   refine SI.val hA (R.not rfl) rfl ?_; clear hA a; intro a hA
   refine SI.done ?_
   replace hA : St 15 [(0, .func (.yield l) #[] #[]), (1, .pointer (some ⟨bx, 0, none⟩)), (3, .int .i64 ((mm : Int))), (14, .bool true)] a := hA.sub (.cons rfl (.cons rfl (.cons rfl (.cons rfl .nil))))
   refine EndsW.condT hA rfl ?_
   refine EndsW.retQ ?_
   refine leave0 hA.defers (results_none Tryd.results42 _ _ _) ?_
   refine ⟨⟨_, rfl⟩, .inr ⟨_, ?_, hx0⟩⟩
   rw [htk.1]
   refine ⟨?_, ?_⟩
   ·
    rw [List.length_take]; rcases Nat.le_total (cnt f (mm + 1)) (eL f 0).length with g | g
    · rw [Nat.min_eq_left g]
    · rw [Nat.min_eq_right g, List.take_length, List.take_of_length_le g]
   · rw [List.length_take]; exact Nat.min_le_right _ _
 ·
  have hn1 : nx f b = -1 := by have := nx_bd f b; omega
  have hend := eL_end hb9 hn1
  rw [hend.1] at h0
  refine EndsW.exit rfl ?_
  replace hA : St 15 [] a := hA.sub (.nil)
  refine EndsW.endQ ?_
  refine leave0 hA.defers (results_none Tryd.results42 _ _ _) ?_
  exact ⟨⟨_, rfl⟩, .inl ⟨_, rfl, hJ _ _ _ none h0 (grown_of hM.nilL.below) (fun r e => by cases e)⟩⟩
theorem seq02M (f : Nat → Bool) (bx : Nat) (G : Nat → Prop) (hGx : G bx) (hGt : G 0) (w : World) (hq : w.heap[bx]? = some (.cells #[.int .u64 (loW f), .int .u64 (hiW f)] 61 (0, 0))) (htab : Lib.TabIs Tryd.prog w "math/bits.deBruijn64tab" .u8 debT) :
    SeqStopsK Fence.wide 8 Tryd.prog 42 #[.pointer (some ⟨bx, 0, none⟩)] (fun x : Mb f => #[.int .i64 x.1]) (KpB G) (fun xs => vs xs = eL f 0) (fun pre => vs pre = (eL f 0).take (vs pre).length) 128 w := by
  intro l J Jx wi hbW hJ hJx hY h0
  refine (seq02P f bx G hGx hGt w hq htab l (fun p W => ∃ q : List (Mb f), vs q = p ∧ J q W) (fun p W => ∃ q : List (Mb f), vs q = p ∧ Jx q W) wi hbW (fun s A B row ⟨q, hq, h⟩ hg hr => ⟨q, hq, hJ q A B row h hg hr⟩) (fun s A B row ⟨q, hq, h⟩ hg hr => ⟨q, hq, hJx q A B row h hg hr⟩) ?_ ⟨[], rfl, h0⟩).mono ?_
  · rintro pre x W1 hx ⟨q, hq, hJq⟩ hl
    obtain ⟨fn, tmps, assign, body, hy, hR⟩ := hY q ⟨x, hx⟩ W1 hJq (by rw [← hq] at hl; simpa [vs] using hl)
    refine ⟨fn, tmps, assign, body, hy, RoundIn.mono hR fun e W' he => ?_⟩
    rcases he with ⟨h1, h2, h3⟩ | ⟨h1, h2⟩
    · exact .inl ⟨h1, ⟨_, by rw [vs_app, hq], h2⟩, h3⟩
    · exact .inr ⟨h1, ⟨_, by rw [vs_app, hq], h2⟩⟩
  · rintro e W' ⟨h1, ⟨xs, hxs, q, hq, hJq⟩ | ⟨pre, ⟨hp, -⟩, q, hq, hJq⟩⟩
    · exact ⟨h1, .inl ⟨q, hq.trans hxs, hJq⟩⟩
    · exact ⟨h1, .inr ⟨q, (by show vs q = _; rw [hq]; exact hp), hJq⟩⟩
set_option maxRecDepth 100000 in
set_option maxHeartbeats 400000 in
theorem right21 (o : HOp) (w : World) :
  Calls Tryd.prog 20 #[.agg #[.int .i64 o.k, .int .i64 o.i, .int .i64 o.f, .int .i64 o.t]] w fun e w' => e = .returned (.bool (rightP o)) ∧ Below w.heap.size w w' := by
 have hbs := Below.refl (B := w.heap.size) w
 have hM := Mem.start w
 refine Calls.of_ends (vs := [.agg #[.int .i64 o.k, .int .i64 o.i, .int .i64 o.f, .int .i64 o.t]]) Tryd.func20 rfl Tryd.ntmps20 rfl ?_
 intro a hA
 replace hA : St 24 [(0, _)] a := hA
 refine Ends.seq (Ends.region ?_)
 refine S.box hA hM rfl rfl ?_; clear hA hM a; intro b1 w1 hb2 hM a hA
 replace hM : Mem _ _ [pt b1 #[.int .i64 o.k, .int .i64 o.i, .int .i64 o.f, .int .i64 o.t] 26] _ := hM
 refine S.val hA (R.assign rfl) rfl ?_; clear hA a; intro a hA
 refine S.done ?_
 refine Ends.seq (Ends.seq (Ends.region ?_))
 refine S.val hA (R.fieldAddr (q := 0) fi26_0 rfl rfl rfl) rfl ?_; clear hA a; intro a hA
 refine S.val hA (R.load sz3 rfl (hM.cell (k := 0) rfl rfl)) rfl ?_; clear hA a; intro a hA
 refine S.done ?_
 refine Ends.block (Ends.seq (Ends.region ?_))
 refine S.val hA (R.eql rfl rfl) rfl ?_; clear hA a; intro a hA
 refine S.val hA (R.assign rfl) rfl ?_; clear hA a; intro a hA
 refine S.done ?_
 replace hA : St 24 [(1, _), (4, _), (5, _)] a := hA.sub ((.cons rfl (.cons rfl (.cons rfl .nil))))
 refine Ends.ite hA rfl (fun hc3 => ?_) (fun hc3 => ?_)
 ·
  refine Ends.seq ?_
  refine Ends.cut (fun (a : Act) (wv : World) => St 24 [(2, .bool (decide ((o.i ≠ (-1) ∧ o.f ≤ o.t))))] a ∧ Mem w nof [pt b1 #[.int .i64 o.k, .int .i64 o.i, .int .i64 o.f, .int .i64 o.t] 26] wv) ?_ (fun k2 hJ => ?_)
  ·
   clear hA hM a; rintro a w2 ⟨hA, hM⟩
   refine Ends.ret1 Tryd.func20 Tryd.results20 hA rfl ?_
   refine ⟨congrArg (fun b => Ending.returned (.bool b)) ?_, Mem.trans0 hbs hM.nilL⟩
   unfold rightP
   first | (rw [if_pos (by assumption)]; simp; done) | (rw [if_neg (by assumption), if_pos (by assumption)]; done) | (rw [if_neg (by assumption), if_neg (by assumption)]; done) | (rw [if_pos (by assumption)]; (try rw [← Bool.decide_and]); exact decide_eq_decide.2 (by omega)) | (simp_all; done)
  ·
   refine Ends.region ?_
   refine S.val hA (R.fieldAddr (q := 1) fi26_1 rfl rfl rfl) rfl ?_; clear hA a; intro a hA
   refine S.val hA (R.load sz3 rfl (hM.cell (k := 0) rfl rfl)) rfl ?_; clear hA a; intro a hA
   refine S.val hA (R.neq rfl rfl) rfl ?_; clear hA a; intro a hA
   refine S.val hA (R.move rfl) rfl ?_; clear hA a; intro a hA
   refine hA.split (d := 10) rfl ?_ ?_
   ·
    clear hA; intro hg4 hA
    refine S.valg (dj := 10) hA (by kernel_rfl) rfl (R.fieldAddr (q := 3) fi26_3 rfl rfl rfl) rfl ?_; clear hA a; intro a hA
    refine S.valg (dj := 10) hA (by kernel_rfl) rfl (R.load sz3 rfl (hM.cell (k := 0) rfl rfl)) rfl ?_; clear hA a; intro a hA
    refine S.valg (dj := 10) hA (by kernel_rfl) rfl (R.fieldAddr (q := 2) fi26_2 rfl rfl rfl) rfl ?_; clear hA a; intro a hA
    refine S.valg (dj := 10) hA (by kernel_rfl) rfl (R.load sz3 rfl (hM.cell (k := 0) rfl rfl)) rfl ?_; clear hA a; intro a hA
    refine S.valg (dj := 10) hA (by kernel_rfl) rfl (R.geq rfl rfl) rfl ?_; clear hA a; intro a hA
    refine S.val hA (R.pickT rfl rfl) rfl ?_; clear hA a; intro a hA
    refine S.val hA (R.assign rfl) rfl ?_; clear hA a; intro a hA
    refine S.done ?_
    replace hA : St 24 [(2, _)] a := hA.sub ((.cons rfl .nil))
    exact hJ _ _ ⟨hA.sub (.cons (by first | rfl | exact congrArg (fun b => some (Value.bool b)) (by first | exact decide_eq_decide.2 (by omega) | exact or_bool (by omega) | exact and_bool (by omega) | (simp; done) | (simp [hg4]; done) | (have h80 := hg4; (try simp at h80); simp [h80]; done) | exact (decide_eq_false (fun h9 => hg4 h9.1)).symm)) .nil), hM⟩
   ·
    clear hA; intro hg4 hA
    refine S.no (dj := 10) hA (by kernel_rfl) rfl rfl rfl ?_; clear hA a; intro a hA
    refine S.no (dj := 10) hA (by kernel_rfl) rfl rfl rfl ?_; clear hA a; intro a hA
    refine S.no (dj := 10) hA (by kernel_rfl) rfl rfl rfl ?_; clear hA a; intro a hA
    refine S.no (dj := 10) hA (by kernel_rfl) rfl rfl rfl ?_; clear hA a; intro a hA
    refine S.no (dj := 10) hA (by kernel_rfl) rfl rfl rfl ?_; clear hA a; intro a hA
    refine S.val hA (R.pickF rfl rfl) rfl ?_; clear hA a; intro a hA
    refine S.val hA (R.assign rfl) rfl ?_; clear hA a; intro a hA
    refine S.done ?_
    replace hA : St 24 [(2, _)] a := hA.sub ((.cons rfl .nil))
    exact hJ _ _ ⟨hA.sub (.cons (by first | rfl | exact congrArg (fun b => some (Value.bool b)) (by first | exact decide_eq_decide.2 (by omega) | exact or_bool (by omega) | exact and_bool (by omega) | (simp; done) | (simp [hg4]; done) | (have h80 := hg4; (try simp at h80); simp [h80]; done) | exact (decide_eq_false (fun h9 => hg4 h9.1)).symm)) .nil), hM⟩
 ·
  refine Ends.seq (Ends.region ?_)
  refine S.val hA (R.eql rfl rfl) rfl ?_; clear hA a; intro a hA
  refine S.val hA (R.assign rfl) rfl ?_; clear hA a; intro a hA
  refine S.done ?_
  refine Ends.ite hA rfl (fun hc5 => ?_) (fun hc5 => ?_)
  ·
   refine Ends.seq (Ends.region ?_)
   refine S.val hA (R.fieldAddr (q := 3) fi26_3 rfl rfl rfl) rfl ?_; clear hA a; intro a hA
   refine S.val hA (R.load sz3 rfl (hM.cell (k := 0) rfl rfl)) rfl ?_; clear hA a; intro a hA
   refine S.val hA (R.fieldAddr (q := 2) fi26_2 rfl rfl rfl) rfl ?_; clear hA a; intro a hA
   refine S.val hA (R.load sz3 rfl (hM.cell (k := 0) rfl rfl)) rfl ?_; clear hA a; intro a hA
   refine S.val hA (R.geq rfl rfl) rfl ?_; clear hA a; intro a hA
   refine S.val hA (R.assign rfl) rfl ?_; clear hA a; intro a hA
   refine S.done ?_
   replace hA : St 24 [(2, _)] a := hA.sub ((.cons rfl .nil))
   refine Ends.ret1 Tryd.func20 Tryd.results20 hA rfl ?_
   refine ⟨congrArg (fun b => Ending.returned (.bool b)) ?_, Mem.trans0 hbs hM.nilL⟩
   unfold rightP
   first | (rw [if_pos (by assumption)]; simp; done) | (rw [if_neg (by assumption), if_pos (by assumption)]; done) | (rw [if_neg (by assumption), if_neg (by assumption)]; done) | (rw [if_pos (by assumption)]; (try rw [← Bool.decide_and]); exact decide_eq_decide.2 (by omega)) | (simp_all; done)
  ·
   refine Ends.skip (Ends.inBlock (Ends.seq (Ends.region ?_)))
   refine S.val hA (R.assign rfl) rfl ?_; clear hA a; intro a hA
   refine S.done ?_
   replace hA : St 24 [(2, _)] a := hA.sub ((.cons rfl .nil))
   refine Ends.ret1 Tryd.func20 Tryd.results20 hA rfl ?_
   refine ⟨congrArg (fun b => Ending.returned (.bool b)) ?_, Mem.trans0 hbs hM.nilL⟩
   unfold rightP
   first | (rw [if_pos (by assumption)]; simp; done) | (rw [if_neg (by assumption), if_pos (by assumption)]; done) | (rw [if_neg (by assumption), if_neg (by assumption)]; done) | (rw [if_pos (by assumption)]; (try rw [← Bool.decide_and]); exact decide_eq_decide.2 (by omega)) | (simp_all; done)
set_option maxRecDepth 100000 in
set_option maxHeartbeats 400000 in
theorem undo21 (q p bs : Nat) (ba : Option Addr) (bn bc : Nat) (v0 v1 v2 v3 : Value) (w : World) (hM0 : Mem w (feet [pt q #[.slice ba bn bc] 22, pt p #[.pointer (some ⟨bs, 0, none⟩)] 55, pt bs #[v0, v1, v2, v3] 58]) [pt q #[.slice ba bn bc] 22, pt p #[.pointer (some ⟨bs, 0, none⟩)] 55, pt bs #[v0, v1, v2, v3] 58] w) :
    Calls Tryd.prog 48 #[.pointer (some ⟨q, 0, none⟩), .pointer (some ⟨p, 0, none⟩)] w fun e w' => e = .returned (.tuple #[]) ∧ Mem w (feet [pt q #[.slice ba bn bc] 22, pt p #[.pointer (some ⟨bs, 0, none⟩)] 55, pt bs #[v0, v1, v2, v3] 58]) [pt q #[.slice ba bn bc] 22, pt p #[.pointer (some ⟨bs, 0, none⟩)] 55, pt bs #[v0, .slice ba bn bc, v2, v3] 58] w' := by
  have hbs := Below.refl (B := w.heap.size) w
  have hM := hM0
  refine Calls.of_ends (vs := [.pointer (some ⟨q, 0, none⟩), .pointer (some ⟨p, 0, none⟩)]) Tryd.func48 rfl Tryd.ntmps48 rfl ?_
  intro a hA
  replace hA : St 6 [(0, _), (1, _)] a := hA
  refine Ends.region ?_
  refine S.val hA (R.load sz55 rfl (hM.cell (k := 1) rfl rfl)) rfl ?_; clear hA a; intro a hA
  refine S.val hA (R.load sz22 rfl (hM.cell (k := 0) rfl rfl)) rfl ?_; clear hA a; intro a hA
  refine S.val hA (R.nilCheck rfl) rfl ?_; clear hA a; intro a hA
  refine S.val hA (R.fieldAddr (q := 1) fi58_1 rfl rfl rfl) rfl ?_; clear hA a; intro a hA
  refine S.store (k := 2) hA hM sz22 rfl rfl rfl rfl rfl ?_; clear hM
  intro w1 hM
  replace hM : Mem _ _ [pt q #[.slice ba bn bc] 22, pt p #[.pointer (some ⟨bs, 0, none⟩)] 55, pt bs #[v0, .slice ba bn bc, v2, v3] 58] _ := hM
  refine S.done ?_
  replace hA : St 6 [] a := hA.sub (.nil)
  refine Ends.end0 Tryd.func48 Tryd.results48 hA ?_
  exact ⟨rfl, hM⟩
set_option maxRecDepth 100000 in
set_option maxHeartbeats 400000 in
theorem do21 (o : HOp) (bs : Nat) (ba : Option Addr) (X : List Int) (bc : Nat) (v0 v2 v3 : Value) (K : Ck) (hK : ∀ w, K.holds w → IntSl w (.slice ba X.length bc) X) (hX : X.length ≤ 900) (w : World) (hM0 : Mem w (feet [pt bs #[v0, .slice ba X.length bc, v2, v3] 58, K]) [pt bs #[v0, .slice ba X.length bc, v2, v3] 58, K] w) :
  Calls Tryd.prog 33 #[.pointer (some ⟨bs, 0, none⟩), .agg #[.int .i64 o.k, .int .i64 o.i, .int .i64 o.f, .int .i64 o.t]] w fun e w' => (∃ Y a c q p, doP o X = some Y ∧ e = .returned (.tuple #[.func (.func 48) #[] #[.pointer (some ⟨q, 0, none⟩), .pointer (some ⟨p, 0, none⟩)], .bool true]) ∧
   Mem w (feet [pt bs #[v0, .slice ba X.length bc, v2, v3] 58, K]) [pt bs #[v0, .slice a Y.length c, v2, v3] 58, rd a c Y, pt q #[.slice ba X.length bc] 22, pt p #[.pointer (some ⟨bs, 0, none⟩)] 55, K] w') ∨
   (doP o X = none ∧ e = .returned (.tuple #[.nilFunc, .bool false]) ∧ Mem w (feet [pt bs #[v0, .slice ba X.length bc, v2, v3] 58, K]) [pt bs #[v0, .slice ba X.length bc, v2, v3] 58, K] w') := by
 have hbs := Below.refl (B := w.heap.size) w
 have hM := hM0
 refine Calls.of_ends (vs := [.pointer (some ⟨bs, 0, none⟩), .agg #[.int .i64 o.k, .int .i64 o.i, .int .i64 o.f, .int .i64 o.t]]) Tryd.func33 rfl Tryd.ntmps33 rfl ?_
 intro a hA
 replace hA : St 48 [(0, _), (1, _)] a := hA
 refine Ends.seq (Ends.region ?_)
 refine S.box hA hM rfl rfl ?_; clear hA hM a; intro b1 w1 hb2 hM a hA
 replace hM : Mem _ _ [pt b1 #[.pointer (some ⟨bs, 0, none⟩)] 55, pt bs #[v0, .slice ba X.length bc, v2, v3] 58, K] _ := hM
 refine S.box hA hM rfl rfl ?_; clear hA hM a; intro b3 w2 hb4 hM a hA
 replace hM : Mem _ _ [pt b3 #[.int .i64 o.k, .int .i64 o.i, .int .i64 o.f, .int .i64 o.t] 26, pt b1 #[.pointer (some ⟨bs, 0, none⟩)] 55, pt bs #[v0, .slice ba X.length bc, v2, v3] 58, K] _ := hM
 refine S.val hA (R.assign rfl) rfl ?_; clear hA a; intro a hA
 refine S.val hA (R.assign rfl) rfl ?_; clear hA a; intro a hA
 refine S.done ?_
 replace hA : St 48 [(2, _), (3, _)] a := hA.sub ((.cons rfl (.cons rfl .nil)))
 refine Ends.seq (Ends.region ?_)
 refine S.val hA (R.load sz55 rfl (hM.cell (k := 1) rfl rfl)) rfl ?_; clear hA a; intro a hA
 refine S.val hA (R.nilCheck rfl) rfl ?_; clear hA a; intro a hA
 refine S.val hA (R.fieldAddr (q := 1) fi58_1 rfl rfl rfl) rfl ?_; clear hA a; intro a hA
 refine S.val hA (R.load sz22 rfl (hM.cell (k := 2) rfl rfl)) rfl ?_; clear hA a; intro a hA
 refine S.alloc hA hM info22 rfl rfl ?_; clear hA hM a; intro b5 w3 hb6 hM a hA
 replace hM : Mem _ _ [pt b5 #[.slice none 0 0] 22, pt b3 #[.int .i64 o.k, .int .i64 o.i, .int .i64 o.f, .int .i64 o.t] 26, pt b1 #[.pointer (some ⟨bs, 0, none⟩)] 55, pt bs #[v0, .slice ba X.length bc, v2, v3] 58, K] _ := hM
 refine S.store (k := 0) hA hM sz22 rfl rfl rfl rfl rfl ?_; clear hM
 intro w4 hM
 replace hM : Mem _ _ [pt b5 #[.slice ba X.length bc] 22, pt b3 #[.int .i64 o.k, .int .i64 o.i, .int .i64 o.f, .int .i64 o.t] 26, pt b1 #[.pointer (some ⟨bs, 0, none⟩)] 55, pt bs #[v0, .slice ba X.length bc, v2, v3] 58, K] _ := hM
 refine S.done ?_
 replace hA : St 48 [(2, _), (3, _), (6, _)] a := hA.sub ((.cons rfl (.cons rfl (.cons rfl .nil))))
 refine Ends.seq (Ends.block (Ends.seq (Ends.region ?_)))
 refine S.val hA (R.fieldAddr (q := 0) fi26_0 rfl rfl rfl) rfl ?_; clear hA a; intro a hA
 refine S.val hA (R.load sz3 rfl (hM.cell (k := 1) rfl rfl)) rfl ?_; clear hA a; intro a hA
 refine S.val hA (R.eql rfl rfl) rfl ?_; clear hA a; intro a hA
 refine S.val hA (R.assign rfl) rfl ?_; clear hA a; intro a hA
 refine S.done ?_
 refine Ends.ite hA rfl (fun hc7 => ?_) (fun hc7 => ?_)
 ·
  refine Ends.drawn (Mem w (feet [pt bs #[v0, .slice ba X.length bc, v2, v3] 58, K]) [pt b5 #[.slice ba X.length bc] 22, pt b3 #[.int .i64 o.k, .int .i64 o.i, .int .i64 o.f, .int .i64 o.t] 26, pt b1 #[.pointer (some ⟨bs, 0, none⟩)] 55, pt bs #[v0, .slice ba X.length bc, v2, v3] 58, K]) (.cons (0, true) (.cons (1, true) (.cons (3, true) (.cons (4, true) (.fork 2 5 (.cons (5, false) (.cons (6, false) (.cons (7, true) (.cons (8, true) (.cons (9, false) .nil))))) (.cons (2, false) (.cons (6, false) (.cons (7, true) (.cons (8, true) (.cons (9, false) .nil)))))))))) 9 mixed (by kernel_rfl) (by kernel_rfl) (by kernel_rfl) hM.drew ?_
  replace hM := hM.drew
  refine D.val hA rfl (by kernel_rfl) (fun _ hM => R.load sz55 rfl (hM.cell (k := 2) rfl rfl)) rfl ?_; clear hA a; intro a hA
  refine D.val hA rfl (by kernel_rfl) (fun _ hM => R.load sz22 rfl (hM.cell (k := 0) rfl rfl)) rfl ?_; clear hA a; intro a hA
  refine D.valF hA rfl (fun _ => R.fieldAddr (q := 1) fi26_1 rfl rfl rfl) rfl ?_; clear hA a; intro a hA
  refine D.val hA rfl (by kernel_rfl) (fun _ hM => R.load sz3 rfl (hM.cell (k := 1) rfl rfl)) rfl ?_; clear hA a; intro a hA
  refine D.fork rfl rfl ?_ ?_
  ·
   refine D.call hA rfl (R.callF Tryd.func45 rfl rfl rfl) rfl (clone21 ba X bc _ ((hK _ (hM.mem (k := 4) rfl))) (by omega)) ?_; clear hA a
   rintro e w5 ⟨ka8, kc9, rfl, hn⟩
   replace hM : Mem _ _ [own 3 1 (.slice ka8 X.length kc9) X.length (X.map (Value.int .i64)), pt b5 #[.slice ba X.length bc] 22, pt b3 #[.int .i64 o.k, .int .i64 o.i, .int .i64 o.f, .int .i64 o.t] 26, pt b1 #[.pointer (some ⟨bs, 0, none⟩)] 55, pt bs #[v0, .slice ba X.length bc, v2, v3] 58, K] _ := hM.call hn; clear hn
   refine ⟨.slice ka8 X.length kc9, rfl, (hM.drop 0), fun a hA => ?_⟩
   refine D.buildSl (cells := #[.int .i64 o.i]) hA hM rfl Tryd.underlying22 info3 rfl rfl rfl rfl (by kernel_rfl) rfl ?_; clear hA hM a; intro b10 w6 hb11 hM; refine ⟨(fun hM => (hM.drop 0)) hM.tail, fun a hA => ?_⟩
   replace hM : Mem _ _ [pt b10 #[.int .i64 o.i] 3, own 3 1 (.slice ka8 X.length kc9) X.length (X.map (Value.int .i64)), pt b5 #[.slice ba X.length bc] 22, pt b3 #[.int .i64 o.k, .int .i64 o.i, .int .i64 o.f, .int .i64 o.t] 26, pt b1 #[.pointer (some ⟨bs, 0, none⟩)] 55, pt bs #[v0, .slice ba X.length bc, v2, v3] 58, K] _ := hM
   refine D.append (k := 1) (k2 := 0) hA hM rfl rfl rfl Tryd.underlying22 info3 rfl rfl rfl rfl rfl rfl rfl rfl rfl (by first | (unfold maxLen; omega) | (show (_ + 1) * 8 ≤ (140737488355328 : Nat); omega) | (show (_ + _) * 8 ≤ (140737488355328 : Nat); omega)) (by first | (unfold maxLen; omega) | (show (_ + 1) * 8 ≤ (140737488355328 : Nat); omega) | (show (_ + _) * 8 ≤ (140737488355328 : Nat); omega)) rfl ?_; clear hA hM a; intro a12 c13 w7 hM
   replace hM : Mem _ _ [pt b10 #[.int .i64 o.i] 3, own 3 1 (.slice a12 (X.length + 1) c13) (X.length + 1) (X.map (Value.int .i64) ++ [.int .i64 o.i]), pt b5 #[.slice ba X.length bc] 22, pt b3 #[.int .i64 o.k, .int .i64 o.i, .int .i64 o.f, .int .i64 o.t] 26, pt b1 #[.pointer (some ⟨bs, 0, none⟩)] 55, pt bs #[v0, .slice ba X.length bc, v2, v3] 58, K] _ := hM
   have hl14 : X.length + 1 = (X ++ [o.i]).length := by simp
   rw [hl14, show X.map (Value.int .i64) ++ [.int .i64 o.i] = (X ++ [o.i]).map (Value.int .i64) by simp] at hM
   replace hM := hM.drop 0
   replace hM : Mem _ _ [own 3 1 (.slice a12 (((X ++ [o.i])).length) c13) (((X ++ [o.i])).length) (((X ++ [o.i])).map (Value.int .i64)), pt b5 #[.slice ba X.length bc] 22, pt b3 #[.int .i64 o.k, .int .i64 o.i, .int .i64 o.f, .int .i64 o.t] 26, pt b1 #[.pointer (some ⟨bs, 0, none⟩)] 55, pt bs #[v0, .slice ba X.length bc, v2, v3] 58, K] _ := hM
   refine ⟨(hM.drop 0), fun a hA => ?_⟩; rw [hl14] at hA; clear hl14
   refine D.valF hA rfl (fun _ => R.nilCheck rfl) rfl ?_; clear hA a; intro a hA
   refine D.valF hA rfl (fun _ => R.fieldAddr (q := 1) fi58_1 rfl rfl rfl) rfl ?_; clear hA a; intro a hA
   refine D.store (k := 4) hA hM rfl sz22 rfl rfl rfl rfl rfl ?_; clear hM
   intro w8 hM; refine ⟨fun _ hne => absurd rfl hne, ?_⟩
   replace hM : Mem _ _ [own 3 1 (.slice a12 (((X ++ [o.i])).length) c13) (((X ++ [o.i])).length) (((X ++ [o.i])).map (Value.int .i64)), pt b5 #[.slice ba X.length bc] 22, pt b3 #[.int .i64 o.k, .int .i64 o.i, .int .i64 o.f, .int .i64 o.t] 26, pt b1 #[.pointer (some ⟨bs, 0, none⟩)] 55, pt bs #[v0, .slice a12 (((X ++ [o.i])).length) c13, v2, v3] 58, K] _ := hM
   refine D.done ?_
   replace hA : St 48 [(2, _), (6, _)] a := hA.sub ((.cons rfl (.cons rfl .nil)))
   refine Ends.inBlock (Ends.seq (Ends.region ?_))
   refine S.val hA (R.to (v := .func (.func 48) #[] #[.pointer (some ⟨b5, 0, none⟩), .pointer (some ⟨b1, 0, none⟩)]) (R.makeFunc rfl) rfl) rfl ?_; clear hA a; intro a hA
   refine S.val hA (R.assign rfl) rfl ?_; clear hA a; intro a hA
   refine S.val hA (R.assign rfl) rfl ?_; clear hA a; intro a hA
   refine S.done ?_
   refine Ends.ret2 Tryd.func33 Tryd.results33 hA rfl rfl ?_
   replace hM := hM.ownRd
   replace hM := hM.front (k := 5) rfl
   replace hM := hM.front (k := 4) rfl
   replace hM := hM.front (k := 3) rfl
   replace hM := hM.front (k := 3) rfl
   replace hM := hM.front (k := 5) rfl
   replace hM := hM.firstN 5
   exact .inl ⟨_, a12, c13, b5, b1, by unfold doP; rw [if_pos hc7], rfl, hM⟩
  ·
   refine D.buildSl (cells := #[.int .i64 o.i]) hA hM rfl Tryd.underlying22 info3 rfl rfl rfl rfl (by kernel_rfl) rfl ?_; clear hA hM a; intro b15 w9 hb16 hM; refine ⟨hM.tail, fun a hA => ?_⟩
   replace hM : Mem _ _ [pt b15 #[.int .i64 o.i] 3, pt b5 #[.slice ba X.length bc] 22, pt b3 #[.int .i64 o.k, .int .i64 o.i, .int .i64 o.f, .int .i64 o.t] 26, pt b1 #[.pointer (some ⟨bs, 0, none⟩)] 55, pt bs #[v0, .slice ba X.length bc, v2, v3] 58, K] _ := hM
   refine D.call hA rfl (R.callF Tryd.func45 rfl rfl rfl) rfl (clone21 ba X bc _ ((hK _ (hM.mem (k := 5) rfl))) (by omega)) ?_; clear hA a
   rintro e w10 ⟨ka17, kc18, rfl, hn⟩
   replace hM : Mem _ _ [own 3 1 (.slice ka17 X.length kc18) X.length (X.map (Value.int .i64)), pt b15 #[.int .i64 o.i] 3, pt b5 #[.slice ba X.length bc] 22, pt b3 #[.int .i64 o.k, .int .i64 o.i, .int .i64 o.f, .int .i64 o.t] 26, pt b1 #[.pointer (some ⟨bs, 0, none⟩)] 55, pt bs #[v0, .slice ba X.length bc, v2, v3] 58, K] _ := hM.call hn; clear hn
   refine ⟨.slice ka17 X.length kc18, rfl, ((hM.drop 1).drop 0), fun a hA => ?_⟩
   refine D.append (k := 0) (k2 := 1) hA hM rfl rfl rfl Tryd.underlying22 info3 rfl rfl rfl rfl rfl rfl rfl rfl rfl (by first | (unfold maxLen; omega) | (show (_ + 1) * 8 ≤ (140737488355328 : Nat); omega) | (show (_ + _) * 8 ≤ (140737488355328 : Nat); omega)) (by first | (unfold maxLen; omega) | (show (_ + 1) * 8 ≤ (140737488355328 : Nat); omega) | (show (_ + _) * 8 ≤ (140737488355328 : Nat); omega)) rfl ?_; clear hA hM a; intro a19 c20 w11 hM
   replace hM : Mem _ _ [own 3 1 (.slice a19 (X.length + 1) c20) (X.length + 1) (X.map (Value.int .i64) ++ [.int .i64 o.i]), pt b15 #[.int .i64 o.i] 3, pt b5 #[.slice ba X.length bc] 22, pt b3 #[.int .i64 o.k, .int .i64 o.i, .int .i64 o.f, .int .i64 o.t] 26, pt b1 #[.pointer (some ⟨bs, 0, none⟩)] 55, pt bs #[v0, .slice ba X.length bc, v2, v3] 58, K] _ := hM
   have hl21 : X.length + 1 = (X ++ [o.i]).length := by simp
   rw [hl21, show X.map (Value.int .i64) ++ [.int .i64 o.i] = (X ++ [o.i]).map (Value.int .i64) by simp] at hM
   replace hM := hM.drop 1
   replace hM : Mem _ _ [own 3 1 (.slice a19 (((X ++ [o.i])).length) c20) (((X ++ [o.i])).length) (((X ++ [o.i])).map (Value.int .i64)), pt b5 #[.slice ba X.length bc] 22, pt b3 #[.int .i64 o.k, .int .i64 o.i, .int .i64 o.f, .int .i64 o.t] 26, pt b1 #[.pointer (some ⟨bs, 0, none⟩)] 55, pt bs #[v0, .slice ba X.length bc, v2, v3] 58, K] _ := hM
   refine ⟨(hM.drop 0), fun a hA => ?_⟩; rw [hl21] at hA; clear hl21
   refine D.valF hA rfl (fun _ => R.nilCheck rfl) rfl ?_; clear hA a; intro a hA
   refine D.valF hA rfl (fun _ => R.fieldAddr (q := 1) fi58_1 rfl rfl rfl) rfl ?_; clear hA a; intro a hA
   refine D.store (k := 4) hA hM rfl sz22 rfl rfl rfl rfl rfl ?_; clear hM
   intro w12 hM; refine ⟨fun _ hne => absurd rfl hne, ?_⟩
   replace hM : Mem _ _ [own 3 1 (.slice a19 (((X ++ [o.i])).length) c20) (((X ++ [o.i])).length) (((X ++ [o.i])).map (Value.int .i64)), pt b5 #[.slice ba X.length bc] 22, pt b3 #[.int .i64 o.k, .int .i64 o.i, .int .i64 o.f, .int .i64 o.t] 26, pt b1 #[.pointer (some ⟨bs, 0, none⟩)] 55, pt bs #[v0, .slice a19 (((X ++ [o.i])).length) c20, v2, v3] 58, K] _ := hM
   refine D.done ?_
   replace hA : St 48 [(2, _), (6, _)] a := hA.sub ((.cons rfl (.cons rfl .nil)))
   refine Ends.inBlock (Ends.seq (Ends.region ?_))
   refine S.val hA (R.to (v := .func (.func 48) #[] #[.pointer (some ⟨b5, 0, none⟩), .pointer (some ⟨b1, 0, none⟩)]) (R.makeFunc rfl) rfl) rfl ?_; clear hA a; intro a hA
   refine S.val hA (R.assign rfl) rfl ?_; clear hA a; intro a hA
   refine S.val hA (R.assign rfl) rfl ?_; clear hA a; intro a hA
   refine S.done ?_
   refine Ends.ret2 Tryd.func33 Tryd.results33 hA rfl rfl ?_
   replace hM := hM.ownRd
   replace hM := hM.front (k := 5) rfl
   replace hM := hM.front (k := 4) rfl
   replace hM := hM.front (k := 3) rfl
   replace hM := hM.front (k := 3) rfl
   replace hM := hM.front (k := 5) rfl
   replace hM := hM.firstN 5
   exact .inl ⟨_, a19, c20, b5, b1, by unfold doP; rw [if_pos hc7], rfl, hM⟩
 ·
  refine Ends.seq (Ends.region ?_)
  refine S.val hA (R.fieldAddr (q := 1) fi26_1 rfl rfl rfl) rfl ?_; clear hA a; intro a hA
  refine S.val hA (R.load sz3 rfl (hM.cell (k := 1) rfl rfl)) rfl ?_; clear hA a; intro a hA
  refine S.val hA (R.eql rfl rfl) rfl ?_; clear hA a; intro a hA
  refine S.val hA (R.assign rfl) rfl ?_; clear hA a; intro a hA
  refine S.done ?_
  replace hA : St 48 [(2, _), (3, _), (6, _), (40, _)] a := hA.sub ((.cons rfl (.cons rfl (.cons rfl (.cons rfl .nil)))))
  refine Ends.ite hA rfl (fun hc22 => ?_) (fun hc22 => ?_)
  ·
   refine Ends.seq (Ends.region ?_)
   refine S.val hA (R.load sz22 rfl (hM.cell (k := 0) rfl rfl)) rfl ?_; clear hA a; intro a hA
   refine S.val hA (R.lenS Tryd.underlying22 rfl rfl) rfl ?_; clear hA a; intro a hA
   refine S.val hA (R.gtr rfl rfl) rfl ?_; clear hA a; intro a hA
   refine S.done ?_
   replace hA : St 48 [(2, _), (6, _), (46, _)] a := hA.sub ((.cons rfl (.cons rfl (.cons rfl .nil))))
   refine Ends.ite hA rfl (fun hc23 => ?_) (fun hc23 => ?_)
   ·
    refine Ends.seq (Ends.region ?_)
    refine S.val hA (R.assign rfl) rfl ?_; clear hA a; intro a hA
    refine S.val hA (R.assign rfl) rfl ?_; clear hA a; intro a hA
    refine S.done ?_
    refine Ends.ret2 Tryd.func33 Tryd.results33 hA rfl rfl ?_
    replace hM := hM.front (k := 4) rfl
    replace hM := hM.front (k := 4) rfl
    replace hM := hM.firstN 2
    exact .inr ⟨by unfold doP; rw [if_neg hc7, if_pos hc22, if_neg (fun e => by subst e; exact absurd hc23 (by decide))], rfl, hM⟩
   ·
    refine Ends.skip (Ends.inBlock (Ends.seq (Ends.region ?_)))
    refine S.val hA (R.to (v := .func (.func 48) #[] #[.pointer (some ⟨b5, 0, none⟩), .pointer (some ⟨b1, 0, none⟩)]) (R.makeFunc rfl) rfl) rfl ?_; clear hA a; intro a hA
    refine S.val hA (R.assign rfl) rfl ?_; clear hA a; intro a hA
    refine S.val hA (R.assign rfl) rfl ?_; clear hA a; intro a hA
    refine S.done ?_
    refine Ends.ret2 Tryd.func33 Tryd.results33 hA rfl rfl ?_
    have hX0 : X = [] := by cases X with | nil => rfl | cons z X => exact absurd (show ((z :: X).length : Int) > 0 by simp) (by have := hc23; simp at this)
    subst hX0
    replace hM := hM.emptyRd (hK _ (hM.mem (k := 4) rfl))
    replace hM := hM.front (k := 5) rfl
    replace hM := hM.front (k := 4) rfl
    replace hM := hM.front (k := 3) rfl
    replace hM := hM.front (k := 3) rfl
    replace hM := hM.front (k := 5) rfl
    replace hM := hM.firstN 5
    exact .inl ⟨_, ba, bc, b5, b1, by unfold doP; rw [if_neg hc7, if_pos hc22, if_pos rfl], rfl, hM⟩
  ·
   refine Ends.seq (Ends.region ?_)
   refine S.val hA (R.load sz22 rfl (hM.cell (k := 0) rfl rfl)) rfl ?_; clear hA a; intro a hA
   refine S.val hA (R.fieldAddr (q := 1) fi26_1 rfl rfl rfl) rfl ?_; clear hA a; intro a hA
   refine S.val hA (R.load sz3 rfl (hM.cell (k := 1) rfl rfl)) rfl ?_; clear hA a; intro a hA
   refine S.call hA (R.callF Tryd.func46 rfl rfl rfl) rfl (index21 ba X bc o.i _ ((hK _ (hM.mem (k := 4) rfl))) (by omega)) ?_; clear hA a
   rintro e w13 ⟨rfl, rfl⟩
   refine ⟨.int .i64 ((Lib.idxOf X o.i)), rfl, fun a hA => ?_⟩
   refine S.val hA (R.assign rfl) rfl ?_; clear hA a; intro a hA
   refine S.done ?_
   replace hA : St 48 [(2, _), (6, _), (7, _)] a := hA.sub ((.cons rfl (.cons rfl (.cons rfl .nil))))
   refine Ends.seq (Ends.seq (Ends.region ?_))
   refine S.val hA (R.move rfl) rfl ?_; clear hA a; intro a hA
   refine S.val hA (R.lss rfl rfl) rfl ?_; clear hA a; intro a hA
   refine S.done ?_
   refine Ends.ite hA rfl (fun hc24 => ?_) (fun hc24 => ?_)
   ·
    refine Ends.seq (Ends.region ?_)
    refine S.val hA (R.assign rfl) rfl ?_; clear hA a; intro a hA
    refine S.val hA (R.assign rfl) rfl ?_; clear hA a; intro a hA
    refine S.done ?_
    refine Ends.ret2 Tryd.func33 Tryd.results33 hA rfl rfl ?_
    replace hM := hM.front (k := 4) rfl
    replace hM := hM.front (k := 4) rfl
    replace hM := hM.firstN 2
    have hmx : o.i ∉ X := fun hmx => by obtain ⟨j, h1, -, -⟩ := (idx_from o.i X 0).1 hmx; have h9 := hc24; rw [Lib.idxOf, h1] at h9; omega
    exact .inr ⟨by unfold doP; rw [if_neg hc7, if_neg hc22, if_neg hmx], rfl, hM⟩
   ·
    obtain ⟨jd, hjd, hjl, hje⟩ : ∃ j : Nat, Lib.idxOf X o.i = (j : Int) ∧ j < X.length ∧ X.eraseIdx j = X.erase o.i := by
     by_cases hmx : o.i ∈ X
     · obtain ⟨j, h1, h2, h3⟩ := (idx_from o.i X 0).1 hmx; exact ⟨j, by rw [Lib.idxOf, h1, Nat.zero_add], h2, h3⟩
     · exact absurd (by rw [Lib.idxOf, (idx_from o.i X 0).2 hmx]; decide) hc24
    have hmx : o.i ∈ X := by rcases Decidable.em (o.i ∈ X) with g | g; exact g; rw [Lib.idxOf, (idx_from o.i X 0).2 g] at hjd; omega
    rw [hjd] at hA
    refine Ends.skip ?_
    refine Ends.drawn (Mem w (feet [pt bs #[v0, .slice ba X.length bc, v2, v3] 58, K]) [pt b5 #[.slice ba X.length bc] 22, pt b3 #[.int .i64 o.k, .int .i64 o.i, .int .i64 o.f, .int .i64 o.t] 26, pt b1 #[.pointer (some ⟨bs, 0, none⟩)] 55, pt bs #[v0, .slice ba X.length bc, v2, v3] 58, K]) (.cons (0, true) (.cons (1, true) (.cons (3, true) (.cons (4, true) (.cons (5, true) (.cons (2, false) (.cons (6, false) (.cons (7, true) (.cons (8, true) (.cons (9, false) .nil)))))))))) 9 mixed (by kernel_rfl) (by kernel_rfl) (by kernel_rfl) hM.drew ?_
    replace hM := hM.drew
    refine D.val hA rfl (by kernel_rfl) (fun _ hM => R.load sz55 rfl (hM.cell (k := 2) rfl rfl)) rfl ?_; clear hA a; intro a hA
    refine D.val hA rfl (by kernel_rfl) (fun _ hM => R.load sz22 rfl (hM.cell (k := 0) rfl rfl)) rfl ?_; clear hA a; intro a hA
    refine D.valF hA rfl (fun _ => R.move rfl) rfl ?_; clear hA a; intro a hA
    refine D.valF hA rfl (fun _ => R.move rfl) rfl ?_; clear hA a; intro a hA
    refine D.valF hA rfl (fun _ => R.addI rfl rfl (r := ((jd : Int)) + 1) rfl (by omega)) rfl ?_; clear hA a; intro a hA
    refine D.call hA rfl (R.callF Tryd.func45 rfl rfl rfl) rfl (clone21 ba X bc _ ((hK _ (hM.mem (k := 4) rfl))) (by omega)) ?_; clear hA a
    rintro e w14 ⟨ka25, kc26, rfl, hn⟩
    replace hM : Mem _ _ [own 3 1 (.slice ka25 X.length kc26) X.length (X.map (Value.int .i64)), pt b5 #[.slice ba X.length bc] 22, pt b3 #[.int .i64 o.k, .int .i64 o.i, .int .i64 o.f, .int .i64 o.t] 26, pt b1 #[.pointer (some ⟨bs, 0, none⟩)] 55, pt bs #[v0, .slice ba X.length bc, v2, v3] 58, K] _ := hM.call hn; clear hn
    refine ⟨.slice ka25 X.length kc26, rfl, (hM.drop 0), fun a hA => ?_⟩
    obtain ⟨g27, hg9⟩ := hM.ownAt (k := 0) rfl (by omega)
    subst hg9
    refine D.call hA rfl (R.callF Tryd.func47 rfl rfl rfl) rfl (del09 g27 kc26 jd X hjl _ (hM.hereN 1)) ?_; clear hA a
    rintro e w15 ⟨rfl, hn⟩
    replace hM : Mem _ _ [own 3 1 (.slice ((some ⟨g27, 0, none⟩)) (((X.eraseIdx jd)).length) kc26) (((X.eraseIdx jd)).length) (((X.eraseIdx jd)).map (Value.int .i64)), pt b5 #[.slice ba X.length bc] 22, pt b3 #[.int .i64 o.k, .int .i64 o.i, .int .i64 o.f, .int .i64 o.t] 26, pt b1 #[.pointer (some ⟨bs, 0, none⟩)] 55, pt bs #[v0, .slice ba X.length bc, v2, v3] 58, K] _ := hM.callL 1 hn; clear hn
    refine ⟨.slice ((some ⟨g27, 0, none⟩)) (((X.eraseIdx jd)).length) kc26, rfl, (hM.drop 0), fun a hA => ?_⟩
    refine D.valF hA rfl (fun _ => R.nilCheck rfl) rfl ?_; clear hA a; intro a hA
    refine D.valF hA rfl (fun _ => R.fieldAddr (q := 1) fi58_1 rfl rfl rfl) rfl ?_; clear hA a; intro a hA
    refine D.store (k := 4) hA hM rfl sz22 rfl rfl rfl rfl rfl ?_; clear hM
    intro w16 hM; refine ⟨fun _ hne => absurd rfl hne, ?_⟩
    replace hM : Mem _ _ [own 3 1 (.slice ((some ⟨g27, 0, none⟩)) (((X.eraseIdx jd)).length) kc26) (((X.eraseIdx jd)).length) (((X.eraseIdx jd)).map (Value.int .i64)), pt b5 #[.slice ba X.length bc] 22, pt b3 #[.int .i64 o.k, .int .i64 o.i, .int .i64 o.f, .int .i64 o.t] 26, pt b1 #[.pointer (some ⟨bs, 0, none⟩)] 55, pt bs #[v0, .slice ((some ⟨g27, 0, none⟩)) (((X.eraseIdx jd)).length) kc26, v2, v3] 58, K] _ := hM
    refine D.done ?_
    replace hA : St 48 [(2, _), (6, _)] a := hA.sub ((.cons rfl (.cons rfl .nil)))
    refine Ends.inBlock (Ends.seq (Ends.region ?_))
    refine S.val hA (R.to (v := .func (.func 48) #[] #[.pointer (some ⟨b5, 0, none⟩), .pointer (some ⟨b1, 0, none⟩)]) (R.makeFunc rfl) rfl) rfl ?_; clear hA a; intro a hA
    refine S.val hA (R.assign rfl) rfl ?_; clear hA a; intro a hA
    refine S.val hA (R.assign rfl) rfl ?_; clear hA a; intro a hA
    refine S.done ?_
    refine Ends.ret2 Tryd.func33 Tryd.results33 hA rfl rfl ?_
    replace hM := hM.ownRd
    replace hM := hM.front (k := 5) rfl
    replace hM := hM.front (k := 4) rfl
    replace hM := hM.front (k := 3) rfl
    replace hM := hM.front (k := 3) rfl
    replace hM := hM.front (k := 5) rfl
    replace hM := hM.firstN 5
    exact .inl ⟨_, (some ⟨g27, 0, none⟩), kc26, b5, b1, by unfold doP; rw [if_neg hc7, if_neg hc22, if_pos hmx, hje], rfl, hM⟩
theorem do21s (o : HOp) (bs : Nat) (ba : Option Addr) (X : List Int) (bc : Nat) (v0 v2 v3 : Value) (K : Ck) (hK : ∀ w, K.holds w → IntSl w (.slice ba X.length bc) X) (hX : X.length ≤ 900) (w : World) (hM0 : Mem w (feet [pt bs #[v0, .slice ba X.length bc, v2, v3] 58, K]) [pt bs #[v0, .slice ba X.length bc, v2, v3] 58, K] w) {Y : List Int} (hY : doP o X = some Y) : Calls Tryd.prog 33 #[.pointer (some ⟨bs, 0, none⟩), .agg #[.int .i64 o.k, .int .i64 o.i, .int .i64 o.f, .int .i64 o.t]] w fun e w' => (∃ a c q p, e = .returned (.tuple #[.func (.func 48) #[] #[.pointer (some ⟨q, 0, none⟩), .pointer (some ⟨p, 0, none⟩)], .bool true]) ∧
      Mem w (feet [pt bs #[v0, .slice ba X.length bc, v2, v3] 58, K]) [pt bs #[v0, .slice a Y.length c, v2, v3] 58, rd a c Y, pt q #[.slice ba X.length bc] 22, pt p #[.pointer (some ⟨bs, 0, none⟩)] 55, K] w') := by
  refine (do21 o bs ba X bc v0 v2 v3 K hK hX w hM0).mono fun e w' h => ?_
  rcases h with ⟨Y', a, c, q, p, h1, h2, h3⟩ | ⟨h1, -, -⟩
  · obtain rfl : Y' = Y := by rw [hY] at h1; exact (Option.some.inj h1).symm
    exact ⟨a, c, q, p, h2, h3⟩
  · rw [hY] at h1; cases h1
theorem do21n (o : HOp) (bs : Nat) (ba : Option Addr) (X : List Int) (bc : Nat) (v0 v2 v3 : Value) (K : Ck) (hK : ∀ w, K.holds w → IntSl w (.slice ba X.length bc) X) (hX : X.length ≤ 900) (w : World) (hM0 : Mem w (feet [pt bs #[v0, .slice ba X.length bc, v2, v3] 58, K]) [pt bs #[v0, .slice ba X.length bc, v2, v3] 58, K] w) (hY : doP o X = none) : Calls Tryd.prog 33 #[.pointer (some ⟨bs, 0, none⟩), .agg #[.int .i64 o.k, .int .i64 o.i, .int .i64 o.f, .int .i64 o.t]] w fun e w' => e = .returned (.tuple #[.nilFunc, .bool false]) ∧ Mem w (feet [pt bs #[v0, .slice ba X.length bc, v2, v3] 58, K]) [pt bs #[v0, .slice ba X.length bc, v2, v3] 58, K] w' := by
  refine (do21 o bs ba X bc v0 v2 v3 K hK hX w hM0).mono fun e w' h => ?_
  rcases h with ⟨Y', a, c, q, p, h1, h2, h3⟩ | ⟨-, h2, h3⟩
  · rw [hY] at h1; cases h1
  · exact ⟨h2, h3⟩
end Go.Proofs.YtjjbognomeplbaaDoor
namespace Go.Proofs.YtjjbognomeplbaaDoor
open Go.RowKit
set_option maxRecDepth 100000 in
set_option maxHeartbeats 400000 in
theorem may21 (ops : List HOp) (oa : Option Addr) (oc : Nat) (f : Nat → Bool) (m0 : Nat) (hm0 : m0 < ops.length) (hf : ∀ b, f b = true → b < ops.length) (hol : ops.length ≤ 12) (bs : Nat) (v1 v2 v3 : Value) (K : Ck) (hK : ∀ w, K.holds w → RowSl w (.slice oa ops.length oc) 4 ops.length (hopv ops)) (w : World) (htab : Lib.TabIs Tryd.prog w "math/bits.deBruijn64tab" .u8 debT) (hG : ¬ (feet [pt bs #[.slice oa ops.length oc, v1, v2, v3] 58, K]) 0) (hM0 : Mem w (feet [pt bs #[.slice oa ops.length oc, v1, v2, v3] 58, K]) [pt bs #[.slice oa ops.length oc, v1, v2, v3] 58, K] w) :
  Calls Tryd.prog 32 #[.pointer (some ⟨bs, 0, none⟩), .agg #[.int .u64 (loW f), .int .u64 (hiW f)], .int .i64 ((m0 : Int))] w fun e w' => e = .returned (.bool (mayP ops f m0)) ∧ Mem w (feet [pt bs #[.slice oa ops.length oc, v1, v2, v3] 58, K]) [pt bs #[.slice oa ops.length oc, v1, v2, v3] 58, K] w' := by
 have hbs := Below.refl (B := w.heap.size) w
 have hM := hM0
 refine Calls.of_endsW (vs := [.pointer (some ⟨bs, 0, none⟩), .agg #[.int .u64 (loW f), .int .u64 (hiW f)], .int .i64 ((m0 : Int))]) 9 Tryd.func32 rfl Tryd.ntmps32 rfl ?_
 intro a hA
 replace hA : St 30 [(0, _), (1, _), (2, _)] a := hA
 refine EndsW.seq ?_
 refine EndsW.region ?_
 refine S.box hA hM rfl rfl ?_; clear hA hM a; intro b1 w1 hb2 hM a hA
 replace hM : Mem _ _ [pt b1 #[.pointer (some ⟨bs, 0, none⟩)] 55, pt bs #[.slice oa ops.length oc, v1, v2, v3] 58, K] _ := hM
 refine S.box hA hM rfl rfl ?_; clear hA hM a; intro b3 w2 hb4 hM a hA
 replace hM : Mem _ _ [pt b3 #[.int .u64 (loW f), .int .u64 (hiW f)] 61, pt b1 #[.pointer (some ⟨bs, 0, none⟩)] 55, pt bs #[.slice oa ops.length oc, v1, v2, v3] 58, K] _ := hM
 refine S.box hA hM rfl rfl ?_; clear hA hM a; intro b5 w3 hb6 hM a hA
 replace hM : Mem _ _ [pt b5 #[.int .i64 ((m0 : Int))] 3, pt b3 #[.int .u64 (loW f), .int .u64 (hiW f)] 61, pt b1 #[.pointer (some ⟨bs, 0, none⟩)] 55, pt bs #[.slice oa ops.length oc, v1, v2, v3] 58, K] _ := hM
 refine S.alloc hA hM info4 rfl rfl ?_; clear hA hM a; intro b7 w4 hb8 hM a hA
 replace hM : Mem _ _ [pt b7 #[.bool false] 4, pt b5 #[.int .i64 ((m0 : Int))] 3, pt b3 #[.int .u64 (loW f), .int .u64 (hiW f)] 61, pt b1 #[.pointer (some ⟨bs, 0, none⟩)] 55, pt bs #[.slice oa ops.length oc, v1, v2, v3] 58, K] _ := hM
 refine S.doneW ?_
 replace hA : St 30 [(3, _), (4, _), (5, _), (6, _)] a := hA.sub ((.cons rfl (.cons rfl (.cons rfl (.cons rfl .nil)))))
 refine EndsW.seq ?_
 refine EndsW.seq ?_
 refine EndsW.region ?_
 refine S.val hA (R.loadA sz61 rfl (hM.range (k := 2) rfl) rfl) rfl ?_; clear hA a; intro a hA
 refine S.val hA (R.load sz3 rfl (hM.cell (k := 1) rfl rfl)) rfl ?_; clear hA a; intro a hA
 refine S.call hA (R.callF Tryd.func34 rfl rfl rfl) rfl (wo02 f m0 (by omega) _) ?_; clear hA a
 rintro e w5 ⟨rfl, hb⟩
 replace hM := hM.callB hb; clear hb
 refine ⟨.agg #[.int .u64 (loW (woF f m0)), .int .u64 (hiW (woF f m0))], rfl, fun a hA => ?_⟩
 refine S.call hA (R.callF Tryd.func31 rfl rfl rfl) rfl (all02 ((woF f m0)) _) ?_; clear hA a
 rintro e w6 ⟨bx9, rfl, hn⟩
 replace hM : Mem _ _ [pt bx9 #[.int .u64 (loW (woF f m0)), .int .u64 (hiW (woF f m0))] 61, pt b7 #[.bool false] 4, pt b5 #[.int .i64 ((m0 : Int))] 3, pt b3 #[.int .u64 (loW f), .int .u64 (hiW f)] 61, pt b1 #[.pointer (some ⟨bs, 0, none⟩)] 55, pt bs #[.slice oa ops.length oc, v1, v2, v3] 58, K] _ := hM.call hn; clear hn
 refine ⟨.func (.func 42) #[] #[.pointer (some ⟨bx9, 0, none⟩)], rfl, fun a hA => ?_⟩
 refine S.doneW ?_
 replace hA : St 30 [(3, _), (5, _), (6, _), (11, _)] a := hA.sub ((.cons rfl (.cons rfl (.cons rfl (.cons rfl .nil)))))
 refine EndsW.block ?_
 replace hM := hM.front (k := 1) rfl
 replace hM := hM.front (k := 2) rfl
 replace hM := hM.front (k := 4) rfl
 replace hM := hM.front (k := 6) rfl
 replace hM := hM.front (k := 6) rfl
 have hqx := hM.block (k := 5) rfl
 have htx := (tab_at htab (g := 0) (by kernel_rfl) (hM.old _ (tab_lt htab (by kernel_rfl)) hG))
 have hGx := hM.notFoot (tab_lt htab (by kernel_rfl)) hG
 have hGl : ¬ feet [pt bs #[.slice oa ops.length oc, v1, v2, v3] 58, K, pt b1 #[.pointer (some ⟨bs, 0, none⟩)] 55, pt b5 #[.int .i64 ((m0 : Int))] 3, pt b7 #[.bool false] 4] 0 := fun ⟨c9, h9, hf9⟩ => hGx ⟨c9, List.mem_append_left [pt bx9 #[.int .u64 (loW (woF f m0)), .int .u64 (hiW (woF f m0))] 61, pt b3 #[.int .u64 (loW f), .int .u64 (hiW f)] 61] h9, hf9⟩
 replace hM : Mem _ _ ([pt bs #[.slice oa ops.length oc, v1, v2, v3] 58, K, pt b1 #[.pointer (some ⟨bs, 0, none⟩)] 55, pt b5 #[.int .i64 ((m0 : Int))] 3, pt b7 #[.bool false] 4] ++ [pt bx9 #[.int .u64 (loW (woF f m0)), .int .u64 (hiW (woF f m0))] 61, pt b3 #[.int .u64 (loW f), .int .u64 (hiW f)] 61]) _ := hM
 refine EndsW.rangeG (σ := Unit) (enc := fun x : Mb ((woF f m0)) => .int .i64 x.1) (NN := 128) (Kb := fun q => q = bx9 ∨ q = 0) (L := [pt bs #[.slice oa ops.length oc, v1, v2, v3] 58, K, pt b1 #[.pointer (some ⟨bs, 0, none⟩)] 55, pt b5 #[.int .i64 ((m0 : Int))] 3, pt b7 #[.bool false] 4]) (M := [pt bx9 #[.int .u64 (loW (woF f m0)), .int .u64 (hiW (woF f m0))] 61, pt b3 #[.int .u64 (loW f), .int .u64 (hiW f)] 61]) (fun u9 => [pt bs #[.slice oa ops.length oc, v1, v2, v3] 58, K, pt b1 #[.pointer (some ⟨bs, 0, none⟩)] 55, pt b5 #[.int .i64 ((m0 : Int))] 3, pt b7 #[.bool false] 4]) (fun pre _ => ∀ x ∈ vs pre, tlt ops m0 x = false) (fun c pre _ => c = .ret ∧ ∃ x ∈ vs pre, tlt ops m0 x = true) () hA hM (by decide) rfl rfl rfl (enters_fn Tryd.func42 (by kernel_rfl) rfl) (seq02M ((woF f m0)) bx9 _ (.inl rfl) (.inr rfl) _ hqx htx) ?_ ?_ (fun x hx => by cases hx) rfl ?_ ?_ ?_
 ·
  rintro q (e9 | e9)
  · rw [e9]; exact ⟨(Array.getElem?_eq_some_iff.1 hqx).1, Mem.apartL (L := [pt bs #[.slice oa ops.length oc, v1, v2, v3] 58, K, pt b1 #[.pointer (some ⟨bs, 0, none⟩)] 55, pt b5 #[.int .i64 ((m0 : Int))] 3, pt b7 #[.bool false] 4]) (M := [pt bx9 #[.int .u64 (loW (woF f m0)), .int .u64 (hiW (woF f m0))] 61, pt b3 #[.int .u64 (loW f), .int .u64 (hiW f)] 61]) hM (.head _) rfl⟩
  · rw [e9]; exact ⟨tab_lt htx (by kernel_rfl), hGl⟩
 ·
  rintro u9 c9 hc9
  rcases List.mem_cons.1 hc9 with rfl | hc9
  · exact pt_cellsB _ _ _ _
  rcases List.mem_cons.1 hc9 with rfl | hc9
  · exact fun w9 b9 _ hb9 => .inl (hM.inb _ (.tail _ (.head _)) b9 hb9).1
  rcases List.mem_cons.1 hc9 with rfl | hc9
  · exact pt_cellsB _ _ _ _
  rcases List.mem_cons.1 hc9 with rfl | hc9
  · exact pt_cellsB _ _ _ _
  rcases List.mem_cons.1 hc9 with rfl | hc9
  · exact pt_cellsB _ _ _ _
  cases hc9
 ·
  clear hA hM a hqx
  rintro l9 pre ⟨_, m, rfl, ml, mf⟩ u9 w7 hs9 hlen hM0 a hA
  have htab := tab_at htx (g := 0) (by kernel_rfl) (hM0.old _ (tab_lt htx (by kernel_rfl)) hGl)
  have hG := hM0.notFoot (tab_lt htx (by kernel_rfl)) hGl
  have hM := hM0.here
  clear htx hGl hGx hM0
  replace hM : Mem _ (feet [pt bs #[.slice oa ops.length oc, v1, v2, v3] 58, K, pt b1 #[.pointer (some ⟨bs, 0, none⟩)] 55, pt b5 #[.int .i64 ((m0 : Int))] 3, pt b7 #[.bool false] 4]) [pt bs #[.slice oa ops.length oc, v1, v2, v3] 58, K, pt b1 #[.pointer (some ⟨bs, 0, none⟩)] 55, pt b5 #[.int .i64 ((m0 : Int))] 3, pt b7 #[.bool false] 4] _ := hM
  replace hA : St 30 [(3, .pointer (some ⟨b1, 0, none⟩)), (5, .pointer (some ⟨b5, 0, none⟩)), (6, .pointer (some ⟨b7, 0, none⟩)), (7, .int .i64 ((m : Int))), (12, .int .i64 ((m : Int)))] a := hA.sub ((.cons rfl (.cons rfl (.cons rfl (.cons rfl (.cons rfl .nil))))))
  have mlt : m < ops.length := hf m (wo_mem mf)
  refine EndsW.block ?_
  refine EndsW.seq ?_
  refine EndsW.drawn (Mem w7 (feet [pt bs #[.slice oa ops.length oc, v1, v2, v3] 58, K, pt b1 #[.pointer (some ⟨bs, 0, none⟩)] 55, pt b5 #[.int .i64 ((m0 : Int))] 3, pt b7 #[.bool false] 4]) [pt bs #[.slice oa ops.length oc, v1, v2, v3] 58, K, pt b1 #[.pointer (some ⟨bs, 0, none⟩)] 55, pt b5 #[.int .i64 ((m0 : Int))] 3, pt b7 #[.bool false] 4]) (.cons (0, true) (.cons (1, true) (.cons (2, true) (.cons (3, true) (.cons (4, true) (.cons (5, true) (.cons (6, true) (.cons (7, true) (.cons (8, true) (.cons (9, true) (.cons (10, true) (.cons (11, true) (.cons (12, true) (.cons (13, true) (.cons (14, true) (.cons (15, true) (.cons (16, true) .nil))))))))))))))))) 17 mixed (by kernel_rfl) (by kernel_rfl) (by kernel_rfl) hM.drew ?_
  replace hM := hM.drew
  refine D.val hA rfl (by kernel_rfl) (fun _ hM => R.load sz55 rfl (hM.cell (k := 2) rfl rfl)) rfl ?_; clear hA a; intro a hA
  refine D.valF hA rfl (fun _ => R.nilCheck rfl) rfl ?_; clear hA a; intro a hA
  refine D.valF hA rfl (fun _ => R.fieldAddr (q := 0) fi58_0 rfl rfl rfl) rfl ?_; clear hA a; intro a hA
  refine D.val hA rfl (by kernel_rfl) (fun _ hM => R.load sz23 rfl (hM.cell (k := 0) rfl rfl)) rfl ?_; clear hA a; intro a hA
  refine D.valF hA rfl (fun _ => R.move rfl) rfl ?_; clear hA a; intro a hA
  refine D.valF hA rfl (fun _ => R.idxRow ((hK _ (hM.mem (k := 1) rfl))) (j := m) sl23 rfl rfl (by omega) (rfl)) rfl ?_; clear hA a; intro a hA
  refine D.valF hA rfl (fun _ => R.fldRow ((hK _ (hM.mem (k := 1) rfl))) (by omega) fi26_3 rfl rfl) rfl ?_; clear hA a; intro a hA
  refine D.val hA rfl (by kernel_rfl) (fun _ hM => R.loadHopT ((hK _ (hM.mem (k := 1) rfl))) (by omega) sz3 rfl) rfl ?_; clear hA a; intro a hA
  refine D.val hA rfl (by kernel_rfl) (fun _ hM => R.load sz55 rfl (hM.cell (k := 2) rfl rfl)) rfl ?_; clear hA a; intro a hA
  refine D.valF hA rfl (fun _ => R.nilCheck rfl) rfl ?_; clear hA a; intro a hA
  refine D.valF hA rfl (fun _ => R.fieldAddr (q := 0) fi58_0 rfl rfl rfl) rfl ?_; clear hA a; intro a hA
  refine D.val hA rfl (by kernel_rfl) (fun _ hM => R.load sz23 rfl (hM.cell (k := 0) rfl rfl)) rfl ?_; clear hA a; intro a hA
  refine D.val hA rfl (by kernel_rfl) (fun _ hM => R.load sz3 rfl (hM.cell (k := 3) rfl rfl)) rfl ?_; clear hA a; intro a hA
  refine D.valF hA rfl (fun _ => R.idxRow ((hK _ (hM.mem (k := 1) rfl))) (j := m0) sl23 rfl rfl (by omega) (rfl)) rfl ?_; clear hA a; intro a hA
  refine D.valF hA rfl (fun _ => R.fldRow ((hK _ (hM.mem (k := 1) rfl))) (by omega) fi26_2 rfl rfl) rfl ?_; clear hA a; intro a hA
  refine D.val hA rfl (by kernel_rfl) (fun _ hM => R.loadHopF ((hK _ (hM.mem (k := 1) rfl))) (by omega) sz3 rfl) rfl ?_; clear hA a; intro a hA
  refine D.valF hA rfl (fun _ => R.lss rfl rfl) rfl ?_; clear hA a; intro a hA
  refine D.doneW ?_
  replace hA : St 30 [(6, _), (29, _)] a := hA.sub ((.cons rfl (.cons rfl .nil)))
  refine EndsW.ite hA rfl (fun hc10 => ?_) (fun hc10 => ?_)
  ·
   refine EndsW.seq ?_
   refine EndsW.region ?_
   refine S.store (k := 4) hA hM sz4 rfl rfl rfl rfl rfl ?_; clear hM
   intro w8 hM
   replace hM : Mem _ _ [pt bs #[.slice oa ops.length oc, v1, v2, v3] 58, K, pt b1 #[.pointer (some ⟨bs, 0, none⟩)] 55, pt b5 #[.int .i64 ((m0 : Int))] 3, pt b7 #[.bool false] 4] _ := hM
   refine S.doneW ?_
   replace hA : St 30 [(6, _)] a := hA.sub ((.cons rfl .nil))
   refine EndsW.retQ ?_
   replace hM := hM.front (k := 4) rfl
   replace hM := hM.front (k := 4) rfl
   replace hM := hM.front (k := 4) rfl
   replace hM := hM.front (k := 4) rfl
   replace hM := hM.front (k := 4) rfl
   exact ⟨(), ⟨rfl, (m : Int), by rw [vs_app]; exact List.mem_append_right _ (.head _), decide_eq_true hc10⟩, hM⟩
  ·
   refine EndsW.skip ?_
   refine EndsW.inBlock ?_
   refine EndsW.endQ ?_
   replace hM := hM.front (k := 4) rfl
   replace hM := hM.front (k := 4) rfl
   replace hM := hM.front (k := 4) rfl
   replace hM := hM.front (k := 4) rfl
   replace hM := hM.front (k := 4) rfl
   exact ⟨(), fun x hx => by rw [vs_app] at hx; rcases List.mem_append.1 hx with h9 | h9; exact hs9 x h9; rcases List.mem_singleton.1 h9 with rfl; exact decide_eq_false hc10, hM⟩
 ·
  clear hM hqx htx hGl hGx
  rintro D11 xs u9 w9 hS9 hs9 hM
  replace hM : Mem _ _ [dfr D11, pt bs #[.slice oa ops.length oc, v1, v2, v3] 58, K, pt b1 #[.pointer (some ⟨bs, 0, none⟩)] 55, pt b5 #[.int .i64 ((m0 : Int))] 3, pt b7 #[.bool false] 4, pt bx9 #[.int .u64 (loW (woF f m0)), .int .u64 (hiW (woF f m0))] 61, pt b3 #[.int .u64 (loW f), .int .u64 (hiW f)] 61] _ := hM
  have hmp := may_yes (ops := ops) (f := f) (m := m0) (by rw [← (show vs xs = eL (woF f m0) 0 from hS9)]; exact hs9)
  refine EndsW.inBlock ?_
  refine EndsW.seq ?_
  refine EndsW.region ?_
  refine S.store (k := 5) hA hM sz4 rfl rfl rfl rfl rfl ?_; clear hM
  intro w10 hM
  replace hM : Mem _ _ [dfr D11, pt bs #[.slice oa ops.length oc, v1, v2, v3] 58, K, pt b1 #[.pointer (some ⟨bs, 0, none⟩)] 55, pt b5 #[.int .i64 ((m0 : Int))] 3, pt b7 #[.bool true] 4, pt bx9 #[.int .u64 (loW (woF f m0)), .int .u64 (hiW (woF f m0))] 61, pt b3 #[.int .u64 (loW f), .int .u64 (hiW f)] 61] _ := hM
  refine S.doneW ?_
  replace hA : St 30 [(6, _)] a := hA.sub ((.cons rfl .nil))
  refine EndsW.retQ ?_
  refine leaveF hA.defers hM (fun w11 hM => ⟨(hA.cellRes (kk := 4) hM Tryd.results32 rfl rfl sz4), ?_⟩)
  replace hM : Mem _ _ [pt bs #[.slice oa ops.length oc, v1, v2, v3] 58, K, pt b1 #[.pointer (some ⟨bs, 0, none⟩)] 55, pt b5 #[.int .i64 ((m0 : Int))] 3, pt b7 #[.bool true] 4, pt bx9 #[.int .u64 (loW (woF f m0)), .int .u64 (hiW (woF f m0))] 61, pt b3 #[.int .u64 (loW f), .int .u64 (hiW f)] 61] _ := hM
  replace hM := hM.front (k := 1) rfl
  replace hM := hM.front (k := 1) rfl
  replace hM := hM.firstN 2
  exact ⟨by rw [hmp], hM⟩
 ·
  clear hM hqx htx hGl hGx
  rintro D12 c9 pre u9 w12 hS9 hx9 hM
  replace hM : Mem _ _ [dfr D12, pt bs #[.slice oa ops.length oc, v1, v2, v3] 58, K, pt b1 #[.pointer (some ⟨bs, 0, none⟩)] 55, pt b5 #[.int .i64 ((m0 : Int))] 3, pt b7 #[.bool false] 4, pt bx9 #[.int .u64 (loW (woF f m0)), .int .u64 (hiW (woF f m0))] 61, pt b3 #[.int .u64 (loW f), .int .u64 (hiW f)] 61] _ := hM
  obtain ⟨hce, hx9⟩ := hx9
  subst hce
  have hmp := may_not (ops := ops) (f := f) (m := m0) hS9 hx9
  refine EndsW.retQ ?_
  refine leaveF hA.defers hM (fun w13 hM => ⟨(hA.cellRes (kk := 4) hM Tryd.results32 rfl rfl sz4), ?_⟩)
  replace hM : Mem _ _ [pt bs #[.slice oa ops.length oc, v1, v2, v3] 58, K, pt b1 #[.pointer (some ⟨bs, 0, none⟩)] 55, pt b5 #[.int .i64 ((m0 : Int))] 3, pt b7 #[.bool false] 4, pt bx9 #[.int .u64 (loW (woF f m0)), .int .u64 (hiW (woF f m0))] 61, pt b3 #[.int .u64 (loW f), .int .u64 (hiW f)] 61] _ := hM
  replace hM := hM.front (k := 1) rfl
  replace hM := hM.front (k := 1) rfl
  replace hM := hM.firstN 2
  exact ⟨by rw [hmp], hM⟩
def FindAt (ops : List HOp) (oa : Option Addr) (oc bs mb : Nat) (n : Nat) : Prop :=
  ∀ (f : Nat → Bool) (X : List Int) (d : Ded) (U : List Int) (ba : Option Addr) (bc : Nat) (ua : Option Addr) (uc : Nat) (K : Ck) (o : Option (List Int)) (d' : Ded) (hfe : fnd ops n f X d = (o, d')) (hf : ∀ b, f b = true → b < ops.length) (hn : (eL f 0).length ≤ n) (hX : X.length + n ≤ 500) (hU : U.length + n ≤ 200) (hK : ∀ w, K.holds w → IntSl w (.slice ba X.length bc) X ∧ RowSl w (.slice oa ops.length oc) 4 ops.length (hopv ops)) (w : World) (htab : Lib.TabIs Tryd.prog w "math/bits.deBruijn64tab" .u8 debT) (hG : ¬ (feet [pt bs #[.slice oa ops.length oc, .slice ba X.length bc, .slice ua U.length uc, .map (some mb)] 58, own 3 1 (.slice ua U.length uc) U.length (U.map (Value.int .i64)), mpc mb d, K]) 0) (hM0 : Mem w (feet [pt bs #[.slice oa ops.length oc, .slice ba X.length bc, .slice ua U.length uc, .map (some mb)] 58, own 3 1 (.slice ua U.length uc) U.length (U.map (Value.int .i64)), mpc mb d, K]) [pt bs #[.slice oa ops.length oc, .slice ba X.length bc, .slice ua U.length uc, .map (some mb)] 58, own 3 1 (.slice ua U.length uc) U.length (U.map (Value.int .i64)), mpc mb d, K] w),
    Calls Tryd.prog 21 #[.pointer (some ⟨bs, 0, none⟩), .agg #[.int .u64 (loW f), .int .u64 (hiW f)]] w (fun e w' => ∃ ba' bn' bc' ua' uc', e = .returned (.bool o.isSome) ∧ (o = none → ba = ba' ∧ X.length = bn' ∧ bc = bc') ∧ Mem w (feet [pt bs #[.slice oa ops.length oc, .slice ba X.length bc, .slice ua U.length uc, .map (some mb)] 58, own 3 1 (.slice ua U.length uc) U.length (U.map (Value.int .i64)), mpc mb d, K]) [pt bs #[.slice oa ops.length oc, .slice ba' bn' bc', .slice ua' (outO U o).length uc', .map (some mb)] 58, own 3 1 (.slice ua' (outO U o).length uc') (outO U o).length ((outO U o).map (Value.int .i64)), mpc mb d', K] w')
theorem app_take {l m : List Int} (h : l = m.take l.length) : l ++ m.drop l.length = m := by
  have h1 := List.take_append_drop l.length m
  rw [← h] at h1; exact h1
set_option maxRecDepth 100000 in
set_option maxHeartbeats 1000000 in
theorem find_step (ops : List HOp) (hol : ops.length ≤ 12) (oa : Option Addr) (oc bs mb : Nat) (n : Nat) (ih : ∀ k, n = k + 1 → FindAt ops oa oc bs mb k) (f : Nat → Bool) (X : List Int) (d : Ded) (U : List Int) (ba : Option Addr) (bc : Nat) (ua : Option Addr) (uc : Nat) (K : Ck) (o : Option (List Int)) (d' : Ded) (hfe : fnd ops n f X d = (o, d')) (hf : ∀ b, f b = true → b < ops.length) (hn : (eL f 0).length ≤ n) (hX : X.length + n ≤ 500) (hU : U.length + n ≤ 200) (hK : ∀ w, K.holds w → IntSl w (.slice ba X.length bc) X ∧ RowSl w (.slice oa ops.length oc) 4 ops.length (hopv ops)) (w : World) (htab : Lib.TabIs Tryd.prog w "math/bits.deBruijn64tab" .u8 debT) (hG : ¬ (feet [pt bs #[.slice oa ops.length oc, .slice ba X.length bc, .slice ua U.length uc, .map (some mb)] 58, own 3 1 (.slice ua U.length uc) U.length (U.map (Value.int .i64)), mpc mb d, K]) 0) (hM0 : Mem w (feet [pt bs #[.slice oa ops.length oc, .slice ba X.length bc, .slice ua U.length uc, .map (some mb)] 58, own 3 1 (.slice ua U.length uc) U.length (U.map (Value.int .i64)), mpc mb d, K]) [pt bs #[.slice oa ops.length oc, .slice ba X.length bc, .slice ua U.length uc, .map (some mb)] 58, own 3 1 (.slice ua U.length uc) U.length (U.map (Value.int .i64)), mpc mb d, K] w) :
  Calls Tryd.prog 21 #[.pointer (some ⟨bs, 0, none⟩), .agg #[.int .u64 (loW f), .int .u64 (hiW f)]] w fun e w' => ∃ ba' bn' bc' ua' uc', e = .returned (.bool o.isSome) ∧ (o = none → ba = ba' ∧ X.length = bn' ∧ bc = bc') ∧ Mem w (feet [pt bs #[.slice oa ops.length oc, .slice ba X.length bc, .slice ua U.length uc, .map (some mb)] 58, own 3 1 (.slice ua U.length uc) U.length (U.map (Value.int .i64)), mpc mb d, K]) [pt bs #[.slice oa ops.length oc, .slice ba' bn' bc', .slice ua' (outO U o).length uc', .map (some mb)] 58, own 3 1 (.slice ua' (outO U o).length uc') (outO U o).length ((outO U o).map (Value.int .i64)), mpc mb d', K] w' := by
 have hbs := Below.refl (B := w.heap.size) w
 have hM := hM0
 refine Calls.of_endsW (vs := [.pointer (some ⟨bs, 0, none⟩), .agg #[.int .u64 (loW f), .int .u64 (hiW f)]]) 9 Tryd.func21 rfl Tryd.ntmps21 rfl ?_
 intro a hA
 replace hA : St 75 [(0, _), (1, _)] a := hA
 refine EndsW.seq ?_
 refine EndsW.region ?_
 refine S.box hA hM rfl rfl ?_; clear hA hM a; intro b1 w1 hb2 hM a hA
 replace hM : Mem _ _ [pt b1 #[.pointer (some ⟨bs, 0, none⟩)] 55, pt bs #[.slice oa ops.length oc, .slice ba X.length bc, .slice ua U.length uc, .map (some mb)] 58, own 3 1 (.slice ua U.length uc) U.length (U.map (Value.int .i64)), mpc mb d, K] _ := hM
 refine S.box hA hM rfl rfl ?_; clear hA hM a; intro b3 w2 hb4 hM a hA
 replace hM : Mem _ _ [pt b3 #[.int .u64 (loW f), .int .u64 (hiW f)] 61, pt b1 #[.pointer (some ⟨bs, 0, none⟩)] 55, pt bs #[.slice oa ops.length oc, .slice ba X.length bc, .slice ua U.length uc, .map (some mb)] 58, own 3 1 (.slice ua U.length uc) U.length (U.map (Value.int .i64)), mpc mb d, K] _ := hM
 refine S.alloc hA hM info4 rfl rfl ?_; clear hA hM a; intro b5 w3 hb6 hM a hA
 replace hM : Mem _ _ [pt b5 #[.bool false] 4, pt b3 #[.int .u64 (loW f), .int .u64 (hiW f)] 61, pt b1 #[.pointer (some ⟨bs, 0, none⟩)] 55, pt bs #[.slice oa ops.length oc, .slice ba X.length bc, .slice ua U.length uc, .map (some mb)] 58, own 3 1 (.slice ua U.length uc) U.length (U.map (Value.int .i64)), mpc mb d, K] _ := hM
 refine S.doneW ?_
 refine EndsW.seq ?_
 refine EndsW.seq ?_
 refine EndsW.region ?_
 refine S.val hA (R.loadA sz61 rfl (hM.range (k := 1) rfl) rfl) rfl ?_; clear hA a; intro a hA
 refine S.val hA (R.build (cells := #[.int .u64 0, .int .u64 0]) rfl (by kernel_rfl)) rfl ?_; clear hA a; intro a hA
 refine S.val hA (R.eqlS (b := decide (loW f = 0 ∧ hiW f = 0)) Tryd.eqGuardType61 (fun w => eq_set _ _ _ _ w) rfl rfl) rfl ?_; clear hA a; intro a hA
 refine S.doneW ?_
 replace hA : St 75 [(2, _), (3, _), (4, _), (10, _)] a := hA.sub ((.cons rfl (.cons rfl (.cons rfl (.cons rfl .nil)))))
 refine EndsW.ite hA rfl (fun hc7 => ?_) (fun hc7 => ?_)
 ·
  have hz9 := hc7
  refine EndsW.seq ?_
  refine EndsW.region ?_
  refine S.store (k := 0) hA hM sz4 rfl rfl rfl rfl rfl ?_; clear hM
  intro w4 hM
  replace hM : Mem _ _ [pt b5 #[.bool true] 4, pt b3 #[.int .u64 (loW f), .int .u64 (hiW f)] 61, pt b1 #[.pointer (some ⟨bs, 0, none⟩)] 55, pt bs #[.slice oa ops.length oc, .slice ba X.length bc, .slice ua U.length uc, .map (some mb)] 58, own 3 1 (.slice ua U.length uc) U.length (U.map (Value.int .i64)), mpc mb d, K] _ := hM
  refine S.doneW ?_
  refine EndsW.retQ ?_
  refine leave0 hA.defers (hA.cellRes (kk := 0) hM Tryd.results21 rfl rfl sz4) ?_
  replace hM := hM.front (k := 6) rfl
  replace hM := hM.front (k := 6) rfl
  replace hM := hM.front (k := 6) rfl
  replace hM := hM.front (k := 6) rfl
  replace hM := hM.firstN 4
  rw [fnd_zero (Prod.ext hz9.1 hz9.2)] at hfe
  cases hfe
  exact ⟨ba, X.length, bc, ua, uc, rfl, fun h => (by cases h), (by rw [show outO U (some []) = U from List.append_nil U]; exact hM)⟩
 ·
  have hz9 := hc7
  obtain ⟨n', hn'⟩ : ∃ n', n = n' + 1 := ⟨n - 1, by have h9 : (eL f 0).length ≠ 0 := fun e => hz9 (by have := key_nil.2 (List.length_eq_zero_iff.1 e); exact ⟨congrArg Prod.fst this, congrArg Prod.snd this⟩); omega⟩
  subst hn'
  rw [fnd, if_neg (fun e => hz9 ⟨congrArg Prod.fst e, congrArg Prod.snd e⟩)] at hfe
  refine EndsW.skip ?_
  refine EndsW.seq ?_
  refine EndsW.seq ?_
  refine EndsW.drawn (Mem w (feet [pt bs #[.slice oa ops.length oc, .slice ba X.length bc, .slice ua U.length uc, .map (some mb)] 58, own 3 1 (.slice ua U.length uc) U.length (U.map (Value.int .i64)), mpc mb d, K]) [pt b5 #[.bool false] 4, pt b3 #[.int .u64 (loW f), .int .u64 (hiW f)] 61, pt b1 #[.pointer (some ⟨bs, 0, none⟩)] 55, pt bs #[.slice oa ops.length oc, .slice ba X.length bc, .slice ua U.length uc, .map (some mb)] 58, own 3 1 (.slice ua U.length uc) U.length (U.map (Value.int .i64)), K]) (.cons (0, true) (.cons (1, true) (.cons (2, true) (.cons (3, true) (.cons (4, true) (.cons (5, false) .nil)))))) 6 mixed (by kernel_rfl) (by kernel_rfl) (by kernel_rfl) (hM.drop 5).drew ?_
  replace hM := hM.drew
  refine D.val hA rfl (by kernel_rfl) (fun _ hM => R.load sz55 rfl (hM.cell (k := 2) rfl rfl)) rfl ?_; clear hA a; intro a hA
  refine D.valF hA rfl (fun _ => R.nilCheck rfl) rfl ?_; clear hA a; intro a hA
  refine D.valF hA rfl (fun _ => R.fieldAddr (q := 3) fi58_3 rfl rfl rfl) rfl ?_; clear hA a; intro a hA
  refine D.val hA rfl (by kernel_rfl) (fun _ hM => R.load sz56 rfl (hM.cell (k := 3) rfl rfl)) rfl ?_; clear hA a; intro a hA
  refine D.val hA rfl (by kernel_rfl) (fun _ hM => R.loadA sz61 rfl (hM.range (k := 1) rfl) rfl) rfl ?_; clear hA a; intro a hA
  refine D.eff hA rfl (R.lookM (p := keyF f) (k := 5) hM rfl rfl rfl) rfl (hM.drop 5) ?_; clear hA a; intro a hA
  refine D.doneW ?_
  replace hA : St 75 [(2, _), (3, _), (4, _), (16, _)] a := hA.sub ((.cons rfl (.cons rfl (.cons rfl (.cons rfl .nil)))))
  refine EndsW.ite hA rfl (fun hc8 => ?_) (fun hc8 => ?_)
  ·
   rw [if_pos hc8] at hfe
   refine EndsW.seq ?_
   refine EndsW.region ?_
   refine S.store (k := 0) hA hM sz4 rfl rfl rfl rfl rfl ?_; clear hM
   intro w5 hM
   replace hM : Mem _ _ [pt b5 #[.bool false] 4, pt b3 #[.int .u64 (loW f), .int .u64 (hiW f)] 61, pt b1 #[.pointer (some ⟨bs, 0, none⟩)] 55, pt bs #[.slice oa ops.length oc, .slice ba X.length bc, .slice ua U.length uc, .map (some mb)] 58, own 3 1 (.slice ua U.length uc) U.length (U.map (Value.int .i64)), mpc mb d, K] _ := hM
   refine S.doneW ?_
   refine EndsW.retQ ?_
   refine leave0 hA.defers (hA.cellRes (kk := 0) hM Tryd.results21 rfl rfl sz4) ?_
   replace hM := hM.front (k := 6) rfl
   replace hM := hM.front (k := 6) rfl
   replace hM := hM.front (k := 6) rfl
   replace hM := hM.front (k := 6) rfl
   replace hM := hM.firstN 4
   cases hfe
   exact ⟨ba, X.length, bc, ua, uc, rfl, fun _ => ⟨rfl, rfl, rfl⟩, hM⟩
  ·
   rw [if_neg hc8] at hfe
   refine EndsW.skip ?_
   refine EndsW.seq ?_
   refine EndsW.seq ?_
   refine EndsW.region ?_
   refine S.val hA (R.loadA sz61 rfl (hM.range (k := 1) rfl) rfl) rfl ?_; clear hA a; intro a hA
   refine S.call hA (R.callF Tryd.func31 rfl rfl rfl) rfl (all02 f _) ?_; clear hA a
   rintro e w6 ⟨bx9, rfl, hn⟩
   replace hM : Mem _ _ [pt bx9 #[.int .u64 (loW f), .int .u64 (hiW f)] 61, pt b5 #[.bool false] 4, pt b3 #[.int .u64 (loW f), .int .u64 (hiW f)] 61, pt b1 #[.pointer (some ⟨bs, 0, none⟩)] 55, pt bs #[.slice oa ops.length oc, .slice ba X.length bc, .slice ua U.length uc, .map (some mb)] 58, own 3 1 (.slice ua U.length uc) U.length (U.map (Value.int .i64)), mpc mb d, K] _ := hM.call hn; clear hn
   refine ⟨.func (.func 42) #[] #[.pointer (some ⟨bx9, 0, none⟩)], rfl, fun a hA => ?_⟩
   refine S.doneW ?_
   refine EndsW.block ?_
   replace hM := hM.front (k := 1) rfl
   replace hM := hM.front (k := 2) rfl
   replace hM := hM.front (k := 3) rfl
   replace hM := hM.front (k := 7) rfl
   replace hM := hM.front (k := 7) rfl
   replace hM := hM.front (k := 7) rfl
   replace hM := hM.front (k := 7) rfl
   have hqx := hM.block (k := 7) rfl
   have htx := (tab_at htab (g := 0) (by kernel_rfl) (hM.old _ (tab_lt htab (by kernel_rfl)) hG))
   have hGx := hM.notFoot (tab_lt htab (by kernel_rfl)) hG
   have hGl : ¬ feet [pt bs #[.slice oa ops.length oc, .slice ba X.length bc, .slice ua U.length uc, .map (some mb)] 58, own 3 1 (.slice ua U.length uc) U.length (U.map (Value.int .i64)), mpc mb d, K, pt b1 #[.pointer (some ⟨bs, 0, none⟩)] 55, pt b3 #[.int .u64 (loW f), .int .u64 (hiW f)] 61, pt b5 #[.bool false] 4] 0 := fun ⟨c9, h9, hf9⟩ => hGx ⟨c9, List.mem_append_left [pt bx9 #[.int .u64 (loW f), .int .u64 (hiW f)] 61] h9, hf9⟩
   replace hM : Mem _ _ ([pt bs #[.slice oa ops.length oc, .slice ba X.length bc, .slice ua U.length uc, .map (some mb)] 58, own 3 1 (.slice ua U.length uc) U.length (U.map (Value.int .i64)), mpc mb d, K, pt b1 #[.pointer (some ⟨bs, 0, none⟩)] 55, pt b3 #[.int .u64 (loW f), .int .u64 (hiW f)] 61, pt b5 #[.bool false] 4] ++ [pt bx9 #[.int .u64 (loW f), .int .u64 (hiW f)] 61]) _ := hM
   refine EndsW.rangeG (σ := Ded × Option Addr × Nat × List Int × Option Addr × Nat × Nat × Bool) (enc := fun x : Mb f => .int .i64 x.1) (NN := 128) (Kb := fun q => q = bx9 ∨ q = 0) (L := [pt bs #[.slice oa ops.length oc, .slice ba X.length bc, .slice ua U.length uc, .map (some mb)] 58, own 3 1 (.slice ua U.length uc) U.length (U.map (Value.int .i64)), mpc mb d, K, pt b1 #[.pointer (some ⟨bs, 0, none⟩)] 55, pt b3 #[.int .u64 (loW f), .int .u64 (hiW f)] 61, pt b5 #[.bool false] 4]) (M := [pt bx9 #[.int .u64 (loW f), .int .u64 (hiW f)] 61]) (fun (d9, ua9, uc9, U9, ba9, bn9, bc9, r9) => [pt bs #[.slice oa ops.length oc, .slice ba9 bn9 bc9, .slice ua9 U9.length uc9, .map (some mb)] 58, own 3 1 (.slice ua9 U9.length uc9) U9.length (U9.map (Value.int .i64)), mpc mb d9, K, pt b1 #[.pointer (some ⟨bs, 0, none⟩)] 55, pt b3 #[.int .u64 (loW f), .int .u64 (hiW f)] 61, pt b5 #[.bool r9] 4]) (fun pre s => match s with | (d9, ua9, uc9, U9, ba9, bn9, bc9, r9) => U = U9 ∧ ba = ba9 ∧ X.length = bn9 ∧ bc = bc9 ∧ false = r9 ∧ ∀ rest, vs pre ++ rest = eL f 0 → fgo ops f X (fnd ops n') rest d9 = fgo ops f X (fnd ops n') (eL f 0) d) (fun c pre s => match s with | (d9, ua9, uc9, U9, ba9, bn9, bc9, r9) => c = .ret ∧ true = r9 ∧ ∀ rest, vs pre ++ rest = eL f 0 → ∃ r, fgo ops f X (fnd ops n') (eL f 0) d = (some r, d9) ∧ U9 = U ++ r) (d, ua, uc, U, ba, X.length, bc, false) hA hM (by decide) rfl rfl rfl (enters_fn Tryd.func42 (by kernel_rfl) rfl) (seq02M f bx9 _ (.inl rfl) (.inr rfl) _ hqx htx) ?_ ?_ ⟨rfl, rfl, rfl, rfl, rfl, fun rest hr => by rw [show rest = eL f 0 from hr]⟩ rfl ?_ ?_ ?_
   ·
    rintro q (e9 | e9)
    · rw [e9]; exact ⟨(Array.getElem?_eq_some_iff.1 hqx).1, Mem.apartL (L := [pt bs #[.slice oa ops.length oc, .slice ba X.length bc, .slice ua U.length uc, .map (some mb)] 58, own 3 1 (.slice ua U.length uc) U.length (U.map (Value.int .i64)), mpc mb d, K, pt b1 #[.pointer (some ⟨bs, 0, none⟩)] 55, pt b3 #[.int .u64 (loW f), .int .u64 (hiW f)] 61, pt b5 #[.bool false] 4]) (M := [pt bx9 #[.int .u64 (loW f), .int .u64 (hiW f)] 61]) hM (.head _) rfl⟩
    · rw [e9]; exact ⟨tab_lt htx (by kernel_rfl), hGl⟩
   ·
    rintro ⟨d9, ua9, uc9, U9, ba9, bn9, bc9, r9⟩ c9 hc9
    rcases List.mem_cons.1 hc9 with rfl | hc9
    · exact pt_cellsB _ _ _ _
    rcases List.mem_cons.1 hc9 with rfl | hc9
    · exact own_cellsB _ _ _ _ _ _
    rcases List.mem_cons.1 hc9 with rfl | hc9
    · exact fun w9 b9 _ hb9 => .inl (hM.inb _ (.tail _ (.tail _ (.head _))) b9 hb9).1
    rcases List.mem_cons.1 hc9 with rfl | hc9
    · exact fun w9 b9 _ hb9 => .inl (hM.inb _ (.tail _ (.tail _ (.tail _ (.head _)))) b9 hb9).1
    rcases List.mem_cons.1 hc9 with rfl | hc9
    · exact pt_cellsB _ _ _ _
    rcases List.mem_cons.1 hc9 with rfl | hc9
    · exact pt_cellsB _ _ _ _
    rcases List.mem_cons.1 hc9 with rfl | hc9
    · exact pt_cellsB _ _ _ _
    cases hc9
   ·
    clear hA hM a hqx
    rintro l9 pre ⟨_, m, rfl, ml, mf⟩ ⟨d9, ua9, uc9, U9, ba9, bn9, bc9, r9⟩ w7 hs9 hlen hM0 a hA
    have htab := tab_at htx (g := 0) (by kernel_rfl) (hM0.old _ (tab_lt htx (by kernel_rfl)) hGl)
    have hG := hM0.notFoot (tab_lt htx (by kernel_rfl)) hGl
    have hM := hM0.here
    clear htx hGl hGx hM0
    replace hM : Mem _ (feet [pt bs #[.slice oa ops.length oc, .slice ba9 bn9 bc9, .slice ua9 U9.length uc9, .map (some mb)] 58, own 3 1 (.slice ua9 U9.length uc9) U9.length (U9.map (Value.int .i64)), mpc mb d9, K, pt b1 #[.pointer (some ⟨bs, 0, none⟩)] 55, pt b3 #[.int .u64 (loW f), .int .u64 (hiW f)] 61, pt b5 #[.bool r9] 4]) [pt bs #[.slice oa ops.length oc, .slice ba9 bn9 bc9, .slice ua9 U9.length uc9, .map (some mb)] 58, own 3 1 (.slice ua9 U9.length uc9) U9.length (U9.map (Value.int .i64)), mpc mb d9, K, pt b1 #[.pointer (some ⟨bs, 0, none⟩)] 55, pt b3 #[.int .u64 (loW f), .int .u64 (hiW f)] 61, pt b5 #[.bool r9] 4] _ := hM
    replace hA : St 75 [(2, .pointer (some ⟨b1, 0, none⟩)), (3, .pointer (some ⟨b3, 0, none⟩)), (4, .pointer (some ⟨b5, 0, none⟩)), (5, .int .i64 ((m : Int))), (19, .int .i64 ((m : Int)))] a := hA.sub ((.cons rfl (.cons rfl (.cons rfl (.cons rfl (.cons rfl .nil))))))
    obtain ⟨rfl, rfl, rfl, rfl, rfl, hs9⟩ := hs9
    replace hM : Mem _ _ [pt bs #[.slice oa ops.length oc, .slice ba X.length bc, .slice ua9 U.length uc9, .map (some mb)] 58, own 3 1 (.slice ua9 U.length uc9) U.length (U.map (Value.int .i64)), mpc mb d9, K, pt b1 #[.pointer (some ⟨bs, 0, none⟩)] 55, pt b3 #[.int .u64 (loW f), .int .u64 (hiW f)] 61, pt b5 #[.bool false] 4] _ := hM
    replace hM : Mem _ (feet [pt bs #[.slice oa ops.length oc, .slice ba X.length bc, .slice ua9 U.length uc9, .map (some mb)] 58, own 3 1 (.slice ua9 U.length uc9) U.length (U.map (Value.int .i64)), mpc mb d9, K, pt b1 #[.pointer (some ⟨bs, 0, none⟩)] 55, pt b3 #[.int .u64 (loW f), .int .u64 (hiW f)] 61, pt b5 #[.bool false] 4]) [pt bs #[.slice oa ops.length oc, .slice ba X.length bc, .slice ua9 U.length uc9, .map (some mb)] 58, own 3 1 (.slice ua9 U.length uc9) U.length (U.map (Value.int .i64)), mpc mb d9, K, pt b1 #[.pointer (some ⟨bs, 0, none⟩)] 55, pt b3 #[.int .u64 (loW f), .int .u64 (hiW f)] 61, pt b5 #[.bool false] 4] _ := hM
    replace hG : ¬ (feet [pt bs #[.slice oa ops.length oc, .slice ba X.length bc, .slice ua9 U.length uc9, .map (some mb)] 58, own 3 1 (.slice ua9 U.length uc9) U.length (U.map (Value.int .i64)), mpc mb d9, K, pt b1 #[.pointer (some ⟨bs, 0, none⟩)] 55, pt b3 #[.int .u64 (loW f), .int .u64 (hiW f)] 61, pt b5 #[.bool false] 4]) 0 := hG
    have mlt : m < ops.length := hf m mf
    have hwo := eL_wo ml mf
    refine EndsW.block ?_
    refine EndsW.seq ?_
    refine EndsW.seq ?_
    refine EndsW.region ?_
    refine S.val hA (R.load sz55 rfl (hM.cell (k := 4) rfl rfl)) rfl ?_; clear hA a; intro a hA
    refine S.val hA (R.loadA sz61 rfl (hM.range (k := 5) rfl) rfl) rfl ?_; clear hA a; intro a hA
    refine S.val hA (R.move rfl) rfl ?_; clear hA a; intro a hA
    replace hM := hM.front (k := 3) rfl
    replace hM := hM.front (k := 1) rfl
    replace hM : Mem _ _ [pt bs #[.slice oa ops.length oc, .slice ba X.length bc, .slice ua9 U.length uc9, .map (some mb)] 58, K, own 3 1 (.slice ua9 U.length uc9) U.length (U.map (Value.int .i64)), mpc mb d9, pt b1 #[.pointer (some ⟨bs, 0, none⟩)] 55, pt b3 #[.int .u64 (loW f), .int .u64 (hiW f)] 61, pt b5 #[.bool false] 4] _ := hM
    refine S.call hA (R.callF Tryd.func32 rfl rfl rfl) rfl (may21 ops oa oc f m mlt hf hol bs (.slice ba X.length bc) (.slice ua9 U.length uc9) (.map (some mb)) K (fun w h => (hK w h).2) _ (tab_at htab (g := 0) (by kernel_rfl) (hM.old _ (tab_lt htab (by kernel_rfl)) hG)) ((hM.firstN 2).notFoot (tab_lt htab (by kernel_rfl)) hG) (hM.hereN 2)) ?_; clear hA a
    rintro e w8 ⟨rfl, hn⟩
    replace hM : Mem _ _ [pt bs #[.slice oa ops.length oc, .slice ba X.length bc, .slice ua9 U.length uc9, .map (some mb)] 58, K, own 3 1 (.slice ua9 U.length uc9) U.length (U.map (Value.int .i64)), mpc mb d9, pt b1 #[.pointer (some ⟨bs, 0, none⟩)] 55, pt b3 #[.int .u64 (loW f), .int .u64 (hiW f)] 61, pt b5 #[.bool false] 4] _ := hM.callL 2 hn; clear hn
    refine ⟨.bool ((mayP ops f m)), rfl, fun a hA => ?_⟩
    refine S.val hA (R.not rfl) rfl ?_; clear hA a; intro a hA
    refine S.doneW ?_
    replace hA : St 75 [(2, _), (3, _), (4, _), (5, _), (24, _)] a := hA.sub ((.cons rfl (.cons rfl (.cons rfl (.cons rfl (.cons rfl .nil))))))
    refine EndsW.iteB hA rfl (fun hc10 => ?_) (fun hc10 => ?_)
    ·
     have hmay : mayP ops f m = false := by simpa using hc10
     refine EndsW.exit rfl ?_
     replace hA : St 75 [(4, _)] a := hA.sub ((.cons rfl .nil))
     refine EndsW.endQ ?_
     replace hM := hM.front (k := 6) rfl
     replace hM := hM.front (k := 6) rfl
     replace hM := hM.front (k := 6) rfl
     replace hM := hM.front (k := 4) rfl
     replace hM := hM.front (k := 6) rfl
     replace hM := hM.front (k := 6) rfl
     replace hM := hM.front (k := 6) rfl
     replace hM := hM.firstN 7
     have hst : ∀ rest, vs (pre ++ [⟨(m : Int), m, rfl, ml, mf⟩]) ++ rest = eL f 0 → vs pre ++ ((m : Int) :: rest) = eL f 0 := fun rest hr => by rw [vs_app] at hr; rw [← hr]; simp
     exact ⟨(d9, ua9, uc9, U, ba, X.length, bc, false), ⟨rfl, rfl, rfl, rfl, rfl, fun rest hr => by rw [← hs9 _ (hst rest hr)]; exact (fgo_no hmay).symm⟩, hM⟩
    ·
     have hmay : mayP ops f m = true := by simpa using hc10
     refine EndsW.skip ?_
     refine EndsW.seq ?_
     by_cases hs11 : doP (hop ops m) X = none
     ·
      have hdo := hs11
      replace hM := hM.front (k := 1) rfl
      replace hM := hM.front (k := 1) rfl
      refine EndsW.drawn (fun wv => ∃ v9, Mem w7 (feet [pt bs #[.slice oa ops.length oc, .slice ba X.length bc, .slice ua9 U.length uc9, .map (some mb)] 58, own 3 1 (.slice ua9 U.length uc9) U.length (U.map (Value.int .i64)), mpc mb d9, K, pt b1 #[.pointer (some ⟨bs, 0, none⟩)] 55, pt b3 #[.int .u64 (loW f), .int .u64 (hiW f)] 61, pt b5 #[.bool false] 4]) [pt bs #[.slice oa ops.length oc, v9, .slice ua9 U.length uc9, .map (some mb)] 58, K, pt b1 #[.pointer (some ⟨bs, 0, none⟩)] 55, pt b3 #[.int .u64 (loW f), .int .u64 (hiW f)] 61, pt b5 #[.bool false] 4] wv) (.cons (0, true) (.cons (1, true) (.cons (2, true) (.cons (3, true) (.cons (4, true) (.cons (5, true) (.cons (6, true) (.cons (7, true) (.cons (8, false) (.cons (9, true) (.cons (10, true) (.cons (11, true) (.cons (12, true) (.cons (13, true) .nil)))))))))))))) 14 mixed (by kernel_rfl) (by kernel_rfl) (by kernel_rfl) ⟨_, ((hM.drop 3).drop 2).drew⟩ ?_
      replace hM := hM.drew
      refine D.val hA rfl (by kernel_rfl) (fun _ ⟨_, hM⟩ => R.load sz55 rfl (hM.cell (k := 2) rfl rfl)) rfl ?_; clear hA a; intro a hA
      refine D.val hA rfl (by kernel_rfl) (fun _ ⟨_, hM⟩ => R.load sz55 rfl (hM.cell (k := 2) rfl rfl)) rfl ?_; clear hA a; intro a hA
      refine D.valF hA rfl (fun _ => R.nilCheck rfl) rfl ?_; clear hA a; intro a hA
      refine D.valF hA rfl (fun _ => R.fieldAddr (q := 0) fi58_0 rfl rfl rfl) rfl ?_; clear hA a; intro a hA
      refine D.val hA rfl (by kernel_rfl) (fun _ ⟨_, hM⟩ => R.load sz23 rfl (hM.cell (k := 0) rfl rfl)) rfl ?_; clear hA a; intro a hA
      refine D.valF hA rfl (fun _ => R.move rfl) rfl ?_; clear hA a; intro a hA
      refine D.valF hA rfl (fun _ => R.idxRow ((hK _ (hM.mem (k := 1) rfl)).2) (j := m) sl23 rfl rfl (by omega) (rfl)) rfl ?_; clear hA a; intro a hA
      refine D.val hA rfl (by kernel_rfl) (fun _ ⟨_, hM⟩ => R.loadHop ((hK _ (hM.mem (k := 1) rfl)).2) (by omega) sz26 rfl) rfl ?_; clear hA a; intro a hA
      refine D.call hA rfl (R.callF Tryd.func33 rfl rfl rfl) rfl (do21n (hop ops m) bs ba X bc (.slice oa ops.length oc) (.slice ua9 U.length uc9) (.map (some mb)) K (fun w h => (hK w h).1) (by omega) _ (hM.hereN 2) hdo) ?_; clear hA a
      rintro e w9 ⟨rfl, hn⟩
      replace hM : Mem _ _ [pt bs #[.slice oa ops.length oc, .slice ba X.length bc, .slice ua9 U.length uc9, .map (some mb)] 58, K, own 3 1 (.slice ua9 U.length uc9) U.length (U.map (Value.int .i64)), mpc mb d9, pt b1 #[.pointer (some ⟨bs, 0, none⟩)] 55, pt b3 #[.int .u64 (loW f), .int .u64 (hiW f)] 61, pt b5 #[.bool false] 4] _ := hM.callL 2 hn; clear hn
      refine ⟨.tuple #[.nilFunc, .bool false], rfl, ⟨_, ((hM.drop 3).drop 2)⟩, fun a hA => ?_⟩
      refine D.valF hA rfl (fun _ => R.move rfl) rfl ?_; clear hA a; intro a hA
      refine D.valF hA rfl (fun _ => R.extract (v := .nilFunc) rfl rfl) rfl ?_; clear hA a; intro a hA
      refine D.valF hA rfl (fun _ => R.extract (v := .bool false) rfl rfl) rfl ?_; clear hA a; intro a hA
      refine D.valF hA rfl (fun _ => R.assign rfl) rfl ?_; clear hA a; intro a hA
      refine D.valF hA rfl (fun _ => R.assign rfl) rfl ?_; clear hA a; intro a hA
      refine D.doneW ?_
      replace hA : St 75 [(2, _), (3, _), (4, _), (5, _), (6, _), (7, _)] a := hA.sub ((.cons rfl (.cons rfl (.cons rfl (.cons rfl (.cons rfl (.cons rfl .nil)))))))
      refine EndsW.seq ?_
      refine EndsW.seq ?_
      refine EndsW.region ?_
      refine S.val hA (R.move rfl) rfl ?_; clear hA a; intro a hA
      refine S.val hA (R.not rfl) rfl ?_; clear hA a; intro a hA
      refine S.doneW ?_
      refine EndsW.condT hA rfl ?_
      refine EndsW.exit rfl ?_
      replace hA : St 75 [(4, _)] a := hA.sub ((.cons rfl .nil))
      refine EndsW.endQ ?_
      replace hM := hM.front (k := 6) rfl
      replace hM := hM.front (k := 6) rfl
      replace hM := hM.front (k := 6) rfl
      replace hM := hM.front (k := 4) rfl
      replace hM := hM.front (k := 6) rfl
      replace hM := hM.front (k := 6) rfl
      replace hM := hM.front (k := 6) rfl
      replace hM := hM.firstN 7
      have hst : ∀ rest, vs (pre ++ [⟨(m : Int), m, rfl, ml, mf⟩]) ++ rest = eL f 0 → vs pre ++ ((m : Int) :: rest) = eL f 0 := fun rest hr => by rw [vs_app] at hr; rw [← hr]; simp
      exact ⟨(d9, ua9, uc9, U, ba, X.length, bc, false), ⟨rfl, rfl, rfl, rfl, rfl, fun rest hr => by rw [← hs9 _ (hst rest hr)]; exact (fgo_none hmay hdo).symm⟩, hM⟩
     ·
      obtain ⟨Y, hdo⟩ : ∃ Y, doP (hop ops m) X = some Y := by cases hq : doP (hop ops m) X with | none => exact absurd hq hs11 | some Y => exact ⟨Y, rfl⟩
      have hYl := doP_len hdo
      replace hM := hM.front (k := 1) rfl
      replace hM := hM.front (k := 1) rfl
      refine EndsW.drawn (fun wv => ∃ v9, Mem w7 (feet [pt bs #[.slice oa ops.length oc, .slice ba X.length bc, .slice ua9 U.length uc9, .map (some mb)] 58, own 3 1 (.slice ua9 U.length uc9) U.length (U.map (Value.int .i64)), mpc mb d9, K, pt b1 #[.pointer (some ⟨bs, 0, none⟩)] 55, pt b3 #[.int .u64 (loW f), .int .u64 (hiW f)] 61, pt b5 #[.bool false] 4]) [pt bs #[.slice oa ops.length oc, v9, .slice ua9 U.length uc9, .map (some mb)] 58, K, pt b1 #[.pointer (some ⟨bs, 0, none⟩)] 55, pt b3 #[.int .u64 (loW f), .int .u64 (hiW f)] 61, pt b5 #[.bool false] 4] wv) (.cons (0, true) (.cons (1, true) (.cons (2, true) (.cons (3, true) (.cons (4, true) (.cons (5, true) (.cons (6, true) (.cons (7, true) (.cons (8, false) (.cons (9, true) (.cons (10, true) (.cons (11, true) (.cons (12, true) (.cons (13, true) .nil)))))))))))))) 14 mixed (by kernel_rfl) (by kernel_rfl) (by kernel_rfl) ⟨_, ((hM.drop 3).drop 2).drew⟩ ?_
      replace hM := hM.drew
      refine D.val hA rfl (by kernel_rfl) (fun _ ⟨_, hM⟩ => R.load sz55 rfl (hM.cell (k := 2) rfl rfl)) rfl ?_; clear hA a; intro a hA
      refine D.val hA rfl (by kernel_rfl) (fun _ ⟨_, hM⟩ => R.load sz55 rfl (hM.cell (k := 2) rfl rfl)) rfl ?_; clear hA a; intro a hA
      refine D.valF hA rfl (fun _ => R.nilCheck rfl) rfl ?_; clear hA a; intro a hA
      refine D.valF hA rfl (fun _ => R.fieldAddr (q := 0) fi58_0 rfl rfl rfl) rfl ?_; clear hA a; intro a hA
      refine D.val hA rfl (by kernel_rfl) (fun _ ⟨_, hM⟩ => R.load sz23 rfl (hM.cell (k := 0) rfl rfl)) rfl ?_; clear hA a; intro a hA
      refine D.valF hA rfl (fun _ => R.move rfl) rfl ?_; clear hA a; intro a hA
      refine D.valF hA rfl (fun _ => R.idxRow ((hK _ (hM.mem (k := 1) rfl)).2) (j := m) sl23 rfl rfl (by omega) (rfl)) rfl ?_; clear hA a; intro a hA
      refine D.val hA rfl (by kernel_rfl) (fun _ ⟨_, hM⟩ => R.loadHop ((hK _ (hM.mem (k := 1) rfl)).2) (by omega) sz26 rfl) rfl ?_; clear hA a; intro a hA
      refine D.call hA rfl (R.callF Tryd.func33 rfl rfl rfl) rfl (do21s (hop ops m) bs ba X bc (.slice oa ops.length oc) (.slice ua9 U.length uc9) (.map (some mb)) K (fun w h => (hK w h).1) (by omega) _ (hM.hereN 2) hdo) ?_; clear hA a
      rintro e w10 ⟨ya14, yc15, q12, p13, rfl, hn⟩
      replace hM : Mem _ _ [pt bs #[.slice oa ops.length oc, .slice ya14 Y.length yc15, .slice ua9 U.length uc9, .map (some mb)] 58, rd ya14 yc15 Y, pt q12 #[.slice ba X.length bc] 22, pt p13 #[.pointer (some ⟨bs, 0, none⟩)] 55, K, own 3 1 (.slice ua9 U.length uc9) U.length (U.map (Value.int .i64)), mpc mb d9, pt b1 #[.pointer (some ⟨bs, 0, none⟩)] 55, pt b3 #[.int .u64 (loW f), .int .u64 (hiW f)] 61, pt b5 #[.bool false] 4] _ := hM.callL 2 hn; clear hn
      refine ⟨.tuple #[.func (.func 48) #[] #[.pointer (some ⟨q12, 0, none⟩), .pointer (some ⟨p13, 0, none⟩)], .bool true], rfl, ⟨_, (((((hM.drop 6).drop 5).drop 3).drop 2).drop 1)⟩, fun a hA => ?_⟩
      refine D.valF hA rfl (fun _ => R.move rfl) rfl ?_; clear hA a; intro a hA
      refine D.valF hA rfl (fun _ => R.extract (v := .func (.func 48) #[] #[.pointer (some ⟨q12, 0, none⟩), .pointer (some ⟨p13, 0, none⟩)]) rfl rfl) rfl ?_; clear hA a; intro a hA
      refine D.valF hA rfl (fun _ => R.extract (v := .bool true) rfl rfl) rfl ?_; clear hA a; intro a hA
      refine D.valF hA rfl (fun _ => R.assign rfl) rfl ?_; clear hA a; intro a hA
      refine D.valF hA rfl (fun _ => R.assign rfl) rfl ?_; clear hA a; intro a hA
      refine D.doneW ?_
      replace hA : St 75 [(2, _), (3, _), (4, _), (5, _), (6, _), (7, _)] a := hA.sub ((.cons rfl (.cons rfl (.cons rfl (.cons rfl (.cons rfl (.cons rfl .nil)))))))
      refine EndsW.seq ?_
      refine EndsW.seq ?_
      refine EndsW.region ?_
      refine S.val hA (R.move rfl) rfl ?_; clear hA a; intro a hA
      refine S.val hA (R.not rfl) rfl ?_; clear hA a; intro a hA
      refine S.doneW ?_
      refine EndsW.condF hA rfl ?_
      refine EndsW.skip ?_
      refine EndsW.seq ?_
      refine EndsW.drawn (Mem w7 (feet [pt bs #[.slice oa ops.length oc, .slice ba X.length bc, .slice ua9 U.length uc9, .map (some mb)] 58, own 3 1 (.slice ua9 U.length uc9) U.length (U.map (Value.int .i64)), mpc mb d9, K, pt b1 #[.pointer (some ⟨bs, 0, none⟩)] 55, pt b3 #[.int .u64 (loW f), .int .u64 (hiW f)] 61, pt b5 #[.bool false] 4]) [pt bs #[.slice oa ops.length oc, .slice ya14 Y.length yc15, .slice ua9 U.length uc9, .map (some mb)] 58, rd ya14 yc15 Y, pt q12 #[.slice ba X.length bc] 22, pt p13 #[.pointer (some ⟨bs, 0, none⟩)] 55, K, pt b1 #[.pointer (some ⟨bs, 0, none⟩)] 55, pt b3 #[.int .u64 (loW f), .int .u64 (hiW f)] 61, pt b5 #[.bool false] 4]) (.cons (0, true) (.cons (1, true) (.cons (2, true) (.cons (3, true) (.cons (4, true) (.cons (5, true) (.cons (6, false) (.cons (7, false) (.cons (8, true) (.cons (9, true) (.cons (10, false) .nil))))))))))) 10 mixed (by kernel_rfl) (by kernel_rfl) (by kernel_rfl) ((hM.drop 6).drop 5).drew ?_
      replace hM := hM.drew
      refine D.val hA rfl (by kernel_rfl) (fun _ hM => R.load sz55 rfl (hM.cell (k := 5) rfl rfl)) rfl ?_; clear hA a; intro a hA
      refine D.val hA rfl (by kernel_rfl) (fun _ hM => R.load sz55 rfl (hM.cell (k := 5) rfl rfl)) rfl ?_; clear hA a; intro a hA
      refine D.valF hA rfl (fun _ => R.nilCheck rfl) rfl ?_; clear hA a; intro a hA
      refine D.valF hA rfl (fun _ => R.fieldAddr (q := 2) fi58_2 rfl rfl rfl) rfl ?_; clear hA a; intro a hA
      refine D.val hA rfl (by kernel_rfl) (fun _ hM => R.load sz22 rfl (hM.cell (k := 0) rfl rfl)) rfl ?_; clear hA a; intro a hA
      refine D.valF hA rfl (fun _ => R.move rfl) rfl ?_; clear hA a; intro a hA
      refine D.buildSl (cells := #[.int .i64 ((m : Int))]) hA hM rfl Tryd.underlying22 info3 rfl rfl rfl rfl (by kernel_rfl) rfl ?_; clear hA hM a; intro b16 w11 hb17 hM; refine ⟨(fun hM => ((hM.drop 6).drop 5)) hM.tail, fun a hA => ?_⟩
      replace hM : Mem _ _ [pt b16 #[.int .i64 ((m : Int))] 3, pt bs #[.slice oa ops.length oc, .slice ya14 Y.length yc15, .slice ua9 U.length uc9, .map (some mb)] 58, rd ya14 yc15 Y, pt q12 #[.slice ba X.length bc] 22, pt p13 #[.pointer (some ⟨bs, 0, none⟩)] 55, K, own 3 1 (.slice ua9 U.length uc9) U.length (U.map (Value.int .i64)), mpc mb d9, pt b1 #[.pointer (some ⟨bs, 0, none⟩)] 55, pt b3 #[.int .u64 (loW f), .int .u64 (hiW f)] 61, pt b5 #[.bool false] 4] _ := hM
      refine D.append (k := 6) (k2 := 0) hA hM rfl rfl rfl Tryd.underlying22 info3 rfl rfl rfl rfl rfl rfl rfl rfl rfl (by first | omega | (unfold maxLen; omega) | (show (_ + 1) * 8 ≤ (140737488355328 : Nat); omega)) (by first | omega | (unfold maxLen; omega) | (show (_ + 1) * 8 ≤ (140737488355328 : Nat); omega)) rfl ?_; clear hA hM a; intro a18 c19 w12 hM
      replace hM : Mem _ _ [pt b16 #[.int .i64 ((m : Int))] 3, pt bs #[.slice oa ops.length oc, .slice ya14 Y.length yc15, .slice ua9 U.length uc9, .map (some mb)] 58, rd ya14 yc15 Y, pt q12 #[.slice ba X.length bc] 22, pt p13 #[.pointer (some ⟨bs, 0, none⟩)] 55, K, own 3 1 (.slice a18 (U.length + 1) c19) (U.length + 1) (U.map (Value.int .i64) ++ [.int .i64 ((m : Int))]), mpc mb d9, pt b1 #[.pointer (some ⟨bs, 0, none⟩)] 55, pt b3 #[.int .u64 (loW f), .int .u64 (hiW f)] 61, pt b5 #[.bool false] 4] _ := hM
      have hl20 : U.length + 1 = (U ++ [(m : Int)]).length := by simp
      rw [hl20, show U.map (Value.int .i64) ++ [.int .i64 ((m : Int))] = (U ++ [(m : Int)]).map (Value.int .i64) by simp] at hM
      replace hM := hM.drop 0
      replace hM : Mem _ _ [pt bs #[.slice oa ops.length oc, .slice ya14 Y.length yc15, .slice ua9 U.length uc9, .map (some mb)] 58, rd ya14 yc15 Y, pt q12 #[.slice ba X.length bc] 22, pt p13 #[.pointer (some ⟨bs, 0, none⟩)] 55, K, own 3 1 (.slice a18 (((U ++ [(m : Int)])).length) c19) (((U ++ [(m : Int)])).length) (((U ++ [(m : Int)])).map (Value.int .i64)), mpc mb d9, pt b1 #[.pointer (some ⟨bs, 0, none⟩)] 55, pt b3 #[.int .u64 (loW f), .int .u64 (hiW f)] 61, pt b5 #[.bool false] 4] _ := hM
      refine ⟨((hM.drop 6).drop 5), fun a hA => ?_⟩; rw [hl20] at hA; clear hl20
      refine D.valF hA rfl (fun _ => R.nilCheck rfl) rfl ?_; clear hA a; intro a hA
      refine D.valF hA rfl (fun _ => R.fieldAddr (q := 2) fi58_2 rfl rfl rfl) rfl ?_; clear hA a; intro a hA
      refine D.store (k := 0) hA hM rfl sz22 rfl rfl rfl rfl rfl ?_; clear hM
      intro w13 hM; refine ⟨fun _ hne => absurd rfl hne, ?_⟩
      replace hM : Mem _ _ [pt bs #[.slice oa ops.length oc, .slice ya14 Y.length yc15, .slice a18 (((U ++ [(m : Int)])).length) c19, .map (some mb)] 58, rd ya14 yc15 Y, pt q12 #[.slice ba X.length bc] 22, pt p13 #[.pointer (some ⟨bs, 0, none⟩)] 55, K, own 3 1 (.slice a18 (((U ++ [(m : Int)])).length) c19) (((U ++ [(m : Int)])).length) (((U ++ [(m : Int)])).map (Value.int .i64)), mpc mb d9, pt b1 #[.pointer (some ⟨bs, 0, none⟩)] 55, pt b3 #[.int .u64 (loW f), .int .u64 (hiW f)] 61, pt b5 #[.bool false] 4] _ := hM
      refine D.doneW ?_
      replace hA : St 75 [(2, _), (3, _), (4, _), (5, _), (6, _)] a := hA.sub ((.cons rfl (.cons rfl (.cons rfl (.cons rfl (.cons rfl .nil))))))
      refine EndsW.seq ?_
      refine EndsW.seq ?_
      replace hM := hM.front (k := 4) rfl
      replace hM := hM.front (k := 2) rfl
      replace hM : Mem _ _ ([rd ya14 yc15 Y, K] ++ [pt bs #[.slice oa ops.length oc, .slice ya14 Y.length yc15, .slice a18 (((U ++ [(m : Int)])).length) c19, .map (some mb)] 58, pt q12 #[.slice ba X.length bc] 22, pt p13 #[.pointer (some ⟨bs, 0, none⟩)] 55, own 3 1 (.slice a18 (((U ++ [(m : Int)])).length) c19) (((U ++ [(m : Int)])).length) (((U ++ [(m : Int)])).map (Value.int .i64)), mpc mb d9, pt b1 #[.pointer (some ⟨bs, 0, none⟩)] 55, pt b3 #[.int .u64 (loW f), .int .u64 (hiW f)] 61, pt b5 #[.bool false] 4]) _ := hM
      replace hM := hM.pack
      replace hM : Mem _ _ [bundle [rd ya14 yc15 Y, K], pt bs #[.slice oa ops.length oc, .slice ya14 Y.length yc15, .slice a18 (((U ++ [(m : Int)])).length) c19, .map (some mb)] 58, pt q12 #[.slice ba X.length bc] 22, pt p13 #[.pointer (some ⟨bs, 0, none⟩)] 55, own 3 1 (.slice a18 (((U ++ [(m : Int)])).length) c19) (((U ++ [(m : Int)])).length) (((U ++ [(m : Int)])).map (Value.int .i64)), mpc mb d9, pt b1 #[.pointer (some ⟨bs, 0, none⟩)] 55, pt b3 #[.int .u64 (loW f), .int .u64 (hiW f)] 61, pt b5 #[.bool false] 4] _ := hM
      have hK2 : ∀ w, (bundle [rd ya14 yc15 Y, K]).holds w → IntSl w (.slice ya14 Y.length yc15) Y ∧ RowSl w (.slice oa ops.length oc) 4 ops.length (hopv ops) := fun w h => ⟨h.1 _ (.head _), (hK w (h.1 _ (.tail _ (.head _)))).2⟩
      obtain ⟨o9, d8, hre⟩ : ∃ o d', fnd ops n' (woF f m) Y d9 = (o, d') := ⟨_, _, rfl⟩
      have hUl : (U ++ [(m : Int)]).length = U.length + 1 := by simp
      by_cases hs21 : o9 = none
      ·
       subst hs21
       refine EndsW.drawn (Mem w7 (feet [pt bs #[.slice oa ops.length oc, .slice ba X.length bc, .slice ua9 U.length uc9, .map (some mb)] 58, own 3 1 (.slice ua9 U.length uc9) U.length (U.map (Value.int .i64)), mpc mb d9, K, pt b1 #[.pointer (some ⟨bs, 0, none⟩)] 55, pt b3 #[.int .u64 (loW f), .int .u64 (hiW f)] 61, pt b5 #[.bool false] 4]) [pt q12 #[.slice ba X.length bc] 22, pt p13 #[.pointer (some ⟨bs, 0, none⟩)] 55, pt b1 #[.pointer (some ⟨bs, 0, none⟩)] 55, pt b3 #[.int .u64 (loW f), .int .u64 (hiW f)] 61, pt b5 #[.bool false] 4]) (.cons (0, true) (.cons (1, true) (.cons (2, true) (.cons (3, false) (.cons (4, false) .nil))))) 5 mixed (by kernel_rfl) (by kernel_rfl) (by kernel_rfl) ((((hM.drop 5).drop 4).drop 1).drop 0).drew ?_
       replace hM := hM.drew
       refine D.val hA rfl (by kernel_rfl) (fun _ hM => R.load sz55 rfl (hM.cell (k := 2) rfl rfl)) rfl ?_; clear hA a; intro a hA
       refine D.val hA rfl (by kernel_rfl) (fun _ hM => R.loadA sz61 rfl (hM.range (k := 3) rfl) rfl) rfl ?_; clear hA a; intro a hA
       refine D.valF hA rfl (fun _ => R.move rfl) rfl ?_; clear hA a; intro a hA
       refine D.call hA rfl (R.callF Tryd.func34 rfl rfl rfl) rfl (wo02 f m (by omega) _) ?_; clear hA a
       rintro e w14 ⟨rfl, hb⟩
       replace hM := hM.callB hb; clear hb
       refine ⟨.agg #[.int .u64 (loW (woF f m)), .int .u64 (hiW (woF f m))], rfl, ((((hM.drop 5).drop 4).drop 1).drop 0), fun a hA => ?_⟩
       replace hM := hM.front (k := 5) rfl
       replace hM := hM.front (k := 5) rfl
       replace hM := hM.front (k := 3) rfl
       replace hM : Mem _ _ [pt bs #[.slice oa ops.length oc, .slice ya14 Y.length yc15, .slice a18 (((U ++ [(m : Int)])).length) c19, .map (some mb)] 58, own 3 1 (.slice a18 (((U ++ [(m : Int)])).length) c19) (((U ++ [(m : Int)])).length) (((U ++ [(m : Int)])).map (Value.int .i64)), mpc mb d9, bundle [rd ya14 yc15 Y, K], pt q12 #[.slice ba X.length bc] 22, pt p13 #[.pointer (some ⟨bs, 0, none⟩)] 55, pt b1 #[.pointer (some ⟨bs, 0, none⟩)] 55, pt b3 #[.int .u64 (loW f), .int .u64 (hiW f)] 61, pt b5 #[.bool false] 4] _ := hM
       refine D.call hA rfl (R.callF Tryd.func21 rfl rfl rfl) rfl (ih n' rfl (woF f m) Y d9 (U ++ [(m : Int)]) ya14 yc15 a18 c19 (bundle [rd ya14 yc15 Y, K]) none d8 hre (fun b hb => hf b (wo_mem hb)) (by omega) (by omega) (by omega) hK2 _ (tab_at htab (g := 0) (by kernel_rfl) (hM.old _ (tab_lt htab (by kernel_rfl)) hG)) ((hM.firstN 4).notFoot (tab_lt htab (by kernel_rfl)) hG) (hM.hereN 4)) ?_; clear hA a
       rintro e w15 ⟨ba24, bn25, bc26, ua22, uc23, rfl, hbg, hn⟩
       replace hM : Mem _ _ [pt bs #[.slice oa ops.length oc, .slice ba24 bn25 bc26, .slice ua22 ((U ++ [(m : Int)]).length) uc23, .map (some mb)] 58, own 3 1 (.slice ua22 (((U ++ [(m : Int)])).length) uc23) (((U ++ [(m : Int)])).length) (((U ++ [(m : Int)])).map (Value.int .i64)), mpc mb d8, bundle [rd ya14 yc15 Y, K], pt q12 #[.slice ba X.length bc] 22, pt p13 #[.pointer (some ⟨bs, 0, none⟩)] 55, pt b1 #[.pointer (some ⟨bs, 0, none⟩)] 55, pt b3 #[.int .u64 (loW f), .int .u64 (hiW f)] 61, pt b5 #[.bool false] 4] _ := hM.callL 4 hn; clear hn
       refine ⟨.bool false, rfl, ((((hM.drop 3).drop 2).drop 1).drop 0), fun a hA => ?_⟩
       refine D.doneW ?_
       replace hA : St 75 [(2, _), (4, _), (6, _), (53, _)] a := hA.sub ((.cons rfl (.cons rfl (.cons rfl (.cons rfl .nil)))))
       refine EndsW.condF hA rfl ?_
       refine EndsW.skip ?_
       refine EndsW.seq ?_
       refine EndsW.drawn (Mem w7 (feet [pt bs #[.slice oa ops.length oc, .slice ba X.length bc, .slice ua9 U.length uc9, .map (some mb)] 58, own 3 1 (.slice ua9 U.length uc9) U.length (U.map (Value.int .i64)), mpc mb d9, K, pt b1 #[.pointer (some ⟨bs, 0, none⟩)] 55, pt b3 #[.int .u64 (loW f), .int .u64 (hiW f)] 61, pt b5 #[.bool false] 4]) [pt bs #[.slice oa ops.length oc, .slice ba24 bn25 bc26, .slice ua22 ((U ++ [(m : Int)]).length) uc23, .map (some mb)] 58, bundle [rd ya14 yc15 Y, K], pt q12 #[.slice ba X.length bc] 22, pt p13 #[.pointer (some ⟨bs, 0, none⟩)] 55, pt b1 #[.pointer (some ⟨bs, 0, none⟩)] 55, pt b3 #[.int .u64 (loW f), .int .u64 (hiW f)] 61, pt b5 #[.bool false] 4]) (.cons (0, true) (.cons (1, true) (.cons (2, true) (.cons (3, true) (.cons (4, true) (.cons (5, true) (.cons (6, true) (.cons (7, true) (.cons (8, true) (.cons (9, true) (.cons (10, true) (.cons (11, true) (.cons (12, true) (.cons (13, true) (.cons (14, false) .nil))))))))))))))) 14 mixed (by kernel_rfl) (by kernel_rfl) (by kernel_rfl) ((hM.drop 2).drop 1).drew ?_
       replace hM := hM.drew
       refine D.val hA rfl (by kernel_rfl) (fun _ hM => R.load sz55 rfl (hM.cell (k := 4) rfl rfl)) rfl ?_; clear hA a; intro a hA
       refine D.val hA rfl (by kernel_rfl) (fun _ hM => R.load sz55 rfl (hM.cell (k := 4) rfl rfl)) rfl ?_; clear hA a; intro a hA
       refine D.valF hA rfl (fun _ => R.nilCheck rfl) rfl ?_; clear hA a; intro a hA
       refine D.valF hA rfl (fun _ => R.fieldAddr (q := 2) fi58_2 rfl rfl rfl) rfl ?_; clear hA a; intro a hA
       refine D.val hA rfl (by kernel_rfl) (fun _ hM => R.load sz22 rfl (hM.cell (k := 0) rfl rfl)) rfl ?_; clear hA a; intro a hA
       refine D.val hA rfl (by kernel_rfl) (fun _ hM => R.load sz55 rfl (hM.cell (k := 4) rfl rfl)) rfl ?_; clear hA a; intro a hA
       refine D.valF hA rfl (fun _ => R.nilCheck rfl) rfl ?_; clear hA a; intro a hA
       refine D.valF hA rfl (fun _ => R.fieldAddr (q := 2) fi58_2 rfl rfl rfl) rfl ?_; clear hA a; intro a hA
       refine D.val hA rfl (by kernel_rfl) (fun _ hM => R.load sz22 rfl (hM.cell (k := 0) rfl rfl)) rfl ?_; clear hA a; intro a hA
       refine D.valF hA rfl (fun _ => R.lenS Tryd.underlying22 rfl rfl) rfl ?_; clear hA a; intro a hA
       refine D.valF hA rfl (fun _ => R.subI rfl rfl (r := (((U ++ [(m : Int)]).length : Int)) - 1) rfl (by omega)) rfl ?_; clear hA a; intro a hA
       have hle9 := (hM.ownLe (k := 1) rfl).1
       refine D.valF hA rfl (fun _ => R.sliceH (h := U.length) Tryd.underlying22 info3 rfl rfl (by omega) (by omega)) rfl ?_; clear hA a; intro a hA
       refine D.valF hA rfl (fun _ => R.nilCheck rfl) rfl ?_; clear hA a; intro a hA
       refine D.valF hA rfl (fun _ => R.fieldAddr (q := 2) fi58_2 rfl rfl rfl) rfl ?_; clear hA a; intro a hA
       refine D.store (k := 0) hA hM rfl sz22 rfl rfl rfl rfl rfl ?_; clear hM
       intro w16 hM; refine ⟨fun _ hne => absurd rfl hne, ?_⟩
       replace hM : Mem _ _ [pt bs #[.slice oa ops.length oc, .slice ba24 bn25 bc26, .slice ua22 U.length uc23, .map (some mb)] 58, own 3 1 (.slice ua22 (((U ++ [(m : Int)])).length) uc23) (((U ++ [(m : Int)])).length) (((U ++ [(m : Int)])).map (Value.int .i64)), mpc mb d8, bundle [rd ya14 yc15 Y, K], pt q12 #[.slice ba X.length bc] 22, pt p13 #[.pointer (some ⟨bs, 0, none⟩)] 55, pt b1 #[.pointer (some ⟨bs, 0, none⟩)] 55, pt b3 #[.int .u64 (loW f), .int .u64 (hiW f)] 61, pt b5 #[.bool false] 4] _ := hM
       refine D.doneW ?_
       replace hM := hM.front (k := 1) rfl
       replace hM := hM.ownCutA (m := U.length) (by omega)
       rw [show (U ++ [(m : Int)]).take U.length = U by simp] at hM
       replace hM : Mem _ _ [own 3 1 (.slice ua22 U.length uc23) U.length (U.map (Value.int .i64)), pt bs #[.slice oa ops.length oc, .slice ba24 bn25 bc26, .slice ua22 U.length uc23, .map (some mb)] 58, mpc mb d8, bundle [rd ya14 yc15 Y, K], pt q12 #[.slice ba X.length bc] 22, pt p13 #[.pointer (some ⟨bs, 0, none⟩)] 55, pt b1 #[.pointer (some ⟨bs, 0, none⟩)] 55, pt b3 #[.int .u64 (loW f), .int .u64 (hiW f)] 61, pt b5 #[.bool false] 4] _ := hM
       replace hA : St 75 [(4, _), (6, _)] a := hA.sub ((.cons rfl (.cons rfl .nil)))
       refine EndsW.region ?_
       refine S.val hA (R.move rfl) rfl ?_; clear hA a; intro a hA
       replace hM := hM.front (k := 1) rfl
       replace hM := hM.front (k := 5) rfl
       replace hM := hM.front (k := 5) rfl
       replace hM : Mem _ _ [pt q12 #[.slice ba X.length bc] 22, pt p13 #[.pointer (some ⟨bs, 0, none⟩)] 55, pt bs #[.slice oa ops.length oc, .slice ba24 bn25 bc26, .slice ua22 U.length uc23, .map (some mb)] 58, own 3 1 (.slice ua22 U.length uc23) U.length (U.map (Value.int .i64)), mpc mb d8, bundle [rd ya14 yc15 Y, K], pt b1 #[.pointer (some ⟨bs, 0, none⟩)] 55, pt b3 #[.int .u64 (loW f), .int .u64 (hiW f)] 61, pt b5 #[.bool false] 4] _ := hM
       refine S.call hA (R.callC Tryd.func48 (by kernel_rfl) rfl rfl) rfl (undo21 q12 p13 bs ba X.length bc (.slice oa ops.length oc) (.slice ba24 bn25 bc26) (.slice ua22 U.length uc23) (.map (some mb)) _ (hM.hereN 3)) ?_; clear hA a
       rintro e w17 ⟨rfl, hn⟩
       replace hM : Mem _ _ [pt q12 #[.slice ba X.length bc] 22, pt p13 #[.pointer (some ⟨bs, 0, none⟩)] 55, pt bs #[.slice oa ops.length oc, .slice ba X.length bc, .slice ua22 U.length uc23, .map (some mb)] 58, own 3 1 (.slice ua22 U.length uc23) U.length (U.map (Value.int .i64)), mpc mb d8, bundle [rd ya14 yc15 Y, K], pt b1 #[.pointer (some ⟨bs, 0, none⟩)] 55, pt b3 #[.int .u64 (loW f), .int .u64 (hiW f)] 61, pt b5 #[.bool false] 4] _ := hM.callL 3 hn; clear hn
       refine ⟨.tuple #[], rfl, fun a hA => ?_⟩
       refine S.doneW ?_
       refine EndsW.inBlock ?_
       refine EndsW.endQ ?_
       replace hM := hM.front (k := 5) rfl
       replace hM := hM.unpack
       replace hM : Mem _ _ [rd ya14 yc15 Y, K, pt q12 #[.slice ba X.length bc] 22, pt p13 #[.pointer (some ⟨bs, 0, none⟩)] 55, pt bs #[.slice oa ops.length oc, .slice ba X.length bc, .slice ua22 U.length uc23, .map (some mb)] 58, own 3 1 (.slice ua22 U.length uc23) U.length (U.map (Value.int .i64)), mpc mb d8, pt b1 #[.pointer (some ⟨bs, 0, none⟩)] 55, pt b3 #[.int .u64 (loW f), .int .u64 (hiW f)] 61, pt b5 #[.bool false] 4] _ := hM
       replace hM := hM.front (k := 9) rfl
       replace hM := hM.front (k := 9) rfl
       replace hM := hM.front (k := 9) rfl
       replace hM := hM.front (k := 4) rfl
       replace hM := hM.front (k := 9) rfl
       replace hM := hM.front (k := 9) rfl
       replace hM := hM.front (k := 9) rfl
       replace hM := hM.firstN 7
       have hst : ∀ rest, vs (pre ++ [⟨(m : Int), m, rfl, ml, mf⟩]) ++ rest = eL f 0 → vs pre ++ ((m : Int) :: rest) = eL f 0 := fun rest hr => by rw [vs_app] at hr; rw [← hr]; simp
       exact ⟨(d8, ua22, uc23, U, ba, X.length, bc, false), ⟨rfl, rfl, rfl, rfl, rfl, fun rest hr => by rw [← hs9 _ (hst rest hr)]; exact (fgo_back hmay hdo hre).symm⟩, hM⟩
      ·
       obtain ⟨r9, rfl⟩ : ∃ r, o9 = some r := by cases o9 with | none => exact absurd rfl hs21 | some r => exact ⟨r, rfl⟩
       refine EndsW.drawn (Mem w7 (feet [pt bs #[.slice oa ops.length oc, .slice ba X.length bc, .slice ua9 U.length uc9, .map (some mb)] 58, own 3 1 (.slice ua9 U.length uc9) U.length (U.map (Value.int .i64)), mpc mb d9, K, pt b1 #[.pointer (some ⟨bs, 0, none⟩)] 55, pt b3 #[.int .u64 (loW f), .int .u64 (hiW f)] 61, pt b5 #[.bool false] 4]) [pt q12 #[.slice ba X.length bc] 22, pt p13 #[.pointer (some ⟨bs, 0, none⟩)] 55, pt b1 #[.pointer (some ⟨bs, 0, none⟩)] 55, pt b3 #[.int .u64 (loW f), .int .u64 (hiW f)] 61, pt b5 #[.bool false] 4]) (.cons (0, true) (.cons (1, true) (.cons (2, true) (.cons (3, false) (.cons (4, false) .nil))))) 5 mixed (by kernel_rfl) (by kernel_rfl) (by kernel_rfl) ((((hM.drop 5).drop 4).drop 1).drop 0).drew ?_
       replace hM := hM.drew
       refine D.val hA rfl (by kernel_rfl) (fun _ hM => R.load sz55 rfl (hM.cell (k := 2) rfl rfl)) rfl ?_; clear hA a; intro a hA
       refine D.val hA rfl (by kernel_rfl) (fun _ hM => R.loadA sz61 rfl (hM.range (k := 3) rfl) rfl) rfl ?_; clear hA a; intro a hA
       refine D.valF hA rfl (fun _ => R.move rfl) rfl ?_; clear hA a; intro a hA
       refine D.call hA rfl (R.callF Tryd.func34 rfl rfl rfl) rfl (wo02 f m (by omega) _) ?_; clear hA a
       rintro e w18 ⟨rfl, hb⟩
       replace hM := hM.callB hb; clear hb
       refine ⟨.agg #[.int .u64 (loW (woF f m)), .int .u64 (hiW (woF f m))], rfl, ((((hM.drop 5).drop 4).drop 1).drop 0), fun a hA => ?_⟩
       replace hM := hM.front (k := 5) rfl
       replace hM := hM.front (k := 5) rfl
       replace hM := hM.front (k := 3) rfl
       replace hM : Mem _ _ [pt bs #[.slice oa ops.length oc, .slice ya14 Y.length yc15, .slice a18 (((U ++ [(m : Int)])).length) c19, .map (some mb)] 58, own 3 1 (.slice a18 (((U ++ [(m : Int)])).length) c19) (((U ++ [(m : Int)])).length) (((U ++ [(m : Int)])).map (Value.int .i64)), mpc mb d9, bundle [rd ya14 yc15 Y, K], pt q12 #[.slice ba X.length bc] 22, pt p13 #[.pointer (some ⟨bs, 0, none⟩)] 55, pt b1 #[.pointer (some ⟨bs, 0, none⟩)] 55, pt b3 #[.int .u64 (loW f), .int .u64 (hiW f)] 61, pt b5 #[.bool false] 4] _ := hM
       refine D.call hA rfl (R.callF Tryd.func21 rfl rfl rfl) rfl (ih n' rfl (woF f m) Y d9 (U ++ [(m : Int)]) ya14 yc15 a18 c19 (bundle [rd ya14 yc15 Y, K]) (some r9) d8 hre (fun b hb => hf b (wo_mem hb)) (by omega) (by omega) (by omega) hK2 _ (tab_at htab (g := 0) (by kernel_rfl) (hM.old _ (tab_lt htab (by kernel_rfl)) hG)) ((hM.firstN 4).notFoot (tab_lt htab (by kernel_rfl)) hG) (hM.hereN 4)) ?_; clear hA a
       rintro e w19 ⟨ba29, bn30, bc31, ua27, uc28, rfl, hbg, hn⟩
       replace hM : Mem _ _ [pt bs #[.slice oa ops.length oc, .slice ba29 bn30 bc31, .slice ua27 (((U ++ [(m : Int)]) ++ r9).length) uc28, .map (some mb)] 58, own 3 1 (.slice ua27 ((((U ++ [(m : Int)]) ++ r9)).length) uc28) ((((U ++ [(m : Int)]) ++ r9)).length) ((((U ++ [(m : Int)]) ++ r9)).map (Value.int .i64)), mpc mb d8, bundle [rd ya14 yc15 Y, K], pt q12 #[.slice ba X.length bc] 22, pt p13 #[.pointer (some ⟨bs, 0, none⟩)] 55, pt b1 #[.pointer (some ⟨bs, 0, none⟩)] 55, pt b3 #[.int .u64 (loW f), .int .u64 (hiW f)] 61, pt b5 #[.bool false] 4] _ := hM.callL 4 hn; clear hn
       refine ⟨.bool true, rfl, ((((hM.drop 3).drop 2).drop 1).drop 0), fun a hA => ?_⟩
       refine D.doneW ?_
       replace hA : St 75 [(2, _), (4, _), (6, _), (53, _)] a := hA.sub ((.cons rfl (.cons rfl (.cons rfl (.cons rfl .nil)))))
       refine EndsW.condT hA rfl ?_
       refine EndsW.seq ?_
       refine EndsW.region ?_
       refine S.store (k := 8) hA hM sz4 rfl rfl rfl rfl rfl ?_; clear hM
       intro w20 hM
       replace hM : Mem _ _ [pt bs #[.slice oa ops.length oc, .slice ba29 bn30 bc31, .slice ua27 (((U ++ [(m : Int)]) ++ r9).length) uc28, .map (some mb)] 58, own 3 1 (.slice ua27 ((((U ++ [(m : Int)]) ++ r9)).length) uc28) ((((U ++ [(m : Int)]) ++ r9)).length) ((((U ++ [(m : Int)]) ++ r9)).map (Value.int .i64)), mpc mb d8, bundle [rd ya14 yc15 Y, K], pt q12 #[.slice ba X.length bc] 22, pt p13 #[.pointer (some ⟨bs, 0, none⟩)] 55, pt b1 #[.pointer (some ⟨bs, 0, none⟩)] 55, pt b3 #[.int .u64 (loW f), .int .u64 (hiW f)] 61, pt b5 #[.bool true] 4] _ := hM
       refine S.doneW ?_
       refine EndsW.retQ ?_
       replace hM := hM.front (k := 3) rfl
       replace hM := hM.unpack
       replace hM : Mem _ _ [rd ya14 yc15 Y, K, pt bs #[.slice oa ops.length oc, .slice ba29 bn30 bc31, .slice ua27 (((U ++ [(m : Int)]) ++ r9).length) uc28, .map (some mb)] 58, own 3 1 (.slice ua27 ((((U ++ [(m : Int)]) ++ r9)).length) uc28) ((((U ++ [(m : Int)]) ++ r9)).length) ((((U ++ [(m : Int)]) ++ r9)).map (Value.int .i64)), mpc mb d8, pt q12 #[.slice ba X.length bc] 22, pt p13 #[.pointer (some ⟨bs, 0, none⟩)] 55, pt b1 #[.pointer (some ⟨bs, 0, none⟩)] 55, pt b3 #[.int .u64 (loW f), .int .u64 (hiW f)] 61, pt b5 #[.bool true] 4] _ := hM
       replace hM := hM.front (k := 9) rfl
       replace hM := hM.front (k := 9) rfl
       replace hM := hM.front (k := 9) rfl
       replace hM := hM.front (k := 4) rfl
       replace hM := hM.front (k := 7) rfl
       replace hM := hM.front (k := 7) rfl
       replace hM := hM.front (k := 7) rfl
       replace hM := hM.firstN 7
       have hst : ∀ rest, vs (pre ++ [⟨(m : Int), m, rfl, ml, mf⟩]) ++ rest = eL f 0 → vs pre ++ ((m : Int) :: rest) = eL f 0 := fun rest hr => by rw [vs_app] at hr; rw [← hr]; simp
       exact ⟨(d8, ua27, uc28, ((U ++ [(m : Int)]) ++ r9), ba29, bn30, bc31, true), ⟨rfl, rfl, fun rest hr => ⟨(m : Int) :: r9, by rw [← hs9 _ (hst rest hr)]; exact fgo_hit hmay hdo hre, by simp⟩⟩, hM⟩
   ·
    clear hM hqx htx hGl hGx
    rintro D32 xs ⟨d9, ua9, uc9, U9, ba9, bn9, bc9, r9⟩ w21 hS9 hs9 hM
    replace hM : Mem _ _ [dfr D32, pt bs #[.slice oa ops.length oc, .slice ba9 bn9 bc9, .slice ua9 U9.length uc9, .map (some mb)] 58, own 3 1 (.slice ua9 U9.length uc9) U9.length (U9.map (Value.int .i64)), mpc mb d9, K, pt b1 #[.pointer (some ⟨bs, 0, none⟩)] 55, pt b3 #[.int .u64 (loW f), .int .u64 (hiW f)] 61, pt b5 #[.bool r9] 4, pt bx9 #[.int .u64 (loW f), .int .u64 (hiW f)] 61] _ := hM
    obtain ⟨rfl, rfl, rfl, rfl, rfl, hs9⟩ := hs9
    replace hM : Mem _ _ [dfr D32, pt bs #[.slice oa ops.length oc, .slice ba X.length bc, .slice ua9 U.length uc9, .map (some mb)] 58, own 3 1 (.slice ua9 U.length uc9) U.length (U.map (Value.int .i64)), mpc mb d9, K, pt b1 #[.pointer (some ⟨bs, 0, none⟩)] 55, pt b3 #[.int .u64 (loW f), .int .u64 (hiW f)] 61, pt b5 #[.bool false] 4, pt bx9 #[.int .u64 (loW f), .int .u64 (hiW f)] 61] _ := hM
    have hfin := hs9 [] (by rw [List.append_nil]; exact hS9)
    refine EndsW.inBlock ?_
    refine EndsW.seq ?_
    refine EndsW.drawn (Mem w (feet [pt bs #[.slice oa ops.length oc, .slice ba X.length bc, .slice ua U.length uc, .map (some mb)] 58, own 3 1 (.slice ua U.length uc) U.length (U.map (Value.int .i64)), mpc mb d, K]) [pt bs #[.slice oa ops.length oc, .slice ba X.length bc, .slice ua9 U.length uc9, .map (some mb)] 58, own 3 1 (.slice ua9 U.length uc9) U.length (U.map (Value.int .i64)), K, pt b1 #[.pointer (some ⟨bs, 0, none⟩)] 55, pt b3 #[.int .u64 (loW f), .int .u64 (hiW f)] 61, pt b5 #[.bool false] 4, pt bx9 #[.int .u64 (loW f), .int .u64 (hiW f)] 61]) (.cons (0, true) (.cons (1, true) (.cons (2, true) (.cons (3, true) (.cons (4, true) (.cons (5, false) .nil)))))) 5 mixed (by kernel_rfl) (by kernel_rfl) (by kernel_rfl) ((hM.drop 3).drop 0).drew ?_
    replace hM := hM.drew
    refine D.val hA rfl (by kernel_rfl) (fun _ hM => R.load sz55 rfl (hM.cell (k := 3) rfl rfl)) rfl ?_; clear hA a; intro a hA
    refine D.valF hA rfl (fun _ => R.nilCheck rfl) rfl ?_; clear hA a; intro a hA
    refine D.valF hA rfl (fun _ => R.fieldAddr (q := 3) fi58_3 rfl rfl rfl) rfl ?_; clear hA a; intro a hA
    refine D.val hA rfl (by kernel_rfl) (fun _ hM => R.load sz56 rfl (hM.cell (k := 0) rfl rfl)) rfl ?_; clear hA a; intro a hA
    refine D.val hA rfl (by kernel_rfl) (fun _ hM => R.loadA sz61 rfl (hM.range (k := 4) rfl) rfl) rfl ?_; clear hA a; intro a hA
    obtain ⟨w22, hru, hhu, hgu⟩ := updM_all (p := keyF f) (k := 3) hM rfl
    refine D.skip hA rfl (hru _ _ _ _ _ rfl rfl rfl) (fun _ hne => absurd rfl hne) ?_
    replace hM := hM.updM (k := 3) rfl hhu hgu
    replace hM : Mem _ _ [mpc mb (addK (keyF f) d9), dfr D32, pt bs #[.slice oa ops.length oc, .slice ba X.length bc, .slice ua9 U.length uc9, .map (some mb)] 58, own 3 1 (.slice ua9 U.length uc9) U.length (U.map (Value.int .i64)), K, pt b1 #[.pointer (some ⟨bs, 0, none⟩)] 55, pt b3 #[.int .u64 (loW f), .int .u64 (hiW f)] 61, pt b5 #[.bool false] 4, pt bx9 #[.int .u64 (loW f), .int .u64 (hiW f)] 61] _ := hM
    refine D.doneW ?_
    replace hA : St 75 [(4, _)] a := hA.sub ((.cons rfl .nil))
    refine EndsW.seq ?_
    refine EndsW.region ?_
    refine S.store (k := 7) hA hM sz4 rfl rfl rfl rfl rfl ?_; clear hM
    intro w23 hM
    replace hM : Mem _ _ [mpc mb (addK (keyF f) d9), dfr D32, pt bs #[.slice oa ops.length oc, .slice ba X.length bc, .slice ua9 U.length uc9, .map (some mb)] 58, own 3 1 (.slice ua9 U.length uc9) U.length (U.map (Value.int .i64)), K, pt b1 #[.pointer (some ⟨bs, 0, none⟩)] 55, pt b3 #[.int .u64 (loW f), .int .u64 (hiW f)] 61, pt b5 #[.bool false] 4, pt bx9 #[.int .u64 (loW f), .int .u64 (hiW f)] 61] _ := hM
    refine S.doneW ?_
    refine EndsW.retQ ?_
    replace hM := hM.front (k := 1) rfl
    refine leaveF hA.defers hM (fun w24 hM => ⟨(hA.cellRes (kk := 6) hM Tryd.results21 rfl rfl sz4), ?_⟩)
    replace hM : Mem _ _ [mpc mb (addK (keyF f) d9), pt bs #[.slice oa ops.length oc, .slice ba X.length bc, .slice ua9 U.length uc9, .map (some mb)] 58, own 3 1 (.slice ua9 U.length uc9) U.length (U.map (Value.int .i64)), K, pt b1 #[.pointer (some ⟨bs, 0, none⟩)] 55, pt b3 #[.int .u64 (loW f), .int .u64 (hiW f)] 61, pt b5 #[.bool false] 4, pt bx9 #[.int .u64 (loW f), .int .u64 (hiW f)] 61] _ := hM
    replace hM := hM.front (k := 3) rfl
    replace hM := hM.front (k := 1) rfl
    replace hM := hM.front (k := 3) rfl
    replace hM := hM.front (k := 3) rfl
    replace hM := hM.firstN 4
    rw [← hfin] at hfe
    cases hfe
    exact ⟨ba, X.length, bc, ua9, uc9, rfl, fun _ => ⟨rfl, rfl, rfl⟩, hM⟩
   ·
    clear hM hqx htx hGl hGx
    rintro D33 c9 pre ⟨d9, ua9, uc9, U9, ba9, bn9, bc9, r9⟩ w25 hS9 hx9 hM
    replace hM : Mem _ _ [dfr D33, pt bs #[.slice oa ops.length oc, .slice ba9 bn9 bc9, .slice ua9 U9.length uc9, .map (some mb)] 58, own 3 1 (.slice ua9 U9.length uc9) U9.length (U9.map (Value.int .i64)), mpc mb d9, K, pt b1 #[.pointer (some ⟨bs, 0, none⟩)] 55, pt b3 #[.int .u64 (loW f), .int .u64 (hiW f)] 61, pt b5 #[.bool r9] 4, pt bx9 #[.int .u64 (loW f), .int .u64 (hiW f)] 61] _ := hM
    obtain ⟨hce, rfl, hx9⟩ := hx9
    subst hce
    obtain ⟨r8, hfin, hU8⟩ := hx9 ((eL f 0).drop (vs pre).length) (app_take hS9)
    subst hU8
    replace hM : Mem _ _ [dfr D33, pt bs #[.slice oa ops.length oc, .slice ba9 bn9 bc9, .slice ua9 ((U ++ r8).length) uc9, .map (some mb)] 58, own 3 1 (.slice ua9 (((U ++ r8)).length) uc9) (((U ++ r8)).length) (((U ++ r8)).map (Value.int .i64)), mpc mb d9, K, pt b1 #[.pointer (some ⟨bs, 0, none⟩)] 55, pt b3 #[.int .u64 (loW f), .int .u64 (hiW f)] 61, pt b5 #[.bool true] 4, pt bx9 #[.int .u64 (loW f), .int .u64 (hiW f)] 61] _ := hM
    refine EndsW.retQ ?_
    refine leaveF hA.defers hM (fun w26 hM => ⟨(hA.cellRes (kk := 6) hM Tryd.results21 rfl rfl sz4), ?_⟩)
    replace hM : Mem _ _ [pt bs #[.slice oa ops.length oc, .slice ba9 bn9 bc9, .slice ua9 ((U ++ r8).length) uc9, .map (some mb)] 58, own 3 1 (.slice ua9 (((U ++ r8)).length) uc9) (((U ++ r8)).length) (((U ++ r8)).map (Value.int .i64)), mpc mb d9, K, pt b1 #[.pointer (some ⟨bs, 0, none⟩)] 55, pt b3 #[.int .u64 (loW f), .int .u64 (hiW f)] 61, pt b5 #[.bool true] 4, pt bx9 #[.int .u64 (loW f), .int .u64 (hiW f)] 61] _ := hM
    replace hM := hM.front (k := 3) rfl
    replace hM := hM.front (k := 3) rfl
    replace hM := hM.front (k := 3) rfl
    replace hM := hM.front (k := 3) rfl
    replace hM := hM.firstN 4
    rw [hfin] at hfe
    cases hfe
    exact ⟨ba9, bn9, bc9, ua9, uc9, rfl, fun h => (by cases h), hM⟩
theorem find_all (ops : List HOp) (hol : ops.length ≤ 12) (oa : Option Addr) (oc bs mb : Nat) (n : Nat) : FindAt ops oa oc bs mb n := by
  induction n with
  | zero => intro f X d U ba bc ua uc K o d' hfe hf hn hX hU hK w htab hG hM0; exact find_step ops hol oa oc bs mb 0 (fun k h => absurd h (by omega)) f X d U ba bc ua uc K o d' hfe hf hn hX hU hK w htab hG hM0
  | succ n ih => intro f X d U ba bc ua uc K o d' hfe hf hn hX hU hK w htab hG hM0; exact find_step ops hol oa oc bs mb (n + 1) (fun k h => Nat.succ.inj h ▸ ih) f X d U ba bc ua uc K o d' hfe hf hn hX hU hK w htab hG hM0
def kpo (v : World) (g : Nat) : Ck := ⟨fun b => b < v.heap.size ∧ b ≠ g, fun w => ∀ b, b < v.heap.size → b ≠ g → w.heap[b]? = v.heap[b]?, fun w w' h hw b h1 h2 => (h b ⟨h1, h2⟩).trans (hw b h1 h2)⟩
def kpF (v : World) (g : Nat) : Nat → Prop := fun b => b < v.heap.size ∧ b ≠ g
theorem Mem.takeOld {v w : World} {L : List Ck} (h : Mem v nof L w) (g : Nat) : Mem v (kpF v g) (kpo v g :: L) w := by
  refine ⟨h.os, h.tape, h.output, h.size, fun b hb _ => h.old b hb (fun f => f), fun c hc => ?_, fun c hc b hb => ?_, List.pairwise_cons.2 ⟨fun c hc b hb hf => ?_, h.apart⟩⟩
  · rcases List.mem_cons.1 hc with rfl | hc
    · exact fun b h1 _ => h.old b h1 (fun f => f)
    · exact h.holds c hc
  · rcases List.mem_cons.1 hc with rfl | hc
    · exact ⟨Nat.lt_of_lt_of_le hb.1 h.size, fun _ => hb⟩
    · exact ⟨(h.inb c hc b hb).1, fun g => ((h.inb c hc b hb).2 g).elim⟩
  · exact (h.inb c hc b hf).2 hb.1
theorem Mem.backOld {v w : World} {L : List Ck} {g : Nat} (h : Mem v (kpF v g) (kpo v g :: L) w) : Mem v nof L w := by
  have hk : (kpo v g).holds w := h.holds _ (.head _)
  refine ⟨h.os, h.tape, h.output, h.size, fun b hb _ => ?_, fun c hc => h.holds c (.tail _ hc), fun c hc b hb => ⟨(h.inb c (.tail _ hc) b hb).1, fun hlt => ?_⟩, (List.pairwise_cons.1 h.apart).2⟩
  · by_cases e : b = g
    · exact h.old b hb (fun f => f.2 e)
    · exact hk b hb e
  · have hF := (h.inb c (.tail _ hc) b hb).2 hlt
    exact (List.pairwise_cons.1 h.apart).1 c hc b hF hb
theorem cell_of {v w : World} {b q : Nat} (h : w.heap[b]? = v.heap[b]?) : w.cell? ⟨b, q, none⟩ = v.cell? ⟨b, q, none⟩ := by simp only [World.cell?, h]
theorem lt_of {v w : World} {b : Nat} (hb : b < v.heap.size) (h : w.heap[b]? = v.heap[b]?) : b < w.heap.size := by
  rw [Array.getElem?_eq_getElem hb] at h
  exact (Array.getElem?_eq_some_iff.1 h).1
theorem tab_kind {w : World} {name : String} {zs : List Int} {g q : Nat} {x : Value} (h : Lib.TabIs Tryd.prog w name .u8 zs) (hg : Tryd.prog.globalNamed name = some g) (hx : w.cell? ⟨g, q, none⟩ = some x) : ∃ z, x = .int .u8 z := by
  unfold Lib.TabIs World.var? at h
  rw [hg] at h
  simp only [Option.bind_some] at h
  unfold World.cell? at hx
  cases ho : w.heap[g]? with
  | none => rw [ho] at h; cases h
  | some o =>
    cases o with
    | cells cs t fr =>
      rw [ho] at h hx
      simp only [Option.some.injEq] at h
      subst h
      simp only [List.getElem?_toArray, List.getElem?_map] at hx
      cases hz : zs[q]? with
      | none => rw [hz] at hx; cases hx
      | some z => rw [hz] at hx; exact ⟨z, (Option.some.inj hx).symm⟩
    | _ => rw [ho] at h; cases h
theorem IntSl.kept {v w : World} {s : Value} {X : List Int} {zs : List Int} {name : String} {g : Nat} (h : IntSl v s X) (ht : Lib.TabIs Tryd.prog v name .u8 zs) (hg : Tryd.prog.globalNamed name = some g) (hk : (kpo v g).holds w) : IntSl w s X := by
  obtain ⟨a, c, rfl, h1, h2, h3, h4⟩ := h
  refine ⟨a, c, rfl, h1, h2, h3, fun hne => ?_⟩
  obtain ⟨b, off, rfl, hb, hc⟩ := h4 hne
  have hbg : b ≠ g := fun e => by
    subst e
    have hp : 0 < X.length := List.length_pos_iff.2 hne
    obtain ⟨z, hz⟩ := tab_kind ht hg (hc 0 hp)
    cases hz
  have e := hk b hb hbg
  exact ⟨b, off, rfl, lt_of hb e, fun i hi => (cell_of e).trans (hc i hi)⟩
theorem RowSl.kept {v w : World} {s : Value} {r n : Nat} {X : List Int} {zs : List Int} {name : String} {g : Nat} (h : RowSl v s r n X) (hr : 0 < r) (ht : Lib.TabIs Tryd.prog v name .u8 zs) (hg : Tryd.prog.globalNamed name = some g) (hk : (kpo v g).holds w) : RowSl w s r n X := by
  obtain ⟨a, c, rfl, h1, h2, h3, h4⟩ := h
  refine ⟨a, c, rfl, h1, h2, h3, fun hne => ?_⟩
  obtain ⟨b, off, rfl, hb, hc⟩ := h4 hne
  have hbg : b ≠ g := fun e => by
    subst e
    obtain ⟨z, hz⟩ := tab_kind ht hg (hc 0 (Nat.mul_pos hne hr))
    cases hz
  have e := hk b hb hbg
  exact ⟨b, off, rfl, lt_of hb e, fun i hi => (cell_of e).trans (hc i hi)⟩
theorem RowSl.mem {v w : World} {s : Value} {r n : Nat} {X : List Int} {L : List Ck} (h : RowSl v s r n X) (hM : Mem v nof L w) : RowSl w s r n X := by
  obtain ⟨a, c, rfl, h1, h2, h3, h4⟩ := h
  refine ⟨a, c, rfl, h1, h2, h3, fun hne => ?_⟩
  obtain ⟨b, off, rfl, hb, hc⟩ := h4 hne
  have e := hM.old b hb (fun f => f)
  exact ⟨b, off, rfl, lt_of hb e, fun i hi => (cell_of e).trans (hc i hi)⟩
theorem full21 (n : Nat) (hn : n ≤ 1000) (w : World) : Calls Tryd.prog 22 #[.int .i64 (n : Int)] w fun e w' => e = .returned (.agg #[.int .u64 (loW (lessF n)), .int .u64 (hiW (lessF n))]) ∧ Below w.heap.size w w' := full02 (n : Int) (by omega) (by omega) w
theorem less_lt {n b : Nat} (h : lessF n b = true) : b < n := by unfold lessF at h; simpa using h
theorem less_len {n : Nat} : (eL (lessF n) 0).length ≤ n := by
  rw [eL_len]
  have : ∀ k, cnt (lessF n) k ≤ n := by
    intro k
    induction k with
    | zero => exact Nat.zero_le _
    | succ k ih =>
      rw [cnt]
      split
      · rename_i h; have := less_lt h; have := cnt_le (lessF n) k; omega
      · exact ih
  exact this 128
theorem right_all {ops : List HOp} (h : ∀ j, j < ops.length → rightP (hop ops j) = true) : ops.all rightP = true := by
  refine List.all_eq_true.2 fun o ho => ?_
  obtain ⟨j, hj, rfl⟩ := List.getElem_of_mem ho
  have := h j hj
  unfold hop at this
  rwa [show ops.getD j ⟨0, 0, 0, 0⟩ = ops[j] by simp [List.getD, hj]] at this
theorem right_not {ops : List HOp} {j : Nat} (hj : j < ops.length) (h : rightP (hop ops j) = false) : ops.all rightP = false := by
  cases hq : ops.all rightP with
  | false => rfl
  | true =>
    have := List.all_eq_true.1 hq (hop ops j) (by unfold hop; simp [List.getD, hj])
    rw [h] at this; cases this
end Go.Proofs.YtjjbognomeplbaaDoor
namespace Go.Proofs.YtjjbognomeplbaaDoor
open Go.RowKit
set_option maxRecDepth 100000 in
set_option maxHeartbeats 400000 in
theorem orders21 (sa : Option Addr) (Zs : List Int) (sc : Nat) (oa : Option Addr) (ops : List HOp) (oc : Nat) (w : World) (hs : IntSl w (.slice sa Zs.length sc) Zs) (ho : RowSl w (.slice oa ops.length oc) 4 ops.length (hopv ops)) (htab : Lib.TabIs Tryd.prog w "math/bits.deBruijn64tab" .u8 debT) :
  Calls Tryd.prog 7 #[.slice sa Zs.length sc, .slice oa ops.length oc] w fun e w' => ∃ a c, e = .returned (.tuple #[.slice a (hordP Zs ops).1.length c, .int .i64 (hordP Zs ops).2]) ∧ IntSl w' (.slice a (hordP Zs ops).1.length c) (hordP Zs ops).1 ∧ frs w.heap.size a ∧ Below w.heap.size w w' := by
 have hbs := Below.refl (B := w.heap.size) w
 have hsl := hs.lenB
 have hol9 : ops.length ≤ 9223372036854775807 := by obtain ⟨a9, c9, he9, h91, h92, -⟩ := ho; cases he9; unfold maxLen at h92; omega
 have hM := Mem.start w
 refine Calls.of_ends (vs := [.slice sa Zs.length sc, .slice oa ops.length oc]) Tryd.func7 rfl Tryd.ntmps7 rfl ?_
 intro a hA
 replace hA : St 42 [(0, _), (1, _)] a := hA
 refine Ends.seq (Ends.region ?_)
 refine S.val hA (R.assign rfl) rfl ?_; clear hA a; intro a hA
 refine S.val hA (R.assign rfl) rfl ?_; clear hA a; intro a hA
 refine S.done ?_
 refine Ends.seq (Ends.seq (Ends.region ?_))
 refine S.val hA (R.move rfl) rfl ?_; clear hA a; intro a hA
 refine S.val hA (R.lenS Tryd.underlying23 rfl rfl) rfl ?_; clear hA a; intro a hA
 refine S.val hA (R.move rfl) rfl ?_; clear hA a; intro a hA
 refine S.done ?_
 refine Ends.block ?_
 refine Ends.loop (σ := Nat) (fun k (a : Act) (wv : World) => St 42 [(0, .slice sa Zs.length sc), (1, .slice oa ops.length oc), (9, .slice oa ops.length oc), (10, .int .i64 ((ops.length : Int))), (11, .int .i64 ((k : Int)))] a ∧ Mem w nof [] wv ∧ (k ≤ ops.length) ∧ (∀ j, j < k → rightP (hop ops j) = true)) (fun k => ops.length - k) 0 ⟨hA.sub ((.cons rfl (.cons rfl (.cons rfl (.cons rfl (.cons rfl .nil)))))), hM, (Nat.zero_le _), (fun j hj => absurd hj (Nat.not_lt_zero _))⟩ ?_
 clear hA hM a
 rintro k a w1 ⟨hA, hM, hk, hk2⟩ hNext
 refine Ends.seq (Ends.region ?_)
 refine S.val hA (R.lss rfl rfl) rfl ?_; clear hA a; intro a hA
 refine S.done ?_
 refine Ends.seq ?_
 refine Ends.ite hA rfl (fun hc1 => ?_) (fun hc1 => ?_)
 ·
  refine Ends.skip (Ends.seq (Ends.block (Ends.seq (Ends.region ?_))))
  refine S.val hA (R.idxRow (ho.mem hM) (j := k) sl23 rfl rfl (by omega) (rfl)) rfl ?_; clear hA a; intro a hA
  refine S.val hA (R.loadHop (ho.mem hM) (by omega) sz26 rfl) rfl ?_; clear hA a; intro a hA
  refine S.alloc hA hM info26 rfl rfl ?_; clear hA hM a; intro b2 w2 hb3 hM a hA
  replace hM : Mem _ _ [pt b2 #[.int .i64 0, .int .i64 0, .int .i64 0, .int .i64 0] 26] _ := hM
  refine S.storeA (k := 0) hA hM sz26 rfl rfl rfl rfl rfl rfl ?_; clear hM
  intro w3 hM
  replace hM : Mem _ _ [pt b2 #[.int .i64 ((hop ops k).k), .int .i64 ((hop ops k).i), .int .i64 ((hop ops k).f), .int .i64 ((hop ops k).t)] 26] _ := hM
  refine S.done ?_
  refine Ends.seq (Ends.region ?_)
  refine S.val hA (R.loadA sz26 rfl (hM.range (k := 0) rfl) rfl) rfl ?_; clear hA a; intro a hA
  refine S.call hA (R.callF Tryd.func20 rfl rfl rfl) rfl (right21 (hop ops k) _) ?_; clear hA a
  rintro e w4 ⟨rfl, hb⟩
  replace hM := hM.callB hb; clear hb
  refine ⟨.bool ((rightP (hop ops k))), rfl, fun a hA => ?_⟩
  refine S.val hA (R.not rfl) rfl ?_; clear hA a; intro a hA
  refine S.done ?_
  replace hA : St 42 [(0, _), (1, _), (9, _), (10, _), (11, _), (17, _)] a := hA.sub ((.cons rfl (.cons rfl (.cons rfl (.cons rfl (.cons rfl (.cons rfl .nil)))))))
  refine Ends.iteB hA rfl (fun hc4 => ?_) (fun hc4 => ?_)
  ·
   have hrk : rightP (hop ops k) = false := by simpa using hc4
   refine Ends.seq (Ends.region ?_)
   refine S.val hA (R.assign rfl) rfl ?_; clear hA a; intro a hA
   refine S.val hA (R.assign rfl) rfl ?_; clear hA a; intro a hA
   refine S.done ?_
   refine Ends.ret2 Tryd.func7 Tryd.results7 hA rfl rfl ?_
   have hP : hordP Zs ops = ([], 1) := by unfold hordP; rw [right_not (by omega) hrk, if_neg (by simp)]
   rw [hP]
   exact ⟨none, 0, rfl, ⟨none, 0, rfl, Nat.le_refl _, Nat.zero_le _, fun _ => rfl, fun h => absurd rfl h⟩, fun p hp => (by cases hp), Mem.trans0 hbs hM.nilL⟩
  ·
   have hrk : rightP (hop ops k) = true := by simpa using hc4
   refine Ends.skip (Ends.inBlock (Ends.region ?_))
   refine S.val hA (R.addI rfl rfl (r := ((k : Int)) + 1) rfl (by omega)) rfl ?_; clear hA a; intro a hA
   refine S.val hA (R.move rfl) rfl ?_; clear hA a; intro a hA
   refine S.done ?_
   replace hM := hM.drop 0
   replace hM : Mem _ _ [] _ := hM
   exact hNext ((k + 1)) _ _ ((by show ops.length - (k + 1) < ops.length - k; omega)) ⟨hA.sub ((.cons rfl (.cons rfl (.cons rfl (.cons rfl (.cons rfl .nil)))))), hM, (by omega), (fun j hj => by rcases Nat.lt_or_ge j k with g | g; exact hk2 j g; rw [show j = k by omega]; exact hrk)⟩
 ·
  have hall := right_all (ops := ops) (fun j hj => hk2 j (by omega))
  refine Ends.exit rfl ?_
  replace hA : St 42 [(0, _), (1, _)] a := hA.sub ((.cons rfl (.cons rfl .nil)))
  refine Ends.seq (Ends.seq ?_)
  refine Ends.cut (fun (a : Act) (wv : World) => St 42 [(0, .slice sa Zs.length sc), (1, .slice oa ops.length oc), (26, .bool (decide ((12 < ((ops.length : Int)) ∨ 100 < ((Zs.length : Int))))))] a ∧ Mem w nof [] wv) ?_ (fun k2 hJ => ?_)
  ·
   clear hA hM a; rintro a w5 ⟨hA, hM⟩
   refine Ends.ite hA rfl (fun hc5 => ?_) (fun hc5 => ?_)
   ·
    have hbig := hc5
    refine Ends.seq (Ends.region ?_)
    refine S.val hA (R.assign rfl) rfl ?_; clear hA a; intro a hA
    refine S.val hA (R.assign rfl) rfl ?_; clear hA a; intro a hA
    refine S.done ?_
    refine Ends.ret2 Tryd.func7 Tryd.results7 hA rfl rfl ?_
    have hP : hordP Zs ops = ([], 5) := by unfold hordP; rw [if_pos hall, if_pos (by omega)]
    rw [hP]
    exact ⟨none, 0, rfl, ⟨none, 0, rfl, Nat.le_refl _, Nat.zero_le _, fun _ => rfl, fun h => absurd rfl h⟩, fun p hp => (by cases hp), Mem.trans0 hbs hM.nilL⟩
   ·
    have hbig := hc5
    refine Ends.skip (Ends.seq (Ends.region ?_))
    refine S.val hA (R.move rfl) rfl ?_; clear hA a; intro a hA
    refine S.val hA (R.move rfl) rfl ?_; clear hA a; intro a hA
    refine S.mkMap hA hM rfl ?_; clear hA hM a; intro mb6 w6 hb9 hM a hA
    replace hM : Mem _ _ [mpc mb6 []] _ := hM
    refine S.val hA (R.build (cells := #[.slice oa ops.length oc, .slice sa Zs.length sc, .slice none 0 0, .map (some mb6)]) rfl (by kernel_rfl)) rfl ?_; clear hA a; intro a hA
    refine S.box hA hM rfl rfl ?_; clear hA hM a; intro b7 w7 hb8 hM a hA
    replace hM : Mem _ _ [pt b7 #[.slice oa ops.length oc, .slice sa Zs.length sc, .slice none 0 0, .map (some mb6)] 58, mpc mb6 []] _ := hM
    refine S.val hA (R.assign rfl) rfl ?_; clear hA a; intro a hA
    refine S.done ?_
    replace hA : St 42 [(1, _), (8, _)] a := hA.sub ((.cons rfl (.cons rfl .nil)))
    refine Ends.seq (Ends.seq ?_)
    replace hM := hM.ownNil 3 1
    replace hM : Mem _ _ [own 3 1 (.slice none ((([] : List Int)).length) 0) ((([] : List Int)).length) ((([] : List Int)).map (Value.int .i64)), pt b7 #[.slice oa ops.length oc, .slice sa Zs.length sc, .slice none (([] : List Int).length) 0, .map (some mb6)] 58, mpc mb6 []] _ := hM
    replace hM := hM.takeOld 0
    replace hM : Mem _ _ [kpo w 0, own 3 1 (.slice none ((([] : List Int)).length) 0) ((([] : List Int)).length) ((([] : List Int)).map (Value.int .i64)), pt b7 #[.slice oa ops.length oc, .slice sa Zs.length sc, .slice none (([] : List Int).length) 0, .map (some mb6)] 58, mpc mb6 []] _ := hM
    obtain ⟨o9, d8, hre⟩ : ∃ o d', fnd ops ops.length (lessF ops.length) Zs [] = (o, d') := ⟨_, _, rfl⟩
    by_cases hs9 : o9 = none
    ·
     subst hs9
     refine Ends.region ?_
     refine S.val hA (R.move rfl) rfl ?_; clear hA a; intro a hA
     refine S.val hA (R.move rfl) rfl ?_; clear hA a; intro a hA
     refine S.val hA (R.lenS Tryd.underlying23 rfl rfl) rfl ?_; clear hA a; intro a hA
     refine S.call hA (R.callF Tryd.func22 rfl rfl rfl) rfl (full21 ops.length (by omega) _) ?_; clear hA a
     rintro e w8 ⟨rfl, hb⟩
     replace hM := hM.callB hb; clear hb
     refine ⟨.agg #[.int .u64 (loW (lessF ops.length)), .int .u64 (hiW (lessF ops.length))], rfl, fun a hA => ?_⟩
     replace hM := hM.front (k := 3) rfl
     replace hM := hM.front (k := 2) rfl
     replace hM := hM.front (k := 3) rfl
     replace hM : Mem _ _ [pt b7 #[.slice oa ops.length oc, .slice sa Zs.length sc, .slice none (([] : List Int).length) 0, .map (some mb6)] 58, own 3 1 (.slice none ((([] : List Int)).length) 0) ((([] : List Int)).length) ((([] : List Int)).map (Value.int .i64)), mpc mb6 [], kpo w 0] _ := hM
     refine S.call hA (R.callF Tryd.func21 rfl rfl rfl) rfl (find_all ops (by omega) oa oc b7 mb6 ops.length (lessF ops.length) Zs [] [] sa sc none 0 (kpo w 0) none d8 hre (fun b hb => less_lt hb) less_len (by omega) (by show 0 + ops.length ≤ 200; omega) (fun w' hk => ⟨hs.kept htab (by kernel_rfl) hk, ho.kept (by decide) htab (by kernel_rfl) hk⟩) _ (tab_at htab (g := 0) (by kernel_rfl) (hM.old _ (tab_lt htab (by kernel_rfl)) (fun g => g.2 rfl))) ((hM.firstN 4).notFoot (tab_lt htab (by kernel_rfl)) (fun g => g.2 rfl)) (hM.hereN 4)) ?_; clear hA a
     rintro e w9 ⟨ba10, bn11, bc12, ua13, uc14, rfl, -, hn⟩
     replace hM : Mem _ _ [pt b7 #[.slice oa ops.length oc, .slice ba10 bn11 bc12, .slice ua13 (([] : List Int).length) uc14, .map (some mb6)] 58, own 3 1 (.slice ua13 ((([] : List Int)).length) uc14) ((([] : List Int)).length) ((([] : List Int)).map (Value.int .i64)), mpc mb6 d8, kpo w 0] _ := hM.callL 4 hn; clear hn
     refine ⟨.bool false, rfl, fun a hA => ?_⟩
     refine S.val hA (R.not rfl) rfl ?_; clear hA a; intro a hA
     refine S.done ?_
     replace hM := hM.front (k := 3) rfl
     replace hM := hM.backOld
     replace hM : Mem _ _ [pt b7 #[.slice oa ops.length oc, .slice ba10 bn11 bc12, .slice ua13 (([] : List Int).length) uc14, .map (some mb6)] 58, own 3 1 (.slice ua13 ((([] : List Int)).length) uc14) ((([] : List Int)).length) ((([] : List Int)).map (Value.int .i64)), mpc mb6 d8] _ := hM
     replace hA : St 42 [(8, _), (37, _)] a := hA.sub ((.cons rfl (.cons rfl .nil)))
     refine Ends.condT hA rfl ?_
     refine Ends.seq (Ends.region ?_)
     refine S.val hA (R.assign rfl) rfl ?_; clear hA a; intro a hA
     refine S.val hA (R.assign rfl) rfl ?_; clear hA a; intro a hA
     refine S.done ?_
     refine Ends.ret2 Tryd.func7 Tryd.results7 hA rfl rfl ?_
     have hP : hordP Zs ops = ([], 11) := by unfold hordP; rw [if_pos hall, if_neg (by omega), hre]
     rw [hP]
     exact ⟨none, 0, rfl, ⟨none, 0, rfl, Nat.le_refl _, Nat.zero_le _, fun _ => rfl, fun h => absurd rfl h⟩, fun p hp => (by cases hp), Mem.trans0 hbs hM.nilL⟩
    ·
     obtain ⟨r9, rfl⟩ : ∃ r, o9 = some r := by cases o9 with | none => exact absurd rfl hs9 | some r => exact ⟨r, rfl⟩
     refine Ends.region ?_
     refine S.val hA (R.move rfl) rfl ?_; clear hA a; intro a hA
     refine S.val hA (R.move rfl) rfl ?_; clear hA a; intro a hA
     refine S.val hA (R.lenS Tryd.underlying23 rfl rfl) rfl ?_; clear hA a; intro a hA
     refine S.call hA (R.callF Tryd.func22 rfl rfl rfl) rfl (full21 ops.length (by omega) _) ?_; clear hA a
     rintro e w10 ⟨rfl, hb⟩
     replace hM := hM.callB hb; clear hb
     refine ⟨.agg #[.int .u64 (loW (lessF ops.length)), .int .u64 (hiW (lessF ops.length))], rfl, fun a hA => ?_⟩
     replace hM := hM.front (k := 3) rfl
     replace hM := hM.front (k := 2) rfl
     replace hM := hM.front (k := 3) rfl
     replace hM : Mem _ _ [pt b7 #[.slice oa ops.length oc, .slice sa Zs.length sc, .slice none (([] : List Int).length) 0, .map (some mb6)] 58, own 3 1 (.slice none ((([] : List Int)).length) 0) ((([] : List Int)).length) ((([] : List Int)).map (Value.int .i64)), mpc mb6 [], kpo w 0] _ := hM
     refine S.call hA (R.callF Tryd.func21 rfl rfl rfl) rfl (find_all ops (by omega) oa oc b7 mb6 ops.length (lessF ops.length) Zs [] [] sa sc none 0 (kpo w 0) (some r9) d8 hre (fun b hb => less_lt hb) less_len (by omega) (by show 0 + ops.length ≤ 200; omega) (fun w' hk => ⟨hs.kept htab (by kernel_rfl) hk, ho.kept (by decide) htab (by kernel_rfl) hk⟩) _ (tab_at htab (g := 0) (by kernel_rfl) (hM.old _ (tab_lt htab (by kernel_rfl)) (fun g => g.2 rfl))) ((hM.firstN 4).notFoot (tab_lt htab (by kernel_rfl)) (fun g => g.2 rfl)) (hM.hereN 4)) ?_; clear hA a
     rintro e w11 ⟨ba15, bn16, bc17, ua18, uc19, rfl, -, hn⟩
     replace hM : Mem _ _ [pt b7 #[.slice oa ops.length oc, .slice ba15 bn16 bc17, .slice ua18 r9.length uc19, .map (some mb6)] 58, own 3 1 (.slice ua18 r9.length uc19) r9.length (r9.map (Value.int .i64)), mpc mb6 d8, kpo w 0] _ := hM.callL 4 hn; clear hn
     refine ⟨.bool true, rfl, fun a hA => ?_⟩
     refine S.val hA (R.not rfl) rfl ?_; clear hA a; intro a hA
     refine S.done ?_
     replace hM := hM.front (k := 3) rfl
     replace hM := hM.backOld
     replace hM : Mem _ _ [pt b7 #[.slice oa ops.length oc, .slice ba15 bn16 bc17, .slice ua18 r9.length uc19, .map (some mb6)] 58, own 3 1 (.slice ua18 r9.length uc19) r9.length (r9.map (Value.int .i64)), mpc mb6 d8] _ := hM
     replace hA : St 42 [(8, _), (37, _)] a := hA.sub ((.cons rfl (.cons rfl .nil)))
     refine Ends.condF hA rfl ?_
     refine Ends.skip (Ends.seq (Ends.region ?_))
     refine S.val hA (R.move rfl) rfl ?_; clear hA a; intro a hA
     refine S.val hA (R.nilCheck rfl) rfl ?_; clear hA a; intro a hA
     refine S.val hA (R.fieldAddr (q := 2) fi58_2 rfl rfl rfl) rfl ?_; clear hA a; intro a hA
     refine S.val hA (R.load sz22 rfl (hM.cell (k := 0) rfl rfl)) rfl ?_; clear hA a; intro a hA
     refine S.val hA (R.assign rfl) rfl ?_; clear hA a; intro a hA
     refine S.val hA (R.assign rfl) rfl ?_; clear hA a; intro a hA
     refine S.done ?_
     replace hA : St 42 [(4, _), (5, _)] a := hA.sub ((.cons rfl (.cons rfl .nil)))
     refine Ends.ret2 Tryd.func7 Tryd.results7 hA rfl rfl ?_
     have hP : hordP Zs ops = (r9, 0) := by unfold hordP; rw [if_pos hall, if_neg (by omega), hre]
     rw [hP]
     exact ⟨ua18, uc19, rfl, hM.rsl (k := 1) rfl, hM.ownFresh (k := 1) rfl, Mem.trans0 hbs hM.nilL⟩
  ·
   refine Ends.region ?_
   refine S.val hA (R.move rfl) rfl ?_; clear hA a; intro a hA
   refine S.val hA (R.lenS Tryd.underlying23 rfl rfl) rfl ?_; clear hA a; intro a hA
   refine S.val hA (R.gtr rfl rfl) rfl ?_; clear hA a; intro a hA
   refine S.val hA (R.move rfl) rfl ?_; clear hA a; intro a hA
   refine hA.split (d := 22) rfl ?_ ?_
   ·
    clear hA; intro hg20 hA
    refine S.no (dj := 22) hA (by kernel_rfl) rfl rfl rfl ?_; clear hA a; intro a hA
    refine S.no (dj := 22) hA (by kernel_rfl) rfl rfl rfl ?_; clear hA a; intro a hA
    refine S.no (dj := 22) hA (by kernel_rfl) rfl rfl rfl ?_; clear hA a; intro a hA
    refine S.val hA (R.pickT rfl rfl) rfl ?_; clear hA a; intro a hA
    refine S.done ?_
    replace hA : St 42 [(0, _), (1, _), (26, _)] a := hA.sub ((.cons rfl (.cons rfl (.cons rfl .nil))))
    exact hJ _ _ ⟨hA.sub (.cons rfl (.cons rfl (.cons (by first | rfl | exact congrArg (fun b => some (Value.bool b)) (by first | exact decide_eq_decide.2 (by omega) | exact or_bool (by omega) | exact and_bool (by omega) | (simp; done) | (simp [hg20]; done) | (have h80 := hg20; (try simp at h80); simp [h80]; done) | exact (decide_eq_false (fun h9 => hg20 h9.1)).symm)) .nil))), hM⟩
   ·
    clear hA; intro hg20 hA
    refine S.valg (dj := 22) hA (by kernel_rfl) rfl (R.move rfl) rfl ?_; clear hA a; intro a hA
    refine S.valg (dj := 22) hA (by kernel_rfl) rfl (R.lenS Tryd.underlying22 rfl rfl) rfl ?_; clear hA a; intro a hA
    refine S.valg (dj := 22) hA (by kernel_rfl) rfl (R.gtr rfl rfl) rfl ?_; clear hA a; intro a hA
    refine S.val hA (R.pickF rfl rfl) rfl ?_; clear hA a; intro a hA
    refine S.done ?_
    replace hA : St 42 [(0, _), (1, _), (26, _)] a := hA.sub ((.cons rfl (.cons rfl (.cons rfl .nil))))
    exact hJ _ _ ⟨hA.sub (.cons rfl (.cons rfl (.cons (by first | rfl | exact congrArg (fun b => some (Value.bool b)) (by first | exact decide_eq_decide.2 (by omega) | exact or_bool (by omega) | exact and_bool (by omega) | (simp; done) | (simp [hg20]; done) | (have h80 := hg20; (try simp at h80); simp [h80]; done) | exact (decide_eq_false (fun h9 => hg20 h9.1)).symm)) .nil))), hM⟩
end Go.Proofs.YtjjbognomeplbaaDoor
namespace Go.Proofs.YtjjbognomeplbaaDoor
open Go.RowKit
def iof : Nat → Nat → List Int
  | _, 0 => []
  | a, n + 1 => (a : Int) :: iof (a + 1) n
theorem iof_len : ∀ n a, (iof a n).length = n
  | 0, _ => rfl
  | n + 1, a => by rw [iof, List.length_cons, iof_len n]
theorem iof_snoc : ∀ n a, iof a n ++ [((a + n : Nat) : Int)] = iof a (n + 1)
  | 0, a => rfl
  | n + 1, a => by
    rw [iof, List.cons_append, show a + (n + 1) = (a + 1) + n by omega, iof_snoc n (a + 1)]
    rfl
theorem hP1 : hordP [] [⟨2, -1, 0, 5⟩, ⟨1, 7, 1, 2⟩] = ([0, 1], 0) := by decide +kernel
theorem hP2 : hordP [] [⟨2, 7, 0, 1⟩, ⟨1, 7, 2, 3⟩] = ([], 11) := by decide +kernel
def hopV (l : List HOp) : List Value := (hopv l).map (Value.int .i64)
theorem hopV_app (l : List HOp) (o : HOp) : hopV l ++ [.int .i64 o.k, .int .i64 o.i, .int .i64 o.f, .int .i64 o.t] = hopV (l ++ [o]) := by
  unfold hopV; rw [hopv_app]; simp [hopv]
end Go.Proofs.YtjjbognomeplbaaDoor
namespace Go.Proofs.YtjjbognomeplbaaDoor
open Go.RowKit
theorem lt_of_cell' {w : World} {b o : Nat} {v : Value} (h : w.cell? ⟨b, o, none⟩ = some v) : b < w.heap.size := by
  unfold World.cell? at h
  cases ho : w.heap[b]? with
  | none => rw [ho] at h; cases h
  | some x => exact (Array.getElem?_eq_some_iff.1 ho).1
theorem Mem.ptRow {w0 w : World} {F : Nat → Prop} {L : List Ck} {k b : Nat} {ops : List HOp} {cs : List Value} {t : TypeId} (hM : Mem w0 F L w) (hk : ith L k = some (pt b cs.toArray t)) (hc : cs = hopV ops) (hm : ops.length ≤ 100000) : RowSl w (.slice (some ⟨b, 0, none⟩) ops.length ops.length) 4 ops.length (hopv ops) := by
  subst hc
  refine ⟨_, _, rfl, Nat.le_refl _, by unfold maxLen; omega, hopv_len ops, fun _ => ⟨b, 0, rfl, hM.lt hk, fun i hi => ?_⟩⟩
  rw [Nat.zero_add]
  refine hM.cell hk ?_
  have hl := hopv_len ops
  unfold hopV
  simp only [List.getElem?_toArray]
  exact mapi_get (hopv ops) i (by omega)
theorem Mem.ownRow {w0 w : World} {F : Nat → Prop} {L : List Ck} {k c : Nat} {a : Option Addr} {ops : List HOp} {t : TypeId} (hM : Mem w0 F L w) (hk : ith L k = some (own t 4 (.slice a ops.length c) ops.length (hopV ops))) : RowSl w (.slice a ops.length c) 4 ops.length (hopv ops) := by
  obtain ⟨a', c', he, h1, h2, h3, h4, h5⟩ := hM.ownForm hk
  cases he
  refine ⟨a, c, rfl, h1, h2, hopv_len ops, fun hp => ?_⟩
  obtain ⟨g, rfl⟩ := hM.ownAt hk hp
  have hl := hopv_len ops
  refine ⟨g, 0, rfl, ?_, fun i hi => ?_⟩
  · have h9 := hM.ownCell hk (i := 0) (u := .int .i64 ((hopv ops).getD 0 0)) (mapi_get (hopv ops) 0 (by omega))
    exact lt_of_cell' h9
  · rw [Nat.zero_add]
    exact hM.ownCell hk (mapi_get (hopv ops) i (by omega))
set_option maxRecDepth 100000 in
set_option maxHeartbeats 400000 in
theorem same21 (ax : Option Addr) (X : List Int) (cx : Nat) (ay : Option Addr) (cy : Nat) (w : World) (hx : IntSl w (.slice ax X.length cx) X) (hy : IntSl w (.slice ay X.length cy) X) :
  Calls Tryd.prog 8 #[.slice ax X.length cx, .slice ay X.length cy] w fun e w' => e = .returned (.bool true) ∧ Below w.heap.size w w' := by
 have hbs := Below.refl (B := w.heap.size) w
 have hlX := hx.lenB
 have hM := Mem.start w
 refine Calls.of_ends (vs := [.slice ax X.length cx, .slice ay X.length cy]) Tryd.func8 rfl Tryd.ntmps8 rfl ?_
 intro a hA
 replace hA : St 26 [(0, _), (1, _)] a := hA
 refine Ends.seq (Ends.region ?_)
 refine S.val hA (R.assign rfl) rfl ?_; clear hA a; intro a hA
 refine S.done ?_
 refine Ends.seq (Ends.seq (Ends.region ?_))
 refine S.val hA (R.move rfl) rfl ?_; clear hA a; intro a hA
 refine S.val hA (R.lenS Tryd.underlying22 rfl rfl) rfl ?_; clear hA a; intro a hA
 refine S.val hA (R.move rfl) rfl ?_; clear hA a; intro a hA
 refine S.val hA (R.lenS Tryd.underlying22 rfl rfl) rfl ?_; clear hA a; intro a hA
 refine S.val hA (R.ff (R.neq rfl rfl) (by first | decide | simp | omega)) rfl ?_; clear hA a; intro a hA
 refine S.done ?_
 replace hA : St 26 [(0, _), (1, _), (10, _)] a := hA.sub ((.cons rfl (.cons rfl (.cons rfl .nil))))
 refine Ends.condF hA rfl ?_
 refine Ends.skip (Ends.seq (Ends.seq (Ends.region ?_)))
 refine S.val hA (R.assign rfl) rfl ?_; clear hA a; intro a hA
 refine S.done ?_
 refine Ends.block ?_
 refine Ends.loop (σ := Nat) (fun k (a : Act) (wv : World) => St 26 [(0, .slice ax X.length cx), (1, .slice ay X.length cy), (5, .int .i64 ((k : Int)))] a ∧ Mem w nof [] wv ∧ (k ≤ X.length)) (fun k => X.length - k) 0 ⟨hA.sub ((.cons rfl (.cons rfl (.cons rfl .nil)))), hM, (Nat.zero_le _)⟩ ?_
 clear hA hM a
 rintro k a w1 ⟨hA, hM, hk⟩ hNext
 refine Ends.seq (Ends.seq (Ends.region ?_))
 refine S.val hA (R.move rfl) rfl ?_; clear hA a; intro a hA
 refine S.val hA (R.move rfl) rfl ?_; clear hA a; intro a hA
 refine S.val hA (R.lenS Tryd.underlying22 rfl rfl) rfl ?_; clear hA a; intro a hA
 refine S.val hA (R.lss rfl rfl) rfl ?_; clear hA a; intro a hA
 refine S.done ?_
 refine Ends.ite hA rfl (fun hc1 => ?_) (fun hc1 => ?_)
 ·
  refine Ends.skip (Ends.seq (Ends.block (Ends.seq ?_)))
  refine Ends.drawn (Mem w nof []) (.cons (0, true) (.cons (1, true) (.cons (2, true) (.cons (3, true) (.cons (4, true) (.cons (5, true) (.cons (6, true) (.cons (7, true) (.cons (8, true) .nil))))))))) 9 mixed (by kernel_rfl) (by kernel_rfl) (by kernel_rfl) hM.drew ?_
  replace hM := hM.drew
  refine D.valF hA rfl (fun _ => R.move rfl) rfl ?_; clear hA a; intro a hA
  refine D.valF hA rfl (fun _ => R.move rfl) rfl ?_; clear hA a; intro a hA
  refine D.valF hA rfl (fun _ => R.idxI hx (j := k) sl22 rfl rfl (by omega) (rfl)) rfl ?_; clear hA a; intro a hA
  refine D.val hA rfl (by kernel_rfl) (fun _ hM => R.loadI (hx.mem hM) sz3 rfl (by omega)) rfl ?_; clear hA a; intro a hA
  refine D.valF hA rfl (fun _ => R.move rfl) rfl ?_; clear hA a; intro a hA
  refine D.valF hA rfl (fun _ => R.move rfl) rfl ?_; clear hA a; intro a hA
  refine D.valF hA rfl (fun _ => R.idxI hy (j := k) sl22 rfl rfl (by omega) (rfl)) rfl ?_; clear hA a; intro a hA
  refine D.val hA rfl (by kernel_rfl) (fun _ hM => R.loadI (hy.mem hM) sz3 rfl (by omega)) rfl ?_; clear hA a; intro a hA
  refine D.valF hA rfl (fun _ => R.ff (R.neq rfl rfl) (not_not_intro rfl)) rfl ?_; clear hA a; intro a hA
  refine D.done ?_
  replace hA : St 26 [(0, _), (1, _), (5, _), (25, _)] a := hA.sub ((.cons rfl (.cons rfl (.cons rfl (.cons rfl .nil)))))
  refine Ends.condF hA rfl ?_
  refine Ends.skip (Ends.inBlock (Ends.region ?_))
  refine S.val hA (R.move rfl) rfl ?_; clear hA a; intro a hA
  refine S.val hA (R.addI rfl rfl (r := ((k : Int)) + 1) rfl (by omega)) rfl ?_; clear hA a; intro a hA
  refine S.val hA (R.assign rfl) rfl ?_; clear hA a; intro a hA
  refine S.done ?_
  exact hNext ((k + 1)) _ _ ((by show X.length - (k + 1) < X.length - k; omega)) ⟨hA.sub ((.cons rfl (.cons rfl (.cons rfl .nil)))), hM, (by omega)⟩
 ·
  refine Ends.exit rfl ?_
  replace hA : St 26 [] a := hA.sub (.nil)
  refine Ends.seq (Ends.region ?_)
  refine S.val hA (R.assign rfl) rfl ?_; clear hA a; intro a hA
  refine S.done ?_
  refine Ends.ret1 Tryd.func8 Tryd.results8 hA rfl ?_
  exact ⟨rfl, Mem.trans0 hbs hM.nilL⟩
theorem orders_eq (sa : Option Addr) (Zs : List Int) (sc : Nat) (oa : Option Addr) (ops : List HOp) (oc : Nat) {r : List Int} {er : Int} (hP : hordP Zs ops = (r, er)) (w : World) (hs : IntSl w (.slice sa Zs.length sc) Zs) (ho : RowSl w (.slice oa ops.length oc) 4 ops.length (hopv ops)) (htab : Lib.TabIs Tryd.prog w "math/bits.deBruijn64tab" .u8 debT) :
    Calls Tryd.prog 7 #[.slice sa Zs.length sc, .slice oa ops.length oc] w fun e w' => ∃ a c, e = .returned (.tuple #[.slice a r.length c, .int .i64 er]) ∧ IntSl w' (.slice a r.length c) r ∧ frs w.heap.size a ∧ Below w.heap.size w w' := by
  have h := orders21 sa Zs sc oa ops oc w hs ho htab
  rwa [hP] at h
theorem int_nil (w : World) : IntSl w (.slice none 0 0) [] := ⟨none, 0, rfl, Nat.le_refl _, Nat.zero_le _, fun _ => rfl, fun h => absurd rfl h⟩
set_option maxRecDepth 100000 in
set_option maxHeartbeats 400000 in
theorem hists21  (w : World) (htab : Lib.TabIs Tryd.prog w "math/bits.deBruijn64tab" .u8 debT) :
  Calls Tryd.prog 6 #[] w fun e w' => e = .returned (.bool true) ∧ Below w.heap.size w w' := by
 have hbs := Below.refl (B := w.heap.size) w
 have hM := Mem.start w
 refine Calls.of_ends (vs := []) Tryd.func6 rfl Tryd.ntmps6 rfl ?_
 intro a hA
 replace hA : St 30 [] a := hA
 refine Ends.seq (Ends.region ?_)
 refine S.val hA (R.assign rfl) rfl ?_; clear hA a; intro a hA
 refine S.done ?_
 refine Ends.seq (Ends.region ?_)
 refine S.val hA (R.build (cells := #[.int .i64 2, .int .i64 (-1), .int .i64 0, .int .i64 5]) rfl (by kernel_rfl)) rfl ?_; clear hA a; intro a hA
 refine S.val hA (R.build (cells := #[.int .i64 1, .int .i64 7, .int .i64 1, .int .i64 2]) rfl (by kernel_rfl)) rfl ?_; clear hA a; intro a hA
 refine S.buildSl (cells := #[.int .i64 2, .int .i64 (-1), .int .i64 0, .int .i64 5, .int .i64 1, .int .i64 7, .int .i64 1, .int .i64 2]) hA hM Tryd.underlying23 info26 rfl rfl rfl rfl (by kernel_rfl) rfl ?_; clear hA hM a; intro b1 w1 hb2 hM a hA
 replace hM : Mem _ _ [pt b1 #[.int .i64 2, .int .i64 (-1), .int .i64 0, .int .i64 5, .int .i64 1, .int .i64 7, .int .i64 1, .int .i64 2] 26] _ := hM
 refine S.call hA (R.callF Tryd.func7 rfl rfl rfl) rfl (orders_eq none ([]) 0 ((some ⟨b1, 0, none⟩)) ([⟨2, -1, 0, 5⟩, ⟨1, 7, 1, 2⟩]) 2 hP1 _ (int_nil _) (hM.ptRow (k := 0) (ops := [⟨2, -1, 0, 5⟩, ⟨1, 7, 1, 2⟩]) rfl rfl (by decide)) (tab_below htab (Mem.trans0 hbs hM.nilL))) ?_; clear hA a
 rintro e w2 ⟨ra3, rc4, rfl, hr5, hf6, hb⟩
 replace hM : Mem _ _ [rd ra3 rc4 (([0, 1] : List Int)), pt b1 #[.int .i64 2, .int .i64 (-1), .int .i64 0, .int .i64 5, .int .i64 1, .int .i64 7, .int .i64 1, .int .i64 2] 26] _ := hM.callRd hb hr5 hf6; clear hb
 refine ⟨.tuple #[.slice ra3 ((([0, 1] : List Int)).length) rc4, .int .i64 0], rfl, fun a hA => ?_⟩
 refine S.val hA (R.move rfl) rfl ?_; clear hA a; intro a hA
 refine S.val hA (R.extract (v := .slice ra3 ((([0, 1] : List Int)).length) rc4) rfl rfl) rfl ?_; clear hA a; intro a hA
 refine S.val hA (R.extract (v := .int .i64 0) rfl rfl) rfl ?_; clear hA a; intro a hA
 refine S.val hA (R.assign rfl) rfl ?_; clear hA a; intro a hA
 refine S.val hA (R.assign rfl) rfl ?_; clear hA a; intro a hA
 refine S.done ?_
 replace hA : St 30 [(1, _), (2, _)] a := hA.sub ((.cons rfl (.cons rfl .nil)))
 refine Ends.seq (Ends.region ?_)
 refine S.val hA (R.build (cells := #[.int .i64 2, .int .i64 7, .int .i64 0, .int .i64 1]) rfl (by kernel_rfl)) rfl ?_; clear hA a; intro a hA
 refine S.val hA (R.build (cells := #[.int .i64 1, .int .i64 7, .int .i64 2, .int .i64 3]) rfl (by kernel_rfl)) rfl ?_; clear hA a; intro a hA
 refine S.buildSl (cells := #[.int .i64 2, .int .i64 7, .int .i64 0, .int .i64 1, .int .i64 1, .int .i64 7, .int .i64 2, .int .i64 3]) hA hM Tryd.underlying23 info26 rfl rfl rfl rfl (by kernel_rfl) rfl ?_; clear hA hM a; intro b7 w3 hb8 hM a hA
 replace hM : Mem _ _ [pt b7 #[.int .i64 2, .int .i64 7, .int .i64 0, .int .i64 1, .int .i64 1, .int .i64 7, .int .i64 2, .int .i64 3] 26, rd ra3 rc4 (([0, 1] : List Int)), pt b1 #[.int .i64 2, .int .i64 (-1), .int .i64 0, .int .i64 5, .int .i64 1, .int .i64 7, .int .i64 1, .int .i64 2] 26] _ := hM
 refine S.call hA (R.callF Tryd.func7 rfl rfl rfl) rfl (orders_eq none ([]) 0 ((some ⟨b7, 0, none⟩)) ([⟨2, 7, 0, 1⟩, ⟨1, 7, 2, 3⟩]) 2 hP2 _ (int_nil _) (hM.ptRow (k := 0) (ops := [⟨2, 7, 0, 1⟩, ⟨1, 7, 2, 3⟩]) rfl rfl (by decide)) (tab_below htab (Mem.trans0 hbs hM.nilL))) ?_; clear hA a
 rintro e w4 ⟨ra9, rc10, rfl, hr11, hf12, hb⟩
 replace hM : Mem _ _ [rd ra9 rc10 (([] : List Int)), pt b7 #[.int .i64 2, .int .i64 7, .int .i64 0, .int .i64 1, .int .i64 1, .int .i64 7, .int .i64 2, .int .i64 3] 26, rd ra3 rc4 (([0, 1] : List Int)), pt b1 #[.int .i64 2, .int .i64 (-1), .int .i64 0, .int .i64 5, .int .i64 1, .int .i64 7, .int .i64 1, .int .i64 2] 26] _ := hM.callRd hb hr11 hf12; clear hb
 refine ⟨.tuple #[.slice ra9 ((([] : List Int)).length) rc10, .int .i64 11], rfl, fun a hA => ?_⟩
 refine S.val hA (R.move rfl) rfl ?_; clear hA a; intro a hA
 refine S.val hA (R.extract (v := .slice ra9 ((([] : List Int)).length) rc10) rfl rfl) rfl ?_; clear hA a; intro a hA
 refine S.val hA (R.extract (v := .int .i64 11) rfl rfl) rfl ?_; clear hA a; intro a hA
 refine S.val hA (R.assign rfl) rfl ?_; clear hA a; intro a hA
 refine S.val hA (R.assign rfl) rfl ?_; clear hA a; intro a hA
 refine S.done ?_
 replace hA : St 30 [(1, _), (2, _), (4, _)] a := hA.sub ((.cons rfl (.cons rfl (.cons rfl .nil))))
 refine Ends.seq (Ends.region ?_)
 refine S.val hA (R.move rfl) rfl ?_; clear hA a; intro a hA
 refine S.val hA (R.tt (R.eql rfl rfl) (by first | decide | simp | omega)) rfl ?_; clear hA a; intro a hA
 refine S.val hA (R.move rfl) rfl ?_; clear hA a; intro a hA
 refine S.valg (dj := 21) hA (by kernel_rfl) rfl (R.move rfl) rfl ?_; clear hA a; intro a hA
 refine S.buildSlg (dj := 21) (cells := #[.int .i64 0, .int .i64 1]) hA hM (by kernel_rfl) rfl Tryd.underlying22 info3 rfl rfl rfl rfl (by kernel_rfl) rfl ?_; clear hA hM a; intro b13 w5 hb14 hM a hA
 replace hM : Mem _ _ [pt b13 #[.int .i64 0, .int .i64 1] 3, rd ra9 rc10 (([] : List Int)), pt b7 #[.int .i64 2, .int .i64 7, .int .i64 0, .int .i64 1, .int .i64 1, .int .i64 7, .int .i64 2, .int .i64 3] 26, rd ra3 rc4 (([0, 1] : List Int)), pt b1 #[.int .i64 2, .int .i64 (-1), .int .i64 0, .int .i64 5, .int .i64 1, .int .i64 7, .int .i64 1, .int .i64 2] 26] _ := hM
 refine S.callg (dj := 21) hA (by kernel_rfl) rfl (R.callF Tryd.func8 rfl rfl rfl) rfl (same21 ra3 (([0, 1] : List Int)) rc4 (some ⟨b13, 0, none⟩) 2 _ (hM.rd (k := 3) rfl) (hM.ptRs (k := 0) (X := [0, 1]) rfl (by decide))) ?_; clear hA a
 rintro e w6 ⟨rfl, hb⟩
 replace hM := hM.callB hb; clear hb
 refine ⟨.bool true, rfl, fun a hA => ?_⟩
 refine S.val hA (R.pickT rfl rfl) rfl ?_; clear hA a; intro a hA
 refine S.val hA (R.move rfl) rfl ?_; clear hA a; intro a hA
 refine S.valg (dj := 26) hA (by kernel_rfl) rfl (R.move rfl) rfl ?_; clear hA a; intro a hA
 refine S.valg (dj := 26) hA (by kernel_rfl) rfl (R.tt (R.eql rfl rfl) (by first | decide | simp | omega)) rfl ?_; clear hA a; intro a hA
 refine S.val hA (R.pickT rfl rfl) rfl ?_; clear hA a; intro a hA
 refine S.val hA (R.assign rfl) rfl ?_; clear hA a; intro a hA
 refine S.done ?_
 replace hA : St 30 [(0, _)] a := hA.sub ((.cons rfl .nil))
 refine Ends.ret1 Tryd.func6 Tryd.results6 hA rfl ?_
 exact ⟨rfl, Mem.trans0 hbs hM.nilL⟩
end Go.Proofs.YtjjbognomeplbaaDoor
namespace Go.Proofs.YtjjbognomeplbaaDoor
open Go.RowKit
structure HEnt where
  k : Int
  i : Int
  f : Int
  t : Int
  e : Bool
def ent (l : List HEnt) (j : Nat) : HEnt := l.getD j ⟨0, 0, 0, 0, false⟩
def entC (x : HEnt) : List Value := [.int .i64 x.k, .int .i64 x.i, .int .i64 x.f, .int .i64 x.t, .bool x.e]
def entV : List HEnt → List Value
  | [] => []
  | x :: l => entC x ++ entV l
theorem entV_cat : ∀ l m : List HEnt, entV (l ++ m) = entV l ++ entV m
  | [], m => rfl
  | x :: l, m => by simp only [List.cons_append, entV, entV_cat l m, List.append_assoc]
theorem entV_app (l : List HEnt) (x : HEnt) : entV l ++ [.int .i64 x.k, .int .i64 x.i, .int .i64 x.f, .int .i64 x.t, .bool x.e] = entV (l ++ [x]) := by
  rw [entV_cat]; simp [entV, entC]
theorem entV_row : ∀ (l : List HEnt) (m : Nat), m < l.length → ∀ j v, (entC (ent l m))[j]? = some v → (entV l)[m * 5 + j]? = some v
  | [], m, h => absurd h (Nat.not_lt_zero _)
  | x :: l, 0, _ => fun j v hv => by
    have hj : j < (entC x).length := (List.getElem?_eq_some_iff.1 hv).1
    rw [entV, Nat.zero_mul, Nat.zero_add, List.getElem?_append_left hj]; exact hv
  | x :: l, m + 1, h => fun j v hv => by
    have := entV_row l m (by simpa using h) j v hv
    rw [entV, List.getElem?_append_right (by simp [entC]; omega)]
    rw [show (m + 1) * 5 + j - (entC x).length = m * 5 + j by simp [entC]; omega]
    exact this
theorem entV_set : ∀ (l : List HEnt) (m : Nat), m < l.length → ∀ (j : Nat) (v : Value) (y : HEnt), j < 5 → (entC (ent l m)).set j v = entC y → (entV l).set (m * 5 + j) v = entV (l.set m y)
  | [], m, h => absurd h (Nat.not_lt_zero _)
  | x :: l, 0, _ => fun j v y hj hy => by
    rw [entV, Nat.zero_mul, Nat.zero_add, List.set_append_left _ _ (by simpa [entC] using hj), show (entC x).set j v = entC y from hy]; rfl
  | x :: l, m + 1, h => fun j v y hj hy => by
    have := entV_set l m (by simpa using h) j v y hj hy
    rw [entV, List.set_append_right _ _ (by simp [entC]; omega), show (m + 1) * 5 + j - (entC x).length = m * 5 + j by simp [entC]; omega, this]
    rfl
theorem ent_at {l : List HEnt} {m : Nat} (h : m < l.length) : l[m]? = some (ent l m) := by unfold ent; simp [List.getD, h]
theorem ent_set {l : List HEnt} {m j : Nat} {y : HEnt} (h : m < l.length) : ent (l.set m y) j = if j = m then y else ent l j := by
  unfold ent
  simp only [List.getD, List.getElem?_set]
  by_cases e : m = j
  · subst e; simp [h]
  · rw [if_neg e, if_neg (fun g => e g.symm)]
theorem ent_app {l : List HEnt} {x : HEnt} {j : Nat} (h : j < l.length) : ent (l ++ [x]) j = ent l j := by unfold ent; simp [List.getD, List.getElem?_append_left h]
theorem ent_last {l : List HEnt} {x : HEnt} : ent (l ++ [x]) l.length = x := by unfold ent; simp [List.getD]
def enOp (x : HEnt) : HOp := ⟨x.k, x.i, x.f, x.t⟩
def opsOf : List HEnt → List HOp
  | [] => []
  | x :: l => if x.e = true then enOp x :: opsOf l else opsOf l
theorem opsOf_cat : ∀ l m : List HEnt, opsOf (l ++ m) = opsOf l ++ opsOf m
  | [], m => rfl
  | x :: l, m => by
    rw [List.cons_append, opsOf, opsOf, opsOf_cat l m]
    split <;> rfl
theorem ent_take {l : List HEnt} {m : Nat} (h : m < l.length) : l.take (m + 1) = l.take m ++ [ent l m] := by
  rw [List.take_add_one, ent_at h]; rfl
theorem opsOf_yes {l : List HEnt} {m : Nat} (h : m < l.length) (he : (ent l m).e = true) : opsOf (l.take m) ++ [⟨(ent l m).k, (ent l m).i, (ent l m).f, (ent l m).t⟩] = opsOf (l.take (m + 1)) := by
  rw [ent_take h, opsOf_cat, opsOf, if_pos he]; rfl
theorem opsOf_no {l : List HEnt} {m : Nat} (h : m < l.length) (he : (ent l m).e = false) : opsOf (l.take m) = opsOf (l.take (m + 1)) := by
  rw [ent_take h, opsOf_cat, opsOf, if_neg (by rw [he]; simp)]; simp [opsOf]
theorem opsOf_le : ∀ l : List HEnt, (opsOf l).length ≤ l.length
  | [] => Nat.le_refl _
  | x :: l => by
    have := opsOf_le l
    rw [opsOf]
    split
    · simp; omega
    · simp; omega
def endBad (es : List HEnt) (n : Int) : Bool := decide (n < 0) || decide ((es.length : Int) ≤ n) || (ent es n.toNat).e
def endE (es : List HEnt) (n : Int) : Int := if endBad es n = true then 11 else 0
def endL (es : List HEnt) (n item now : Int) : List HEnt := if endBad es n = true then es else es.set n.toNat ⟨(ent es n.toNat).k, item, (ent es n.toNat).f, now, true⟩
theorem end_ok {es : List HEnt} {m : Nat} (hm : m < es.length) (he : (ent es m).e = false) (item now : Int) : endE es (m : Int) = 0 ∧ endL es (m : Int) item now = es.set m ⟨(ent es m).k, item, (ent es m).f, now, true⟩ := by
  have hb : endBad es (m : Int) = false := by
    unfold endBad
    rw [decide_eq_false (show ¬ ((m : Nat) : Int) < 0 by omega), decide_eq_false (show ¬ ((es.length : Int) ≤ ((m : Nat) : Int)) by omega), show ((m : Nat) : Int).toNat = m from rfl, he]; rfl
  unfold endE endL
  rw [hb, if_neg (by simp), if_neg (by simp)]
  exact ⟨rfl, rfl⟩
theorem end_bad {es : List HEnt} {n : Int} (h : endBad es n = true) (item now : Int) : endE es n = 11 ∧ endL es n item now = es := by
  unfold endE endL
  rw [if_pos h, if_pos h]
  exact ⟨rfl, rfl⟩
theorem bad_neg {es : List HEnt} {n : Int} (h : n < 0) : endBad es n = true := by unfold endBad; rw [decide_eq_true h]; rfl
theorem bad_big {es : List HEnt} {n : Int} (h : (es.length : Int) ≤ n) : endBad es n = true := by unfold endBad; rw [decide_eq_true h, Bool.or_true]; rfl
theorem bad_end {es : List HEnt} {m : Nat} (h : (ent es m).e = true) : endBad es (m : Int) = true := by unfold endBad; rw [show ((m : Nat) : Int).toNat = m from rfl, h, Bool.or_true]
theorem ent_self {l : List HEnt} {m : Nat} {y : HEnt} (h : m < l.length) : ent (l.set m y) m = y := by rw [ent_set h, if_pos rfl]
theorem set3 {es : List HEnt} {m : Nat} (hm : m < es.length) (item now : Int) {x1 x2 x3 : HEnt} (h1 : x1 = ⟨(ent es m).k, item, (ent es m).f, (ent es m).t, (ent es m).e⟩)
    (h2 : x2 = ⟨(ent (es.set m x1) m).k, (ent (es.set m x1) m).i, (ent (es.set m x1) m).f, now, (ent (es.set m x1) m).e⟩)
    (h3 : x3 = ⟨(ent ((es.set m x1).set m x2) m).k, (ent ((es.set m x1).set m x2) m).i, (ent ((es.set m x1).set m x2) m).f, (ent ((es.set m x1).set m x2) m).t, true⟩) :
    ((es.set m x1).set m x2).set m x3 = es.set m ⟨(ent es m).k, item, (ent es m).f, now, true⟩ := by
  rw [ent_self (by rw [List.length_set]; exact hm)] at h3
  rw [ent_self hm] at h2
  rw [List.set_set, List.set_set]
  subst h1
  subst h2
  subst h3
  rfl
theorem hop_map {l : List HEnt} {m : Nat} (h : m < l.length) : hop (l.map enOp) m = enOp (ent l m) := by unfold hop ent; simp [List.getD, h]
end Go.Proofs.YtjjbognomeplbaaDoor
namespace Go.Proofs.YtjjbognomeplbaaDoor
open Go.RowKit
section
variable {P : Program} {nn n cap sz g o k : Nat} {l : List (Nat × Value)} {a : Act} {w w0 : World} {F : Nat → Prop} {L : List Ck} {Q : Exit → Act → World → Prop} {ops : Array Oper} {rest : List Oper} {e t ty : TypeId} {pos : String} {aft : Array Edge} {x y : Operand} {xs ys : List Value} {u v : Value}
theorem S.storeR {m : Nat} (hA : St nn l a) (hM : Mem w0 F L w) (hi : szOf P t = some (false, 1)) (hx : opv l x = some (.pointer (some ⟨g, o, none⟩))) (hy : opv l y = some v) (hv : v.oneCell' = true)
    (hk : ith L k = some (own e sz (.slice (some ⟨g, 0, none⟩) m cap) m xs)) (hu : xs[o]? = some u) (hs : xs.set o v = ys) (h : ∀ w', Mem w0 F (setAt L k (own e sz (.slice (some ⟨g, 0, none⟩) m cap) m ys)) w' → wpList P ops Q rest a w') :
    wpList P ops Q ({ dst := none, op := .store t x y, type := ty, pos, after := aft, guard := none } :: rest) a w := by
  subst hs
  exact S.skip hA (R.store hi hx hy hv (hM.ownCell hk hu) (hM.ownFree hk o)) (h _ (hM.ownStore hk o v))
theorem Mem.ownRange (hM : Mem w0 F L w) (hk : ith L k = some (own e sz (.slice (some ⟨g, 0, none⟩) n cap) n xs)) {cs : List Value} (h : ∀ j v, cs[j]? = some v → xs[o + j]? = some v) : w.rangeAt g o cs := fun j v hv => hM.ownCell hk (h j v hv)
end
end Go.Proofs.YtjjbognomeplbaaDoor
namespace Go.Proofs.YtjjbognomeplbaaDoor
open Go.RowKit
set_option maxRecDepth 100000 in
set_option maxHeartbeats 400000 in
theorem tick21 (br : Nat) (now : Int) (hn : 0 ≤ now ∧ now ≤ 100000) (lv : Value) (w : World) (hM0 : Mem w (feet [pt br #[.int .i64 now, lv] 39]) [pt br #[.int .i64 now, lv] 39] w) :
    Calls Tryd.prog 23 #[.pointer (some ⟨br, 0, none⟩)] w fun e w' => e = .returned (.int .i64 now) ∧ Mem w (feet [pt br #[.int .i64 now, lv] 39]) [pt br #[.int .i64 (now + 1), lv] 39] w' := by
  have hbs := Below.refl (B := w.heap.size) w
  have hM := hM0
  refine Calls.of_ends (vs := [.pointer (some ⟨br, 0, none⟩)]) Tryd.func23 rfl Tryd.ntmps23 rfl ?_
  intro a hA
  replace hA : St 15 [(0, _)] a := hA
  refine Ends.seq (Ends.region ?_)
  refine S.val hA (R.assign rfl) rfl ?_; clear hA a; intro a hA
  refine S.done ?_
  refine Ends.seq (Ends.region ?_)
  refine S.val hA (R.move rfl) rfl ?_; clear hA a; intro a hA
  refine S.val hA (R.nilCheck rfl) rfl ?_; clear hA a; intro a hA
  refine S.val hA (R.fieldAddr (q := 0) fi39_0 rfl rfl rfl) rfl ?_; clear hA a; intro a hA
  refine S.val hA (R.load sz3 rfl (hM.cell (k := 0) rfl rfl)) rfl ?_; clear hA a; intro a hA
  refine S.val hA (R.addI rfl rfl (r := now + 1) rfl (by omega)) rfl ?_; clear hA a; intro a hA
  refine S.val hA (R.nilCheck rfl) rfl ?_; clear hA a; intro a hA
  refine S.val hA (R.fieldAddr (q := 0) fi39_0 rfl rfl rfl) rfl ?_; clear hA a; intro a hA
  refine S.store (k := 0) hA hM sz3 rfl rfl rfl rfl rfl ?_; clear hM
  intro w1 hM
  replace hM : Mem _ _ [pt br #[.int .i64 (now + 1), lv] 39] _ := hM
  refine S.done ?_
  replace hA : St 15 [(0, _)] a := hA.sub ((.cons rfl .nil))
  refine Ends.seq (Ends.region ?_)
  refine S.val hA (R.move rfl) rfl ?_; clear hA a; intro a hA
  refine S.val hA (R.nilCheck rfl) rfl ?_; clear hA a; intro a hA
  refine S.val hA (R.fieldAddr (q := 0) fi39_0 rfl rfl rfl) rfl ?_; clear hA a; intro a hA
  refine S.val hA (R.load sz3 rfl (hM.cell (k := 0) rfl rfl)) rfl ?_; clear hA a; intro a hA
  refine S.val hA (R.subI rfl rfl (r := (now + 1) - 1) rfl (by omega)) rfl ?_; clear hA a; intro a hA
  refine S.val hA (R.assign rfl) rfl ?_; clear hA a; intro a hA
  refine S.done ?_
  replace hA : St 15 [(2, _)] a := hA.sub ((.cons rfl .nil))
  refine Ends.ret1 Tryd.func23 Tryd.results23 hA rfl ?_
  exact ⟨ret_i64 (by omega), hM⟩
set_option maxRecDepth 100000 in
set_option maxHeartbeats 400000 in
theorem begin21 (br : Nat) (now : Int) (hn : 0 ≤ now ∧ now ≤ 100000) (la : Option Addr) (lc : Nat) (es : List HEnt) (hl : es.length ≤ 1000) (kind item : Int) (w : World) (hM0 : Mem w (feet [pt br #[.int .i64 now, .slice la es.length lc] 39, own 64 5 (.slice la es.length lc) es.length (entV es)]) [pt br #[.int .i64 now, .slice la es.length lc] 39, own 64 5 (.slice la es.length lc) es.length (entV es)] w) :
  Calls Tryd.prog 10 #[.pointer (some ⟨br, 0, none⟩), .int .i64 kind, .int .i64 item] w fun e w' => ∃ la' lc', e = .returned (.int .i64 (es.length : Int)) ∧ Mem w (feet [pt br #[.int .i64 now, .slice la es.length lc] 39, own 64 5 (.slice la es.length lc) es.length (entV es)]) [pt br #[.int .i64 (now + 1), .slice la' (((es ++ [(⟨kind, item, now, 0, false⟩ : HEnt)])).length) lc'] 39, own 64 5 (.slice la' (((es ++ [(⟨kind, item, now, 0, false⟩ : HEnt)])).length) lc') (((es ++ [(⟨kind, item, now, 0, false⟩ : HEnt)])).length) (entV ((es ++ [(⟨kind, item, now, 0, false⟩ : HEnt)])))] w' := by
 have hbs := Below.refl (B := w.heap.size) w
 have hM := hM0
 refine Calls.of_ends (vs := [.pointer (some ⟨br, 0, none⟩), .int .i64 kind, .int .i64 item]) Tryd.func10 rfl Tryd.ntmps10 rfl ?_
 intro a hA
 replace hA : St 30 [(0, _), (1, _), (2, _)] a := hA
 refine Ends.seq (Ends.region ?_)
 refine S.val hA (R.assign rfl) rfl ?_; clear hA a; intro a hA
 refine S.done ?_
 refine Ends.seq (Ends.seq (Ends.region ?_))
 refine S.val hA (R.move rfl) rfl ?_; clear hA a; intro a hA
 refine S.val hA (R.eqlNil Tryd.underlying32 rfl rfl) rfl ?_; clear hA a; intro a hA
 refine S.done ?_
 refine Ends.condF hA rfl ?_
 refine Ends.skip (Ends.seq ?_)
 refine Ends.drawn (fun wv => ∃ v9, Mem w (feet [pt br #[.int .i64 now, .slice la es.length lc] 39, own 64 5 (.slice la es.length lc) es.length (entV es)]) [pt br #[v9, .slice la es.length lc] 39] wv) (.cons (0, true) (.cons (1, true) (.cons (2, true) (.cons (3, true) (.cons (4, true) (.cons (5, true) (.cons (6, true) (.cons (7, true) (.cons (8, false) (.cons (9, true) (.cons (10, true) (.cons (11, false) (.cons (12, false) (.cons (13, true) (.cons (14, true) (.cons (15, false) .nil)))))))))))))))) 15 mixed (by kernel_rfl) (by kernel_rfl) (by kernel_rfl) ⟨_, (hM.drop 1).drew⟩ ?_
 replace hM := hM.drew
 refine D.valF hA rfl (fun _ => R.move rfl) rfl ?_; clear hA a; intro a hA
 refine D.valF hA rfl (fun _ => R.move rfl) rfl ?_; clear hA a; intro a hA
 refine D.valF hA rfl (fun _ => R.nilCheck rfl) rfl ?_; clear hA a; intro a hA
 refine D.valF hA rfl (fun _ => R.fieldAddr (q := 1) fi39_1 rfl rfl rfl) rfl ?_; clear hA a; intro a hA
 refine D.val hA rfl (by kernel_rfl) (fun _ ⟨_, hM⟩ => R.load sz37 rfl (hM.cell (k := 0) rfl rfl)) rfl ?_; clear hA a; intro a hA
 refine D.valF hA rfl (fun _ => R.move rfl) rfl ?_; clear hA a; intro a hA
 refine D.valF hA rfl (fun _ => R.move rfl) rfl ?_; clear hA a; intro a hA
 refine D.valF hA rfl (fun _ => R.move rfl) rfl ?_; clear hA a; intro a hA
 refine D.call hA rfl (R.callF Tryd.func23 rfl rfl rfl) rfl (tick21 br now (by omega) (.slice la es.length lc) _ (hM.hereN 1)) ?_; clear hA a
 rintro e w1 ⟨rfl, hn⟩
 replace hM : Mem _ _ [pt br #[.int .i64 (now + 1), .slice la es.length lc] 39, own 64 5 (.slice la es.length lc) es.length (entV es)] _ := hM.callL 1 hn; clear hn
 refine ⟨.int .i64 now, rfl, ⟨_, (hM.drop 1)⟩, fun a hA => ?_⟩
 refine D.valF hA rfl (fun _ => R.build (cells := #[.int .i64 kind, .int .i64 item, .int .i64 now, .int .i64 0]) rfl (by kernel_rfl)) rfl ?_; clear hA a; intro a hA
 refine D.valF hA rfl (fun _ => R.build (cells := #[.int .i64 kind, .int .i64 item, .int .i64 now, .int .i64 0, .bool false]) rfl (by kernel_rfl)) rfl ?_; clear hA a; intro a hA
 refine D.buildSl (cells := #[.int .i64 kind, .int .i64 item, .int .i64 now, .int .i64 0, .bool false]) hA hM rfl Tryd.underlying37 info64 rfl rfl rfl rfl (by kernel_rfl) rfl ?_; clear hA hM a; intro b1 w2 hb2 hM; refine ⟨(fun hM => ⟨_, (hM.drop 1)⟩) hM.tail, fun a hA => ?_⟩
 replace hM : Mem _ _ [pt b1 #[.int .i64 kind, .int .i64 item, .int .i64 now, .int .i64 0, .bool false] 64, pt br #[.int .i64 (now + 1), .slice la es.length lc] 39, own 64 5 (.slice la es.length lc) es.length (entV es)] _ := hM
 refine D.append (k := 2) (k2 := 0) hA hM rfl rfl rfl Tryd.underlying37 info64 rfl rfl rfl rfl rfl rfl rfl rfl rfl (by first | (show (_ + 1) * 40 ≤ (140737488355328 : Nat); omega) | (unfold maxLen; omega)) (by first | (show (_ + 1) * 40 ≤ (140737488355328 : Nat); omega) | (unfold maxLen; omega)) rfl ?_; clear hA hM a; intro a3 c4 w3 hM
 replace hM : Mem _ _ [pt b1 #[.int .i64 kind, .int .i64 item, .int .i64 now, .int .i64 0, .bool false] 64, pt br #[.int .i64 (now + 1), .slice la es.length lc] 39, own 64 5 (.slice a3 (es.length + 1) c4) (es.length + 1) (entV es ++ [.int .i64 kind, .int .i64 item, .int .i64 now, .int .i64 0, .bool false])] _ := hM
 have hl5 : es.length + 1 = (es ++ [(⟨kind, item, now, 0, false⟩ : HEnt)]).length := by simp
 rw [hl5, show entV es ++ [.int .i64 kind, .int .i64 item, .int .i64 now, .int .i64 0, .bool false] = entV (es ++ [(⟨kind, item, now, 0, false⟩ : HEnt)]) from entV_app es (⟨kind, item, now, 0, false⟩ : HEnt)] at hM
 replace hM := hM.drop 0
 replace hM : Mem _ _ [pt br #[.int .i64 (now + 1), .slice la es.length lc] 39, own 64 5 (.slice a3 (((es ++ [(⟨kind, item, now, 0, false⟩ : HEnt)])).length) c4) (((es ++ [(⟨kind, item, now, 0, false⟩ : HEnt)])).length) (entV ((es ++ [(⟨kind, item, now, 0, false⟩ : HEnt)])))] _ := hM
 refine ⟨⟨_, (hM.drop 1)⟩, fun a hA => ?_⟩; rw [hl5] at hA; clear hl5
 refine D.valF hA rfl (fun _ => R.nilCheck rfl) rfl ?_; clear hA a; intro a hA
 refine D.valF hA rfl (fun _ => R.fieldAddr (q := 1) fi39_1 rfl rfl rfl) rfl ?_; clear hA a; intro a hA
 refine D.store (k := 0) hA hM rfl sz37 rfl rfl rfl rfl rfl ?_; clear hM
 intro w4 hM; refine ⟨fun _ hne => absurd rfl hne, ?_⟩
 replace hM : Mem _ _ [pt br #[.int .i64 (now + 1), .slice a3 (((es ++ [(⟨kind, item, now, 0, false⟩ : HEnt)])).length) c4] 39, own 64 5 (.slice a3 (((es ++ [(⟨kind, item, now, 0, false⟩ : HEnt)])).length) c4) (((es ++ [(⟨kind, item, now, 0, false⟩ : HEnt)])).length) (entV ((es ++ [(⟨kind, item, now, 0, false⟩ : HEnt)])))] _ := hM
 refine D.done ?_
 replace hA : St 30 [(0, _)] a := hA.sub ((.cons rfl .nil))
 refine Ends.seq ?_
 have hlx : (es ++ [(⟨kind, item, now, 0, false⟩ : HEnt)]).length = es.length + 1 := by simp
 refine Ends.region ?_
 refine S.val hA (R.move rfl) rfl ?_; clear hA a; intro a hA
 refine S.val hA (R.nilCheck rfl) rfl ?_; clear hA a; intro a hA
 refine S.val hA (R.fieldAddr (q := 1) fi39_1 rfl rfl rfl) rfl ?_; clear hA a; intro a hA
 refine S.val hA (R.load sz37 rfl (hM.cell (k := 0) rfl rfl)) rfl ?_; clear hA a; intro a hA
 refine S.val hA (R.lenS Tryd.underlying37 rfl rfl) rfl ?_; clear hA a; intro a hA
 refine S.val hA (R.subI rfl rfl (r := ((((es ++ [(⟨kind, item, now, 0, false⟩ : HEnt)])).length : Int)) - 1) rfl (by omega)) rfl ?_; clear hA a; intro a hA
 refine S.val hA (R.assign rfl) rfl ?_; clear hA a; intro a hA
 refine S.done ?_
 replace hA : St 30 [(6, _)] a := hA.sub ((.cons rfl .nil))
 refine Ends.ret1 Tryd.func10 Tryd.results10 hA rfl ?_
 replace hM := hM.front (k := 1) rfl
 replace hM := hM.front (k := 1) rfl
 replace hM := hM.firstN 2
 exact ⟨a3, c4, ret_i64 (by simp), hM⟩
set_option maxRecDepth 100000 in
set_option maxHeartbeats 400000 in
theorem end21 (br : Nat) (now : Int) (hn : 0 ≤ now ∧ now ≤ 100000) (la : Option Addr) (lc : Nat) (es : List HEnt) (hl : es.length ≤ 1000) (n item : Int) (w : World) (hM0 : Mem w (feet [pt br #[.int .i64 now, .slice la es.length lc] 39, own 64 5 (.slice la es.length lc) es.length (entV es)]) [pt br #[.int .i64 now, .slice la es.length lc] 39, own 64 5 (.slice la es.length lc) es.length (entV es)] w) :
  Calls Tryd.prog 11 #[.pointer (some ⟨br, 0, none⟩), .int .i64 n, .int .i64 item] w fun e w' => e = .returned (.int .i64 (endE es n)) ∧ Mem w (feet [pt br #[.int .i64 now, .slice la es.length lc] 39, own 64 5 (.slice la es.length lc) es.length (entV es)]) [pt br #[.int .i64 (now + 1), .slice la es.length lc] 39, own 64 5 (.slice la es.length lc) es.length (entV (endL es n item now))] w' := by
 have hbs := Below.refl (B := w.heap.size) w
 have hM := hM0
 refine Calls.of_ends (vs := [.pointer (some ⟨br, 0, none⟩), .int .i64 n, .int .i64 item]) Tryd.func11 rfl Tryd.ntmps11 rfl ?_
 intro a hA
 replace hA : St 53 [(0, _), (1, _), (2, _)] a := hA
 refine Ends.seq (Ends.region ?_)
 refine S.val hA (R.assign rfl) rfl ?_; clear hA a; intro a hA
 refine S.done ?_
 refine Ends.seq (Ends.seq (Ends.region ?_))
 refine S.val hA (R.move rfl) rfl ?_; clear hA a; intro a hA
 refine S.val hA (R.eqlNil Tryd.underlying32 rfl rfl) rfl ?_; clear hA a; intro a hA
 refine S.done ?_
 refine Ends.condF hA rfl ?_
 refine Ends.skip (Ends.seq (Ends.region ?_))
 refine S.val hA (R.move rfl) rfl ?_; clear hA a; intro a hA
 refine S.call hA (R.callF Tryd.func23 rfl rfl rfl) rfl (tick21 br now (by omega) (.slice la es.length lc) _ (hM.hereN 1)) ?_; clear hA a
 rintro e w1 ⟨rfl, hn⟩
 replace hM : Mem _ _ [pt br #[.int .i64 (now + 1), .slice la es.length lc] 39, own 64 5 (.slice la es.length lc) es.length (entV es)] _ := hM.callL 1 hn; clear hn
 refine ⟨.int .i64 now, rfl, fun a hA => ?_⟩
 refine S.val hA (R.assign rfl) rfl ?_; clear hA a; intro a hA
 refine S.done ?_
 replace hA : St 53 [(0, _), (1, _), (2, _), (7, _)] a := hA.sub ((.cons rfl (.cons rfl (.cons rfl (.cons rfl .nil)))))
 refine Ends.seq (Ends.seq ?_)
 by_cases hs1 : n < 0
 ·
  refine Ends.region ?_
  refine S.val hA (R.move rfl) rfl ?_; clear hA a; intro a hA
  refine S.val hA (R.tt (R.lss rfl rfl) (by omega)) rfl ?_; clear hA a; intro a hA
  refine S.val hA (R.move rfl) rfl ?_; clear hA a; intro a hA
  refine S.no (dj := 15) hA (by kernel_rfl) rfl rfl rfl ?_; clear hA a; intro a hA
  refine S.no (dj := 15) hA (by kernel_rfl) rfl rfl rfl ?_; clear hA a; intro a hA
  refine S.no (dj := 15) hA (by kernel_rfl) rfl rfl rfl ?_; clear hA a; intro a hA
  refine S.no (dj := 15) hA (by kernel_rfl) rfl rfl rfl ?_; clear hA a; intro a hA
  refine S.no (dj := 15) hA (by kernel_rfl) rfl rfl rfl ?_; clear hA a; intro a hA
  refine S.no (dj := 15) hA (by kernel_rfl) rfl rfl rfl ?_; clear hA a; intro a hA
  refine S.no (dj := 15) hA (by kernel_rfl) rfl rfl rfl ?_; clear hA a; intro a hA
  refine S.val hA (R.pickT rfl rfl) rfl ?_; clear hA a; intro a hA
  refine S.val hA (R.move rfl) rfl ?_; clear hA a; intro a hA
  refine S.no (dj := 24) hA (by kernel_rfl) rfl rfl rfl ?_; clear hA a; intro a hA
  refine S.no (dj := 24) hA (by kernel_rfl) rfl rfl rfl ?_; clear hA a; intro a hA
  refine S.no (dj := 24) hA (by kernel_rfl) rfl rfl rfl ?_; clear hA a; intro a hA
  refine S.no (dj := 24) hA (by kernel_rfl) rfl rfl rfl ?_; clear hA a; intro a hA
  refine S.no (dj := 24) hA (by kernel_rfl) rfl rfl rfl ?_; clear hA a; intro a hA
  refine S.no (dj := 24) hA (by kernel_rfl) rfl rfl rfl ?_; clear hA a; intro a hA
  refine S.no (dj := 24) hA (by kernel_rfl) rfl rfl rfl ?_; clear hA a; intro a hA
  refine S.no (dj := 24) hA (by kernel_rfl) rfl rfl rfl ?_; clear hA a; intro a hA
  refine S.val hA (R.pickT rfl rfl) rfl ?_; clear hA a; intro a hA
  refine S.done ?_
  replace hA : St 53 [(0, _), (1, _), (2, _), (7, _), (33, _)] a := hA.sub ((.cons rfl (.cons rfl (.cons rfl (.cons rfl (.cons rfl .nil))))))
  refine Ends.condT hA rfl ?_
  refine Ends.seq (Ends.region ?_)
  refine S.val hA (R.assign rfl) rfl ?_; clear hA a; intro a hA
  refine S.done ?_
  refine Ends.ret1 Tryd.func11 Tryd.results11 hA rfl ?_
  replace hM := hM.front (k := 1) rfl
  replace hM := hM.front (k := 1) rfl
  replace hM := hM.firstN 2
  obtain ⟨g1, g2⟩ := end_bad (es := es) (bad_neg hs1) item now
  exact ⟨by rw [g1], by rw [g2]; exact hM⟩
 ·
  by_cases hs2 : (es.length : Int) ≤ n
  ·
   refine Ends.region ?_
   refine S.val hA (R.move rfl) rfl ?_; clear hA a; intro a hA
   refine S.val hA (R.ff (R.lss rfl rfl) (by omega)) rfl ?_; clear hA a; intro a hA
   refine S.val hA (R.move rfl) rfl ?_; clear hA a; intro a hA
   refine S.valg (dj := 15) hA (by kernel_rfl) rfl (R.move rfl) rfl ?_; clear hA a; intro a hA
   refine S.valg (dj := 15) hA (by kernel_rfl) rfl (R.move rfl) rfl ?_; clear hA a; intro a hA
   refine S.valg (dj := 15) hA (by kernel_rfl) rfl (R.nilCheck rfl) rfl ?_; clear hA a; intro a hA
   refine S.valg (dj := 15) hA (by kernel_rfl) rfl (R.fieldAddr (q := 1) fi39_1 rfl rfl rfl) rfl ?_; clear hA a; intro a hA
   refine S.valg (dj := 15) hA (by kernel_rfl) rfl (R.load sz37 rfl (hM.cell (k := 0) rfl rfl)) rfl ?_; clear hA a; intro a hA
   refine S.valg (dj := 15) hA (by kernel_rfl) rfl (R.lenS Tryd.underlying37 rfl rfl) rfl ?_; clear hA a; intro a hA
   refine S.valg (dj := 15) hA (by kernel_rfl) rfl (R.tt (R.geq rfl rfl) (by omega)) rfl ?_; clear hA a; intro a hA
   refine S.val hA (R.pickF rfl rfl) rfl ?_; clear hA a; intro a hA
   refine S.val hA (R.move rfl) rfl ?_; clear hA a; intro a hA
   refine S.no (dj := 24) hA (by kernel_rfl) rfl rfl rfl ?_; clear hA a; intro a hA
   refine S.no (dj := 24) hA (by kernel_rfl) rfl rfl rfl ?_; clear hA a; intro a hA
   refine S.no (dj := 24) hA (by kernel_rfl) rfl rfl rfl ?_; clear hA a; intro a hA
   refine S.no (dj := 24) hA (by kernel_rfl) rfl rfl rfl ?_; clear hA a; intro a hA
   refine S.no (dj := 24) hA (by kernel_rfl) rfl rfl rfl ?_; clear hA a; intro a hA
   refine S.no (dj := 24) hA (by kernel_rfl) rfl rfl rfl ?_; clear hA a; intro a hA
   refine S.no (dj := 24) hA (by kernel_rfl) rfl rfl rfl ?_; clear hA a; intro a hA
   refine S.no (dj := 24) hA (by kernel_rfl) rfl rfl rfl ?_; clear hA a; intro a hA
   refine S.val hA (R.pickT rfl rfl) rfl ?_; clear hA a; intro a hA
   refine S.done ?_
   replace hA : St 53 [(0, _), (1, _), (2, _), (7, _), (33, _)] a := hA.sub ((.cons rfl (.cons rfl (.cons rfl (.cons rfl (.cons rfl .nil))))))
   refine Ends.condT hA rfl ?_
   refine Ends.seq (Ends.region ?_)
   refine S.val hA (R.assign rfl) rfl ?_; clear hA a; intro a hA
   refine S.done ?_
   refine Ends.ret1 Tryd.func11 Tryd.results11 hA rfl ?_
   replace hM := hM.front (k := 1) rfl
   replace hM := hM.front (k := 1) rfl
   replace hM := hM.firstN 2
   obtain ⟨g1, g2⟩ := end_bad (es := es) (bad_big hs2) item now
   exact ⟨by rw [g1], by rw [g2]; exact hM⟩
  ·
   obtain ⟨m, rfl⟩ : ∃ m : Nat, n = (m : Int) := ⟨n.toNat, by omega⟩
   obtain ⟨g3, hg3⟩ := hM.ownAt (k := 1) rfl (by omega)
   subst hg3
   replace hM : Mem _ _ [pt br #[.int .i64 (now + 1), .slice ((some ⟨g3, 0, none⟩)) es.length lc] 39, own 64 5 (.slice ((some ⟨g3, 0, none⟩)) es.length lc) es.length (entV es)] _ := hM
   refine Ends.region ?_
   refine S.val hA (R.move rfl) rfl ?_; clear hA a; intro a hA
   refine S.val hA (R.ff (R.lss rfl rfl) (by omega)) rfl ?_; clear hA a; intro a hA
   refine S.val hA (R.move rfl) rfl ?_; clear hA a; intro a hA
   refine S.valg (dj := 15) hA (by kernel_rfl) rfl (R.move rfl) rfl ?_; clear hA a; intro a hA
   refine S.valg (dj := 15) hA (by kernel_rfl) rfl (R.move rfl) rfl ?_; clear hA a; intro a hA
   refine S.valg (dj := 15) hA (by kernel_rfl) rfl (R.nilCheck rfl) rfl ?_; clear hA a; intro a hA
   refine S.valg (dj := 15) hA (by kernel_rfl) rfl (R.fieldAddr (q := 1) fi39_1 rfl rfl rfl) rfl ?_; clear hA a; intro a hA
   refine S.valg (dj := 15) hA (by kernel_rfl) rfl (R.load sz37 rfl (hM.cell (k := 0) rfl rfl)) rfl ?_; clear hA a; intro a hA
   refine S.valg (dj := 15) hA (by kernel_rfl) rfl (R.lenS Tryd.underlying37 rfl rfl) rfl ?_; clear hA a; intro a hA
   refine S.valg (dj := 15) hA (by kernel_rfl) rfl (R.ff (R.geq rfl rfl) (by omega)) rfl ?_; clear hA a; intro a hA
   refine S.val hA (R.pickF rfl rfl) rfl ?_; clear hA a; intro a hA
   refine S.val hA (R.move rfl) rfl ?_; clear hA a; intro a hA
   refine S.valg (dj := 24) hA (by kernel_rfl) rfl (R.move rfl) rfl ?_; clear hA a; intro a hA
   refine S.valg (dj := 24) hA (by kernel_rfl) rfl (R.nilCheck rfl) rfl ?_; clear hA a; intro a hA
   refine S.valg (dj := 24) hA (by kernel_rfl) rfl (R.fieldAddr (q := 1) fi39_1 rfl rfl rfl) rfl ?_; clear hA a; intro a hA
   refine S.valg (dj := 24) hA (by kernel_rfl) rfl (R.load sz37 rfl (hM.cell (k := 0) rfl rfl)) rfl ?_; clear hA a; intro a hA
   refine S.valg (dj := 24) hA (by kernel_rfl) rfl (R.move rfl) rfl ?_; clear hA a; intro a hA
   refine S.valg (dj := 24) hA (by kernel_rfl) rfl (R.indexAddr (q := m * 5) sl37 rfl rfl (by omega) (by omega)) rfl ?_; clear hA a; intro a hA
   refine S.valg (dj := 24) hA (by kernel_rfl) rfl (R.fieldAddr (q := m * 5 + 4) fi64_1 rfl rfl rfl) rfl ?_; clear hA a; intro a hA
   refine S.valg (dj := 24) hA (by kernel_rfl) rfl (R.load sz4 rfl (hM.ownCell (k := 1) rfl (entV_row es m (by first | omega | (simp only [List.length_set]; omega) | (simp; omega)) 4 _ rfl))) rfl ?_; clear hA a; intro a hA
   refine S.val hA (R.pickF rfl rfl) rfl ?_; clear hA a; intro a hA
   refine S.done ?_
   replace hA : St 53 [(0, _), (1, _), (2, _), (7, _), (33, _)] a := hA.sub ((.cons rfl (.cons rfl (.cons rfl (.cons rfl (.cons rfl .nil))))))
   refine Ends.iteB hA rfl (fun hc4 => ?_) (fun hc4 => ?_)
   ·
    refine Ends.seq (Ends.region ?_)
    refine S.val hA (R.assign rfl) rfl ?_; clear hA a; intro a hA
    refine S.done ?_
    refine Ends.ret1 Tryd.func11 Tryd.results11 hA rfl ?_
    replace hM := hM.front (k := 1) rfl
    replace hM := hM.front (k := 1) rfl
    replace hM := hM.firstN 2
    obtain ⟨g1, g2⟩ := end_bad (es := es) (bad_end hc4) item now
    exact ⟨by rw [g1], by rw [g2]; exact hM⟩
   ·
    refine Ends.skip (Ends.seq (Ends.region ?_))
    refine S.val hA (R.move rfl) rfl ?_; clear hA a; intro a hA
    refine S.val hA (R.nilCheck rfl) rfl ?_; clear hA a; intro a hA
    refine S.val hA (R.fieldAddr (q := 1) fi39_1 rfl rfl rfl) rfl ?_; clear hA a; intro a hA
    refine S.val hA (R.load sz37 rfl (hM.cell (k := 0) rfl rfl)) rfl ?_; clear hA a; intro a hA
    refine S.val hA (R.move rfl) rfl ?_; clear hA a; intro a hA
    refine S.val hA (R.indexAddr (q := m * 5) sl37 rfl rfl (by omega) (by omega)) rfl ?_; clear hA a; intro a hA
    refine S.val hA (R.assign rfl) rfl ?_; clear hA a; intro a hA
    refine S.done ?_
    replace hA : St 53 [(2, _), (7, _), (8, _)] a := hA.sub ((.cons rfl (.cons rfl (.cons rfl .nil))))
    refine Ends.seq (Ends.region ?_)
    refine S.val hA (R.move rfl) rfl ?_; clear hA a; intro a hA
    refine S.val hA (R.move rfl) rfl ?_; clear hA a; intro a hA
    refine S.val hA (R.move rfl) rfl ?_; clear hA a; intro a hA
    refine S.val hA (R.move rfl) rfl ?_; clear hA a; intro a hA
    refine S.val hA (R.move rfl) rfl ?_; clear hA a; intro a hA
    refine S.val hA (R.nilCheck rfl) rfl ?_; clear hA a; intro a hA
    refine S.val hA (R.fieldAddr (q := m * 5 + 0) fi64_0 rfl rfl rfl) rfl ?_; clear hA a; intro a hA
    refine S.val hA (R.fieldAddr (q := m * 5 + 0 + 1) fi26_1 rfl rfl rfl) rfl ?_; clear hA a; intro a hA
    refine S.storeR (k := 1) hA hM sz3 rfl rfl rfl rfl (entV_row es m (by first | omega | (simp only [List.length_set]; omega) | (simp; omega)) 1 _ rfl) (entV_set es m (by first | omega | (simp only [List.length_set]; omega) | (simp; omega)) 1 _ (⟨(ent es m).k, item, (ent es m).f, (ent es m).t, (ent es m).e⟩ : HEnt) (by decide) rfl) ?_; clear hM; intro w2 hM
    replace hM : Mem _ _ [pt br #[.int .i64 (now + 1), .slice ((some ⟨g3, 0, none⟩)) es.length lc] 39, own 64 5 (.slice ((some ⟨g3, 0, none⟩)) es.length lc) es.length (entV ((es.set m (⟨(ent es m).k, item, (ent es m).f, (ent es m).t, (ent es m).e⟩ : HEnt))))] _ := hM
    refine S.val hA (R.nilCheck rfl) rfl ?_; clear hA a; intro a hA
    refine S.val hA (R.fieldAddr (q := m * 5 + 0) fi64_0 rfl rfl rfl) rfl ?_; clear hA a; intro a hA
    refine S.val hA (R.fieldAddr (q := m * 5 + 0 + 3) fi26_3 rfl rfl rfl) rfl ?_; clear hA a; intro a hA
    refine S.storeR (k := 1) hA hM sz3 rfl rfl rfl rfl (entV_row ((es.set m (⟨(ent es m).k, item, (ent es m).f, (ent es m).t, (ent es m).e⟩ : HEnt))) m (by first | omega | (simp only [List.length_set]; omega) | (simp; omega)) 3 _ rfl) (entV_set ((es.set m (⟨(ent es m).k, item, (ent es m).f, (ent es m).t, (ent es m).e⟩ : HEnt))) m (by first | omega | (simp only [List.length_set]; omega) | (simp; omega)) 3 _ (⟨(ent ((es.set m (⟨(ent es m).k, item, (ent es m).f, (ent es m).t, (ent es m).e⟩ : HEnt))) m).k, (ent ((es.set m (⟨(ent es m).k, item, (ent es m).f, (ent es m).t, (ent es m).e⟩ : HEnt))) m).i, (ent ((es.set m (⟨(ent es m).k, item, (ent es m).f, (ent es m).t, (ent es m).e⟩ : HEnt))) m).f, now, (ent ((es.set m (⟨(ent es m).k, item, (ent es m).f, (ent es m).t, (ent es m).e⟩ : HEnt))) m).e⟩ : HEnt) (by decide) rfl) ?_; clear hM; intro w3 hM
    replace hM : Mem _ _ [pt br #[.int .i64 (now + 1), .slice ((some ⟨g3, 0, none⟩)) es.length lc] 39, own 64 5 (.slice ((some ⟨g3, 0, none⟩)) es.length lc) es.length (entV (((es.set m (⟨(ent es m).k, item, (ent es m).f, (ent es m).t, (ent es m).e⟩ : HEnt)).set m (⟨(ent ((es.set m (⟨(ent es m).k, item, (ent es m).f, (ent es m).t, (ent es m).e⟩ : HEnt))) m).k, (ent ((es.set m (⟨(ent es m).k, item, (ent es m).f, (ent es m).t, (ent es m).e⟩ : HEnt))) m).i, (ent ((es.set m (⟨(ent es m).k, item, (ent es m).f, (ent es m).t, (ent es m).e⟩ : HEnt))) m).f, now, (ent ((es.set m (⟨(ent es m).k, item, (ent es m).f, (ent es m).t, (ent es m).e⟩ : HEnt))) m).e⟩ : HEnt))))] _ := hM
    refine S.val hA (R.nilCheck rfl) rfl ?_; clear hA a; intro a hA
    refine S.val hA (R.fieldAddr (q := m * 5 + 4) fi64_1 rfl rfl rfl) rfl ?_; clear hA a; intro a hA
    refine S.storeR (k := 1) hA hM sz4 rfl rfl rfl rfl (entV_row (((es.set m (⟨(ent es m).k, item, (ent es m).f, (ent es m).t, (ent es m).e⟩ : HEnt)).set m (⟨(ent ((es.set m (⟨(ent es m).k, item, (ent es m).f, (ent es m).t, (ent es m).e⟩ : HEnt))) m).k, (ent ((es.set m (⟨(ent es m).k, item, (ent es m).f, (ent es m).t, (ent es m).e⟩ : HEnt))) m).i, (ent ((es.set m (⟨(ent es m).k, item, (ent es m).f, (ent es m).t, (ent es m).e⟩ : HEnt))) m).f, now, (ent ((es.set m (⟨(ent es m).k, item, (ent es m).f, (ent es m).t, (ent es m).e⟩ : HEnt))) m).e⟩ : HEnt))) m (by first | omega | (simp only [List.length_set]; omega) | (simp; omega)) 4 _ rfl) (entV_set (((es.set m (⟨(ent es m).k, item, (ent es m).f, (ent es m).t, (ent es m).e⟩ : HEnt)).set m (⟨(ent ((es.set m (⟨(ent es m).k, item, (ent es m).f, (ent es m).t, (ent es m).e⟩ : HEnt))) m).k, (ent ((es.set m (⟨(ent es m).k, item, (ent es m).f, (ent es m).t, (ent es m).e⟩ : HEnt))) m).i, (ent ((es.set m (⟨(ent es m).k, item, (ent es m).f, (ent es m).t, (ent es m).e⟩ : HEnt))) m).f, now, (ent ((es.set m (⟨(ent es m).k, item, (ent es m).f, (ent es m).t, (ent es m).e⟩ : HEnt))) m).e⟩ : HEnt))) m (by first | omega | (simp only [List.length_set]; omega) | (simp; omega)) 4 _ (⟨(ent (((es.set m (⟨(ent es m).k, item, (ent es m).f, (ent es m).t, (ent es m).e⟩ : HEnt)).set m (⟨(ent ((es.set m (⟨(ent es m).k, item, (ent es m).f, (ent es m).t, (ent es m).e⟩ : HEnt))) m).k, (ent ((es.set m (⟨(ent es m).k, item, (ent es m).f, (ent es m).t, (ent es m).e⟩ : HEnt))) m).i, (ent ((es.set m (⟨(ent es m).k, item, (ent es m).f, (ent es m).t, (ent es m).e⟩ : HEnt))) m).f, now, (ent ((es.set m (⟨(ent es m).k, item, (ent es m).f, (ent es m).t, (ent es m).e⟩ : HEnt))) m).e⟩ : HEnt))) m).k, (ent (((es.set m (⟨(ent es m).k, item, (ent es m).f, (ent es m).t, (ent es m).e⟩ : HEnt)).set m (⟨(ent ((es.set m (⟨(ent es m).k, item, (ent es m).f, (ent es m).t, (ent es m).e⟩ : HEnt))) m).k, (ent ((es.set m (⟨(ent es m).k, item, (ent es m).f, (ent es m).t, (ent es m).e⟩ : HEnt))) m).i, (ent ((es.set m (⟨(ent es m).k, item, (ent es m).f, (ent es m).t, (ent es m).e⟩ : HEnt))) m).f, now, (ent ((es.set m (⟨(ent es m).k, item, (ent es m).f, (ent es m).t, (ent es m).e⟩ : HEnt))) m).e⟩ : HEnt))) m).i, (ent (((es.set m (⟨(ent es m).k, item, (ent es m).f, (ent es m).t, (ent es m).e⟩ : HEnt)).set m (⟨(ent ((es.set m (⟨(ent es m).k, item, (ent es m).f, (ent es m).t, (ent es m).e⟩ : HEnt))) m).k, (ent ((es.set m (⟨(ent es m).k, item, (ent es m).f, (ent es m).t, (ent es m).e⟩ : HEnt))) m).i, (ent ((es.set m (⟨(ent es m).k, item, (ent es m).f, (ent es m).t, (ent es m).e⟩ : HEnt))) m).f, now, (ent ((es.set m (⟨(ent es m).k, item, (ent es m).f, (ent es m).t, (ent es m).e⟩ : HEnt))) m).e⟩ : HEnt))) m).f, (ent (((es.set m (⟨(ent es m).k, item, (ent es m).f, (ent es m).t, (ent es m).e⟩ : HEnt)).set m (⟨(ent ((es.set m (⟨(ent es m).k, item, (ent es m).f, (ent es m).t, (ent es m).e⟩ : HEnt))) m).k, (ent ((es.set m (⟨(ent es m).k, item, (ent es m).f, (ent es m).t, (ent es m).e⟩ : HEnt))) m).i, (ent ((es.set m (⟨(ent es m).k, item, (ent es m).f, (ent es m).t, (ent es m).e⟩ : HEnt))) m).f, now, (ent ((es.set m (⟨(ent es m).k, item, (ent es m).f, (ent es m).t, (ent es m).e⟩ : HEnt))) m).e⟩ : HEnt))) m).t, true⟩ : HEnt) (by decide) rfl) ?_; clear hM; intro w4 hM
    replace hM : Mem _ _ [pt br #[.int .i64 (now + 1), .slice ((some ⟨g3, 0, none⟩)) es.length lc] 39, own 64 5 (.slice ((some ⟨g3, 0, none⟩)) es.length lc) es.length (entV ((((es.set m (⟨(ent es m).k, item, (ent es m).f, (ent es m).t, (ent es m).e⟩ : HEnt)).set m (⟨(ent ((es.set m (⟨(ent es m).k, item, (ent es m).f, (ent es m).t, (ent es m).e⟩ : HEnt))) m).k, (ent ((es.set m (⟨(ent es m).k, item, (ent es m).f, (ent es m).t, (ent es m).e⟩ : HEnt))) m).i, (ent ((es.set m (⟨(ent es m).k, item, (ent es m).f, (ent es m).t, (ent es m).e⟩ : HEnt))) m).f, now, (ent ((es.set m (⟨(ent es m).k, item, (ent es m).f, (ent es m).t, (ent es m).e⟩ : HEnt))) m).e⟩ : HEnt)).set m (⟨(ent (((es.set m (⟨(ent es m).k, item, (ent es m).f, (ent es m).t, (ent es m).e⟩ : HEnt)).set m (⟨(ent ((es.set m (⟨(ent es m).k, item, (ent es m).f, (ent es m).t, (ent es m).e⟩ : HEnt))) m).k, (ent ((es.set m (⟨(ent es m).k, item, (ent es m).f, (ent es m).t, (ent es m).e⟩ : HEnt))) m).i, (ent ((es.set m (⟨(ent es m).k, item, (ent es m).f, (ent es m).t, (ent es m).e⟩ : HEnt))) m).f, now, (ent ((es.set m (⟨(ent es m).k, item, (ent es m).f, (ent es m).t, (ent es m).e⟩ : HEnt))) m).e⟩ : HEnt))) m).k, (ent (((es.set m (⟨(ent es m).k, item, (ent es m).f, (ent es m).t, (ent es m).e⟩ : HEnt)).set m (⟨(ent ((es.set m (⟨(ent es m).k, item, (ent es m).f, (ent es m).t, (ent es m).e⟩ : HEnt))) m).k, (ent ((es.set m (⟨(ent es m).k, item, (ent es m).f, (ent es m).t, (ent es m).e⟩ : HEnt))) m).i, (ent ((es.set m (⟨(ent es m).k, item, (ent es m).f, (ent es m).t, (ent es m).e⟩ : HEnt))) m).f, now, (ent ((es.set m (⟨(ent es m).k, item, (ent es m).f, (ent es m).t, (ent es m).e⟩ : HEnt))) m).e⟩ : HEnt))) m).i, (ent (((es.set m (⟨(ent es m).k, item, (ent es m).f, (ent es m).t, (ent es m).e⟩ : HEnt)).set m (⟨(ent ((es.set m (⟨(ent es m).k, item, (ent es m).f, (ent es m).t, (ent es m).e⟩ : HEnt))) m).k, (ent ((es.set m (⟨(ent es m).k, item, (ent es m).f, (ent es m).t, (ent es m).e⟩ : HEnt))) m).i, (ent ((es.set m (⟨(ent es m).k, item, (ent es m).f, (ent es m).t, (ent es m).e⟩ : HEnt))) m).f, now, (ent ((es.set m (⟨(ent es m).k, item, (ent es m).f, (ent es m).t, (ent es m).e⟩ : HEnt))) m).e⟩ : HEnt))) m).f, (ent (((es.set m (⟨(ent es m).k, item, (ent es m).f, (ent es m).t, (ent es m).e⟩ : HEnt)).set m (⟨(ent ((es.set m (⟨(ent es m).k, item, (ent es m).f, (ent es m).t, (ent es m).e⟩ : HEnt))) m).k, (ent ((es.set m (⟨(ent es m).k, item, (ent es m).f, (ent es m).t, (ent es m).e⟩ : HEnt))) m).i, (ent ((es.set m (⟨(ent es m).k, item, (ent es m).f, (ent es m).t, (ent es m).e⟩ : HEnt))) m).f, now, (ent ((es.set m (⟨(ent es m).k, item, (ent es m).f, (ent es m).t, (ent es m).e⟩ : HEnt))) m).e⟩ : HEnt))) m).t, true⟩ : HEnt))))] _ := hM
    refine S.done ?_
    replace hA : St 53 [] a := hA.sub (.nil)
    refine Ends.seq (Ends.region ?_)
    refine S.val hA (R.assign rfl) rfl ?_; clear hA a; intro a hA
    refine S.done ?_
    refine Ends.ret1 Tryd.func11 Tryd.results11 hA rfl ?_
    replace hM := hM.front (k := 1) rfl
    replace hM := hM.front (k := 1) rfl
    replace hM := hM.firstN 2
    obtain ⟨g1, g2⟩ := end_ok (es := es) (m := m) (by omega) hc4 item now
    rw [set3 (by omega) item now rfl rfl rfl, ← g2] at hM
    exact ⟨by rw [g1], hM⟩
set_option maxRecDepth 100000 in
set_option maxHeartbeats 400000 in
theorem ops21 (br : Nat) (now : Int) (hn : 0 ≤ now ∧ now ≤ 100000) (la : Option Addr) (lc : Nat) (es : List HEnt) (hl : es.length ≤ 1000) (w : World) (hM0 : Mem w (feet [pt br #[.int .i64 now, .slice la es.length lc] 39, own 64 5 (.slice la es.length lc) es.length (entV es)]) [pt br #[.int .i64 now, .slice la es.length lc] 39, own 64 5 (.slice la es.length lc) es.length (entV es)] w) :
  Calls Tryd.prog 12 #[.pointer (some ⟨br, 0, none⟩)] w fun e w' => ∃ a c, e = .returned (.slice a (opsOf es).length c) ∧ Mem w (feet [pt br #[.int .i64 now, .slice la es.length lc] 39, own 64 5 (.slice la es.length lc) es.length (entV es)]) [own 26 4 (.slice a (opsOf es).length c) (opsOf es).length (hopV (opsOf es)), pt br #[.int .i64 now, .slice la es.length lc] 39, own 64 5 (.slice la es.length lc) es.length (entV es)] w' := by
 have hbs := Below.refl (B := w.heap.size) w
 have hM := hM0
 refine Calls.of_ends (vs := [.pointer (some ⟨br, 0, none⟩)]) Tryd.func12 rfl Tryd.ntmps12 rfl ?_
 intro a hA
 replace hA : St 26 [(0, _)] a := hA
 refine Ends.seq (Ends.region ?_)
 refine S.val hA (R.assign rfl) rfl ?_; clear hA a; intro a hA
 refine S.done ?_
 refine Ends.seq (Ends.seq (Ends.region ?_))
 refine S.val hA (R.move rfl) rfl ?_; clear hA a; intro a hA
 refine S.val hA (R.eqlNil Tryd.underlying32 rfl rfl) rfl ?_; clear hA a; intro a hA
 refine S.done ?_
 refine Ends.condF hA rfl ?_
 refine Ends.skip (Ends.seq (Ends.region ?_))
 refine S.val hA (R.assign rfl) rfl ?_; clear hA a; intro a hA
 refine S.done ?_
 refine Ends.seq (Ends.seq (Ends.region ?_))
 refine S.val hA (R.move rfl) rfl ?_; clear hA a; intro a hA
 refine S.val hA (R.nilCheck rfl) rfl ?_; clear hA a; intro a hA
 refine S.val hA (R.fieldAddr (q := 1) fi39_1 rfl rfl rfl) rfl ?_; clear hA a; intro a hA
 refine S.val hA (R.load sz37 rfl (hM.cell (k := 0) rfl rfl)) rfl ?_; clear hA a; intro a hA
 refine S.val hA (R.lenS Tryd.underlying37 rfl rfl) rfl ?_; clear hA a; intro a hA
 refine S.val hA (R.move rfl) rfl ?_; clear hA a; intro a hA
 refine S.done ?_
 replace hA : St 26 [(3, _), (11, _), (12, _), (13, _)] a := hA.sub ((.cons rfl (.cons rfl (.cons rfl (.cons rfl .nil)))))
 refine Ends.block ?_
 replace hM := hM.ownNil 26 4
 replace hM : Mem _ _ [own 26 4 (.slice none (((opsOf (es.take 0))).length) 0) (((opsOf (es.take 0))).length) (hopV ((opsOf (es.take 0)))), pt br #[.int .i64 now, .slice la es.length lc] 39, own 64 5 (.slice la es.length lc) es.length (entV es)] _ := hM
 replace hA : St 26 [(3, .slice none ((opsOf (es.take 0)).length) 0), (11, .slice la es.length lc), (12, .int .i64 ((es.length : Int))), (13, .int .i64 0)] a := hA.sub ((.cons rfl (.cons rfl (.cons rfl (.cons rfl .nil)))))
 refine Ends.loop (σ := Nat × Option Addr × Nat) (fun (k, oa, oc) (a : Act) (wv : World) => St 26 [(3, .slice oa ((opsOf (es.take k)).length) oc), (11, .slice la es.length lc), (12, .int .i64 ((es.length : Int))), (13, .int .i64 ((k : Int)))] a ∧ Mem w (feet [pt br #[.int .i64 now, .slice la es.length lc] 39, own 64 5 (.slice la es.length lc) es.length (entV es)]) [own 26 4 (.slice oa (((opsOf (es.take k))).length) oc) (((opsOf (es.take k))).length) (hopV ((opsOf (es.take k)))), pt br #[.int .i64 now, .slice la es.length lc] 39, own 64 5 (.slice la es.length lc) es.length (entV es)] wv ∧ (k ≤ es.length)) (fun (k, oa, oc) => es.length - k) ((0, none, 0)) ⟨hA.sub ((.cons rfl (.cons rfl (.cons rfl (.cons rfl .nil))))), hM, (Nat.zero_le _)⟩ ?_
 clear hA hM a
 rintro ⟨k, oa, oc⟩ a w1 ⟨hA, hM, hk⟩ hNext
 refine Ends.seq (Ends.region ?_)
 refine S.val hA (R.lss rfl rfl) rfl ?_; clear hA a; intro a hA
 refine S.done ?_
 refine Ends.seq ?_
 refine Ends.ite hA rfl (fun hc1 => ?_) (fun hc1 => ?_)
 ·
  obtain ⟨g2, hg2⟩ := hM.ownAt (k := 2) rfl (by omega)
  subst hg2
  replace hM : Mem _ _ [own 26 4 (.slice oa (((opsOf (es.take k))).length) oc) (((opsOf (es.take k))).length) (hopV ((opsOf (es.take k)))), pt br #[.int .i64 now, .slice ((some ⟨g2, 0, none⟩)) es.length lc] 39, own 64 5 (.slice ((some ⟨g2, 0, none⟩)) es.length lc) es.length (entV es)] _ := hM
  have hol8 := opsOf_le (es.take k)
  rw [List.length_take] at hol8
  refine Ends.skip (Ends.seq (Ends.block (Ends.seq (Ends.region ?_))))
  refine S.val hA (R.indexAddr (q := k * 5) sl37 rfl rfl (by omega) (by omega)) rfl ?_; clear hA a; intro a hA
  refine S.val hA (R.loadA sz64 rfl (hM.ownRange (k := 2) rfl (o := k * 5) (cs := [.int .i64 ((ent es k).k), .int .i64 ((ent es k).i), .int .i64 ((ent es k).f), .int .i64 ((ent es k).t), .bool ((ent es k).e)]) (entV_row es k (by first | omega | (simp only [List.length_set]; omega) | (simp; omega)))) rfl) rfl ?_; clear hA a; intro a hA
  refine S.alloc hA hM info64 rfl rfl ?_; clear hA hM a; intro b3 w2 hb4 hM a hA
  replace hM : Mem _ _ [pt b3 #[.int .i64 0, .int .i64 0, .int .i64 0, .int .i64 0, .bool false] 64, own 26 4 (.slice oa (((opsOf (es.take k))).length) oc) (((opsOf (es.take k))).length) (hopV ((opsOf (es.take k)))), pt br #[.int .i64 now, .slice ((some ⟨g2, 0, none⟩)) es.length lc] 39, own 64 5 (.slice ((some ⟨g2, 0, none⟩)) es.length lc) es.length (entV es)] _ := hM
  refine S.storeA (k := 0) hA hM sz64 rfl rfl rfl rfl rfl rfl ?_; clear hM
  intro w3 hM
  replace hM : Mem _ _ [pt b3 #[.int .i64 ((ent es k).k), .int .i64 ((ent es k).i), .int .i64 ((ent es k).f), .int .i64 ((ent es k).t), .bool ((ent es k).e)] 64, own 26 4 (.slice oa (((opsOf (es.take k))).length) oc) (((opsOf (es.take k))).length) (hopV ((opsOf (es.take k)))), pt br #[.int .i64 now, .slice ((some ⟨g2, 0, none⟩)) es.length lc] 39, own 64 5 (.slice ((some ⟨g2, 0, none⟩)) es.length lc) es.length (entV es)] _ := hM
  refine S.done ?_
  refine Ends.seq (Ends.region ?_)
  refine S.val hA (R.fieldAddr (q := 4) fi64_1 rfl rfl rfl) rfl ?_; clear hA a; intro a hA
  refine S.val hA (R.load sz4 rfl (hM.cell (k := 0) rfl rfl)) rfl ?_; clear hA a; intro a hA
  refine S.done ?_
  replace hA : St 26 [(3, _), (5, _), (11, _), (12, _), (13, _), (18, _)] a := hA.sub ((.cons rfl (.cons rfl (.cons rfl (.cons rfl (.cons rfl (.cons rfl .nil)))))))
  refine Ends.iteB hA rfl (fun hc5 => ?_) (fun hc5 => ?_)
  ·
   refine Ends.region ?_
   refine S.val hA (R.move rfl) rfl ?_; clear hA a; intro a hA
   refine S.val hA (R.fieldAddr (q := 0) fi64_0 rfl rfl rfl) rfl ?_; clear hA a; intro a hA
   refine S.val hA (R.loadA sz26 rfl (hM.part (k := 0) rfl 0 4 rfl) rfl) rfl ?_; clear hA a; intro a hA
   refine S.buildSl (cells := #[.int .i64 ((ent es k).k), .int .i64 ((ent es k).i), .int .i64 ((ent es k).f), .int .i64 ((ent es k).t)]) hA hM Tryd.underlying23 info26 rfl rfl rfl rfl (by kernel_rfl) rfl ?_; clear hA hM a; intro b6 w4 hb7 hM a hA
   replace hM : Mem _ _ [pt b6 #[.int .i64 ((ent es k).k), .int .i64 ((ent es k).i), .int .i64 ((ent es k).f), .int .i64 ((ent es k).t)] 26, pt b3 #[.int .i64 ((ent es k).k), .int .i64 ((ent es k).i), .int .i64 ((ent es k).f), .int .i64 ((ent es k).t), .bool ((ent es k).e)] 64, own 26 4 (.slice oa (((opsOf (es.take k))).length) oc) (((opsOf (es.take k))).length) (hopV ((opsOf (es.take k)))), pt br #[.int .i64 now, .slice ((some ⟨g2, 0, none⟩)) es.length lc] 39, own 64 5 (.slice ((some ⟨g2, 0, none⟩)) es.length lc) es.length (entV es)] _ := hM
   refine S.append (k := 2) (k2 := 0) hA hM rfl rfl Tryd.underlying23 info26 rfl rfl rfl rfl rfl rfl rfl rfl rfl (by first | (show (_ + 1) * 32 ≤ (140737488355328 : Nat); omega) | (unfold maxLen; omega)) (by first | (show (_ + 1) * 32 ≤ (140737488355328 : Nat); omega) | (unfold maxLen; omega)) rfl ?_; clear hA hM a; intro a8 c9 w5 hM a hA
   replace hM : Mem _ _ [pt b6 #[.int .i64 ((ent es k).k), .int .i64 ((ent es k).i), .int .i64 ((ent es k).f), .int .i64 ((ent es k).t)] 26, pt b3 #[.int .i64 ((ent es k).k), .int .i64 ((ent es k).i), .int .i64 ((ent es k).f), .int .i64 ((ent es k).t), .bool ((ent es k).e)] 64, own 26 4 (.slice a8 ((((opsOf (es.take k))).length) + 1) c9) ((((opsOf (es.take k))).length) + 1) (hopV ((opsOf (es.take k))) ++ [.int .i64 ((ent es k).k), .int .i64 ((ent es k).i), .int .i64 ((ent es k).f), .int .i64 ((ent es k).t)]), pt br #[.int .i64 now, .slice ((some ⟨g2, 0, none⟩)) es.length lc] 39, own 64 5 (.slice ((some ⟨g2, 0, none⟩)) es.length lc) es.length (entV es)] _ := hM
   have hl10 : (((opsOf (es.take k))).length) + 1 = ((opsOf (es.take k)) ++ [(⟨(ent es k).k, (ent es k).i, (ent es k).f, (ent es k).t⟩ : HOp)]).length := by simp
   rw [hl10, show hopV ((opsOf (es.take k))) ++ [.int .i64 ((ent es k).k), .int .i64 ((ent es k).i), .int .i64 ((ent es k).f), .int .i64 ((ent es k).t)] = hopV ((opsOf (es.take k)) ++ [(⟨(ent es k).k, (ent es k).i, (ent es k).f, (ent es k).t⟩ : HOp)]) from hopV_app ((opsOf (es.take k))) (⟨(ent es k).k, (ent es k).i, (ent es k).f, (ent es k).t⟩ : HOp)] at hM; rw [hl10] at hA
   clear hl10
   replace hM := hM.drop 0
   replace hM : Mem _ _ [pt b3 #[.int .i64 ((ent es k).k), .int .i64 ((ent es k).i), .int .i64 ((ent es k).f), .int .i64 ((ent es k).t), .bool ((ent es k).e)] 64, own 26 4 (.slice a8 ((((opsOf (es.take k)) ++ [(⟨(ent es k).k, (ent es k).i, (ent es k).f, (ent es k).t⟩ : HOp)])).length) c9) ((((opsOf (es.take k)) ++ [(⟨(ent es k).k, (ent es k).i, (ent es k).f, (ent es k).t⟩ : HOp)])).length) (hopV (((opsOf (es.take k)) ++ [(⟨(ent es k).k, (ent es k).i, (ent es k).f, (ent es k).t⟩ : HOp)]))), pt br #[.int .i64 now, .slice ((some ⟨g2, 0, none⟩)) es.length lc] 39, own 64 5 (.slice ((some ⟨g2, 0, none⟩)) es.length lc) es.length (entV es)] _ := hM
   refine S.val hA (R.assign rfl) rfl ?_; clear hA a; intro a hA
   refine S.done ?_
   replace hA : St 26 [(3, _), (11, _), (12, _), (13, _)] a := hA.sub ((.cons rfl (.cons rfl (.cons rfl (.cons rfl .nil)))))
   refine Ends.inBlock (Ends.region ?_)
   refine S.val hA (R.addI rfl rfl (r := ((k : Int)) + 1) rfl (by omega)) rfl ?_; clear hA a; intro a hA
   refine S.val hA (R.move rfl) rfl ?_; clear hA a; intro a hA
   refine S.done ?_
   replace hM := hM.front (k := 3) rfl
   replace hM := hM.front (k := 3) rfl
   replace hM := hM.front (k := 3) rfl
   replace hM := hM.firstN 3
   rw [opsOf_yes (by omega) hc5] at hM hA
   exact hNext ((k + 1, a8, c9)) _ _ ((by show es.length - (k + 1) < es.length - k; omega)) ⟨hA.sub ((.cons rfl (.cons rfl (.cons rfl (.cons rfl .nil))))), hM, (by omega)⟩
  ·
   refine Ends.skip (Ends.inBlock (Ends.region ?_))
   refine S.val hA (R.addI rfl rfl (r := ((k : Int)) + 1) rfl (by omega)) rfl ?_; clear hA a; intro a hA
   refine S.val hA (R.move rfl) rfl ?_; clear hA a; intro a hA
   refine S.done ?_
   replace hM := hM.front (k := 3) rfl
   replace hM := hM.front (k := 3) rfl
   replace hM := hM.front (k := 3) rfl
   replace hM := hM.firstN 3
   rw [opsOf_no (by omega) hc5] at hM hA
   exact hNext ((k + 1, oa, oc)) _ _ ((by show es.length - (k + 1) < es.length - k; omega)) ⟨hA.sub ((.cons rfl (.cons rfl (.cons rfl (.cons rfl .nil))))), hM, (by omega)⟩
 ·
  refine Ends.exit rfl ?_
  replace hA : St 26 [(3, _)] a := hA.sub ((.cons rfl .nil))
  refine Ends.seq (Ends.region ?_)
  refine S.val hA (R.move rfl) rfl ?_; clear hA a; intro a hA
  refine S.val hA (R.assign rfl) rfl ?_; clear hA a; intro a hA
  refine S.done ?_
  refine Ends.ret1 Tryd.func12 Tryd.results12 hA rfl ?_
  replace hM := hM.front (k := 2) rfl
  replace hM := hM.front (k := 2) rfl
  replace hM := hM.front (k := 2) rfl
  replace hM := hM.firstN 3
  obtain rfl : k = es.length := by omega
  rw [List.take_length] at hM
  exact ⟨oa, oc, by rw [List.take_length], hM⟩
end Go.Proofs.YtjjbognomeplbaaDoor
namespace Go.Proofs.YtjjbognomeplbaaDoor
open Go.RowKit
theorem end_ok21 (br : Nat) (now : Int) (hn : 0 ≤ now ∧ now ≤ 100000) (la : Option Addr) (lc : Nat) (es : List HEnt) (hl : es.length ≤ 1000) (m : Nat) (item : Int) (hm : m < es.length) (he : (ent es m).e = false) (w : World) (hM0 : Mem w (feet [pt br #[.int .i64 now, .slice la es.length lc] 39, own 64 5 (.slice la es.length lc) es.length (entV es)]) [pt br #[.int .i64 now, .slice la es.length lc] 39, own 64 5 (.slice la es.length lc) es.length (entV es)] w) :
    Calls Tryd.prog 11 #[.pointer (some ⟨br, 0, none⟩), .int .i64 (m : Int), .int .i64 item] w fun e w' => e = .returned (.int .i64 0) ∧ Mem w (feet [pt br #[.int .i64 now, .slice la es.length lc] 39, own 64 5 (.slice la es.length lc) es.length (entV es)]) [pt br #[.int .i64 (now + 1), .slice la es.length lc] 39, own 64 5 (.slice la es.length lc) es.length (entV (es.set m ⟨(ent es m).k, item, (ent es m).f, now, true⟩))] w' := by
  have h := end21 br now hn la lc es hl (m : Int) item w hM0
  obtain ⟨g1, g2⟩ := end_ok hm he item now
  rwa [g1, g2] at h
end Go.Proofs.YtjjbognomeplbaaDoor
namespace Go.Proofs.YtjjbognomeplbaaDoor
open Go.RowKit
def okT : List Int → List Int → Prop
  | _, [] => True
  | b, v :: l => if v = -1 then b = [] ∧ okT b l else v ∈ b ∧ okT (b.erase v) l
def bgT : List Int → List Int → List Int
  | b, [] => b
  | b, v :: l => bgT (if v = -1 then b else b.erase v) l
theorem okT_mem {v : Int} (hv : v ≠ -1) : ∀ {l b : List Int}, okT b l → v ∈ l → v ∈ b
  | [], b, _, h => by cases h
  | u :: l, b, h, hm => by
    unfold okT at h
    by_cases hu : u = -1
    · rw [if_pos hu] at h
      cases hm with
      | head => exact absurd hu hv
      | tail _ hm => exact okT_mem hv h.2 hm
    · rw [if_neg hu] at h
      cases hm with
      | head => exact h.1
      | tail _ hm => exact List.mem_of_mem_erase (okT_mem hv h.2 hm)
theorem okT_swap {v : Int} : ∀ {l m b : List Int}, okT b (l ++ v :: m) → (if v = -1 then b = [] else v ∈ b) → okT (if v = -1 then b else b.erase v) (l ++ m)
  | [], m, b, h, _ => by
    rw [List.nil_append] at h ⊢
    unfold okT at h
    by_cases hv : v = -1
    · rw [if_pos hv] at h ⊢; exact h.2
    · rw [if_neg hv] at h ⊢; exact h.2
  | u :: l, m, b, h, hv => by
    rw [List.cons_append] at h ⊢
    unfold okT at h ⊢
    by_cases hu : u = -1
    · rw [if_pos hu] at h ⊢
      by_cases hv1 : v = -1
      · rw [if_pos hv1] at hv ⊢
        have := okT_swap h.2 (by rw [if_pos hv1]; exact hv)
        rw [if_pos hv1] at this
        exact ⟨h.1, this⟩
      · rw [if_neg hv1, h.1] at hv
        cases hv
    · rw [if_neg hu] at h ⊢
      by_cases hv1 : v = -1
      · rw [if_pos hv1] at hv
        rw [hv] at h
        exact absurd h.1 (by simp)
      · rw [if_neg hv1] at hv ⊢
        have hv2 : v ∈ b.erase u := okT_mem hv1 h.2 (List.mem_append_right _ (.head _))
        have h3 := okT_swap h.2 (by rw [if_neg hv1]; exact hv2)
        rw [if_neg hv1, List.erase_comm] at h3
        refine ⟨?_, h3⟩
        by_cases e : u = v
        · rw [e] at hv2 ⊢; exact hv2
        · exact (List.mem_erase_of_ne e).2 h.1
def Feas (ops : List HOp) (f : Nat → Bool) (b : List Int) : Prop :=
  ∃ s : List Nat, s.Nodup ∧ (∀ a, a ∈ s ↔ a < 128 ∧ f a = true) ∧ s.Pairwise (fun a c => ¬ (hop ops c).t < (hop ops a).f) ∧ okT b (s.map fun a => (hop ops a).i)
def Acc (ops : List HOp) (f : Nat → Bool) (b : List Int) (m : Nat) : Prop := m < 128 ∧ f m = true ∧ mayP ops f m = true ∧ doP (hop ops m) b ≠ none
theorem least {p : Nat → Prop} (h : ∃ m, p m) : ∃ m, p m ∧ ∀ a, a < m → ¬ p a := by
  obtain ⟨m, hm⟩ := h
  have key : ∀ n m, m ≤ n → p m → ∃ m, p m ∧ ∀ a, a < m → ¬ p a := by
    intro n
    induction n with
    | zero => intro m hm h; exact ⟨m, h, fun a ha => by omega⟩
    | succ n ih =>
      intro m hm h
      by_cases hx : ∃ a, a < m ∧ p a
      · obtain ⟨a, ha, hp⟩ := hx
        exact ih a (by omega) hp
      · exact ⟨m, h, fun a ha hp => hx ⟨a, ha, hp⟩⟩
  exact key m m (Nat.le_refl _) hm
theorem doP_take {o : HOp} {b : List Int} (hk : o.k = 2) : doP o b = if o.i = -1 then (if b = [] then some b else none) else if o.i ∈ b then some (b.erase o.i) else none := by
  unfold doP
  rw [if_neg (by rw [hk]; decide)]
theorem feas_go {ops : List HOp} (hk : ∀ a, (∃ f : Nat → Bool, True) → a < ops.length → (hop ops a).k = 2) : ∀ (n : Nat) (f : Nat → Bool) (b : List Int), (∀ a, f a = true → a < ops.length) → (eL f 0).length = n → Feas ops f b → ∃ r, OkC ops r f b ∧ r.length = n
 | 0, f, b, _, hn, _ => ⟨[], key_nil.2 (List.length_eq_zero_iff.1 hn), rfl⟩
 | n + 1, f, b, hf, hn, hs => by
  obtain ⟨s, h1, h2, h3, h4⟩ := hs
  have hacc : ∃ m, Acc ops f b m := by
   cases s with
   | nil =>
    exfalso
    cases hl : eL f 0 with
    | nil => rw [hl] at hn; cases hn
    | cons x l =>
     obtain ⟨c, -, hc1, hc2⟩ := mem_eL.1 (show x ∈ eL f 0 by rw [hl]; exact .head _)
     have := (h2 c).2 ⟨hc1, hc2⟩
     cases this
   | cons a s =>
    obtain ⟨ha1, ha2⟩ := (h2 a).1 (.head _)
    refine ⟨a, ha1, ha2, may_yes fun x hx => ?_, ?_⟩
    ·
     obtain ⟨q, rfl, hq1, hq2⟩ := mem_eL.1 hx
     have hqa : q ≠ a := fun e => by subst e; simp [woF] at hq2
     have hq : q ∈ a :: s := (h2 q).2 ⟨hq1, wo_mem hq2⟩
     have hq' : q ∈ s := by
      cases hq with
      | head => exact absurd rfl hqa
      | tail _ hq => exact hq
     exact decide_eq_false ((List.pairwise_cons.1 h3).1 q hq')
    ·
     rw [doP_take (hk a ⟨f, trivial⟩ (hf a ha2))]
     rw [List.map_cons] at h4
     unfold okT at h4
     by_cases e : (hop ops a).i = -1
     · rw [if_pos e] at h4 ⊢; rw [if_pos h4.1]; simp
     · rw [if_neg e] at h4 ⊢; rw [if_pos h4.1]; simp
  obtain ⟨m, ⟨hm1, hm2, hm3, hm4⟩, hm5⟩ := least hacc
  have hkm := hk m ⟨f, trivial⟩ (hf m hm2)
  obtain ⟨A, B, rfl⟩ := List.append_of_mem ((h2 m).2 ⟨hm1, hm2⟩)
  have hap : if (hop ops m).i = -1 then b = [] else (hop ops m).i ∈ b := by
   rw [doP_take hkm] at hm4
   by_cases e : (hop ops m).i = -1
   ·
    rw [if_pos e] at hm4 ⊢
    by_cases hb : b = []
    · exact hb
    · rw [if_neg hb] at hm4; exact absurd rfl hm4
   ·
    rw [if_neg e] at hm4 ⊢
    by_cases hb : (hop ops m).i ∈ b
    · exact hb
    · rw [if_neg hb] at hm4; exact absurd rfl hm4
  have hdo : doP (hop ops m) b = some (if (hop ops m).i = -1 then b else b.erase (hop ops m).i) := by
   rw [doP_take hkm]
   by_cases e : (hop ops m).i = -1
   · rw [if_pos e] at hap; rw [if_pos e, if_pos hap, if_pos e]
   · rw [if_neg e] at hap; rw [if_neg e, if_pos hap, if_neg e]
  have hnd := List.nodup_append.1 h1
  have hmA : m ∉ A := fun h => hnd.2.2 m h m (.head _) rfl
  have hmB : m ∉ B := (List.nodup_cons.1 hnd.2.1).1
  have hsub : (A ++ B).Sublist (A ++ m :: B) := List.Sublist.append (List.Sublist.refl A) (List.sublist_cons_self m B)
  have hfe : Feas ops (woF f m) (if (hop ops m).i = -1 then b else b.erase (hop ops m).i) := by
   refine ⟨A ++ B, h1.sublist hsub, fun a => ?_, h3.sublist hsub, ?_⟩
   ·
    have ha := h2 a
    simp only [List.mem_append, List.mem_cons] at ha ⊢
    constructor
    ·
     intro h
     have hne : a ≠ m := fun e => by subst e; rcases h with h | h; exact hmA h; exact hmB h
     have h9 := ha.1 (by rcases h with h | h; exact .inl h; exact .inr (.inr h))
     refine ⟨h9.1, ?_⟩
     unfold woF
     rw [h9.2, decide_eq_false hne]; rfl
    ·
     intro ⟨h8, h9⟩
     have hne : a ≠ m := fun e => by subst e; simp [woF] at h9
     rcases ha.2 ⟨h8, wo_mem h9⟩ with h | h | h
     · exact .inl h
     · exact absurd h hne
     · exact .inr h
   ·
    rw [List.map_append] at h4 ⊢
    exact okT_swap h4 hap
  have hw := eL_wo hm1 hm2
  obtain ⟨r, hr1, hr2⟩ := feas_go hk n (woF f m) _ (fun a ha => hf a (wo_mem ha)) (by omega) hfe
  refine ⟨(m : Int) :: r, ⟨m, rfl, hm1, hm2, hm3, fun a ha hfa => ?_, _, hdo, hr1⟩, by rw [List.length_cons, hr2]⟩
  have hna := hm5 a ha
  by_cases hma : mayP ops f a = true
  ·
   right
   cases hd : doP (hop ops a) b with
   | none => rfl
   | some y => exact absurd ⟨by omega, hfa, hma, by rw [hd]; simp⟩ hna
  · left; simpa using hma
theorem eL_less {n : Nat} (hn : n ≤ 128) : (eL (lessF n) 0).length = n := by
  rw [eL_len]
  have : ∀ k, cnt (lessF n) k = min n k := by
    intro k
    induction k with
    | zero => simp [cnt]
    | succ k ih =>
      rw [cnt, ih]
      by_cases h : k < n
      · rw [if_pos (show lessF n k = true by unfold lessF; exact decide_eq_true h)]; omega
      · rw [if_neg (show ¬ lessF n k = true by unfold lessF; simp; omega)]; omega
  rw [this]; omega
theorem takes_find {ops : List HOp} {b : List Int} {s : List Nat} (hn : ops.length ≤ 12) (hb : b.length ≤ 100) (hk : ∀ a, a < ops.length → (hop ops a).k = 2) (hr : ops.all rightP = true)
    (h1 : s.Nodup) (h2 : ∀ a, a ∈ s ↔ a < ops.length) (h3 : s.Pairwise (fun a c => ¬ (hop ops c).t < (hop ops a).f)) (h4 : okT b (s.map fun a => (hop ops a).i)) : ∃ r, hordP b ops = (r, 0) ∧ r.length = ops.length := by
  obtain ⟨r, hr1, hr2⟩ := feas_go (fun a _ h => hk a h) ops.length (lessF ops.length) b (fun a h => by unfold lessF at h; simpa using h) (eL_less (by omega))
    ⟨s, h1, fun a => by rw [h2]; unfold lessF; simp; omega, h3, h4⟩
  exact ⟨r, hordP_ok hr hn hb hr1 (by omega), hr2⟩
theorem hordP_err {b : List Int} {ops : List HOp} (hr : ops.all rightP = true) (hn : ops.length ≤ 12) (hb : b.length ≤ 100) : (hordP b ops).2 = 0 ∨ (hordP b ops).2 = 11 := by
  unfold hordP
  rw [if_pos hr, if_neg (by omega)]
  cases (fnd ops ops.length (lessF ops.length) b []).1 with
  | none => exact .inr rfl
  | some r => exact .inl rfl
end Go.Proofs.YtjjbognomeplbaaDoor
namespace Go.Proofs.YtjjbognomeplbaaDoor
open Go.RowKit
structure CellOp where
  kind : Int
  cell : Int
  old : Int
  new : Int
  done : Bool
def both (c d : Ck) : Ck := ⟨fun b => c.foot b ∨ d.foot b, fun w => c.holds w ∧ d.holds w, fun w w' h hh => ⟨c.loc w w' (fun b hb => h b (.inl hb)) hh.1, d.loc w w' (fun b hb => h b (.inr hb)) hh.2⟩⟩
def two (b c : Nat) : Nat → Prop := fun x => x = b ∨ x = c
theorem Mem.start2 {w : World} {b c : Nat} {cs ds : Array Value} {t u : TypeId} (h1 : w.heap[b]? = some (.cells cs t (0, 0))) (h2 : w.heap[c]? = some (.cells ds u (0, 0))) (hne : b ≠ c) : Mem w (two b c) [pt b cs t, pt c ds u] w := by
  refine ⟨rfl, rfl, rfl, Nat.le_refl _, fun _ _ _ => rfl, ?_, ?_, ?_⟩
  · intro d hd
    rcases List.mem_cons.1 hd with rfl | hd
    · exact h1
    · rcases List.mem_cons.1 hd with rfl | hd
      · exact h2
      · cases hd
  · intro d hd x hx
    rcases List.mem_cons.1 hd with rfl | hd
    · have e : x = b := hx
      subst e
      exact ⟨lt_of_block h1, fun _ => .inl rfl⟩
    · rcases List.mem_cons.1 hd with rfl | hd
      · have e : x = c := hx
        subst e
        exact ⟨lt_of_block h2, fun _ => .inr rfl⟩
      · cases hd
  · refine .cons (fun d hd x hx hy => ?_) (.cons (fun d hd => by cases hd) .nil)
    rcases List.mem_cons.1 hd with rfl | hd
    · have e : x = b := hx
      have e' : x = c := hy
      exact hne (e ▸ e')
    · cases hd
theorem Mem.join {w0 w : World} {F : Nat → Prop} {c d : Ck} {L : List Ck} (h : Mem w0 F (c :: d :: L) w) : Mem w0 F (both c d :: L) w := by
  have hc := h.holds c (by simp)
  have hd := h.holds d (by simp)
  have hap := List.pairwise_cons.1 h.apart
  have hap2 := List.pairwise_cons.1 hap.2
  refine ⟨h.os, h.tape, h.output, h.size, h.old, ?_, ?_, ?_⟩
  · intro e he
    rcases List.mem_cons.1 he with rfl | he
    · exact ⟨hc, hd⟩
    · exact h.holds e (by simp [he])
  · intro e he b hb
    rcases List.mem_cons.1 he with rfl | he
    · rcases hb with hb | hb
      · exact h.inb c (by simp) b hb
      · exact h.inb d (by simp) b hb
    · exact h.inb e (by simp [he]) b hb
  · refine List.pairwise_cons.2 ⟨fun e he b hb => ?_, hap2.2⟩
    rcases hb with hb | hb
    · exact hap.1 e (by simp [he]) b hb
    · exact hap2.1 e he b hb
def memA (c : Nat) (l : List Int) (s : Int) (o : CellOp) : Array Value :=
  #[.slice (some ⟨c, 0, none⟩) l.length l.length, .int .i64 s, .int .i64 o.kind, .int .i64 o.cell, .int .i64 o.old, .int .i64 o.new, .bool o.done]
def memO (b c : Nat) (l : List Int) (s : Int) (o : CellOp) : Ck := both (pt b (memA c l s o) 69) (pt c (ints l) 3)
theorem memO.open {b c : Nat} {l : List Int} {s : Int} {o : CellOp} {w : World} (h : (memO b c l s o).holds w) (hne : b ≠ c) : Mem w (two b c) [pt b (memA c l s o) 69, pt c (ints l) 3] w := Mem.start2 h.1 h.2 hne
theorem Mem.toO {w0 w : World} {F : Nat → Prop} {L : List Ck} {b c n : Nat} {l : List Int} {s k i x y : Int} {d : Bool} (h : Mem w0 F (pt b #[.slice (some ⟨c, 0, none⟩) n n, .int .i64 s, .int .i64 k, .int .i64 i, .int .i64 x, .int .i64 y, .bool d] 69 :: pt c (ints l) 3 :: L) w) (hl : l.length = n) :
    Mem w0 F (memO b c l s ⟨k, i, x, y, d⟩ :: L) w := by subst hl; exact h.join
end Go.Proofs.YtjjbognomeplbaaDoor
