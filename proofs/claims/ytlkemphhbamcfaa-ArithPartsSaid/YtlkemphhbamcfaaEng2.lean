/-
  What each operation comes to, whatever else the frame holds. It holds of every program; nothing is assumed.
-/
import Derived.Test.YtlkemphhbamcfaaEng
import Derived.Test.YtlkemphhbamcfaaLib
import Derived.Deep.MidRow
namespace Go.Proofs.Ytlkemphhbamcfaa
open Go.RowKit

/-! ### What is asked of the types -/
/-- A field: where it stands, is it a struct or an array, its cells. -/
def fieldInfo (P : Program) (t : TypeId) (i : Nat) : Option (Nat × Bool × Nat) :=
  match P.underlying t with
  | some (.struct fs) => match fs[i]? with
    | some f => match P.underlying f.type, P.info? f.type with
      | some d, some j => some (f.offset, d.isRow, j.size)
      | _, _ => none
    | none => none
  | _ => none
def szOf (P : Program) (t : TypeId) : Option (Bool × Nat) :=
  match P.underlying t, P.info? t with
  | some d, some j => some (d.isRow, j.size)
  | _, _ => none
/-- The elements of a slice type: a struct or an array, cells. -/
def slInfo (P : Program) (t : TypeId) : Option (Bool × Nat) :=
  match P.underlying t with
  | some (.slice e) => szOf P e
  | _ => none
def arInfo (P : Program) (t : TypeId) : Option (Nat × Bool × Nat) :=
  match P.underlying t with
  | some (.array n e) => (szOf P e).map fun x => (n, x.1, x.2)
  | _ => none

section
variable {P : Program} {l : List (Nat × Value)} {w : World} {ty : TypeId} {x y z : Operand} {k k' : IntKind} {m n : Int} {t yt : TypeId}

theorem fieldInfo_spec {i off sz : Nat} {b : Bool} (h : fieldInfo P t i = some (off, b, sz)) :
    ∃ fs f d j, P.underlying t = some (.struct fs) ∧ fs[i]? = some f ∧ P.underlying f.type = some d ∧ P.info? f.type = some j ∧ f.offset = off ∧ d.isRow = b ∧ j.size = sz := by
  unfold fieldInfo at h
  split at h
  · rename_i fs hu
    split at h
    · rename_i f hf
      split at h
      · rename_i d j hd hj
        simp only [Option.some.injEq, Prod.mk.injEq] at h
        exact ⟨fs, f, d, j, hu, hf, hd, hj, h.1, h.2.1, h.2.2⟩
      · cases h
    · cases h
  · cases h
theorem szOf_spec {sz : Nat} {b : Bool} (h : szOf P t = some (b, sz)) : ∃ d j, P.underlying t = some d ∧ P.info? t = some j ∧ d.isRow = b ∧ j.size = sz := by
  unfold szOf at h
  split at h
  · rename_i d j hd hj
    simp only [Option.some.injEq, Prod.mk.injEq] at h
    exact ⟨d, j, hd, hj, h.1, h.2⟩
  · cases h
theorem slInfo_spec {sz : Nat} {b : Bool} (h : slInfo P t = some (b, sz)) : ∃ e, P.underlying t = some (.slice e) ∧ szOf P e = some (b, sz) := by
  unfold slInfo at h
  split at h
  · rename_i e hu; exact ⟨e, hu, h⟩
  · cases h
theorem arInfo_spec {n sz : Nat} {b : Bool} (h : arInfo P t = some (n, b, sz)) : ∃ e, P.underlying t = some (.array n e) ∧ szOf P e = some (b, sz) := by
  unfold arInfo at h
  split at h
  · rename_i n' e hu
    cases hz : szOf P e with
    | none => simp [hz] at h
    | some x =>
      simp only [hz, Option.map_some, Option.some.injEq, Prod.mk.injEq] at h
      obtain ⟨rfl, h1, h2⟩ := h
      exact ⟨e, hu, by rw [← h1, ← h2] ; exact hz⟩
  · cases h
theorem run_isAgg_of {d : TypeDesc} (h : P.underlying t = some d) : (isAgg t).run P w = .ok d.isRow w := by
  unfold isAgg
  rw [Sem.run_bind, run_underlying h w]
  cases d <;> rfl
theorem run_sizeOf_of {j : TypeInfo} (h : P.info? t = some j) : (sizeOf t).run P w = .ok j.size w := by
  simp [sizeOf, typeInfo, h]

theorem beq_dec (m n : Int) : (m == n) = decide (m = n) := by rw [Bool.eq_iff_iff]; simp

theorem R.tt {p : Prop} [Decidable p] {op : Op} {w' : World} (h : Run P l w op ty (.bool (decide p)) w') (hp : p) : Run P l w op ty (.bool true) w' := by rwa [decide_eq_true hp] at h
theorem R.ff {p : Prop} [Decidable p] {op : Op} {w' : World} (h : Run P l w op ty (.bool (decide p)) w') (hp : ¬ p) : Run P l w op ty (.bool false) w' := by rwa [decide_eq_false hp] at h
theorem R.to {op : Op} {w' : World} {u v : Value} (h : Run P l w op ty u w') (e : u = v) : Run P l w op ty v w' := e ▸ h

/-! ### Copies -/
theorem R.move {v : Value} (hx : opv l x = some v) : Run P l w (.move x) ty v w := fun ev h _ _ _ _ => by simp only [execOp, h _ _ hx]; rfl
theorem R.assign {v : Value} (hx : opv l x = some v) : Run P l w (.assign x) ty v w := fun ev h _ _ _ _ => by simp only [execOp, h _ _ hx]; rfl
theorem R.pickT {v : Value} (hc : opv l z = some (.bool true)) (hx : opv l x = some v) : Run P l w (.pick z x y) ty v w := fun ev h _ _ _ _ => by simp only [execOp, h _ _ hc, h _ _ hx]; rfl
theorem R.pickF {v : Value} (hc : opv l z = some (.bool false)) (hy : opv l y = some v) : Run P l w (.pick z x y) ty v w := fun ev h _ _ _ _ => by simp only [execOp, h _ _ hc, h _ _ hy]; rfl
theorem R.extract {vs : Array Value} {i : Nat} {v : Value} (hx : opv l x = some (.tuple vs)) (hv : vs[i]? = some v) : Run P l w (.extract x i) ty v w := fun ev h _ _ _ _ => by
  simp [execOp, h _ _ hx, Instr.extract, hv]
theorem R.nilCheck {p : Addr} (hx : opv l x = some (.pointer (some p))) : Run P l w (.nilCheck x) ty (.pointer (some p)) w := fun ev h _ _ _ _ => by simp only [execOp, h _ _ hx]; rfl

/-! ### Ints -/
theorem R.add (hx : opv l x = some (.int k m)) (hy : opv l y = some (.int k n)) : Run P l w (.binOp .add t x y yt) ty (.int k (k.wrap (m + n))) w := fun ev h _ _ _ _ => by
  simp [execOp, h _ _ hx, h _ _ hy, eqGuard, binOp, Op.intArith]
theorem R.sub (hx : opv l x = some (.int k m)) (hy : opv l y = some (.int k n)) : Run P l w (.binOp .sub t x y yt) ty (.int k (k.wrap (m - n))) w := fun ev h _ _ _ _ => by
  simp [execOp, h _ _ hx, h _ _ hy, eqGuard, binOp, Op.intArith]
theorem R.mul (hx : opv l x = some (.int k m)) (hy : opv l y = some (.int k n)) : Run P l w (.binOp .mul t x y yt) ty (.int k (k.wrap (m * n))) w := fun ev h _ _ _ _ => by
  simp [execOp, h _ _ hx, h _ _ hy, eqGuard, binOp, Op.intArith]
theorem R.addI (hx : opv l x = some (.int .i64 m)) (hy : opv l y = some (.int .i64 n)) {r : Int} (hr : m + n = r) (h0 : -9223372036854775808 ≤ r ∧ r ≤ 9223372036854775807) : Run P l w (.binOp .add t x y yt) ty (.int .i64 r) w := by
  subst hr; have := R.add (P := P) (w := w) (ty := ty) (t := t) (yt := yt) hx hy; rwa [IntWalk.i64_in _ ⟨h0.1, by omega⟩] at this
theorem R.subI (hx : opv l x = some (.int .i64 m)) (hy : opv l y = some (.int .i64 n)) {r : Int} (hr : m - n = r) (h0 : -9223372036854775808 ≤ r ∧ r ≤ 9223372036854775807) : Run P l w (.binOp .sub t x y yt) ty (.int .i64 r) w := by
  subst hr; have := R.sub (P := P) (w := w) (ty := ty) (t := t) (yt := yt) hx hy; rwa [IntWalk.i64_in _ ⟨h0.1, by omega⟩] at this
theorem R.mulI (hx : opv l x = some (.int .i64 m)) (hy : opv l y = some (.int .i64 n)) {r : Int} (hr : m * n = r) (h0 : -9223372036854775808 ≤ r ∧ r ≤ 9223372036854775807) : Run P l w (.binOp .mul t x y yt) ty (.int .i64 r) w := by
  subst hr; have := R.mul (P := P) (w := w) (ty := ty) (t := t) (yt := yt) hx hy; rwa [IntWalk.i64_in _ ⟨h0.1, by omega⟩] at this
theorem R.quo (hx : opv l x = some (.int k m)) (hy : opv l y = some (.int k n)) (h0 : n ≠ 0) : Run P l w (.binOp .quo t x y yt) ty (.int k (k.wrap (m.tdiv n))) w := fun ev h _ _ _ _ => by
  simp [execOp, h _ _ hx, h _ _ hy, eqGuard, binOp, Op.intDiv, h0]
theorem R.rem (hx : opv l x = some (.int k m)) (hy : opv l y = some (.int k n)) (h0 : n ≠ 0) : Run P l w (.binOp .rem t x y yt) ty (.int k (m.tmod n)) w := fun ev h _ _ _ _ => by
  simp [execOp, h _ _ hx, h _ _ hy, eqGuard, binOp, Op.intDiv, h0]
theorem R.quoI (hx : opv l x = some (.int .i64 m)) (hy : opv l y = some (.int .i64 n)) {r : Int} (hr : m / n = r) (h0 : 0 ≤ m ∧ m ≤ 9223372036854775807 ∧ 0 < n) : Run P l w (.binOp .quo t x y yt) ty (.int .i64 r) w := by
  subst hr
  have := R.quo (P := P) (w := w) (ty := ty) (t := t) (yt := yt) hx hy (by omega)
  rw [Int.tdiv_eq_ediv_of_nonneg h0.1] at this
  have h1 : 0 ≤ m / n := Int.ediv_nonneg h0.1 (by omega)
  have h2 : m / n ≤ m := Int.ediv_le_self _ h0.1
  rwa [IntWalk.i64_in _ ⟨by omega, by omega⟩] at this
theorem R.remI (hx : opv l x = some (.int k m)) (hy : opv l y = some (.int k n)) {r : Int} (hr : m % n = r) (h0 : 0 ≤ m ∧ n ≠ 0) : Run P l w (.binOp .rem t x y yt) ty (.int k r) w := by
  subst hr
  have := R.rem (P := P) (w := w) (ty := ty) (t := t) (yt := yt) hx hy h0.2
  rwa [Int.tmod_eq_emod_of_nonneg h0.1] at this
theorem R.bits {op : BinOp} (hop : op = .and ∨ op = .or ∨ op = .xor ∨ op = .andNot) (hx : opv l x = some (.int k m)) (hy : opv l y = some (.int k n)) : Run P l w (.binOp op t x y yt) ty (.int k (bits op k m n)) w := fun ev h _ _ _ _ => by
  rcases hop with rfl | rfl | rfl | rfl <;> simp [execOp, h _ _ hx, h _ _ hy, eqGuard, binOp, Op.intBits, Go.bits]
theorem R.shl (hx : opv l x = some (.int k m)) (hy : opv l y = some (.int k' n)) (h0 : 0 ≤ n) : Run P l w (.binOp .shl t x y yt) ty (.int k (k.wrap (m * 2 ^ min n.toNat k.bits))) w := fun ev h _ _ _ _ => by
  simp [execOp, h _ _ hx, h _ _ hy, eqGuard, binOp, Op.shift, show ¬ n < 0 by omega]
theorem R.shr (hx : opv l x = some (.int k m)) (hy : opv l y = some (.int k' n)) (h0 : 0 ≤ n) : Run P l w (.binOp .shr t x y yt) ty (.int k (m.fdiv (2 ^ min n.toNat k.bits))) w := fun ev h _ _ _ _ => by
  simp [execOp, h _ _ hx, h _ _ hy, eqGuard, binOp, Op.shift, show ¬ n < 0 by omega]
theorem R.eql (hx : opv l x = some (.int k m)) (hy : opv l y = some (.int k n)) : Run P l w (.binOp .eql t x y yt) ty (.bool (decide (m = n))) w := fun ev h _ _ _ _ => by
  simp [execOp, h _ _ hx, h _ _ hy, eqGuard, binOp, Op.intCmp, beq_dec]
theorem R.neq (hx : opv l x = some (.int k m)) (hy : opv l y = some (.int k n)) : Run P l w (.binOp .neq t x y yt) ty (.bool (decide (m ≠ n))) w := fun ev h _ _ _ _ => by
  simp [execOp, h _ _ hx, h _ _ hy, eqGuard, binOp, Op.intCmp, bne, beq_dec]
theorem R.lss (hx : opv l x = some (.int k m)) (hy : opv l y = some (.int k n)) : Run P l w (.binOp .lss t x y yt) ty (.bool (decide (m < n))) w := fun ev h _ _ _ _ => by
  simp [execOp, h _ _ hx, h _ _ hy, eqGuard, binOp, Op.intCmp]
theorem R.leq (hx : opv l x = some (.int k m)) (hy : opv l y = some (.int k n)) : Run P l w (.binOp .leq t x y yt) ty (.bool (decide (m ≤ n))) w := fun ev h _ _ _ _ => by
  simp [execOp, h _ _ hx, h _ _ hy, eqGuard, binOp, Op.intCmp]
theorem R.gtr (hx : opv l x = some (.int k m)) (hy : opv l y = some (.int k n)) : Run P l w (.binOp .gtr t x y yt) ty (.bool (decide (n < m))) w := fun ev h _ _ _ _ => by
  simp [execOp, h _ _ hx, h _ _ hy, eqGuard, binOp, Op.intCmp]
theorem R.geq (hx : opv l x = some (.int k m)) (hy : opv l y = some (.int k n)) : Run P l w (.binOp .geq t x y yt) ty (.bool (decide (n ≤ m))) w := fun ev h _ _ _ _ => by
  simp [execOp, h _ _ hx, h _ _ hy, eqGuard, binOp, Op.intCmp]
theorem R.neg (hx : opv l x = some (.int k m)) : Run P l w (.unOp .neg t x) ty (.int k (k.wrap (-m))) w := fun ev h _ _ _ _ => by
  simp [execOp, h _ _ hx, Op.unary, Op.intArith]
theorem R.negI (hx : opv l x = some (.int .i64 m)) (h0 : -9223372036854775807 ≤ m ∧ m ≤ 9223372036854775807) : Run P l w (.unOp .neg t x) ty (.int .i64 (-m)) w := by
  have := R.neg (P := P) (w := w) (ty := ty) (t := t) hx; rwa [IntWalk.i64_in _ ⟨by omega, by omega⟩] at this
theorem R.conv (hd : P.underlying yt = some (.int k')) (hs : P.underlying t = some (.int k)) (hx : opv l x = some (.int k m)) : Run P l w (.convert t yt x) ty (.int k' (k'.wrap m)) w := fun ev h _ _ _ _ => by
  simp [execOp, h _ _ hx, convert, run_underlying hd, run_underlying hs, Conv.intToInt]
/-! ### Bools -/
theorem R.not {b : Bool} (hx : opv l x = some (.bool b)) : Run P l w (.unOp .not t x) ty (.bool (!b)) w := fun ev h _ _ _ _ => by
  simp [execOp, h _ _ hx, Op.unary]
theorem R.notD {p : Prop} [Decidable p] (hx : opv l x = some (.bool (decide p))) : Run P l w (.unOp .not t x) ty (.bool (decide (¬ p))) w := by
  have := R.not (P := P) (w := w) (ty := ty) (t := t) hx
  rwa [decide_not]
theorem R.eqlB {b c : Bool} (ht : P.underlying t = some .bool) (hx : opv l x = some (.bool b)) (hy : opv l y = some (.bool c)) : Run P l w (.binOp .eql t x y yt) ty (.bool (b == c)) w := fun ev h _ _ _ _ => by
  have h1 := run_eql_bool (P := P) w t b c ht
  simp [execOp, h _ _ hx, h _ _ hy, eqGuard, h1]
theorem R.neqB {b c : Bool} (ht : P.underlying t = some .bool) (hx : opv l x = some (.bool b)) (hy : opv l y = some (.bool c)) : Run P l w (.binOp .neq t x y yt) ty (.bool (b != c)) w := fun ev h _ _ _ _ => by
  have h1 := run_neq_bool (P := P) w t b c ht
  simp [execOp, h _ _ hx, h _ _ hy, eqGuard, h1, bne]
/-! ### Pointers against nil -/
theorem run_eql_ptr_nil {p : Option Addr} {e : TypeId} (ht : P.underlying t = some (.pointer e)) : (Op.equal t (.pointer p) (.pointer none)).run P w = .ok p.isNone w := by
  unfold Op.equal Op.maxDepth Op.equalIn
  rw [Sem.run_bind, run_underlying ht w]
  cases p <;> rfl
theorem R.eqlNil {p : Option Addr} {e : TypeId} (ht : P.underlying t = some (.pointer e)) (hx : opv l x = some (.pointer p)) (hy : opv l y = some (.pointer none)) : Run P l w (.binOp .eql t x y yt) ty (.bool p.isNone) w := fun ev h _ _ _ _ => by
  have h1 := run_eql_ptr_nil (P := P) (w := w) (p := p) ht
  simp [execOp, h _ _ hx, h _ _ hy, eqGuard, binOp, h1]
theorem R.neqNil {p : Option Addr} {e : TypeId} (ht : P.underlying t = some (.pointer e)) (hx : opv l x = some (.pointer p)) (hy : opv l y = some (.pointer none)) : Run P l w (.binOp .neq t x y yt) ty (.bool p.isSome) w := fun ev h _ _ _ _ => by
  have h1 := run_eql_ptr_nil (P := P) (w := w) (p := p) ht
  simp [execOp, h _ _ hx, h _ _ hy, eqGuard, binOp, h1]
/-! ### Lengths -/
theorem R.lenS {e : TypeId} {a : Option Addr} {len cap : Nat} {ats : Array TypeId} (ht : P.underlying t = some (.slice e)) (hat : ats = #[t]) (hx : opv l x = some (.slice a len cap)) : Run P l w (.call { callee := .builtin .len, args := #[x], argTypes := ats }) ty (.int .i64 (len : Int)) w := fun ev h _ _ _ _ => by
  subst hat
  simp [execOp, resolve, invoke, builtin, h _ _ hx, Builtin.len_, run_underlying ht, goInt]
theorem R.lenStr {s : ByteArray} {ats : Array TypeId} (ht : P.underlying t = some .string) (hat : ats = #[t]) (hx : opv l x = some (.string s)) : Run P l w (.call { callee := .builtin .len, args := #[x], argTypes := ats }) ty (.int .i64 (s.size : Int)) w := fun ev h _ _ _ _ => by
  subst hat
  simp [execOp, resolve, invoke, builtin, h _ _ hx, Builtin.len_, run_underlying ht, goInt]
theorem R.min {ats : Array TypeId} (hx : opv l x = some (.int k m)) (hy : opv l y = some (.int k n)) : Run P l w (.call { callee := .builtin .min, args := #[x, y], argTypes := ats }) ty (.int k (min m n)) w := fun ev h _ _ _ _ => by
  simp [execOp, resolve, invoke, builtin, h _ _ hx, h _ _ hy, run_min_int2]
  split <;> omega
theorem R.max {ats : Array TypeId} (hx : opv l x = some (.int k m)) (hy : opv l y = some (.int k n)) : Run P l w (.call { callee := .builtin .max, args := #[x, y], argTypes := ats }) ty (.int k (max m n)) w := fun ev h _ _ _ _ => by
  simp [execOp, resolve, invoke, builtin, h _ _ hx, h _ _ hy, run_max_int2]
  split <;> omega
/-! ### Structs and arrays by value -/
theorem R.field {cs : Array Value} {i off sz : Nat} {v : Value} (hi : fieldInfo P t i = some (off, false, sz)) (hx : opv l x = some (.agg cs)) (hv : cs[off]? = some v) : Run P l w (.field t x i) ty v w := fun ev h _ _ _ _ => by
  obtain ⟨fs, f, d, j, hu, hf, hd, hj, rfl, hrow, hsz⟩ := fieldInfo_spec hi
  simp [execOp, h _ _ hx, Instr.field, run_underlying hu, hf, asAgg, part, run_isAgg_of hd, hrow, hv]
theorem R.fieldA {cs : Array Value} {i off sz : Nat} (hi : fieldInfo P t i = some (off, true, sz)) (hx : opv l x = some (.agg cs)) : Run P l w (.field t x i) ty (.agg (cs.extract off (off + sz))) w := fun ev h _ _ _ _ => by
  obtain ⟨fs, f, d, j, hu, hf, hd, hj, rfl, hrow, rfl⟩ := fieldInfo_spec hi
  simp [execOp, h _ _ hx, Instr.field, run_underlying hu, hf, asAgg, part, run_isAgg_of hd, hrow, run_sizeOf_of hj]
theorem R.indexA {cs : Array Value} {i : Int} {len : Nat} {v : Value} (hi : arInfo P t = some (len, false, 1)) (hx : opv l x = some (.agg cs)) (hy : opv l y = some (.int k i)) (h0 : 0 ≤ i ∧ i < len) (hv : cs[i.toNat]? = some v) : Run P l w (.index t x y) ty v w := fun ev h _ _ _ _ => by
  obtain ⟨e, hu, hs⟩ := arInfo_spec hi
  obtain ⟨d, j, hd, hj, hrow, hsz⟩ := szOf_spec hs
  simp [execOp, h _ _ hx, h _ _ hy, Instr.index, asIntOf, run_underlying hu, h0, part, run_isAgg_of hd, hrow, run_sizeOf_of hj, hsz, hv]
theorem R.build {ps : Array (Nat × Operand)} {cells : Array Value} {vs : List Value} (hp : opvs l (ps.toList.map (·.2)) = some vs) (hb : P.built t ((ps.toList.map (·.1)).zip vs) = some cells) : Run P l w (.build t ps) ty (.agg cells) w := fun ev h _ _ _ _ => by
  have key : ∀ (os : List (Nat × Operand)) (vs : List Value), opvs l (os.map (·.2)) = some vs → os.map (fun (i, x) => (i, ev x)) = (os.map (·.1)).zip vs := by
    intro os
    induction os with
    | nil => intro vs hv; simp [opvs] at hv; subst hv; rfl
    | cons o os ih =>
      intro vs hv
      simp only [List.map_cons, opvs] at hv
      split at hv
      · cases hv
      · rename_i v hv1
        split at hv
        · cases hv
        · rename_i us hus
          simp only [Option.some.injEq] at hv
          subst hv
          simp [ih us hus, h _ _ hv1]
  have h1 : (ps.map fun (i, x) => (i, ev x)).toList = (ps.toList.map (·.1)).zip vs := by simpa using key _ _ hp
  simp only [execOp]
  rw [Sem.run_bind, run_build w t _ cells (by rw [h1]; exact hb)]
  rfl
/-! ### Addresses -/
theorem R.fieldAddr {i off sz b o q : Nat} {g : Bool} (hi : fieldInfo P t i = some (off, g, sz)) (hx : opv l x = some (.pointer (some ⟨b, o, none⟩))) (hsz : Nat.beq sz 0 = false) (hq : o + off = q) : Run P l w (.fieldAddr t x i) ty (.pointer (some ⟨b, q, none⟩)) w := fun ev h _ _ _ _ => by
  obtain ⟨fs, f, d, j, hu, hf, hd, hj, rfl, hrow, rfl⟩ := fieldInfo_spec hi
  have hz : ¬ j.size = 0 := by intro e; rw [e] at hsz; cases hsz
  simp [execOp, h _ _ hx, Instr.fieldAt, run_underlying hu, hf, Instr.sureAddr, fieldPlace, run_sizeOf_of hj, hz, Addr.add_mid, hq]
theorem R.indexAddr {len cap b o sz q : Nat} {g : Bool} {i : Int} (hi : slInfo P t = some (g, sz)) (hx : opv l x = some (.slice (some ⟨b, o, none⟩) len cap)) (hy : opv l y = some (.int k i)) (h0 : 0 ≤ i ∧ i < (len : Int)) (hq : o + i.toNat * sz = q) :
    Run P l w (.indexAddr t x y) ty (.pointer (some ⟨b, q, none⟩)) w := fun ev h _ _ _ _ => by
  obtain ⟨e, hu, hs⟩ := slInfo_spec hi
  obtain ⟨d, j, hd, hj, hrow, hsz⟩ := szOf_spec hs
  simp [execOp, h _ _ hx, h _ _ hy, Instr.indexAt, asIntOf, run_underlying hu, h0, run_sizeOf_of hj, hsz, Addr.add_mid, hq]
theorem R.indexAddrA {len b o sz q : Nat} {g : Bool} {i : Int} (hi : arInfo P t = some (len, g, sz)) (hx : opv l x = some (.pointer (some ⟨b, o, none⟩))) (hy : opv l y = some (.int k i)) (h0 : 0 ≤ i ∧ i < (len : Int)) (hq : o + i.toNat * sz = q) :
    Run P l w (.indexAddr t x y) ty (.pointer (some ⟨b, q, none⟩)) w := fun ev h _ _ _ _ => by
  obtain ⟨e, hu, hs⟩ := arInfo_spec hi
  obtain ⟨d, j, hd, hj, hrow, hsz⟩ := szOf_spec hs
  simp [execOp, h _ _ hx, h _ _ hy, Instr.indexAt, asIntOf, run_underlying hu, Instr.sureAddr, h0, run_sizeOf_of hj, hsz, Addr.add_mid, hq]
/-! ### Memory -/
theorem R.load {p : Addr} {v : Value} (hi : szOf P t = some (false, 1)) (hx : opv l x = some (.pointer (some p))) (hc : w.cell? p = some v) : Run P l w (.load t x) ty v w := fun ev h _ _ _ _ => by
  obtain ⟨d, j, hd, hj, hrow, hsz⟩ := szOf_spec hi
  simp [execOp, h _ _ hx, Instr.loadAt, Instr.sureAddr, loadVar, run_isAgg_of hd, hrow, hc]
theorem R.loadA {b o sz : Nat} {cs : List Value} (hi : szOf P t = some (true, sz)) (hx : opv l x = some (.pointer (some ⟨b, o, none⟩))) (hc : w.rangeAt b o cs) (hn : cs.length = sz) : Run P l w (.load t x) ty (.agg cs.toArray) w := fun ev h _ _ _ _ => by
  obtain ⟨d, j, hd, hj, hrow, hsz⟩ := szOf_spec hi
  have := run_loadAt_mid (P := P) w b o t cs d hc hd hrow (by simp [hj, hsz, hn])
  simp [execOp, h _ _ hx, this]
theorem R.store {p : Addr} {u v : Value} (hi : szOf P t = some (false, 1)) (hx : opv l x = some (.pointer (some p))) (hy : opv l y = some v) (hv : v.oneCell' = true) (hc : w.cell? p = some u) (hfz : w.frozen? p = false) : RunN P l w (.store t x y) ty .skip (w.setCell p v) := fun ev h _ _ _ _ => by
  obtain ⟨d, j, hd, hj, hrow, hsz⟩ := szOf_spec hi
  have hcs : v.cells = #[v] := by cases v <;> first | rfl | cases hv
  have hst := run_store P w p v .plain hv
  simp only [hc, hfz] at hst
  have ha : p.add 0 = p := by simp [Addr.add]
  simp only [execOp, h _ _ hx, h _ _ hy, Instr.storeAt, Instr.sureAddr, storeVar, Sem.run_bind, Sem.run_pure, Result.andThen_ok, run_sizeOf_of hj, hsz, hcs]
  simp [storeCells, ha, hst]
theorem R.storeA {b o sz : Nat} {cs : Array Value} (hi : szOf P t = some (true, sz)) (hx : opv l x = some (.pointer (some ⟨b, o, none⟩))) (hy : opv l y = some (.agg cs)) (hn : cs.size = sz) (h1 : cs.all (·.oneCell') = true) (ht : w.there b o cs.size) : RunN P l w (.store t x y) ty .skip (w.setCells b o cs.toList) := fun ev h _ _ _ _ => by
  obtain ⟨d, j, hd, hj, hrow, hsz⟩ := szOf_spec hi
  have := run_storeAt_mid (P := P) w b o t cs ht (by simp [hj, hsz, hn]) h1
  simp [execOp, h _ _ hx, h _ _ hy, this]
theorem R.box {v : Value} (hx : opv l x = some v) : Run P l w (.box t x) ty (.pointer (some ⟨w.heap.size, 0, none⟩)) (w.alloc (.cells v.cells t)) := fun ev h _ _ _ _ => by
  simp [execOp, h _ _ hx, Instr.box, newVar, newRow]
theorem R.alloc {j : TypeInfo} {z : Value} (hj : P.info? t = some j) (hz : j.zero = some z) : Run P l w (.alloc t) ty (.pointer (some ⟨w.heap.size, 0, none⟩)) (w.alloc (.cells z.cells t)) := fun ev h _ _ _ _ => by
  simp [execOp, Instr.alloc, zeroValue, typeInfo, hj, hz, newVar, newRow]
theorem R.callF {f : FuncId} {fn : Func} {xs : Array Operand} {ats : Array TypeId} {vs : List Value} (hf : P.funcs[f]? = some fn) (hname : (fn.name == "runtime.NumGoroutine") = false) (hb : fn.body.isNone = false) (hp : opvs l xs.toList = some vs) :
    RunN P l w (.call { callee := .value (.func f), args := xs, argTypes := ats }) ty (.enter f vs.toArray) w := fun ev h _ _ _ _ => by
  have key : ∀ (os : List Operand) (vs : List Value), opvs l os = some vs → os.map ev = vs := by
    intro os
    induction os with
    | nil => intro vs hv; simp [opvs] at hv; subst hv; rfl
    | cons o os ih =>
      intro vs hv
      simp only [opvs] at hv
      split at hv
      · cases hv
      · rename_i v hv1
        split at hv
        · cases hv
        · rename_i us hus
          simp only [Option.some.injEq] at hv
          subst hv
          simp [ih us hus, h _ _ hv1]
  have h1 : (xs.map ev) = vs.toArray := by
    have := key _ _ hp
    apply Array.toList_inj.1
    simpa using this
  have hef : ev (.func f) = .func (.func f) #[] #[] := h (.func f) _ rfl
  have hc : (callFunc f vs.toArray).run P w = .ok (.enter f vs.toArray) w := by
    simp only [callFunc, Sem.run_bind, run_program, Result.andThen_ok, hf, hname, hb, Bool.false_eq_true, if_false, Sem.run_pure]
  simp [execOp, resolve, hef, Deferred.ofValue, invoke, h1, hc]
end
end Go.Proofs.Ytlkemphhbamcfaa
