/-
  KurganDrawn, part 1 of 5: what the code computes, and plain laws; no condition beside those that each theorem tells.
-/
import Derived.WalkKit
import Derived.OrdersHeld
import Derived.Deep.RegionHeld
import Derived.KernelRfl
import Derived.WalkSpells
import Derived.WalkLawsBesides
import Derived.OneCell
import Derived.Deep.QuietTactic
import Derived.BigQuiet
import Derived.Deep.MidRow
import Derived.Laws.OwnMore
import Derived.Great.BuildSlice
import Derived.Laws.RangeAny
import Derived.Lib.RuneCount
import Derived.Lib.Strings
import Derived.Laws.Strings
import Derived.Laws.Strings2
import Derived.Laws.Strings3
import Derived.Laws.Concat
import Derived.Laws.StructEq
import Derived.Lib.LaidTab
import Derived.Lib.LaidU8
import Derived.Lib.ItoaNum
import Derived.Lib.IndexLaws
import Derived.Shelf.Unicode.DecodeSlow
import Derived.Lib.Join
import Derived.Lib.ItoaLen
import Derived.Lib.ItoaMem
import Derived.Laws.BytesString
import Derived.Shelf.Strings.Builder1
import Derived.Shelf.Strings.Builder2
import Derived.Shelf.Strings.OnBuilder
import Derived.Shelf.Small.Strs
import Derived.Shelf.Strings.BuilderF
import Derived.Shelf.Strings.BuilderK
import Derived.Shelf.Strings.Builder2Cap
import Derived.Shelf.Strconv.Itoa0
import Derived.Shelf.Strconv.Itoa1
import Derived.Shelf.LaysM
import Derived.Shelf.Strconv.Itoa2
import Derived.Shelf.Strconv.Itoa3
import Derived.Shelf.Strings.Search1
import Derived.Shelf.Unicode.DecodeAny
import Derived.Shelf.Strings.BuilderCap
import Derived.Shelf.Slices.Equal
import Derived.Ground.Names2Prog
import Derived.Shelf.Slices.Clone
import Derived.Shelf.Slices.Empties2
import Derived.Test.YtakfcekfmdjklaaDoorProg
import Derived.Test.YtakfcekfmdjklaaDoorRows
namespace Go.Proofs.YtakfcekfmdjklaaDoor
abbrev cz0 : Array Value := #[.int .i64 0, .int .i64 0, .int .i64 0, .slice none 0 0, .slice none 0 0, .slice none 0 0]
end Go.Proofs.YtakfcekfmdjklaaDoor
namespace Go.Proofs.YtakfcekfmdjklaaDoor
section
open Go.RowKit
def lk : List (Nat × Value) → Nat → Option Value
  | [], _ => none
  | (j, v) :: l, i => match Nat.beq i j with | true => some v | false => lk l i
def opv (l : List (Nat × Value)) : Operand → Option Value
  | .tmp t => lk l t
  | .const v => some v
  | .global g => some (.pointer (some ⟨g, 0, none⟩))
  | .func f => some (.func (.func f) #[] #[])
def opvs (l : List (Nat × Value)) : List Operand → Option (List Value)
  | [] => some []
  | x :: xs => match opv l x with
    | none => none
    | some v => match opvs l xs with
      | none => none
      | some vs => some (v :: vs)
structure St (n : Nat) (l : List (Nat × Value)) (a : Act) : Prop where
  size : a.tmps.size = n
  defers : a.defers = []
  has : ∀ i v, lk l i = some v → a.tmps[i]? = some v
theorem St.eval {n : Nat} {l : List (Nat × Value)} {a : Act} (h : St n l a) {x : Operand} {v : Value} (hx : opv l x = some v) : a.eval x = v := by
  cases x with
  | tmp t =>
    have := h.has t v hx
    simp only [Act.eval, Array.getD_eq_getD_getElem?, this, Option.getD_some]
  | const u => simpa [opv, Act.eval] using hx
  | global g => simpa [opv, Act.eval] using hx
  | func f => simpa [opv, Act.eval] using hx
theorem St.put {n : Nat} {l : List (Nat × Value)} {a : Act} (h : St n l a) {d : Nat} (hd : Nat.blt d n = true) (v : Value) : St n ((d, v) :: l) (a.put (some d) v) := by
  have hd' : d < n := Nat.le_of_ble_eq_true hd
  refine ⟨by simp [Act.put, h.size], h.defers, fun i u hu => ?_⟩
  simp only [lk] at hu
  show (a.tmps.setIfInBounds d v)[i]? = some u
  rw [Array.getElem?_setIfInBounds]
  by_cases hi : d = i
  · subst hi
    have e : Nat.beq d d = true := by simp
    rw [e] at hu
    simp only [Option.some.injEq] at hu
    rw [if_pos rfl, if_pos (by rw [h.size]; exact hd'), hu]
  · have e : Nat.beq i d = false := by
      rw [← Bool.not_eq_true, Nat.beq_eq]; exact fun e => hi e.symm
    rw [e] at hu
    rw [if_neg hi]
    exact h.has i u hu
def Sub (l : List (Nat × Value)) : List (Nat × Value) → Prop
  | [] => True
  | (i, v) :: r => lk l i = some v ∧ Sub l r
theorem Sub.lk {l : List (Nat × Value)} : ∀ {m : List (Nat × Value)}, Sub l m → ∀ i v, Go.Proofs.YtakfcekfmdjklaaDoor.lk m i = some v → Go.Proofs.YtakfcekfmdjklaaDoor.lk l i = some v
  | [], _, i, v, h => by simp [Go.Proofs.YtakfcekfmdjklaaDoor.lk] at h
  | (j, u) :: m, ⟨h1, h2⟩, i, v, h => by
    simp only [Go.Proofs.YtakfcekfmdjklaaDoor.lk] at h
    by_cases e : i = j
    · subst e
      have e' : Nat.beq i i = true := by simp
      rw [e'] at h
      simp only [Option.some.injEq] at h
      rw [← h]; exact h1
    · have e' : Nat.beq i j = false := by rw [← Bool.not_eq_true, Nat.beq_eq]; exact e
      rw [e'] at h
      exact Sub.lk h2 i v h
theorem Sub.nil {l : List (Nat × Value)} : Sub l [] := trivial
theorem Sub.cons {l m : List (Nat × Value)} {i : Nat} {v : Value} (h : Go.Proofs.YtakfcekfmdjklaaDoor.lk l i = some v) (hs : Sub l m) : Sub l ((i, v) :: m) := ⟨h, hs⟩
theorem St.sub {n : Nat} {l m : List (Nat × Value)} {a : Act} (h : St n l a) (hs : Sub l m) : St n m a := ⟨h.size, h.defers, fun i v hv => h.has i v (hs.lk i v hv)⟩
def ini : Nat → List Value → List (Nat × Value)
  | _, [] => []
  | i, v :: vs => (i, v) :: ini (i + 1) vs
theorem ini_lk : ∀ (vs : List Value) (k i : Nat) (v : Value), lk (ini k vs) i = some v → k ≤ i ∧ vs[i - k]? = some v
  | [], k, i, v, h => by simp [ini, lk] at h
  | u :: vs, k, i, v, h => by
    simp only [ini, lk] at h
    by_cases e : i = k
    · subst e
      have e' : Nat.beq i i = true := by simp
      rw [e'] at h
      simp only [Option.some.injEq] at h
      exact ⟨Nat.le_refl _, by simp [h]⟩
    · have e' : Nat.beq i k = false := by rw [← Bool.not_eq_true, Nat.beq_eq]; exact e
      rw [e'] at h
      obtain ⟨h1, h2⟩ := ini_lk vs (k + 1) i v h
      refine ⟨by omega, ?_⟩
      rw [show i - k = (i - (k + 1)) + 1 by omega]
      simpa using h2
def Ends (P : Program) (f : FuncId) (R : Ending → World → Prop) (k : List Item) (a : Act) (w : World) : Prop :=
  ∀ (b : Frame) (cs : List Frame), b.fn = f → b.kind = .normal → ∃ e w' fr, R e w' ∧ Comes P (lone (b.at a k) cs w) (lone fr cs w') e ∧ fr.fn = f ∧ fr.leaving P w' e
section
variable {P : Program} {f : FuncId} {R : Ending → World → Prop} {k : List Item} {a : Act} {w : World} {n : Nat} {l : List (Nat × Value)}
theorem Ends.step {k' : List Item} {a' : Act} {w' : World} (hs : ∀ (b : Frame) cs, b.fn = f → b.kind = .normal → Steps P (lone (b.at a k) cs w) (lone (b.at a' k') cs w')) (h : Ends P f R k' a' w') : Ends P f R k a w :=
  fun b cs hf hk => by
    obtain ⟨e, w2, fr, hR, hc, h1, h2⟩ := h b cs hf hk
    exact ⟨e, w2, fr, hR, hc.of_steps (hs b cs hf hk), h1, h2⟩
def Aft (P : Program) (f : FuncId) (R : Ending → World → Prop) (k : List Item) : Exit → Act → World → Prop
  | .normal, a, w => Ends P f R k a w
  | _, _, _ => False
theorem Ends.of_wp {c : Code} (h : c.wp P (Aft P f R k) a w) : Ends P f R (.code c :: k) a w := fun b cs hf hk => by
  obtain ⟨e, a', w', hq, harr⟩ := h b k cs
  cases e with
  | normal =>
    obtain ⟨e, w2, fr, hR, hc, h1, h2⟩ := hq b cs hf hk
    exact ⟨e, w2, fr, hR, hc.of_steps harr, h1, h2⟩
  | _ => exact hq.elim
theorem Ends.seq {x y : Code} (h : Ends P f R (.code x :: .code y :: k) a w) : Ends P f R (.code (.seq x y) :: k) a w :=
  Ends.step (fun _ _ _ _ => .one step_seq) h
theorem Ends.skip (h : Ends P f R k a w) : Ends P f R (.code .skip :: k) a w := Ends.step (fun _ _ _ _ => .one step_skip) h
theorem Ends.block {id : Nat} {c : Code} (h : Ends P f R (.code c :: .inBlock id :: k) a w) : Ends P f R (.code (.block id c) :: k) a w :=
  Ends.step (fun _ _ _ _ => .one step_block) h
theorem Ends.inBlock {id : Nat} (h : Ends P f R k a w) : Ends P f R (.inBlock id :: k) a w := Ends.step (fun _ _ _ _ => .one step_inBlock) h
theorem Ends.exit {id : Nat} {k' : List Item} (he : exitTo id k = some k') (h : Ends P f R k' a w) : Ends P f R (.code (.exit id) :: k) a w :=
  Ends.step (fun _ _ _ _ => .one (step_exit he)) h
theorem Ends.inLoop {c : Code} (h : Ends P f R (.code c :: .inLoop c :: k) a w) : Ends P f R (.inLoop c :: k) a w := Ends.step (fun _ _ _ _ => .one step_inLoop) h
theorem Ends.condT {c : Operand} {x y : Code} (hA : St n l a) (hc : opv l c = some (.bool true)) (h : Ends P f R (.code x :: k) a w) : Ends P f R (.code (.cond c x y) :: k) a w :=
  Ends.step (fun _ _ _ _ => .one (step_cond (t := true) (hA.eval hc))) h
theorem Ends.condF {c : Operand} {x y : Code} (hA : St n l a) (hc : opv l c = some (.bool false)) (h : Ends P f R (.code y :: k) a w) : Ends P f R (.code (.cond c x y) :: k) a w :=
  Ends.step (fun _ _ _ _ => .one (step_cond (t := false) (hA.eval hc))) h
theorem Ends.ite {c : Operand} {x y : Code} {p : Prop} [Decidable p] (hA : St n l a) (hc : opv l c = some (.bool (decide p)))
    (ht : p → Ends P f R (.code x :: k) a w) (hf : ¬ p → Ends P f R (.code y :: k) a w) : Ends P f R (.code (.cond c x y) :: k) a w := by
  by_cases hp : p
  · rw [decide_eq_true hp] at hc; exact Ends.condT hA hc (ht hp)
  · rw [decide_eq_false hp] at hc; exact Ends.condF hA hc (hf hp)
theorem Ends.iteB {c : Operand} {x y : Code} {p : Bool} (hA : St n l a) (hc : opv l c = some (.bool p))
    (ht : p = true → Ends P f R (.code x :: k) a w) (hf : p = false → Ends P f R (.code y :: k) a w) : Ends P f R (.code (.cond c x y) :: k) a w := by
  cases p
  · exact Ends.condF hA hc (hf rfl)
  · exact Ends.condT hA hc (ht rfl)
theorem Ends.loop {c : Code} {σ : Type} (I : σ → Act → World → Prop) (μ : σ → Nat) (s0 : σ) (h0 : I s0 a w)
    (hr : ∀ s a w, I s a w → (∀ s' a' w', μ s' < μ s → I s' a' w' → Ends P f R (.inLoop c :: k) a' w') → Ends P f R (.code c :: .inLoop c :: k) a w) :
    Ends P f R (.code (.loop c) :: k) a w := by
  have key : ∀ m s a w, μ s = m → I s a w → Ends P f R (.code c :: .inLoop c :: k) a w := by
    intro m
    induction m using Nat.strongRecOn with
    | _ m ih =>
      intro s a w hm hI
      exact hr s a w hI fun s' a' w' hlt hI' => Ends.inLoop (ih _ (hm ▸ hlt) s' a' w' rfl hI')
  exact Ends.step (fun _ _ _ _ => .one step_loop) (key _ s0 a w rfl h0)
theorem Ends.cut {c : Code} (I : Act → World → Prop) (h2 : ∀ a w, I a w → Ends P f R k a w)
    (h1 : ∀ k' : List Item, (∀ a w, I a w → Ends P f R k' a w) → Ends P f R (.code c :: k') a w) : Ends P f R (.code c :: k) a w := h1 k h2
theorem Ends.to_ret {v : Value} {fn : Func} (hf : P.funcs[f]? = some fn) (hd : a.defers = []) (hr : (results fn a.tmps).run P w = .ok v w) (hR : R (.returned v) w) :
    Ends P f R (.code .ret :: k) a w := fun b cs hb hk =>
  ⟨.returned v, w, _, hR, .one step_ret, hb, rfl, hd, by rw [show ({ b.at a (.code .ret :: k) with mode := .returning } : Frame).kind = b.kind from rfl, hk], fn,
    by rw [show ({ b.at a (.code .ret :: k) with mode := .returning } : Frame).fn = b.fn from rfl, hb]; exact hf, hr⟩
theorem Ends.to_end {v : Value} {fn : Func} (hf : P.funcs[f]? = some fn) (hd : a.defers = []) (hr : (results fn a.tmps).run P w = .ok v w) (hR : R (.returned v) w) :
    Ends P f R [] a w := fun b cs hb hk =>
  ⟨.returned v, w, _, hR, .one step_end, hb, rfl, hd, by rw [show ({ b.at a [] with mode := .returning } : Frame).kind = b.kind from rfl, hk], fn,
    by rw [show ({ b.at a [] with mode := .returning } : Frame).fn = b.fn from rfl, hb]; exact hf, hr⟩
theorem St.getD (hA : St n l a) {t : Nat} {v : Value} (h : lk l t = some v) : a.tmps.getD t undef = v := by
  have := hA.has t v h
  simp only [Array.getD_eq_getD_getElem?, this, Option.getD_some]
section
variable {fn : Func} (hf : P.funcs[f]? = some fn)
include hf
theorem Ends.ret0 (hr : fn.results = #[]) (hA : St n l a) (hR : R (.returned (.tuple #[])) w) : Ends P f R (.code .ret :: k) a w :=
  Ends.to_ret hf hA.defers (results_none hr _ _ _) hR
theorem Ends.ret1 {t : Nat} {v : Value} (hr : fn.results = #[.tmp t]) (hA : St n l a) (h1 : lk l t = some v) (hR : R (.returned v) w) : Ends P f R (.code .ret :: k) a w :=
  Ends.to_ret hf hA.defers (by rw [results_tmp hr, hA.getD h1]) hR
theorem Ends.ret2 {t u : Nat} {v x : Value} (hr : fn.results = #[.tmp t, .tmp u]) (hA : St n l a) (h1 : lk l t = some v) (h2 : lk l u = some x) (hR : R (.returned (.tuple #[v, x])) w) : Ends P f R (.code .ret :: k) a w :=
  Ends.to_ret hf hA.defers (by rw [results_tmp2 hr, hA.getD h1, hA.getD h2]) hR
theorem Ends.ret3 {t u s : Nat} {v x y : Value} (hr : fn.results = #[.tmp t, .tmp u, .tmp s]) (hA : St n l a) (h1 : lk l t = some v) (h2 : lk l u = some x) (h3 : lk l s = some y) (hR : R (.returned (.tuple #[v, x, y])) w) : Ends P f R (.code .ret :: k) a w :=
  Ends.to_ret hf hA.defers (v := .tuple #[v, x, y]) (by simp [results, hr, hA.has _ _ h1, hA.has _ _ h2, hA.has _ _ h3]) hR
theorem Ends.end0 (hr : fn.results = #[]) (hA : St n l a) (hR : R (.returned (.tuple #[])) w) : Ends P f R [] a w :=
  Ends.to_end hf hA.defers (results_none hr _ _ _) hR
end
theorem Calls.of_ends {fn : Func} {c : Code} {vs : List Value} (hf : P.funcs[f]? = some fn) (hb : fn.body = some c) (hn : fn.ntmps = n) (hv : Nat.ble vs.length n = true)
    (h : ∀ a, St n (ini 0 vs) a → Ends P f R [.code c] a w) : Calls P f vs.toArray w R := by
  intro cs
  have hle : vs.length ≤ n := by simpa using hv
  let b : Frame := { (default : Frame) with fn := f, kind := .normal }
  have henter : Frame.enter P f vs.toArray .normal =
      b.at { tmps := vs.toArray ++ Array.replicate (fn.ntmps - vs.toArray.size) undef, defers := [] } [.code c] := by
    simp [Frame.enter, Frame.at, hf, hb, b]
  rw [henter]
  refine h _ ⟨?_, rfl, fun i v hi => ?_⟩ b cs rfl rfl
  · simp [hn]; omega
  · obtain ⟨-, h2⟩ := ini_lk vs 0 i v hi
    have hlt : i < vs.length := by
      rcases Nat.lt_or_ge i vs.length with g | g
      · exact g
      · rw [List.getElem?_eq_none (by simpa using g)] at h2; cases h2
    rw [Array.getElem?_append_left (by simpa using hlt)]
    simpa using h2
theorem Ends.region {id : Nat} {os : List Oper} (h : wpList P os.toArray (Aft P f R k) os a w) : Ends P f R (.code (.region id os.toArray false) :: k) a w :=
  Ends.of_wp (wp_region_lit h)
def RunN (P : Program) (l : List (Nat × Value)) (w : World) (op : Op) (ty : TypeId) (r : Next) (w' : World) : Prop :=
  ∀ ev : Operand → Value, (∀ x u, opv l x = some u → ev x = u) → ∀ dst pos aft g, (execOp ev { dst, op, type := ty, pos, after := aft, guard := g }).run P w = .ok r w'
abbrev Run (P : Program) (l : List (Nat × Value)) (w : World) (op : Op) (ty : TypeId) (v : Value) (w' : World) : Prop := RunN P l w op ty (.value v) w'
def dstOf (ops : Array Oper) (j : Nat) : Option Tmp := (ops[j]?).bind (·.dst)
theorem wanted_of {ops : Array Oper} {o : Oper} {j d : Nat} {b u : Bool} (hA : St n l a) (hg : o.guard = some (j, b)) (hj : dstOf ops j = some d) (hl : lk l d = some (.bool u)) : Region.wanted o (yielded ops a.tmps) = (u == b) := by
  have h1 := hA.has d _ hl
  unfold dstOf at hj
  unfold Region.wanted yielded
  rw [hg]
  simp only [hj, Option.bind_some, h1]
  cases u <;> cases b <;> rfl
variable {ops : Array Oper} {Q : Exit → Act → World → Prop} {rest : List Oper} {w' : World}
theorem S.val {d : Nat} {op : Op} {ty : TypeId} {pos : String} {aft : Array Edge} {v : Value} (hA : St n l a) (hr : Run P l w op ty v w') (hd : Nat.blt d n = true)
    (h : ∀ a, St n ((d, v) :: l) a → wpList P ops Q rest a w') : wpList P ops Q ({ dst := some d, op, type := ty, pos, after := aft, guard := none } :: rest) a w := by
  refine wpList_plain rfl fun K hK => ?_
  unfold Oper.wp
  rw [hr a.eval (fun x u hx => hA.eval hx)]
  exact hK _ _ (h _ (hA.put hd v))
theorem S.valg {d j dj : Nat} {b : Bool} {op : Op} {ty : TypeId} {pos : String} {aft : Array Edge} {v : Value} (hA : St n l a) (hj : dstOf ops j = some dj) (hl : lk l dj = some (.bool b)) (hr : Run P l w op ty v w') (hd : Nat.blt d n = true)
    (h : ∀ a, St n ((d, v) :: l) a → wpList P ops Q rest a w') : wpList P ops Q ({ dst := some d, op, type := ty, pos, after := aft, guard := some (j, b) } :: rest) a w := by
  refine wpList_step fun K hK => ?_
  rw [if_pos (by rw [wanted_of hA rfl hj hl]; simp)]
  unfold Oper.wp
  rw [hr a.eval (fun x u hx => hA.eval hx)]
  exact hK _ _ (h _ (hA.put hd v))
theorem S.no {d j dj : Nat} {b u : Bool} {op : Op} {ty : TypeId} {pos : String} {aft : Array Edge} (hA : St n l a) (hj : dstOf ops j = some dj) (hl : lk l dj = some (.bool u)) (hu : (u == b) = false) (hd : Nat.blt d n = true)
    (h : ∀ a, St n ((d, undef) :: l) a → wpList P ops Q rest a w) : wpList P ops Q ({ dst := some d, op, type := ty, pos, after := aft, guard := some (j, b) } :: rest) a w := by
  refine wpList_step fun K hK => ?_
  rw [wanted_of hA rfl hj hl, hu]
  exact hK _ _ (h _ (hA.put hd undef))
theorem S.skip {op : Op} {ty : TypeId} {pos : String} {aft : Array Edge} (hA : St n l a) (hr : RunN P l w op ty .skip w')
    (h : wpList P ops Q rest a w') : wpList P ops Q ({ dst := none, op, type := ty, pos, after := aft, guard := none } :: rest) a w := by
  refine wpList_plain rfl fun K hK => ?_
  unfold Oper.wp
  rw [hr a.eval (fun x u hx => hA.eval hx)]
  exact hK _ _ h
theorem S.call {d : Nat} {op : Op} {ty : TypeId} {pos : String} {aft : Array Edge} {g : FuncId} {args : Array Value} {R' : Ending → World → Prop} (hA : St n l a) (hr : RunN P l w op ty (.enter g args) w) (hd : Nat.blt d n = true)
    (hc : Calls P g args w R') (h : ∀ e w', R' e w' → ∃ v, e = .returned v ∧ ∀ a, St n ((d, v) :: l) a → wpList P ops Q rest a w') :
    wpList P ops Q ({ dst := some d, op, type := ty, pos, after := aft, guard := none } :: rest) a w := by
  refine wpList_plain rfl fun K hK => ?_
  unfold Oper.wp
  rw [hr a.eval (fun x u hx => hA.eval hx)]
  refine hc.mono fun e w2 hR => ?_
  obtain ⟨v, rfl, hv⟩ := h e w2 hR
  exact hK _ _ (hv _ (hA.put hd v))
theorem S.callg {d j dj : Nat} {b : Bool} {op : Op} {ty : TypeId} {pos : String} {aft : Array Edge} {g : FuncId} {args : Array Value} {R' : Ending → World → Prop} (hA : St n l a) (hj : dstOf ops j = some dj) (hl : lk l dj = some (.bool b)) (hr : RunN P l w op ty (.enter g args) w) (hd : Nat.blt d n = true)
    (hc : Calls P g args w R') (h : ∀ e w', R' e w' → ∃ v, e = .returned v ∧ ∀ a, St n ((d, v) :: l) a → wpList P ops Q rest a w') :
    wpList P ops Q ({ dst := some d, op, type := ty, pos, after := aft, guard := some (j, b) } :: rest) a w := by
  refine wpList_step fun K hK => ?_
  rw [if_pos (by rw [wanted_of hA rfl hj hl]; simp)]
  unfold Oper.wp
  rw [hr a.eval (fun x u hx => hA.eval hx)]
  refine hc.mono fun e w2 hR => ?_
  obtain ⟨v, rfl, hv⟩ := h e w2 hR
  exact hK _ _ (hv _ (hA.put hd v))
theorem S.done (h : Ends P f R k a w) : wpList P ops (Aft P f R k) [] a w := h
theorem St.same {d : Nat} {v : Value} (hA : St n l a) (hl : lk l d = some v) : St n ((d, v) :: l) a :=
  ⟨hA.size, hA.defers, fun i u hu => by
    simp only [lk] at hu
    by_cases e : i = d
    · subst e
      have e' : Nat.beq i i = true := by simp
      rw [e'] at hu
      simp only [Option.some.injEq] at hu
      rw [← hu]; exact hA.has _ _ hl
    · have e' : Nat.beq i d = false := by rw [← Bool.not_eq_true, Nat.beq_eq]; exact e
      rw [e'] at hu
      exact hA.has _ _ hu⟩
theorem St.split {p : Prop} [Decidable p] {d : Nat} {G : Prop} (hA : St n l a) (hl : lk l d = some (.bool (decide p)))
    (ht : p → St n ((d, .bool true) :: l) a → G) (hf : ¬ p → St n ((d, .bool false) :: l) a → G) : G := by
  by_cases hp : p
  · exact ht hp (hA.same (by rw [hl, decide_eq_true hp]))
  · exact hf hp (hA.same (by rw [hl, decide_eq_false hp]))
def aw (ops : Array Oper) (last i : Nat) : Bool :=
  match ops[last]? with
  | none => true
  | some o => o.after.toList.any fun ed => Region.binds .any ed && ed.on == i
theorem aw_spec {ops : Array Oper} {last i : Nat} {listed : Array Bool} (h : aw ops last i = true) (hl : last ∈ Region.ready .any ops listed) : listed.getD i false = true := by
  obtain ⟨-, o, ho, hall⟩ := mem_ready.1 hl
  unfold aw at h
  rw [ho] at h
  simp only [List.any_eq_true, Bool.and_eq_true, beq_iff_eq] at h
  obtain ⟨ed, hed, hb, hon⟩ := h
  rw [← hon]; exact hall ed (Array.mem_toList_iff.1 hed) hb
def Wh (S : World → Prop) (ops : Array Oper) (last i : Nat) (w : World) : Prop := aw ops last i = true → S w
def wpAnyL (P : Program) (last : Nat) (ops : Array Oper) (Q : Exit → Act → World → Prop) (S : World → Prop) : Nat → Array Bool → Act → World → Prop
  | 0, listed, a, w => Region.ready .any ops listed = [] ∧ Q .normal a w
  | m + 1, listed, a, w => (Region.ready .any ops listed = [] → Q .normal a w) ∧
    ∀ i ∈ Region.ready .any ops listed, wpOp P ops Q i (fun a' w' => ((listed.setIfInBounds i true).getD last false = false → S w') ∧ wpAnyL P last ops Q S m (listed.setIfInBounds i true) a' w') a w
theorem wpAnyL_any {S : World → Prop} {last : Nat} {ops : Array Oper} {Q : Exit → Act → World → Prop} {P : Program} : ∀ (m : Nat) (listed : Array Bool) (a : Act) (w : World), wpAnyL P last ops Q S m listed a w → wpAny P .any ops Q m listed a w
  | 0, _, _, _, h => h
  | m + 1, _, _, _, h => ⟨h.1, fun i hi => wpOp_mono (fun a' w' g => wpAnyL_any m _ a' w' g.2) (h.2 i hi)⟩
theorem getD_false {listed : Array Bool} {i : Nat} (h : listed.getD i true = false) : i < listed.size ∧ listed.getD i false = false := by
  rcases Nat.lt_or_ge i listed.size with g | g
  · refine ⟨g, ?_⟩
    rw [Array.getD_eq_getD_getElem?, Array.getElem?_eq_getElem g] at h ⊢; exact h
  · rw [Array.getD_eq_getD_getElem?, Array.getElem?_eq_none g] at h; cases h
theorem wpAnyL_take {P : Program} {S : World → Prop} {last : Nat} {ops : Array Oper} {Q : Exit → Act → World → Prop} {i : Nat} {oi : Oper} {v : Value} (hi : ops[i]? = some oi) (hs : Region.noSelect ops = true) (hil : i ≠ last)
    (hQ : ∀ c a w, Q (.panic c) (a.put oi.dst v) w → Q (.panic c) a w) :
    ∀ (m : Nat) (listed : Array Bool) (a : Act) (w : World), (∀ j oj, ops[j]? = some oj → j ≠ i → listed.getD j true = false → (∀ e ∈ oj.after, Region.binds .any e = true → e.on ≠ i) → oi.apart ops oj = true) →
      i ∈ Region.ready .any ops listed → YieldsIf P ops (Wh S ops last i) oi v a → (aw ops last i = true → listed.getD last false = false) → (listed.getD last false = false → S w) →
      wpAnyL P last ops Q S m (listed.setIfInBounds i true) (a.put oi.dst v) w → wpAnyL P last ops Q S (m + 1) listed a w := by
  intro m
  induction m with
  | zero =>
    intro listed a w _ hr hy hN hL H
    refine ⟨fun e => (by rw [e] at hr; cases hr), fun j hj => ?_⟩
    by_cases hji : j = i
    · rw [hji]; exact hy.wpOp hi (fun h => hL (hN h)) ⟨fun h => hL (by rwa [getD_set_ne false hil] at h), H⟩
    · have h1 := ready_mono hj hji
      rw [H.1] at h1; cases h1
  | succ m ih =>
    intro listed a w hap hr hy hN hL H
    refine ⟨fun e => (by rw [e] at hr; cases hr), fun j hj => ?_⟩
    by_cases hji : j = i
    · rw [hji]; exact hy.wpOp hi (fun h => hL (hN h)) ⟨fun h => hL (by rwa [getD_set_ne false hil] at h), H⟩
    obtain ⟨-, hfalse⟩ := getD_false (mem_ready.1 hr).1
    obtain ⟨hjun, oj, hoj, hall⟩ := mem_ready.1 hj
    have hno : ∀ e ∈ oj.after, Region.binds .any e = true → e.on ≠ i := fun e he hb heq => by
      have h1 := hall e he hb
      rw [heq, hfalse] at h1; cases h1
    have h1 := wpOp_putIf hoj (hap j oj hoj hji hjun hno) (fun cs b => Region.noSelect_spec hs i oi cs b hi) (fun cs b => Region.noSelect_spec hs j oj cs b hoj) hQ hy (H.2 j (ready_mono hj hji))
    have hN' : aw ops last i = true → (listed.setIfInBounds j true).getD last false = false := fun h => by
      have hjl : j ≠ last := fun e => by
        have h2 := aw_spec h (e ▸ hj)
        rw [hfalse] at h2; cases h2
      rw [getD_set_ne false hjl]; exact hN h
    refine wpOp_mono (fun a' w' g => ?_) h1
    have hL' : (listed.setIfInBounds j true).getD last false = false → S w' := fun h => g.2.1 (by
      rw [Array.setIfInBounds_comm _ _ (Ne.symm hji), getD_set_ne false hil]; exact h)
    refine ⟨hL', ih (listed.setIfInBounds j true) a' w' (fun q oq hq hqi hqun hqno => hap q oq hq hqi ?_ hqno) (ready_mono hr (Ne.symm hji)) g.1 hN' hL' ?_⟩
    · by_cases hjq : j = q
      · rw [← hjq]; exact hjun
      · rwa [getD_set_ne true hjq] at hqun
    · rw [Array.setIfInBounds_comm _ _ hji]; exact g.2.2
inductive Ordt where
  | nil
  | cons (p : Nat × Bool) (t : Ordt)
  | fork (i j : Nat) (t u : Ordt)
def Ordt.depth : Ordt → Nat
  | .nil => 0
  | .cons _ t => t.depth + 1
  | .fork _ _ t u => max t.depth u.depth + 1
def noAw (ops : Array Oper) (last : Nat) : Ordt → Bool
  | .nil => true
  | .cons p t => (!p.2 || !aw ops last p.1) && noAw ops last t
  | .fork _ _ t u => noAw ops last t && noAw ops last u
def okOrd (last : Nat) (ops : Array Oper) : Ordt → Array Bool → Bool
  | .nil, listed => (Region.ready .any ops listed).isEmpty
  | .fork i j t u, listed => decide (Region.ready .any ops listed = [i, j]) && !(Nat.beq i last) && !(Nat.beq j last) && okOrd last ops t (listed.setIfInBounds i true) && okOrd last ops u (listed.setIfInBounds j true)
  | .cons (i, true) is, listed => Region.free .any ops listed i && (Region.ready .any ops listed).contains i && !(Nat.beq i last) && okOrd last ops is (listed.setIfInBounds i true)
  | .cons (i, false) is, listed => decide (Region.ready .any ops listed = [i]) && (!(Nat.beq i last) || noAw ops last is) && okOrd last ops is (listed.setIfInBounds i true)
def ith {α : Type} : List α → Nat → Option α
  | [], _ => none
  | x :: _, 0 => some x
  | _ :: xs, i + 1 => ith xs i
theorem ith_eq {α : Type} : ∀ (l : List α) (i : Nat), ith l i = l[i]?
  | [], i => by simp [ith]
  | x :: xs, 0 => by simp [ith]
  | x :: xs, i + 1 => by simp [ith, ith_eq xs i]
def wpOrd (P : Program) (last : Nat) (os : List Oper) (Q : Exit → Act → World → Prop) (S : World → Prop) : Bool → Ordt → Act → World → Prop
  | _, .nil, a, w => Q .normal a w
  | b, .fork i j t u, a, w => wpOp P os.toArray Q i (fun a' w' => (b = false → i ≠ last → S w') ∧ wpOrd P last os Q S b t a' w') a w ∧ wpOp P os.toArray Q j (fun a' w' => (b = false → j ≠ last → S w') ∧ wpOrd P last os Q S b u a' w') a w
  | b, .cons (i, true) is, a, w => ∃ o, ith os i = some o ∧ ∃ v, YieldsIf P os.toArray (Wh S os.toArray last i) o v a ∧ wpOrd P last os Q S b is (a.put o.dst v) w
  | b, .cons (i, false) is, a, w => wpOp P os.toArray Q i (fun a' w' => (b = false → i ≠ last → S w') ∧ wpOrd P last os Q S (b || Nat.beq i last) is a' w') a w
theorem wpOrd_true {S : World → Prop} {last : Nat} {os : List Oper} : ∀ (is : Ordt) (b : Bool) (a : Act) (w : World), wpOrd P last os Q S b is a w → wpOrd P last os Q S true is a w := by
  intro is
  induction is with
  | nil => intro b a w h; exact h
  | cons p is ih =>
    intro b a w h
    obtain ⟨i, first⟩ := p
    cases first with
    | true => obtain ⟨o, ho, v, hy, h⟩ := h; exact ⟨o, ho, v, hy, ih _ _ _ h⟩
    | false => exact wpOp_mono (fun a' w' g => ⟨fun e => (by cases e), ih _ _ _ g.2⟩) h
  | fork i j t u iht ihu =>
    intro b a w h
    exact ⟨wpOp_mono (fun a' w' g => ⟨fun e => (by cases e), iht _ _ _ g.2⟩) h.1, wpOp_mono (fun a' w' g => ⟨fun e => (by cases e), ihu _ _ _ g.2⟩) h.2⟩
theorem wpOrd_or {S : World → Prop} {last : Nat} {os : List Oper} {is : Ordt} {b : Bool} (x : Bool) {a : Act} {w : World} (h : wpOrd P last os Q S b is a w) : wpOrd P last os Q S (b || x) is a w := by
  cases b <;> cases x
  · exact h
  · exact wpOrd_true _ _ _ _ h
  · exact h
  · exact h
theorem wpAnyL_of_ord {S : World → Prop} {last : Nat} {os : List Oper} (hs : Region.noSelect os.toArray = true) (hQ : ∀ c a w, ¬ Q (.panic c) a w) :
  ∀ (is : Ordt) (fuel : Nat) (listed : Array Bool) (b : Bool) (a : Act) (w : World), is.depth ≤ fuel → okOrd last os.toArray is listed = true → (listed.getD last false = true → noAw os.toArray last is = true) → (listed.getD last false = false → S w) → (b = true → listed.getD last false = true) →
   wpOrd P last os Q S b is a w → wpAnyL P last os.toArray Q S fuel listed a w := by
 intro is
 induction is with
 | nil =>
  intro fuel listed b a w _ hok _ _ _ h
  have hr : Region.ready .any os.toArray listed = [] := by simpa [okOrd] using hok
  cases fuel with
  | zero => exact ⟨hr, h⟩
  | succ m => exact ⟨fun _ => h, by rw [hr]; simp⟩
 | cons p is ih =>
  intro fuel listed b a w hlen hok hK hL hB h
  obtain ⟨fuel, rfl⟩ : ∃ m, fuel = m + 1 := ⟨fuel - 1, by simp [Ordt.depth] at hlen; omega⟩
  have hlen' : is.depth ≤ fuel := by simp [Ordt.depth] at hlen; omega
  obtain ⟨i, first⟩ := p
  cases first with
  | true =>
   obtain ⟨o, ho, v, hy, h⟩ := h
   have ho' : os.toArray[i]? = some o := by rw [← ho, ith_eq]; simp
   unfold okOrd at hok
   simp only [Bool.and_eq_true, Bool.not_eq_true'] at hok
   have hil : i ≠ last := fun e => by
    have h1 := hok.1.2
    rw [e, show Nat.beq last last = true by simp] at h1; cases h1
   refine wpAnyL_take ho' hs hil (fun c a w h => (hQ _ _ _ h).elim) fuel listed a w (Region.free_spec ho' hok.1.1.1) (by simpa using hok.1.1.2) hy (fun haw => ?_) hL (ih _ _ b _ _ hlen' hok.2 (fun hl => ?_) (fun hl => hL ?_) (fun e => ?_) h)
   ·
    cases hx : listed.getD last false with
    | false => rfl
    | true =>
     have h2 := hK hx
     unfold noAw at h2
     simp only [haw, Bool.not_true, Bool.or_self, Bool.false_and] at h2
     cases h2
   ·
    rw [getD_set_ne false hil] at hl
    have h2 := hK hl
    unfold noAw at h2
    simp only [Bool.and_eq_true] at h2
    exact h2.2
   · rwa [getD_set_ne false hil] at hl
   · rw [getD_set_ne false hil]; exact hB e
  | false =>
   unfold okOrd at hok
   simp only [Bool.and_eq_true, decide_eq_true_eq] at hok
   refine ⟨fun e => (by rw [hok.1.1] at e; cases e), fun j hj => ?_⟩
   have hj0 := hj
   rw [hok.1.1] at hj
   have : j = i := by simpa using hj
   subst this
   obtain ⟨hlt, -⟩ := getD_false (mem_ready.1 hj0).1
   have hself : j = last → (listed.setIfInBounds j true).getD last false = true := fun e => by
    subst e
    rw [Array.getD_eq_getD_getElem?, Array.getElem?_setIfInBounds_self_of_lt hlt]; rfl
   have key : ∀ w', (b = false → j ≠ last → S w') → (listed.setIfInBounds j true).getD last false = false → S w' := fun w' hS hl => by
    have hjl : j ≠ last := fun e => by rw [hself e] at hl; cases hl
    refine hS ?_ hjl
    rw [getD_set_ne false hjl] at hl
    cases hb : b with
    | false => rfl
    | true => rw [hB hb] at hl; cases hl
   refine wpOp_mono (fun a' w' h => ⟨key w' h.1, ih _ _ (b || Nat.beq j last) _ _ hlen' hok.2 (fun hl => ?_) (key w' h.1) (fun e => ?_) h.2⟩) h
   ·
    by_cases hjl : j = last
    ·
     have h2 := hok.1.2
     rw [hjl, show Nat.beq last last = true by simp] at h2
     simpa using h2
    ·
     rw [getD_set_ne false hjl] at hl
     have h2 := hK hl
     unfold noAw at h2
     simp only [Bool.and_eq_true] at h2
     exact h2.2
   ·
    by_cases hjl : j = last
    · exact hself hjl
    ·
     have hbq : Nat.beq j last = false := by rw [← Bool.not_eq_true, Nat.beq_eq]; exact hjl
     rw [hbq, Bool.or_false] at e
     rw [getD_set_ne false hjl]; exact hB e
 | fork i j t u iht ihu =>
  intro fuel listed b a w hlen hok hK hL hB h
  obtain ⟨fuel, rfl⟩ : ∃ m, fuel = m + 1 := ⟨fuel - 1, by simp [Ordt.depth] at hlen; omega⟩
  have hlt : t.depth ≤ fuel := by simp [Ordt.depth] at hlen; omega
  have hlu : u.depth ≤ fuel := by simp [Ordt.depth] at hlen; omega
  unfold okOrd at hok
  simp only [Bool.and_eq_true, decide_eq_true_eq, Bool.not_eq_true'] at hok
  obtain ⟨⟨⟨⟨hr, hi⟩, hj⟩, hot⟩, hou⟩ := hok
  have hil : i ≠ last := fun e => by rw [e, show Nat.beq last last = true by simp] at hi; cases hi
  have hjl : j ≠ last := fun e => by rw [e, show Nat.beq last last = true by simp] at hj; cases hj
  have hb0 : listed.getD last false = false → b = false := fun hl => by
   cases hb : b with
   | false => rfl
   | true => rw [hB hb] at hl; cases hl
  obtain ⟨h1, h2⟩ := h
  refine ⟨fun e => (by rw [hr] at e; cases e), fun q hq => ?_⟩
  rw [hr] at hq
  rcases List.mem_cons.1 hq with rfl | hq
  ·
   refine wpOp_mono (fun a' w' h => ⟨fun hl => h.1 (hb0 (by rwa [getD_set_ne false hil] at hl)) hil, iht _ _ b _ _ hlt hot (fun hl => ?_) (fun hl => h.1 (hb0 (by rwa [getD_set_ne false hil] at hl)) hil) (fun e => by rw [getD_set_ne false hil]; exact hB e) h.2⟩) h1
   rw [getD_set_ne false hil] at hl
   have h3 := hK hl
   unfold noAw at h3
   simp only [Bool.and_eq_true] at h3
   exact h3.1
  ·
   obtain rfl : q = j := by simpa using hq
   refine wpOp_mono (fun a' w' h => ⟨fun hl => h.1 (hb0 (by rwa [getD_set_ne false hjl] at hl)) hjl, ihu _ _ b _ _ hlu hou (fun hl => ?_) (fun hl => h.1 (hb0 (by rwa [getD_set_ne false hjl] at hl)) hjl) (fun e => by rw [getD_set_ne false hjl]; exact hB e) h.2⟩) h2
   rw [getD_set_ne false hjl] at hl
   have h3 := hK hl
   unfold noAw at h3
   simp only [Bool.and_eq_true] at h3
   exact h3.2
theorem replicate_getD (n i : Nat) : (Array.replicate n false).getD i false = false := by
  rw [Array.getD_eq_getD_getElem?, Array.getElem?_replicate]; split <;> rfl
theorem Ends.drawn {id : Nat} {os : List Oper} (S : World → Prop) (is : Ordt) (last : Nat) (hm : P.follows .mixedOrders = true) (hs : Region.noSelect os.toArray = true)
    (hl : Nat.ble is.depth os.toArray.size = true) (hok : okOrd last os.toArray is (Array.replicate os.toArray.size false) = true) (hS : S w.drew) (h : wpOrd P last os (Aft P f R k) S false is a w.drew) :
    Ends P f R (.code (.region id os.toArray true) :: k) a w :=
  Ends.of_wp (wp_region_any hm (wpAnyL_any _ _ _ _ (wpAnyL_of_ord hs (fun _ _ _ h => h) is _ _ _ _ _ (by simpa using hl) hok (fun h => by rw [replicate_getD] at h; cases h) (fun _ => hS) (fun h => by cases h) h)))
section
variable {S : World → Prop} {os : List Oper} {is : Ordt} {i last : Nat} {b0 : Bool}
theorem D.val {d : Nat} {op : Op} {ty : TypeId} {pos : String} {aft : Array Edge} {v : Value} (hA : St n l a) (ho : ith os i = some { dst := some d, op, type := ty, pos, after := aft, guard := none }) (haw : aw os.toArray last i = true)
    (hr : ∀ w, S w → Run P l w op ty v w) (hd : Nat.blt d n = true) (h : ∀ a, St n ((d, v) :: l) a → wpOrd P last os Q S b0 is a w) : wpOrd P last os Q S b0 (.cons (i, true) is) a w :=
  ⟨_, ho, v, .inl ⟨rfl, fun w hS => hr w (hS haw) a.eval (fun _ _ hx => hA.eval hx) _ _ _ _⟩, h _ (hA.put hd v)⟩
theorem D.valF {d : Nat} {op : Op} {ty : TypeId} {pos : String} {aft : Array Edge} {v : Value} (hA : St n l a) (ho : ith os i = some { dst := some d, op, type := ty, pos, after := aft, guard := none })
    (hr : ∀ w, Run P l w op ty v w) (hd : Nat.blt d n = true) (h : ∀ a, St n ((d, v) :: l) a → wpOrd P last os Q S b0 is a w) : wpOrd P last os Q S b0 (.cons (i, true) is) a w :=
  ⟨_, ho, v, .inl ⟨rfl, fun w _ => hr w a.eval (fun _ _ hx => hA.eval hx) _ _ _ _⟩, h _ (hA.put hd v)⟩
theorem D.valg {d j dj : Nat} {b : Bool} {op : Op} {ty : TypeId} {pos : String} {aft : Array Edge} {v : Value} (hA : St n l a) (ho : ith os i = some { dst := some d, op, type := ty, pos, after := aft, guard := some (j, b) }) (haw : aw os.toArray last i = true)
    (hj : dstOf os.toArray j = some dj) (hl : lk l dj = some (.bool b))
    (hr : ∀ w, S w → Run P l w op ty v w) (hd : Nat.blt d n = true) (h : ∀ a, St n ((d, v) :: l) a → wpOrd P last os Q S b0 is a w) : wpOrd P last os Q S b0 (.cons (i, true) is) a w :=
  ⟨_, ho, v, .inl ⟨by rw [wanted_of hA rfl hj hl]; simp, fun w hS => hr w (hS haw) a.eval (fun _ _ hx => hA.eval hx) _ _ _ _⟩, h _ (hA.put hd v)⟩
theorem D.no {d j dj : Nat} {b u : Bool} {op : Op} {ty : TypeId} {pos : String} {aft : Array Edge} (hA : St n l a) (ho : ith os i = some { dst := some d, op, type := ty, pos, after := aft, guard := some (j, b) })
    (hj : dstOf os.toArray j = some dj) (hl : lk l dj = some (.bool u)) (hu : (u == b) = false)
    (hd : Nat.blt d n = true) (h : ∀ a, St n ((d, undef) :: l) a → wpOrd P last os Q S b0 is a w) : wpOrd P last os Q S b0 (.cons (i, true) is) a w :=
  ⟨_, ho, undef, .inr ⟨by rw [wanted_of hA rfl hj hl, hu], rfl⟩, h _ (hA.put hd undef)⟩
theorem wpOp_of {o : Oper} {K : Act → World → Prop} (ho : ith os i = some o) (hw : Region.wanted o (yielded os.toArray a.tmps) = true) (h : o.wp P a w K Q) : wpOp P os.toArray Q i K a w := by
  unfold wpOp
  have ho' : os.toArray[i]? = some o := by rw [List.getElem?_toArray, ← ith_eq, ho]
  simp only [ho', hw, if_true]
  exact .inl h
theorem D.eff {d : Nat} {op : Op} {ty : TypeId} {pos : String} {aft : Array Edge} {v : Value} (hA : St n l a) (ho : ith os i = some { dst := some d, op, type := ty, pos, after := aft, guard := none })
    (hr : Run P l w op ty v w') (hd : Nat.blt d n = true) (hS : S w') (h : ∀ a, St n ((d, v) :: l) a → wpOrd P last os Q S b0 is a w') : wpOrd P last os Q S b0 (.cons (i, false) is) a w :=
  wpOp_of ho rfl (by
    unfold Oper.wp
    rw [hr a.eval (fun x u hx => hA.eval hx)]
    exact ⟨fun _ _ => hS, wpOrd_or _ (h _ (hA.put hd v))⟩)
theorem D.skip {op : Op} {ty : TypeId} {pos : String} {aft : Array Edge} (hA : St n l a) (ho : ith os i = some { dst := none, op, type := ty, pos, after := aft, guard := none })
    (hr : RunN P l w op ty .skip w') (hS : b0 = false → i ≠ last → S w') (h : wpOrd P last os Q S (b0 || Nat.beq i last) is a w') : wpOrd P last os Q S b0 (.cons (i, false) is) a w :=
  wpOp_of ho rfl (by
    unfold Oper.wp
    rw [hr a.eval (fun x u hx => hA.eval hx)]
    exact ⟨hS, h⟩)
theorem D.call {d : Nat} {op : Op} {ty : TypeId} {pos : String} {aft : Array Edge} {g : FuncId} {args : Array Value} {R' : Ending → World → Prop} (hA : St n l a) (ho : ith os i = some { dst := some d, op, type := ty, pos, after := aft, guard := none })
    (hr : RunN P l w op ty (.enter g args) w) (hd : Nat.blt d n = true)
    (hc : Calls P g args w R') (h : ∀ e w', R' e w' → ∃ v, e = .returned v ∧ S w' ∧ ∀ a, St n ((d, v) :: l) a → wpOrd P last os Q S b0 is a w') : wpOrd P last os Q S b0 (.cons (i, false) is) a w :=
  wpOp_of ho rfl (by
    unfold Oper.wp
    rw [hr a.eval (fun x u hx => hA.eval hx)]
    refine hc.mono fun e w2 hR => ?_
    obtain ⟨v, rfl, hS, hv⟩ := h e w2 hR
    exact ⟨fun _ _ => hS, wpOrd_or _ (hv _ (hA.put hd v))⟩)
theorem D.callg {d j dj : Nat} {b : Bool} {op : Op} {ty : TypeId} {pos : String} {aft : Array Edge} {g : FuncId} {args : Array Value} {R' : Ending → World → Prop} (hA : St n l a) (ho : ith os i = some { dst := some d, op, type := ty, pos, after := aft, guard := some (j, b) })
    (hj : dstOf os.toArray j = some dj) (hl : lk l dj = some (.bool b))
    (hr : RunN P l w op ty (.enter g args) w) (hd : Nat.blt d n = true)
    (hc : Calls P g args w R') (h : ∀ e w', R' e w' → ∃ v, e = .returned v ∧ S w' ∧ ∀ a, St n ((d, v) :: l) a → wpOrd P last os Q S b0 is a w') : wpOrd P last os Q S b0 (.cons (i, false) is) a w :=
  wpOp_of ho (by rw [wanted_of hA rfl hj hl]; simp) (by
    unfold Oper.wp
    rw [hr a.eval (fun x u hx => hA.eval hx)]
    refine hc.mono fun e w2 hR => ?_
    obtain ⟨v, rfl, hS, hv⟩ := h e w2 hR
    exact ⟨fun _ _ => hS, wpOrd_or _ (hv _ (hA.put hd v))⟩)
theorem D.done (h : Ends P f R k a w) : wpOrd P last os (Aft P f R k) S b0 .nil a w := h
theorem D.fork {j : Nat} {t u : Ordt} (hb : Nat.beq i last = false) (hb2 : Nat.beq j last = false) (h1 : wpOrd P last os Q S b0 (.cons (i, false) t) a w) (h2 : wpOrd P last os Q S b0 (.cons (j, false) u) a w) : wpOrd P last os Q S b0 (.fork i j t u) a w := by
  unfold wpOrd at h1 h2
  rw [hb, Bool.or_false] at h1
  rw [hb2, Bool.or_false] at h2
  exact ⟨h1, h2⟩
end
end
end
section
open Go.RowKit
theorem hid {p : Prop} (h : p) : Hid p := h
def blk (w : World) (b : Nat) (cs : Array Value) (t : TypeId) : Prop := w.heap[b]? = some (.cells cs t (0, 0))
theorem blk.lt {w : World} {b : Nat} {cs : Array Value} {t : TypeId} (h : blk w b cs t) : b < w.heap.size := lt_of_block h
theorem blk.cell {w : World} {b : Nat} {cs : Array Value} {t : TypeId} (h : blk w b cs t) (i : Nat) : w.cell? ⟨b, i, none⟩ = cs[i]? := by
  unfold blk at h; simp [World.cell?, h]
theorem blk.free {w : World} {b : Nat} {cs : Array Value} {t : TypeId} (h : blk w b cs t) (i : Nat) : w.frozen? ⟨b, i, none⟩ = false := by
  unfold blk at h; simp [World.frozen?, h]
theorem blk.new (w : World) (cs : Array Value) (t : TypeId) : blk (w.alloc (.cells cs t)) w.heap.size cs t := heap_alloc_new w _
theorem blk.alloc {w : World} {b : Nat} {cs : Array Value} {t : TypeId} (h : blk w b cs t) (o : Obj) : blk (w.alloc o) b cs t := by
  unfold blk at *; rw [Below.heap_alloc _ _ _ (lt_of_block h)]; exact h
theorem blk.at_ {w : World} {n : Nat} {cs cs' : Array Value} {t : TypeId} (hn : n = w.heap.size) (hc : cs = cs') : blk (w.alloc (.cells cs t)) n cs' t := by
  subst hn; subst hc; exact blk.new w _ _
theorem blk.drew {w : World} {b : Nat} {cs : Array Value} {t : TypeId} (h : blk w b cs t) : blk w.drew b cs t := h
theorem blk.other {w : World} {b : Nat} {cs : Array Value} {t : TypeId} (h : blk w b cs t) {a : Addr} (ha : b ≠ a.block) (v : Value) : blk (w.setCell a v) b cs t := by
  unfold blk at *; rw [Below.heap_setCell _ _ _ _ ha]; exact h
theorem blk.off {w : World} {b : Nat} {cs : Array Value} {t : TypeId} (h : blk w b cs t) {b' i : Nat} (ha : b ≠ b') (v : Value) : blk (w.setCell ⟨b', i, none⟩ v) b cs t := h.other ha v
theorem blk.set {w : World} {b : Nat} {cs : Array Value} {t : TypeId} (h : blk w b cs t) (i : Nat) (v : Value) : blk (w.setCell ⟨b, i, none⟩ v) b (cs.setIfInBounds i v) t := by
  have hlt := h.lt
  unfold blk at *
  have h' : w.heap[b] = .cells cs t (0, 0) := by simpa [Array.getElem?_eq_getElem hlt] using h
  show (w.heap.modify b _)[b]? = _
  rw [Array.getElem?_eq_getElem (by simpa using hlt), Array.getElem_modify_self, h']
  rfl
theorem blk.drewN {w : World} {b : Nat} {cs : Array Value} {t : TypeId} (h : blk w b cs t) (n : Nat) : blk (w.drewN n) b cs t := h
theorem blk.to {w : World} {b : Nat} {cs cs' : Array Value} {t : TypeId} (h : blk w b cs t) (hc : cs = cs') : blk w b cs' t := hc ▸ h
theorem blk.below {B : Nat} {w w' : World} {b : Nat} {cs : Array Value} {t : TypeId} (h : blk w b cs t) (hb : Below B w w') (hlt : b < B) : blk w' b cs t := by
  unfold blk at *; rw [hb.block b hlt]; exact h
theorem bcell {B : Nat} {W w1 : World} (hb : Below B W w1) : (∀ b o, b < B → w1.cell? ⟨b, o, none⟩ = W.cell? ⟨b, o, none⟩) ∧ (∀ b o, b < B → w1.frozen? ⟨b, o, none⟩ = W.frozen? ⟨b, o, none⟩) :=
  ⟨fun b o h => hb.cell (p := ⟨b, o, none⟩) h, fun b o h => hb.frozen (p := ⟨b, o, none⟩) h⟩
def ints (l : List Int) : Array Value := (l.map (Value.int .i64)).toArray
theorem ints_getD (l : List Int) (i : Nat) (h : i < l.length) : (ints l)[i]? = some (.int .i64 (l.getD i 0)) := by simp [ints, h]
theorem ints_set (l : List Int) (i : Nat) (v : Int) : (ints l).setIfInBounds i (.int .i64 v) = ints (l.set i v) := by
  simp [ints, List.map_set]
def row (n : Nat) (f : Nat → Int) : List Int := (List.range n).map f
end
section
open Go.RowKit
def fieldInfo (P : Program) (t : TypeId) (i : Nat) : Option (Nat × Bool × Nat) :=
  match P.underlying t with
  | some (.struct fs) => match fs[i]? with
    | some f => match P.underlying f.type, P.info? f.type with
      | some d, some j => some (f.offset, d.isRow, j.size)
      | _, _ => none
    | none => none
  | _ => none
def szOf (P : Program) (t : TypeId) : Option (Bool × Nat) :=
  match P.underlying t, P.info? t with
  | some d, some j => some (d.isRow, j.size)
  | _, _ => none
def slInfo (P : Program) (t : TypeId) : Option (Bool × Nat) :=
  match P.underlying t with
  | some (.slice e) => szOf P e
  | _ => none
section
variable {P : Program} {l : List (Nat × Value)} {w : World} {ty : TypeId} {x y z : Operand} {k k' : IntKind} {m n : Int} {t yt : TypeId}
theorem fieldInfo_spec {i off sz : Nat} {b : Bool} (h : fieldInfo P t i = some (off, b, sz)) :
    ∃ fs f d j, P.underlying t = some (.struct fs) ∧ fs[i]? = some f ∧ P.underlying f.type = some d ∧ P.info? f.type = some j ∧ f.offset = off ∧ d.isRow = b ∧ j.size = sz := by
  unfold fieldInfo at h
  split at h
  · rename_i fs hu
    split at h
    · rename_i f hf
      split at h
      · rename_i d j hd hj
        simp only [Option.some.injEq, Prod.mk.injEq] at h
        exact ⟨fs, f, d, j, hu, hf, hd, hj, h.1, h.2.1, h.2.2⟩
      · cases h
    · cases h
  · cases h
theorem szOf_spec {sz : Nat} {b : Bool} (h : szOf P t = some (b, sz)) : ∃ d j, P.underlying t = some d ∧ P.info? t = some j ∧ d.isRow = b ∧ j.size = sz := by
  unfold szOf at h
  split at h
  · rename_i d j hd hj
    simp only [Option.some.injEq, Prod.mk.injEq] at h
    exact ⟨d, j, hd, hj, h.1, h.2⟩
  · cases h
theorem slInfo_spec {sz : Nat} {b : Bool} (h : slInfo P t = some (b, sz)) : ∃ e, P.underlying t = some (.slice e) ∧ szOf P e = some (b, sz) := by
  unfold slInfo at h
  split at h
  · rename_i e hu; exact ⟨e, hu, h⟩
  · cases h
theorem run_isAgg_of {d : TypeDesc} (h : P.underlying t = some d) : (isAgg t).run P w = .ok d.isRow w := by
  unfold isAgg
  rw [Sem.run_bind, run_underlying h w]
  cases d <;> rfl
theorem run_sizeOf_of {j : TypeInfo} (h : P.info? t = some j) : (sizeOf t).run P w = .ok j.size w := by
  simp [sizeOf, typeInfo, h]
theorem beq_dec (m n : Int) : (m == n) = decide (m = n) := by rw [Bool.eq_iff_iff]; simp
theorem R.tt {p : Prop} [Decidable p] {op : Op} {w' : World} (h : Run P l w op ty (.bool (decide p)) w') (hp : p) : Run P l w op ty (.bool true) w' := by rwa [decide_eq_true hp] at h
theorem R.ff {p : Prop} [Decidable p] {op : Op} {w' : World} (h : Run P l w op ty (.bool (decide p)) w') (hp : ¬ p) : Run P l w op ty (.bool false) w' := by rwa [decide_eq_false hp] at h
theorem R.to {op : Op} {w' : World} {u v : Value} (h : Run P l w op ty u w') (e : u = v) : Run P l w op ty v w' := e ▸ h
theorem R.move {v : Value} (hx : opv l x = some v) : Run P l w (.move x) ty v w := fun ev h _ _ _ _ => by simp only [execOp, h _ _ hx]; rfl
theorem R.assign {v : Value} (hx : opv l x = some v) : Run P l w (.assign x) ty v w := fun ev h _ _ _ _ => by simp only [execOp, h _ _ hx]; rfl
theorem R.pickT {v : Value} (hc : opv l z = some (.bool true)) (hx : opv l x = some v) : Run P l w (.pick z x y) ty v w := fun ev h _ _ _ _ => by simp only [execOp, h _ _ hc, h _ _ hx]; rfl
theorem R.pickF {v : Value} (hc : opv l z = some (.bool false)) (hy : opv l y = some v) : Run P l w (.pick z x y) ty v w := fun ev h _ _ _ _ => by simp only [execOp, h _ _ hc, h _ _ hy]; rfl
theorem R.extract {vs : Array Value} {i : Nat} {v : Value} (hx : opv l x = some (.tuple vs)) (hv : vs[i]? = some v) : Run P l w (.extract x i) ty v w := fun ev h _ _ _ _ => by
  simp [execOp, h _ _ hx, Instr.extract, hv]
theorem R.nilCheck {p : Addr} (hx : opv l x = some (.pointer (some p))) : Run P l w (.nilCheck x) ty (.pointer (some p)) w := fun ev h _ _ _ _ => by simp only [execOp, h _ _ hx]; rfl
theorem R.add (hx : opv l x = some (.int k m)) (hy : opv l y = some (.int k n)) : Run P l w (.binOp .add t x y yt) ty (.int k (k.wrap (m + n))) w := fun ev h _ _ _ _ => by
  simp [execOp, h _ _ hx, h _ _ hy, eqGuard, binOp, Op.intArith]
theorem R.sub (hx : opv l x = some (.int k m)) (hy : opv l y = some (.int k n)) : Run P l w (.binOp .sub t x y yt) ty (.int k (k.wrap (m - n))) w := fun ev h _ _ _ _ => by
  simp [execOp, h _ _ hx, h _ _ hy, eqGuard, binOp, Op.intArith]
theorem R.mul (hx : opv l x = some (.int k m)) (hy : opv l y = some (.int k n)) : Run P l w (.binOp .mul t x y yt) ty (.int k (k.wrap (m * n))) w := fun ev h _ _ _ _ => by
  simp [execOp, h _ _ hx, h _ _ hy, eqGuard, binOp, Op.intArith]
theorem R.addI (hx : opv l x = some (.int .i64 m)) (hy : opv l y = some (.int .i64 n)) {r : Int} (hr : m + n = r) (h0 : -9223372036854775808 ≤ r ∧ r ≤ 9223372036854775807) : Run P l w (.binOp .add t x y yt) ty (.int .i64 r) w := by
  subst hr; have := R.add (P := P) (w := w) (ty := ty) (t := t) (yt := yt) hx hy; rwa [IntWalk.i64_in _ ⟨h0.1, by omega⟩] at this
theorem R.mulI (hx : opv l x = some (.int .i64 m)) (hy : opv l y = some (.int .i64 n)) {r : Int} (hr : m * n = r) (h0 : -9223372036854775808 ≤ r ∧ r ≤ 9223372036854775807) : Run P l w (.binOp .mul t x y yt) ty (.int .i64 r) w := by
  subst hr; have := R.mul (P := P) (w := w) (ty := ty) (t := t) (yt := yt) hx hy; rwa [IntWalk.i64_in _ ⟨h0.1, by omega⟩] at this
theorem R.quo (hx : opv l x = some (.int k m)) (hy : opv l y = some (.int k n)) (h0 : n ≠ 0) : Run P l w (.binOp .quo t x y yt) ty (.int k (k.wrap (m.tdiv n))) w := fun ev h _ _ _ _ => by
  simp [execOp, h _ _ hx, h _ _ hy, eqGuard, binOp, Op.intDiv, h0]
theorem R.rem (hx : opv l x = some (.int k m)) (hy : opv l y = some (.int k n)) (h0 : n ≠ 0) : Run P l w (.binOp .rem t x y yt) ty (.int k (m.tmod n)) w := fun ev h _ _ _ _ => by
  simp [execOp, h _ _ hx, h _ _ hy, eqGuard, binOp, Op.intDiv, h0]
theorem R.quoI (hx : opv l x = some (.int .i64 m)) (hy : opv l y = some (.int .i64 n)) {r : Int} (hr : m / n = r) (h0 : 0 ≤ m ∧ m ≤ 9223372036854775807 ∧ 0 < n) : Run P l w (.binOp .quo t x y yt) ty (.int .i64 r) w := by
  subst hr
  have := R.quo (P := P) (w := w) (ty := ty) (t := t) (yt := yt) hx hy (by omega)
  rw [Int.tdiv_eq_ediv_of_nonneg h0.1] at this
  have h1 : 0 ≤ m / n := Int.ediv_nonneg h0.1 (by omega)
  have h2 : m / n ≤ m := Int.ediv_le_self _ h0.1
  rwa [IntWalk.i64_in _ ⟨by omega, by omega⟩] at this
theorem R.remI (hx : opv l x = some (.int k m)) (hy : opv l y = some (.int k n)) {r : Int} (hr : m % n = r) (h0 : 0 ≤ m ∧ n ≠ 0) : Run P l w (.binOp .rem t x y yt) ty (.int k r) w := by
  subst hr
  have := R.rem (P := P) (w := w) (ty := ty) (t := t) (yt := yt) hx hy h0.2
  rwa [Int.tmod_eq_emod_of_nonneg h0.1] at this
theorem R.eql (hx : opv l x = some (.int k m)) (hy : opv l y = some (.int k n)) : Run P l w (.binOp .eql t x y yt) ty (.bool (decide (m = n))) w := fun ev h _ _ _ _ => by
  simp [execOp, h _ _ hx, h _ _ hy, eqGuard, binOp, Op.intCmp, beq_dec]
theorem R.neq (hx : opv l x = some (.int k m)) (hy : opv l y = some (.int k n)) : Run P l w (.binOp .neq t x y yt) ty (.bool (decide (m ≠ n))) w := fun ev h _ _ _ _ => by
  simp [execOp, h _ _ hx, h _ _ hy, eqGuard, binOp, Op.intCmp, bne, beq_dec]
theorem R.lss (hx : opv l x = some (.int k m)) (hy : opv l y = some (.int k n)) : Run P l w (.binOp .lss t x y yt) ty (.bool (decide (m < n))) w := fun ev h _ _ _ _ => by
  simp [execOp, h _ _ hx, h _ _ hy, eqGuard, binOp, Op.intCmp]
theorem R.leq (hx : opv l x = some (.int k m)) (hy : opv l y = some (.int k n)) : Run P l w (.binOp .leq t x y yt) ty (.bool (decide (m ≤ n))) w := fun ev h _ _ _ _ => by
  simp [execOp, h _ _ hx, h _ _ hy, eqGuard, binOp, Op.intCmp]
theorem R.gtr (hx : opv l x = some (.int k m)) (hy : opv l y = some (.int k n)) : Run P l w (.binOp .gtr t x y yt) ty (.bool (decide (n < m))) w := fun ev h _ _ _ _ => by
  simp [execOp, h _ _ hx, h _ _ hy, eqGuard, binOp, Op.intCmp]
theorem R.geq (hx : opv l x = some (.int k m)) (hy : opv l y = some (.int k n)) : Run P l w (.binOp .geq t x y yt) ty (.bool (decide (n ≤ m))) w := fun ev h _ _ _ _ => by
  simp [execOp, h _ _ hx, h _ _ hy, eqGuard, binOp, Op.intCmp]
theorem R.conv (hd : P.underlying yt = some (.int k')) (hs : P.underlying t = some (.int k)) (hx : opv l x = some (.int k m)) : Run P l w (.convert t yt x) ty (.int k' (k'.wrap m)) w := fun ev h _ _ _ _ => by
  simp [execOp, h _ _ hx, convert, run_underlying hd, run_underlying hs, Conv.intToInt]
theorem R.not {b : Bool} (hx : opv l x = some (.bool b)) : Run P l w (.unOp .not t x) ty (.bool (!b)) w := fun ev h _ _ _ _ => by
  simp [execOp, h _ _ hx, Op.unary]
theorem R.notD {p : Prop} [Decidable p] (hx : opv l x = some (.bool (decide p))) : Run P l w (.unOp .not t x) ty (.bool (decide (¬ p))) w := by
  have := R.not (P := P) (w := w) (ty := ty) (t := t) hx
  rwa [decide_not]
theorem R.lenS {e : TypeId} {a : Option Addr} {len cap : Nat} {ats : Array TypeId} (ht : P.underlying t = some (.slice e)) (hat : ats = #[t]) (hx : opv l x = some (.slice a len cap)) : Run P l w (.call { callee := .builtin .len, args := #[x], argTypes := ats }) ty (.int .i64 (len : Int)) w := fun ev h _ _ _ _ => by
  subst hat
  simp [execOp, resolve, invoke, builtin, h _ _ hx, Builtin.len_, run_underlying ht, goInt]
theorem R.lenStr {s : ByteArray} {ats : Array TypeId} (ht : P.underlying t = some .string) (hat : ats = #[t]) (hx : opv l x = some (.string s)) : Run P l w (.call { callee := .builtin .len, args := #[x], argTypes := ats }) ty (.int .i64 (s.size : Int)) w := fun ev h _ _ _ _ => by
  subst hat
  simp [execOp, resolve, invoke, builtin, h _ _ hx, Builtin.len_, run_underlying ht, goInt]
theorem R.min {ats : Array TypeId} (hx : opv l x = some (.int k m)) (hy : opv l y = some (.int k n)) : Run P l w (.call { callee := .builtin .min, args := #[x, y], argTypes := ats }) ty (.int k (min m n)) w := fun ev h _ _ _ _ => by
  simp [execOp, resolve, invoke, builtin, h _ _ hx, h _ _ hy, run_min_int2]
  split <;> omega
theorem R.build {ps : Array (Nat × Operand)} {cells : Array Value} {vs : List Value} (hp : opvs l (ps.toList.map (·.2)) = some vs) (hb : P.built t ((ps.toList.map (·.1)).zip vs) = some cells) : Run P l w (.build t ps) ty (.agg cells) w := fun ev h _ _ _ _ => by
  have key : ∀ (os : List (Nat × Operand)) (vs : List Value), opvs l (os.map (·.2)) = some vs → os.map (fun (i, x) => (i, ev x)) = (os.map (·.1)).zip vs := by
    intro os
    induction os with
    | nil => intro vs hv; simp [opvs] at hv; subst hv; rfl
    | cons o os ih =>
      intro vs hv
      simp only [List.map_cons, opvs] at hv
      split at hv
      · cases hv
      · rename_i v hv1
        split at hv
        · cases hv
        · rename_i us hus
          simp only [Option.some.injEq] at hv
          subst hv
          simp [ih us hus, h _ _ hv1]
  have h1 : (ps.map fun (i, x) => (i, ev x)).toList = (ps.toList.map (·.1)).zip vs := by simpa using key _ _ hp
  simp only [execOp]
  rw [Sem.run_bind, run_build w t _ cells (by rw [h1]; exact hb)]
  rfl
theorem R.fieldAddr {i off sz b o q : Nat} {g : Bool} (hi : fieldInfo P t i = some (off, g, sz)) (hx : opv l x = some (.pointer (some ⟨b, o, none⟩))) (hsz : Nat.beq sz 0 = false) (hq : o + off = q) : Run P l w (.fieldAddr t x i) ty (.pointer (some ⟨b, q, none⟩)) w := fun ev h _ _ _ _ => by
  obtain ⟨fs, f, d, j, hu, hf, hd, hj, rfl, hrow, rfl⟩ := fieldInfo_spec hi
  have hz : ¬ j.size = 0 := by intro e; rw [e] at hsz; cases hsz
  simp [execOp, h _ _ hx, Instr.fieldAt, run_underlying hu, hf, Instr.sureAddr, fieldPlace, run_sizeOf_of hj, hz, Addr.add_mid, hq]
theorem R.indexAddr {len cap b o sz q : Nat} {g : Bool} {i : Int} (hi : slInfo P t = some (g, sz)) (hx : opv l x = some (.slice (some ⟨b, o, none⟩) len cap)) (hy : opv l y = some (.int k i)) (h0 : 0 ≤ i ∧ i < (len : Int)) (hq : o + i.toNat * sz = q) :
    Run P l w (.indexAddr t x y) ty (.pointer (some ⟨b, q, none⟩)) w := fun ev h _ _ _ _ => by
  obtain ⟨e, hu, hs⟩ := slInfo_spec hi
  obtain ⟨d, j, hd, hj, hrow, hsz⟩ := szOf_spec hs
  simp [execOp, h _ _ hx, h _ _ hy, Instr.indexAt, asIntOf, run_underlying hu, h0, run_sizeOf_of hj, hsz, Addr.add_mid, hq]
theorem R.load {p : Addr} {v : Value} (hi : szOf P t = some (false, 1)) (hx : opv l x = some (.pointer (some p))) (hc : w.cell? p = some v) : Run P l w (.load t x) ty v w := fun ev h _ _ _ _ => by
  obtain ⟨d, j, hd, hj, hrow, hsz⟩ := szOf_spec hi
  simp [execOp, h _ _ hx, Instr.loadAt, Instr.sureAddr, loadVar, run_isAgg_of hd, hrow, hc]
theorem R.loadA {b o sz : Nat} {cs : List Value} (hi : szOf P t = some (true, sz)) (hx : opv l x = some (.pointer (some ⟨b, o, none⟩))) (hc : w.rangeAt b o cs) (hn : cs.length = sz) : Run P l w (.load t x) ty (.agg cs.toArray) w := fun ev h _ _ _ _ => by
  obtain ⟨d, j, hd, hj, hrow, hsz⟩ := szOf_spec hi
  have := run_loadAt_mid (P := P) w b o t cs d hc hd hrow (by simp [hj, hsz, hn])
  simp [execOp, h _ _ hx, this]
theorem R.store {p : Addr} {u v : Value} (hi : szOf P t = some (false, 1)) (hx : opv l x = some (.pointer (some p))) (hy : opv l y = some v) (hv : v.oneCell' = true) (hc : w.cell? p = some u) (hfz : w.frozen? p = false) : RunN P l w (.store t x y) ty .skip (w.setCell p v) := fun ev h _ _ _ _ => by
  obtain ⟨d, j, hd, hj, hrow, hsz⟩ := szOf_spec hi
  have hcs : v.cells = #[v] := by cases v <;> first | rfl | cases hv
  have hst := run_store P w p v .plain hv
  simp only [hc, hfz] at hst
  have ha : p.add 0 = p := by simp [Addr.add]
  simp only [execOp, h _ _ hx, h _ _ hy, Instr.storeAt, Instr.sureAddr, storeVar, Sem.run_bind, Sem.run_pure, Result.andThen_ok, run_sizeOf_of hj, hsz, hcs]
  simp [storeCells, ha, hst]
theorem R.storeA {b o sz : Nat} {cs : Array Value} (hi : szOf P t = some (true, sz)) (hx : opv l x = some (.pointer (some ⟨b, o, none⟩))) (hy : opv l y = some (.agg cs)) (hn : cs.size = sz) (h1 : cs.all (·.oneCell') = true) (ht : w.there b o cs.size) : RunN P l w (.store t x y) ty .skip (w.setCells b o cs.toList) := fun ev h _ _ _ _ => by
  obtain ⟨d, j, hd, hj, hrow, hsz⟩ := szOf_spec hi
  have := run_storeAt_mid (P := P) w b o t cs ht (by simp [hj, hsz, hn]) h1
  simp [execOp, h _ _ hx, h _ _ hy, this]
theorem R.box {v : Value} (hx : opv l x = some v) : Run P l w (.box t x) ty (.pointer (some ⟨w.heap.size, 0, none⟩)) (w.alloc (.cells v.cells t)) := fun ev h _ _ _ _ => by
  simp [execOp, h _ _ hx, Instr.box, newVar, newRow]
theorem R.alloc {j : TypeInfo} {z : Value} (hj : P.info? t = some j) (hz : j.zero = some z) : Run P l w (.alloc t) ty (.pointer (some ⟨w.heap.size, 0, none⟩)) (w.alloc (.cells z.cells t)) := fun ev h _ _ _ _ => by
  simp [execOp, Instr.alloc, zeroValue, typeInfo, hj, hz, newVar, newRow]
theorem R.callF {f : FuncId} {fn : Func} {xs : Array Operand} {ats : Array TypeId} {vs : List Value} (hf : P.funcs[f]? = some fn) (hname : (fn.name == "runtime.NumGoroutine") = false) (hb : fn.body.isNone = false) (hp : opvs l xs.toList = some vs) :
    RunN P l w (.call { callee := .value (.func f), args := xs, argTypes := ats }) ty (.enter f vs.toArray) w := fun ev h _ _ _ _ => by
  have key : ∀ (os : List Operand) (vs : List Value), opvs l os = some vs → os.map ev = vs := by
    intro os
    induction os with
    | nil => intro vs hv; simp [opvs] at hv; subst hv; rfl
    | cons o os ih =>
      intro vs hv
      simp only [opvs] at hv
      split at hv
      · cases hv
      · rename_i v hv1
        split at hv
        · cases hv
        · rename_i us hus
          simp only [Option.some.injEq] at hv
          subst hv
          simp [ih us hus, h _ _ hv1]
  have h1 : (xs.map ev) = vs.toArray := by
    have := key _ _ hp
    apply Array.toList_inj.1
    simpa using this
  have hef : ev (.func f) = .func (.func f) #[] #[] := h (.func f) _ rfl
  have hc : (callFunc f vs.toArray).run P w = .ok (.enter f vs.toArray) w := by
    simp only [callFunc, Sem.run_bind, run_program, Result.andThen_ok, hf, hname, hb, Bool.false_eq_true, if_false, Sem.run_pure]
  simp [execOp, resolve, hef, Deferred.ofValue, invoke, h1, hc]
end
end
section
open Go.RowKit
structure Ck where
  foot : Nat → Prop
  holds : World → Prop
  loc : ∀ w w' : World, (∀ b, foot b → w'.heap[b]? = w.heap[b]?) → holds w → holds w'
def pt (b : Nat) (cs : Array Value) (t : TypeId) : Ck :=
  ⟨fun c => c = b, fun w => w.heap[b]? = some (.cells cs t (0, 0)), fun w w' h hw => by rw [h b rfl]; exact hw⟩
def nof : Nat → Prop := fun _ => False
structure Mem (w0 : World) (F : Nat → Prop) (L : List Ck) (w : World) : Prop where
  os : w.os = w0.os
  tape : w.tape = w0.tape
  output : w.output = w0.output
  size : w0.heap.size ≤ w.heap.size
  old : ∀ b, b < w0.heap.size → ¬ F b → w.heap[b]? = w0.heap[b]?
  holds : ∀ c ∈ L, c.holds w
  inb : ∀ c ∈ L, ∀ b, c.foot b → b < w.heap.size ∧ (b < w0.heap.size → F b)
  apart : L.Pairwise fun c d => ∀ b, c.foot b → ¬ d.foot b
section
variable {w0 w w' : World} {F F' : Nat → Prop} {L L' : List Ck} {c d : Ck}
theorem Mem.start (w : World) : Mem w nof [] w := ⟨rfl, rfl, rfl, Nat.le_refl _, fun _ _ _ => rfl, fun _ h => (by cases h), fun _ h => (by cases h), .nil⟩
theorem Mem.below (h : Mem w0 nof L w) : Below w0.heap.size w0 w := ⟨h.os, h.tape, h.output, h.size, fun b hb => h.old b hb (fun f => f)⟩
theorem Mem.of_below (h : Below w0.heap.size w0 w) : Mem w0 nof [] w := ⟨h.os, h.tape, h.output, h.size, fun b hb _ => h.block b hb, fun _ h => (by cases h), fun _ h => (by cases h), .nil⟩
theorem Mem.drew (h : Mem w0 F L w) : Mem w0 F L w.drew := ⟨h.os, h.tape, h.output, h.size, h.old, fun c hc => c.loc w w.drew (fun _ _ => rfl) (h.holds c hc), h.inb, h.apart⟩
theorem Mem.sub (h : Mem w0 F L w) (hs : L'.Sublist L) : Mem w0 F L' w :=
  ⟨h.os, h.tape, h.output, h.size, h.old, fun c hc => h.holds c (hs.mem hc), fun c hc => h.inb c (hs.mem hc), h.apart.sublist hs⟩
theorem Mem.tail (h : Mem w0 F (c :: L) w) : Mem w0 F L w := h.sub (List.sublist_cons_self _ _)
theorem Mem.nilL (h : Mem w0 F L w) : Mem w0 F [] w := h.sub (List.nil_sublist _)
theorem Mem.perm (h : Mem w0 F L w) (hp : L.Perm L') : Mem w0 F L' w :=
  ⟨h.os, h.tape, h.output, h.size, h.old, fun c hc => h.holds c (hp.mem_iff.2 hc), fun c hc => h.inb c (hp.mem_iff.2 hc), hp.pairwise h.apart (fun h b hc hd => h b hd hc)⟩
theorem Mem.mem (h : Mem w0 F L w) {k : Nat} (hk : ith L k = some c) : c.holds w :=
  h.holds c (List.mem_of_getElem? (by rw [← ith_eq]; exact hk))
theorem Mem.block (h : Mem w0 F L w) {k b : Nat} {cs : Array Value} {t : TypeId} (hk : ith L k = some (pt b cs t)) : w.heap[b]? = some (.cells cs t (0, 0)) := h.mem hk
theorem Mem.lt (h : Mem w0 F L w) {k b : Nat} {cs : Array Value} {t : TypeId} (hk : ith L k = some (pt b cs t)) : b < w.heap.size :=
  ((h.inb _ (List.mem_of_getElem? (by rw [← ith_eq]; exact hk))) b rfl).1
theorem Mem.new (h : Mem w0 nof L w) {k b : Nat} {cs : Array Value} {t : TypeId} (hk : ith L k = some (pt b cs t)) : w0.heap.size ≤ b := by
  rcases Nat.lt_or_ge b w0.heap.size with g | g
  · exact ((h.inb _ (List.mem_of_getElem? (by rw [← ith_eq]; exact hk))) b rfl).2 g |>.elim
  · exact g
theorem Mem.cell (h : Mem w0 F L w) {k b i : Nat} {cs : Array Value} {t : TypeId} {v : Value} (hk : ith L k = some (pt b cs t)) (hv : cs[i]? = some v) : w.cell? ⟨b, i, none⟩ = some v := by
  simp [World.cell?, h.block hk, hv]
theorem Mem.free (h : Mem w0 F L w) {k b : Nat} (i : Nat) {cs : Array Value} {t : TypeId} (hk : ith L k = some (pt b cs t)) : w.frozen? ⟨b, i, none⟩ = false := by
  simp [World.frozen?, h.block hk]
theorem Mem.cell0 (h : Mem w0 F L w) {b i : Nat} {v : Value} (hc : w0.cell? ⟨b, i, none⟩ = some v) (hF : ¬ F b) : w.cell? ⟨b, i, none⟩ = some v := by
  have hlt := World.block_lt_of_cell? w0 _ hc
  rw [← hc]
  exact World.cell?_of_block (h.old b hlt hF)
theorem Mem.range (h : Mem w0 F L w) {k b : Nat} {cs : List Value} {t : TypeId} (hk : ith L k = some (pt b cs.toArray t)) : w.rangeAt b 0 cs := fun j v hv => by
  rw [Nat.zero_add]; exact h.cell hk (by simpa using hv)
theorem Mem.alloc (h : Mem w0 F L w) (cs : Array Value) (t : TypeId) : Mem w0 F (pt w.heap.size cs t :: L) (w.alloc (.cells cs t)) := by
  have hold : ∀ b, b < w.heap.size → (w.alloc (.cells cs t)).heap[b]? = w.heap[b]? := fun b hb => Below.heap_alloc w _ b hb
  refine ⟨h.os, h.tape, h.output, by have := h.size; simp; omega, fun b hb hF => by rw [hold b (Nat.lt_of_lt_of_le hb h.size)]; exact h.old b hb hF, ?_, ?_, ?_⟩
  · intro c hc
    rcases List.mem_cons.1 hc with rfl | hc
    · exact heap_alloc_new w _
    · exact c.loc w _ (fun b hb => hold b (h.inb c hc b hb).1) (h.holds c hc)
  · intro c hc b hb
    rcases List.mem_cons.1 hc with rfl | hc
    · have e : b = w.heap.size := hb
      subst e
      exact ⟨by simp, fun g => absurd h.size (by omega)⟩
    · have := h.inb c hc b hb
      exact ⟨by simp; omega, this.2⟩
  · refine List.pairwise_cons.2 ⟨fun d hd b hb hdb => ?_, h.apart⟩
    have e : b = w.heap.size := hb
    have := (h.inb d hd b hdb).1
    omega
def setAt {α : Type} : List α → Nat → α → List α
  | [], _, _ => []
  | _ :: xs, 0, y => y :: xs
  | x :: xs, i + 1, y => x :: setAt xs i y
theorem setAt_eq {α : Type} : ∀ (l : List α) (i : Nat) (y : α), setAt l i y = l.set i y
  | [], _, _ => rfl
  | _ :: _, 0, _ => rfl
  | x :: xs, i + 1, y => by simp [setAt, setAt_eq xs i y]
theorem Mem.turn (h : Mem w0 F L w) {k : Nat} (hk : ith L k = some c) (hf : ∀ b, d.foot b → c.foot b) (hd : d.holds w') (ho : w'.os = w.os) (ht : w'.tape = w.tape) (hu : w'.output = w.output) (hz : w'.heap.size = w.heap.size)
  (hb : ∀ b, b < w.heap.size → ¬ c.foot b → w'.heap[b]? = w.heap[b]?) : Mem w0 F (setAt L k d) w' := by
 rw [ith_eq] at hk
 rw [setAt_eq]
 obtain ⟨hlt, hck⟩ := List.getElem?_eq_some_iff.1 hk
 have hcm : c ∈ L := List.mem_of_getElem? hk
 have hother : ∀ j (hj : j < L.length), j ≠ k → ∀ b, L[j].foot b → ¬ c.foot b := by
  intro j hj hjk b hjb hcb
  rcases Nat.lt_or_gt_of_ne hjk with g | g
  · exact (List.pairwise_iff_getElem.1 h.apart j k hj hlt g) b hjb (hck ▸ hcb)
  · exact (List.pairwise_iff_getElem.1 h.apart k j hlt hj g) b (hck ▸ hcb) hjb
 have hmem : ∀ e ∈ L.set k d, e = d ∨ ∃ j, ∃ hj : j < L.length, j ≠ k ∧ L[j] = e := by
  intro e he
  obtain ⟨j, hj⟩ := List.getElem?_of_mem he
  rw [List.getElem?_set] at hj
  split at hj
  · left; simpa using hj.symm
  ·
   rename_i hne
   obtain ⟨hj1, hj2⟩ := List.getElem?_eq_some_iff.1 hj
   exact .inr ⟨j, hj1, fun e => hne e.symm, hj2⟩
 refine ⟨ho.trans h.os, ht.trans h.tape, hu.trans h.output, by rw [hz]; exact h.size, fun b hlt' hF => ?_, ?_, ?_, ?_⟩
 ·
  rw [hb b (Nat.lt_of_lt_of_le hlt' h.size) (fun hc => hF ((h.inb c hcm b hc).2 hlt'))]
  exact h.old b hlt' hF
 ·
  intro e he
  rcases hmem e he with rfl | ⟨j, hj, hjk, rfl⟩
  · exact hd
  · exact L[j].loc w w' (fun b hjb => hb b (h.inb _ (List.getElem_mem hj) b hjb).1 (hother j hj hjk b hjb)) (h.holds _ (List.getElem_mem hj))
 ·
  intro e he b heb
  rw [hz]
  rcases hmem e he with rfl | ⟨j, hj, hjk, rfl⟩
  · exact h.inb c hcm b (hf b heb)
  · exact h.inb _ (List.getElem_mem hj) b heb
 ·
  refine List.pairwise_iff_getElem.2 fun i j hi hj hij b hb1 hb2 => ?_
  simp only [List.length_set] at hi hj
  rw [List.getElem_set] at hb1 hb2
  split at hb1
  ·
   rename_i e; subst e
   split at hb2
   · omega
   · exact hother j hj (by omega) b hb2 (hf b hb1)
  ·
   split at hb2
   ·
    rename_i e; subst e
    exact hother i hi (by omega) b hb1 (hf b hb2)
   · exact (List.pairwise_iff_getElem.1 h.apart i j hi hj hij) b hb1 hb2
theorem heap_setCell_at {w : World} {b : Nat} {cs : Array Value} {t : TypeId} (h : w.heap[b]? = some (.cells cs t (0, 0))) (i : Nat) (v : Value) : (w.setCell ⟨b, i, none⟩ v).heap[b]? = some (.cells (cs.setIfInBounds i v) t (0, 0)) := by
  have hlt := lt_of_block h
  have h' : w.heap[b] = .cells cs t (0, 0) := by simpa [Array.getElem?_eq_getElem hlt] using h
  show (w.heap.modify b _)[b]? = _
  rw [Array.getElem?_eq_getElem (by simpa using hlt), Array.getElem_modify_self, h']
  rfl
theorem Mem.store (h : Mem w0 F L w) {k b : Nat} {cs : Array Value} {t : TypeId} (hk : ith L k = some (pt b cs t)) (i : Nat) (v : Value) : Mem w0 F (setAt L k (pt b (cs.setIfInBounds i v) t)) (w.setCell ⟨b, i, none⟩ v) :=
  h.turn (c := pt b cs t) hk (fun _ h => h) (heap_setCell_at (h.block hk) i v) rfl rfl rfl (by simp) (fun c _ hc => Below.heap_setCell w _ _ _ hc)
def spl : Array Value → Nat → List Value → Array Value
  | cs, _, [] => cs
  | cs, o, v :: vs => spl (cs.setIfInBounds o v) (o + 1) vs
theorem setAt_setAt {α : Type} : ∀ (l : List α) (k : Nat) (x y : α), setAt (setAt l k x) k y = setAt l k y
  | [], _, _, _ => rfl
  | _ :: _, 0, _, _ => rfl
  | z :: zs, k + 1, x, y => by simp [setAt, setAt_setAt zs k x y]
theorem ith_setAt {α : Type} : ∀ (l : List α) (k : Nat) (x y : α), ith l k = some y → ith (setAt l k x) k = some x
  | [], _, _, _, h => by simp [ith] at h
  | _ :: _, 0, _, _, _ => rfl
  | _ :: zs, k + 1, x, y, h => ith_setAt zs k x y h
theorem Mem.storeA : ∀ (vs : List Value) {w0 w : World} {F : Nat → Prop} {L : List Ck} {k b : Nat} {cs : Array Value} {t : TypeId} (o : Nat), Mem w0 F L w → ith L k = some (pt b cs t) → Mem w0 F (setAt L k (pt b (spl cs o vs) t)) (w.setCells b o vs)
  | [], w0, w, F, L, k, b, cs, t, o, h, hk => by
    have e : setAt L k (pt b cs t) = L := by
      rw [setAt_eq]; rw [ith_eq] at hk
      exact List.ext_getElem? fun j => by
        rw [List.getElem?_set]
        split
        · rename_i e; subst e
          obtain ⟨hlt, -⟩ := List.getElem?_eq_some_iff.1 hk
          rw [hk]; simp [hlt]
        · rfl
    show Mem w0 F (setAt L k (pt b cs t)) w
    rw [e]; exact h
  | v :: vs, w0, w, F, L, k, b, cs, t, o, h, hk => by
    have h1 := h.store hk o v
    have h2 := Mem.storeA vs (o + 1) h1 (ith_setAt _ _ _ _ hk)
    rw [setAt_setAt] at h2
    exact h2
theorem Mem.there (h : Mem w0 F L w) {k b : Nat} {cs : Array Value} {t : TypeId} (hk : ith L k = some (pt b cs t)) {o n : Nat} (hn : Nat.ble (o + n) cs.size = true) : w.there b o n := fun j hj => by
  have hle : o + n ≤ cs.size := Nat.le_of_ble_eq_true hn
  refine ⟨?_, h.free _ hk⟩
  rw [h.cell hk (v := cs[o + j]'(by omega)) (by rw [Array.getElem?_eq_getElem])]
  rfl
def allOne : List Value → Bool
  | [] => true
  | v :: vs => v.oneCell' && allOne vs
theorem allOne_spec : ∀ (vs : List Value), allOne vs = true → vs.toArray.all (·.oneCell') = true
  | [], _ => by simp
  | v :: vs, h => by
    simp only [allOne, Bool.and_eq_true] at h
    have := allOne_spec vs h.2
    simp only [List.all_toArray, List.all_cons, h.1, Bool.true_and] at this ⊢
    exact this
theorem Mem.call (h : Mem w0 F L w) (hn : Mem w nof L' w') : Mem w0 F (L' ++ L) w' := by
  have hkeep : ∀ b, b < w.heap.size → w'.heap[b]? = w.heap[b]? := fun b hb => hn.old b hb (fun f => f)
  refine ⟨hn.os.trans h.os, hn.tape.trans h.tape, hn.output.trans h.output, Nat.le_trans h.size hn.size, fun b hb hF => by rw [hkeep b (Nat.lt_of_lt_of_le hb h.size)]; exact h.old b hb hF, ?_, ?_, ?_⟩
  · intro c hc
    rcases List.mem_append.1 hc with hc | hc
    · exact hn.holds c hc
    · exact c.loc w w' (fun b hb => hkeep b (h.inb c hc b hb).1) (h.holds c hc)
  · intro c hc b hb
    rcases List.mem_append.1 hc with hc | hc
    · have := hn.inb c hc b hb
      refine ⟨this.1, fun g => ?_⟩
      exact (this.2 (Nat.lt_of_lt_of_le g h.size)).elim
    · have := h.inb c hc b hb
      exact ⟨Nat.lt_of_lt_of_le this.1 hn.size, this.2⟩
  · refine List.pairwise_append.2 ⟨hn.apart, h.apart, fun c hc d hd b hcb hdb => ?_⟩
    have h1 := hn.inb c hc b hcb
    have h2 := h.inb d hd b hdb
    exact h1.2 h2.1
theorem Mem.callB (h : Mem w0 F L w) (hn : Below w.heap.size w w') : Mem w0 F L w' := h.call (Mem.of_below hn)
end
section
variable {P : Program} {R : Ending → World → Prop} {f : FuncId} {a : Act} {w w0 : World} {n : Nat} {l : List (Nat × Value)} {ops : Array Oper} {Q : Exit → Act → World → Prop} {rest : List Oper} {F : Nat → Prop} {L : List Ck}
  {S : World → Prop} {os : List Oper} {is : Ordt} {b0 : Bool} {i last : Nat} {d : Nat} {t ty : TypeId} {x y : Operand} {pos : String} {aft : Array Edge}
theorem S.store {k b o : Nat} {cs : Array Value} {t' : TypeId} {u v : Value} (hA : St n l a) (hM : Mem w0 F L w) (hi : szOf P t = some (false, 1)) (hx : opv l x = some (.pointer (some ⟨b, o, none⟩))) (hy : opv l y = some v) (hv : v.oneCell' = true)
    (hk : ith L k = some (pt b cs t')) (hu : cs[o]? = some u) (h : ∀ w', Mem w0 F (setAt L k (pt b (cs.setIfInBounds o v) t')) w' → wpList P ops Q rest a w') :
    wpList P ops Q ({ dst := none, op := .store t x y, type := ty, pos, after := aft, guard := none } :: rest) a w :=
  S.skip hA (R.store hi hx hy hv (hM.cell hk hu) (hM.free _ hk)) (h _ (hM.store hk o v))
theorem S.storeA {k b o sz : Nat} {cs : Array Value} {t' : TypeId} {vs : List Value} (hA : St n l a) (hM : Mem w0 F L w) (hi : szOf P t = some (true, sz)) (hx : opv l x = some (.pointer (some ⟨b, o, none⟩))) (hy : opv l y = some (.agg vs.toArray)) (hn : vs.length = sz) (h1 : allOne vs = true)
    (hk : ith L k = some (pt b cs t')) (hfit : Nat.ble (o + vs.length) cs.size = true) (h : ∀ w', Mem w0 F (setAt L k (pt b (spl cs o vs) t')) w' → wpList P ops Q rest a w') :
    wpList P ops Q ({ dst := none, op := .store t x y, type := ty, pos, after := aft, guard := none } :: rest) a w :=
  S.skip hA (R.storeA hi hx hy (by simpa using hn) (allOne_spec _ h1) (hM.there hk (by simpa using hfit))) (h _ (by simpa using hM.storeA vs o hk))
theorem S.box {v : Value} (hA : St n l a) (hM : Mem w0 F L w) (hx : opv l x = some v) (hd : Nat.blt d n = true) (h : ∀ b w', w0.heap.size ≤ b → Mem w0 F (pt b v.cells t :: L) w' → ∀ a, St n ((d, .pointer (some ⟨b, 0, none⟩)) :: l) a → wpList P ops Q rest a w') :
    wpList P ops Q ({ dst := some d, op := .box t x, type := ty, pos, after := aft, guard := none } :: rest) a w :=
  S.val hA (R.box hx) hd (h _ _ hM.size (hM.alloc _ _))
theorem S.alloc {j : TypeInfo} {z : Value} (hA : St n l a) (hM : Mem w0 F L w) (hj : P.info? t = some j) (hz : j.zero = some z) (hd : Nat.blt d n = true) (h : ∀ b w', w0.heap.size ≤ b → Mem w0 F (pt b z.cells t :: L) w' → ∀ a, St n ((d, .pointer (some ⟨b, 0, none⟩)) :: l) a → wpList P ops Q rest a w') :
    wpList P ops Q ({ dst := some d, op := .alloc t, type := ty, pos, after := aft, guard := none } :: rest) a w :=
  S.val hA (R.alloc hj hz) hd (h _ _ hM.size (hM.alloc _ _))
theorem D.store {k b o : Nat} {cs : Array Value} {t' : TypeId} {u v : Value} (hA : St n l a) (hM : Mem w0 F L w) (ho : ith os i = some { dst := none, op := .store t x y, type := ty, pos, after := aft, guard := none })
    (hi : szOf P t = some (false, 1)) (hx : opv l x = some (.pointer (some ⟨b, o, none⟩))) (hy : opv l y = some v) (hv : v.oneCell' = true)
    (hk : ith L k = some (pt b cs t')) (hu : cs[o]? = some u) (h : ∀ w', Mem w0 F (setAt L k (pt b (cs.setIfInBounds o v) t')) w' → (b0 = false → i ≠ last → S w') ∧ wpOrd P last os Q S (b0 || Nat.beq i last) is a w') : wpOrd P last os Q S b0 (.cons (i, false) is) a w :=
  have g := h _ (hM.store hk o v)
  D.skip hA ho (R.store hi hx hy hv (hM.cell hk hu) (hM.free _ hk)) g.1 g.2
theorem D.storeA {k b o sz : Nat} {cs : Array Value} {t' : TypeId} {vs : List Value} (hA : St n l a) (hM : Mem w0 F L w) (ho : ith os i = some { dst := none, op := .store t x y, type := ty, pos, after := aft, guard := none })
    (hi : szOf P t = some (true, sz)) (hx : opv l x = some (.pointer (some ⟨b, o, none⟩))) (hy : opv l y = some (.agg vs.toArray)) (hn : vs.length = sz) (h1 : allOne vs = true)
    (hk : ith L k = some (pt b cs t')) (hfit : Nat.ble (o + vs.length) cs.size = true) (h : ∀ w', Mem w0 F (setAt L k (pt b (spl cs o vs) t')) w' → (b0 = false → i ≠ last → S w') ∧ wpOrd P last os Q S (b0 || Nat.beq i last) is a w') : wpOrd P last os Q S b0 (.cons (i, false) is) a w :=
  have g := h (w.setCells b o vs) (hM.storeA vs o hk)
  D.skip hA ho (by simpa using R.storeA hi hx hy (by simpa using hn) (allOne_spec _ h1) (hM.there hk (by simpa using hfit))) g.1 g.2
theorem Ends.retC {fn : Func} {k b p sz : Nat} {cs : List Value} {t' : TypeId} {kk : List Item} (hf : P.funcs[f]? = some fn) (hr : fn.results = #[.cell p t]) (hA : St n l a) (hM : Mem w0 F L w) (hp : lk l p = some (.pointer (some ⟨b, 0, none⟩)))
    (hk : ith L k = some (pt b cs.toArray t')) (hi : szOf P t = some (true, sz)) (hn : cs.length = sz) (hR : R (.returned (.agg cs.toArray)) w) : Ends P f R (.code .ret :: kk) a w := by
  obtain ⟨d, j, hd, hj, hrow, hsz⟩ := szOf_spec hi
  refine Ends.to_ret hf hA.defers ?_ hR
  exact results_cell_row hr a.tmps w b t' cs.toArray (0, 0) d (hA.getD hp) (hM.block hk) hd (by cases d <;> first | rfl | cases hrow) (by simp [hj, hsz, hn])
theorem D.box {v : Value} (hA : St n l a) (hM : Mem w0 F L w) (ho : ith os i = some { dst := some d, op := .box t x, type := ty, pos, after := aft, guard := none }) (hx : opv l x = some v) (hd : Nat.blt d n = true)
    (h : ∀ b w', w0.heap.size ≤ b → Mem w0 F (pt b v.cells t :: L) w' → S w' ∧ ∀ a, St n ((d, .pointer (some ⟨b, 0, none⟩)) :: l) a → wpOrd P last os Q S b0 is a w') : wpOrd P last os Q S b0 (.cons (i, false) is) a w :=
  have g := h _ _ hM.size (hM.alloc _ _)
  D.eff hA ho (R.box hx) hd g.1 g.2
theorem D.alloc {j : TypeInfo} {z : Value} (hA : St n l a) (hM : Mem w0 F L w) (ho : ith os i = some { dst := some d, op := .alloc t, type := ty, pos, after := aft, guard := none }) (hj : P.info? t = some j) (hz : j.zero = some z) (hd : Nat.blt d n = true)
    (h : ∀ b w', w0.heap.size ≤ b → Mem w0 F (pt b z.cells t :: L) w' → S w' ∧ ∀ a, St n ((d, .pointer (some ⟨b, 0, none⟩)) :: l) a → wpOrd P last os Q S b0 is a w') : wpOrd P last os Q S b0 (.cons (i, false) is) a w :=
  have g := h _ _ hM.size (hM.alloc _ _)
  D.eff hA ho (R.alloc hj hz) hd g.1 g.2
end
end
section
open Go.RowKit
def own (e : TypeId) (sz : Nat) (v : Value) (n : Nat) (xs : List Value) : Ck :=
  ⟨fun b => v.ownBlock = some b, fun w => w.ownsRow 0 e sz v n xs, fun w w' h hw => by
    refine ⟨hw.1, ?_⟩
    rcases hw.2 with hn | ⟨g, cap, cur, rfl, hb, hg, rest⟩
    · exact .inl hn
    · exact .inr ⟨g, cap, cur, rfl, hb, by rw [h g rfl]; exact hg, rest⟩⟩
section
variable {w0 w w' : World} {F : Nat → Prop} {L L' : List Ck} {e t : TypeId} {sz n m cap g k b : Nat} {v v' : Value} {xs news : List Value}
theorem Mem.consNo (h : Mem w0 F L w) {c : Ck} (hc : c.holds w) (hf : ∀ b, ¬ c.foot b) : Mem w0 F (c :: L) w :=
  ⟨h.os, h.tape, h.output, h.size, h.old, fun d hd => (List.mem_cons.1 hd).elim (fun e => e ▸ hc) (h.holds d),
    fun d hd b hb => (List.mem_cons.1 hd).elim (fun e => (hf b (e ▸ hb)).elim) (fun hd => h.inb d hd b hb), List.pairwise_cons.2 ⟨fun _ _ b hb => (hf b hb).elim, h.apart⟩⟩
theorem Mem.ownNil (h : Mem w0 F L w) (e : TypeId) (sz : Nat) : Mem w0 F (own e sz (.slice none 0 0) 0 [] :: L) w :=
  h.consNo (World.ownsRow_nil w 0 e sz) (fun b hb => by cases hb)
theorem Mem.head {c : Ck} (h : Mem w0 F (c :: L) w) {d : Ck} (hd : d.holds w) (hf : ∀ b, d.foot b → c.foot b) : Mem w0 F (d :: L) w := by
  have := h.turn (k := 0) (c := c) (d := d) (w' := w) rfl hf hd rfl rfl rfl rfl (fun _ _ _ => rfl)
  exact this
theorem Mem.ownPt {cs : Array Value} (h : Mem w0 F (pt b cs e :: L) w) (hs : cs.size = cap * sz) (hm : cap ≤ maxLen) (hn : n ≤ cap) (hx : cs.toList.take (n * sz) = xs) : Mem w0 F (own e sz (.slice (some ⟨b, 0, none⟩) n cap) n xs :: L) w := by
  refine h.head ⟨?_, .inr ⟨b, cap, cs, rfl, Nat.zero_le _, h.block (k := 0) rfl, hn, hm, hs, hx⟩⟩ (fun c hc => ?_)
  · rw [← hx, List.length_take, Array.length_toList, hs, Nat.min_eq_left (Nat.mul_le_mul_right _ hn)]
  · have e : some b = some c := hc
    exact (Option.some.inj e).symm
theorem own_form {w : World} (h : w.ownsRow 0 e sz v n xs) : ∃ a cap, v = .slice a n cap ∧ n ≤ cap ∧ cap ≤ maxLen ∧ xs.length = n * sz ∧ (a = none → n = 0) ∧ ∀ p, a = some p → ∃ g, p = ⟨g, 0, none⟩ := by
  obtain ⟨h1, h2⟩ := h
  rcases h2 with ⟨rfl, rfl⟩ | ⟨g, cap, cur, rfl, _, _, hn, hm, _⟩
  · exact ⟨none, 0, rfl, Nat.le_refl _, Nat.zero_le _, h1, fun _ => rfl, fun p hp => by cases hp⟩
  · exact ⟨_, cap, rfl, hn, hm, h1, fun h => (nomatch h), fun p hp => ⟨g, (Option.some.inj hp).symm⟩⟩
theorem Mem.ownForm (h : Mem w0 F L w) (hk : ith L k = some (own e sz v n xs)) : ∃ a cap, v = .slice a n cap ∧ n ≤ cap ∧ cap ≤ maxLen ∧ xs.length = n * sz ∧ (a = none → n = 0) ∧ ∀ p, a = some p → ∃ g, p = ⟨g, 0, none⟩ :=
  own_form (h.mem hk)
theorem Mem.ownAt (h : Mem w0 F L w) {a : Option Addr} (hk : ith L k = some (own e sz (.slice a n cap) n xs)) (hn : 0 < n) : ∃ g, a = some ⟨g, 0, none⟩ := by
  obtain ⟨a', cap', he, -, -, -, h1, h2⟩ := h.ownForm hk
  cases he
  cases a with
  | none => have := h1 rfl; omega
  | some p => obtain ⟨g, rfl⟩ := h2 p rfl; exact ⟨g, rfl⟩
theorem Mem.ownLe (h : Mem w0 F L w) {a : Option Addr} (hk : ith L k = some (own e sz (.slice a n cap) n xs)) : n ≤ cap ∧ cap ≤ maxLen := by
  obtain ⟨a', cap', he, h1, h2, -⟩ := h.ownForm hk
  cases he
  exact ⟨h1, h2⟩
theorem Mem.ownCell (h : Mem w0 F L w) (hk : ith L k = some (own e sz (.slice (some ⟨g, 0, none⟩) n cap) n xs)) {i : Nat} {u : Value} (hx : xs[i]? = some u) : w.cell? ⟨g, i, none⟩ = some u := by
  have h0 : w.ownsRow 0 e sz (.slice (some ⟨g, 0, none⟩) n cap) n xs := h.mem hk
  have := h0.cells (g := g) rfl i u hx
  rwa [Addr.add_lit, Nat.zero_add] at this
theorem Mem.ownFree (h : Mem w0 F L w) (hk : ith L k = some (own e sz (.slice (some ⟨g, 0, none⟩) n cap) n xs)) (i : Nat) : w.frozen? ⟨g, i, none⟩ = false := by
  have h0 : w.ownsRow 0 e sz (.slice (some ⟨g, 0, none⟩) n cap) n xs := h.mem hk
  rcases h0.2 with ⟨h1, _⟩ | ⟨g', cap', cur, h1, _, hg, _⟩
  · cases h1
  · cases h1; simp [World.frozen?, hg]
theorem Mem.ownStore (h : Mem w0 F L w) (hk : ith L k = some (own e sz (.slice (some ⟨g, 0, none⟩) n cap) n xs)) (i : Nat) (u : Value) :
    Mem w0 F (setAt L k (own e sz (.slice (some ⟨g, 0, none⟩) n cap) n (xs.set i u))) (w.setCell ⟨g, i, none⟩ u) := by
  have h0 : w.ownsRow 0 e sz (.slice (some ⟨g, 0, none⟩) n cap) n xs := h.mem hk
  exact h.turn hk (fun _ hb => hb) (h0.stored i u).1 rfl rfl rfl (by simp) (fun c _ hc => Below.heap_setCell w _ _ _ (fun e => hc (by rw [e]; rfl)))
def dropAt {α : Type} : List α → Nat → List α
  | [], _ => []
  | _ :: xs, 0 => xs
  | x :: xs, i + 1 => x :: dropAt xs i
theorem dropAt_sub {α : Type} : ∀ (l : List α) (i : Nat), (dropAt l i).Sublist l
  | [], _ => List.Sublist.refl _
  | _ :: _, 0 => List.sublist_cons_self _ _
  | _ :: xs, i + 1 => (dropAt_sub xs i).cons_cons _
theorem Mem.drop (h : Mem w0 F L w) (k : Nat) : Mem w0 F (dropAt L k) w := h.sub (dropAt_sub L k)
theorem dropAt_perm {α : Type} : ∀ (l : List α) (i : Nat) (x : α), ith l i = some x → l.Perm (x :: dropAt l i)
  | [], _, _, h => by simp [ith] at h
  | y :: ys, 0, x, h => by
    have e : y = x := by simpa [ith] using h
    subst e; exact List.Perm.refl _
  | y :: ys, i + 1, x, h => ((dropAt_perm ys i x h).cons y).trans (List.Perm.swap _ _ _)
theorem Mem.front (h : Mem w0 F L w) {k : Nat} {c : Ck} (hk : ith L k = some c) : Mem w0 F (c :: dropAt L k) w := h.perm (dropAt_perm L k c hk)
theorem append_form {P : Program} (w : World) (t ty e : TypeId) (i : TypeInfo) (z : Value) (size bytes : Nat) (ht : P.underlying t = some (.slice e)) (hi : P.info? e = some i) (hz : i.zero = some z)
    (hsize : i.size = size) (hby : i.bytes = bytes) (hzs : z.cells.size = size) (hsz : 0 < size)
    (v : Value) (n : Nat) (xs : List Value) (hown : w.ownsRow 0 e size v n xs)
    (a : Addr) (m c : Nat) (news : List Value) (hl : news.length = m * size) (hnews : ∀ j u, news[j]? = some u → w.cell? (a.add j) = some u) (h1 : ∀ u ∈ news, u.oneCell' = true)
    (h63 : n + m ≤ maxLen) (hbytes : (n + m) * bytes ≤ 140737488355328) :
    ∃ v' w', (Builtin.append_ #[t, t] ty #[v, .slice (some a) m c]).run P w = .ok v' w' ∧ w'.ownsRow 0 e size v' (n + m) (xs ++ news) ∧ w.grownBy w' v.ownBlock ∧
      (∀ b, v'.ownBlock = some b → v.ownBlock = some b ∨ w.heap.size ≤ b) := by
  obtain ⟨v', w', hr, h2, h3, -⟩ := run_append_own (P := P) w 0 t ty e i z size bytes ht hi hz hsize hby hzs hsz v n xs hown a m c news hl hnews h1 h63 hbytes (Nat.zero_le _)
  refine ⟨v', w', hr, h2, h3, fun b hb => ?_⟩
  rcases hown.2 with ⟨rfl, rfl⟩ | ⟨g, cap, cur, rfl, hbg, hg, hnc, hcm, hcs, htake⟩
  · obtain ⟨v2, w2, hr2, g2, -, -⟩ := run_append_own (P := P) w w.heap.size t ty e i z size bytes ht hi hz hsize hby hzs hsz (.slice none 0 0) 0 xs
      ⟨hown.1, .inl ⟨rfl, rfl⟩⟩ a m c news hl hnews h1 h63 hbytes (Nat.le_refl _)
    rw [hr] at hr2
    obtain ⟨rfl, rfl⟩ := (Result.ok.injEq .. ▸ hr2 : v' = v2 ∧ w' = w2)
    exact .inr (g2.lt b hb).1
  · by_cases hroom : n + m ≤ cap
    · obtain ⟨w2, hr2, -, -⟩ := run_append_fits (P := P) w 0 t ty e i size ht hi hsize g n cap xs hown a m c news hl hnews h1 hroom
      rw [hr] at hr2
      obtain ⟨rfl, rfl⟩ := (Result.ok.injEq .. ▸ hr2 : v' = _ ∧ w' = w2)
      exact .inl hb
    · have holds : ∀ j u, xs[j]? = some u → w.cell? ((⟨g, 0, none⟩ : Addr).add j) = some u := hown.cells (g := g) rfl
      have hl' := hown.1
      subst hsize
      subst hby
      have hr2 := run_append_grow (P := P) w t ty e i z ht hi hz ⟨g, 0, none⟩ n cap xs hl' holds a m c news hl hnews (by omega) (by unfold maxLen at h63; omega) (growslice_fits (by omega) hbytes)
      rw [hr] at hr2
      obtain ⟨rfl, rfl⟩ := (Result.ok.injEq .. ▸ hr2 : v' = _ ∧ w' = _)
      have e : some w.heap.size = some b := hb
      exact .inr (by rw [← Option.some.inj e]; exact Nat.le_refl _)
theorem Mem.grown (h : Mem w0 F L w) (hk : ith L k = some (own e sz v n xs)) (h2 : w'.ownsRow 0 e sz v' m news) (h3 : w.grownBy w' v.ownBlock) (h4 : ∀ b, v'.ownBlock = some b → v.ownBlock = some b ∨ w.heap.size ≤ b) :
    Mem w0 F (setAt L k (own e sz v' m news)) w' := by
  have hfr := h.front hk
  have hperm : (setAt L k (own e sz v' m news)).Perm (own e sz v' m news :: dropAt L k) := by
    have : ∀ (l : List Ck) (i : Nat) (x y : Ck), ith l i = some x → (setAt l i y).Perm (y :: dropAt l i) := by
      intro l
      induction l with
      | nil => intro i x y h; simp [ith] at h
      | cons z zs ih =>
        intro i x y h
        cases i with
        | zero => exact List.Perm.refl _
        | succ i => exact ((ih i x y h).cons z).trans (List.Perm.swap _ _ _)
    exact this L k _ _ hk
  refine Mem.perm ?_ hperm.symm
  have hap := List.pairwise_cons.1 hfr.apart
  refine ⟨h3.os.trans h.os, h3.tape.trans h.tape, h3.output.trans h.output, Nat.le_trans h.size h3.size, fun b hb hF => ?_, fun d hd => ?_, fun d hd b hb => ?_, List.pairwise_cons.2 ⟨fun d hd b hb hdb => ?_, hap.2⟩⟩
  · rw [h3.block b (Nat.lt_of_lt_of_le hb h.size) (fun e => hF ((hfr.inb _ (List.mem_cons_self ..) b e.symm).2 hb))]
    exact h.old b hb hF
  · rcases List.mem_cons.1 hd with rfl | hd
    · exact h2
    · refine d.loc w w' (fun b hb => h3.block b (hfr.inb d (by simp [hd]) b hb).1 (fun e => hap.1 d hd b e.symm hb)) (hfr.holds d (by simp [hd]))
  · rcases List.mem_cons.1 hd with rfl | hd
    · refine ⟨(h2.lt b hb).2, fun hlt => ?_⟩
      rcases h4 b hb with h4 | h4
      · exact (hfr.inb _ (List.mem_cons_self ..) b h4).2 hlt
      · have := h.size; omega
    · have := hfr.inb d (by simp [hd]) b hb
      exact ⟨Nat.lt_of_lt_of_le this.1 h3.size, this.2⟩
  · rcases h4 b hb with h4 | h4
    · exact hap.1 d hd b h4 hdb
    · have := (hfr.inb d (by simp [hd]) b hdb).1; omega
end
section
variable {P : Program} {l : List (Nat × Value)} {w : World} {ty : TypeId} {x y : Operand} {t e : TypeId}
theorem R.make {k k' : IntKind} {n : Int} {i : TypeInfo} {z : Value} (ht : P.underlying t = some (.slice e)) (hi : P.info? e = some i) (hz : i.zero = some z) (hx : opv l x = some (.int k n)) (hy : opv l y = some (.int k' n)) (h0 : 0 ≤ n) (hb : (i.bytes : Int) * n ≤ 281474976710656) (h1 : n ≤ 9223372036854775807) :
    Run P l w (.makeSlice t x y) ty (.slice (some ⟨w.heap.size, 0, none⟩) n.toNat n.toNat) (w.alloc (.cells (madeCells z.cells (n.toNat * i.size)) e)) := fun ev h _ _ _ _ => by
  have hr := run_make (P := P) w t e i z ht hi hz k k' n n h0 (Int.le_refl _) hb h1
  simp [execOp, h _ _ hx, h _ _ hy, hr]
theorem mapi_get (l : List Int) (i : Nat) (h : i < l.length) : (l.map (Value.int .i64))[i]? = some (.int .i64 (l.getD i 0)) := by simp [h]
theorem mapi_set (l : List Int) (i : Nat) (v : Int) : (l.map (Value.int .i64)).set i (.int .i64 v) = (l.set i v).map (Value.int .i64) := by rw [List.map_set]
theorem made_ints (n : Nat) : madeCells #[.int .i64 0] n = ints (List.replicate n 0) := by
  apply Array.toList_inj.1
  rw [toList_madeCells_one]; simp [ints]
theorem R.buildSl {len : Nat} {ps : Array (Nat × Operand)} {vs : List Value} {cells : Array Value} {i : TypeInfo} {z : Value} (ht : P.underlying t = some (.slice e)) (hi : P.info? e = some i) (hz : i.zero = some z) (hp : opvs l (ps.toList.map (·.2)) = some vs)
    (hsm : Nat.ble (len * i.size) 1000 = true) (hps : Nat.beq (len * i.size) 0 = false) (hf : Instr.fill (fun j => some (j * i.size, i.size)) ((Array.range (len * i.size)).map (z.cells[· % z.cells.size]!)) ((ps.toList.map (·.1)).zip vs) = some cells) :
    Run P l w (.buildSlice t len ps) ty (.slice (some ⟨w.heap.size, 0, none⟩) len len) (w.alloc (.cells cells e)) := fun ev h _ _ _ _ => by
  have key : ∀ (os : List (Nat × Operand)) (vs : List Value), opvs l (os.map (·.2)) = some vs → os.map (fun (i, x) => (i, ev x)) = (os.map (·.1)).zip vs := by
    intro os
    induction os with
    | nil => intro vs hv; simp [opvs] at hv; subst hv; rfl
    | cons o os ih =>
      intro vs hv
      simp only [List.map_cons, opvs] at hv
      split at hv
      · cases hv
      · rename_i v hv1
        split at hv
        · cases hv
        · rename_i us hus
          simp only [Option.some.injEq] at hv
          subst hv
          simp [ih us hus, h _ _ hv1]
  have h1 : (ps.map fun (i, x) => (i, ev x)).toList = (ps.toList.map (·.1)).zip vs := by simpa using key _ _ hp
  have hle : len * i.size ≤ 1000 := Nat.le_of_ble_eq_true hsm
  have hne : ¬ len * i.size = 0 := by intro e; rw [e] at hps; cases hps
  simp only [execOp]
  rw [Sem.run_bind, run_buildSlice w t e len _ cells i z ht hi hz (by omega) hne (by rw [h1]; exact hf)]
  rfl
end
section
variable {P : Program} {R : Ending → World → Prop} {f : FuncId} {a : Act} {w w0 : World} {nn : Nat} {l : List (Nat × Value)} {ops : Array Oper} {Q : Exit → Act → World → Prop} {rest : List Oper} {F : Nat → Prop} {L : List Ck}
  {S : World → Prop} {os : List Oper} {is : Ordt} {b0 : Bool} {i last : Nat} {d : Nat} {t e ty : TypeId} {x y : Operand} {pos : String} {aft : Array Edge}
theorem S.make {k k' : IntKind} {n : Int} {j : TypeInfo} {z : Value} (hA : St nn l a) (hM : Mem w0 F L w) (ht : P.underlying t = some (.slice e)) (hi : P.info? e = some j) (hz : j.zero = some z) (hx : opv l x = some (.int k n)) (hy : opv l y = some (.int k' n)) (h0 : 0 ≤ n) (hb : (j.bytes : Int) * n ≤ 281474976710656) (h1 : n ≤ 9223372036854775807) (hd : Nat.blt d nn = true)
    (h : ∀ b w', w0.heap.size ≤ b → Mem w0 F (pt b (madeCells z.cells (n.toNat * j.size)) e :: L) w' → ∀ a, St nn ((d, .slice (some ⟨b, 0, none⟩) n.toNat n.toNat) :: l) a → wpList P ops Q rest a w') :
    wpList P ops Q ({ dst := some d, op := .makeSlice t x y, type := ty, pos, after := aft, guard := none } :: rest) a w :=
  S.val hA (R.make ht hi hz hx hy h0 hb h1) hd (h _ _ hM.size (hM.alloc _ _))
theorem S.buildSl {len : Nat} {ps : Array (Nat × Operand)} {vs : List Value} {cells : Array Value} {j : TypeInfo} {z : Value} (hA : St nn l a) (hM : Mem w0 F L w) (ht : P.underlying t = some (.slice e)) (hi : P.info? e = some j) (hz : j.zero = some z) (hp : opvs l (ps.toList.map (·.2)) = some vs)
    (hsm : Nat.ble (len * j.size) 1000 = true) (hps : Nat.beq (len * j.size) 0 = false) (hf : Instr.fill (fun i => some (i * j.size, j.size)) ((Array.range (len * j.size)).map (z.cells[· % z.cells.size]!)) ((ps.toList.map (·.1)).zip vs) = some cells) (hd : Nat.blt d nn = true)
    (h : ∀ b w', w0.heap.size ≤ b → Mem w0 F (pt b cells e :: L) w' → ∀ a, St nn ((d, .slice (some ⟨b, 0, none⟩) len len) :: l) a → wpList P ops Q rest a w') :
    wpList P ops Q ({ dst := some d, op := .buildSlice t len ps, type := ty, pos, after := aft, guard := none } :: rest) a w :=
  S.val hA (R.buildSl ht hi hz hp hsm hps hf) hd (h _ _ hM.size (hM.alloc _ _))
theorem D.buildSl {len : Nat} {ps : Array (Nat × Operand)} {vs : List Value} {cells : Array Value} {j : TypeInfo} {z : Value} (hA : St nn l a) (hM : Mem w0 F L w) (ho : ith os i = some { dst := some d, op := .buildSlice t len ps, type := ty, pos, after := aft, guard := none })
    (ht : P.underlying t = some (.slice e)) (hi : P.info? e = some j) (hz : j.zero = some z) (hp : opvs l (ps.toList.map (·.2)) = some vs)
    (hsm : Nat.ble (len * j.size) 1000 = true) (hps : Nat.beq (len * j.size) 0 = false) (hf : Instr.fill (fun i => some (i * j.size, j.size)) ((Array.range (len * j.size)).map (z.cells[· % z.cells.size]!)) ((ps.toList.map (·.1)).zip vs) = some cells) (hd : Nat.blt d nn = true)
    (h : ∀ b w', w0.heap.size ≤ b → Mem w0 F (pt b cells e :: L) w' → S w' ∧ ∀ a, St nn ((d, .slice (some ⟨b, 0, none⟩) len len) :: l) a → wpOrd P last os Q S b0 is a w') : wpOrd P last os Q S b0 (.cons (i, false) is) a w :=
  have g := h _ _ hM.size (hM.alloc _ _)
  D.eff hA ho (R.buildSl ht hi hz hp hsm hps hf) hd g.1 g.2
theorem D.make {k k' : IntKind} {n : Int} {j : TypeInfo} {z : Value} (hA : St nn l a) (hM : Mem w0 F L w) (ho : ith os i = some { dst := some d, op := .makeSlice t x y, type := ty, pos, after := aft, guard := none })
    (ht : P.underlying t = some (.slice e)) (hi : P.info? e = some j) (hz : j.zero = some z) (hx : opv l x = some (.int k n)) (hy : opv l y = some (.int k' n)) (h0 : 0 ≤ n) (hb : (j.bytes : Int) * n ≤ 281474976710656) (h1 : n ≤ 9223372036854775807) (hd : Nat.blt d nn = true)
    (h : ∀ b w', w0.heap.size ≤ b → Mem w0 F (pt b (madeCells z.cells (n.toNat * j.size)) e :: L) w' → S w' ∧ ∀ a, St nn ((d, .slice (some ⟨b, 0, none⟩) n.toNat n.toNat) :: l) a → wpOrd P last os Q S b0 is a w') : wpOrd P last os Q S b0 (.cons (i, false) is) a w :=
  have g := h _ _ hM.size (hM.alloc _ _)
  D.eff hA ho (R.make ht hi hz hx hy h0 hb h1) hd g.1 g.2
theorem R.append {P : Program} {l : List (Nat × Value)} {w w0 : World} {F : Nat → Prop} {L : List Ck} {k n m c sz bytes : Nat} {v z : Value} {xs news : List Value} {p : Addr} {j : TypeInfo} (hM : Mem w0 F L w) (hk : ith L k = some (own e sz v n xs)) (ht : P.underlying t = some (.slice e)) (hi : P.info? e = some j) (hz : j.zero = some z) (hsz : j.size = sz) (hby : j.bytes = bytes) (hzs : z.cells.size = sz) (hps : Nat.blt 0 sz = true)
    (hx : opv l x = some v) (hy : opv l y = some (.slice (some p) m c)) (hl : news.length = m * sz) (hnews : ∀ j u, news[j]? = some u → w.cell? (p.add j) = some u) (h1 : allOne news = true) (hmax : n + m ≤ maxLen) (hbs : (n + m) * bytes ≤ 140737488355328) :
    ∃ a' cap' w', Run P l w (.call { callee := .builtin .append, args := #[x, y], argTypes := #[t, t] }) ty (.slice a' (n + m) cap') w' ∧ Mem w0 F (setAt L k (own e sz (.slice a' (n + m) cap') (n + m) (xs ++ news))) w' := by
  have hone : ∀ u ∈ news, u.oneCell' = true := by
    clear hl hnews
    induction news with
    | nil => intro u hu; cases hu
    | cons v vs ih =>
      simp only [allOne, Bool.and_eq_true] at h1
      intro u hu
      rcases List.mem_cons.1 hu with rfl | hu
      · exact h1.1
      · exact ih h1.2 u hu
  obtain ⟨v', w', hr, h2, h3, h4⟩ := append_form (P := P) w t ty e j z sz bytes ht hi hz hsz hby hzs (Nat.le_of_ble_eq_true hps) v n xs (hM.mem hk) p m c news hl hnews hone hmax hbs
  obtain ⟨a', cap', rfl, -⟩ := own_form h2
  exact ⟨a', cap', w', fun ev h _ _ _ _ => by simp [execOp, resolve, invoke, builtin, h _ _ hx, h _ _ hy, hr], hM.grown hk h2 h3 h4⟩
theorem S.append {k k2 n m c sz bytes b : Nat} {v z : Value} {xs news : List Value} {j : TypeInfo} (hA : St nn l a) (hM : Mem w0 F L w) (hk : ith L k = some (own e sz v n xs)) (hk2 : ith L k2 = some (pt b news.toArray e)) (ht : P.underlying t = some (.slice e)) (hi : P.info? e = some j) (hz : j.zero = some z) (hsz : j.size = sz) (hby : j.bytes = bytes) (hzs : z.cells.size = sz) (hps : Nat.blt 0 sz = true)
    (hx : opv l x = some v) (hy : opv l y = some (.slice (some ⟨b, 0, none⟩) m c)) (hl : news.length = m * sz) (h1 : allOne news = true) (hmax : n + m ≤ maxLen) (hbs : (n + m) * bytes ≤ 140737488355328) (hd : Nat.blt d nn = true)
    (h : ∀ a' cap' w', Mem w0 F (setAt L k (own e sz (.slice a' (n + m) cap') (n + m) (xs ++ news))) w' → ∀ a, St nn ((d, .slice a' (n + m) cap') :: l) a → wpList P ops Q rest a w') :
    wpList P ops Q ({ dst := some d, op := .call { callee := .builtin .append, args := #[x, y], argTypes := #[t, t] }, type := ty, pos, after := aft, guard := none } :: rest) a w := by
  obtain ⟨a', cap', w', hr, hM'⟩ := R.append (P := P) (ty := ty) (t := t) hM hk ht hi hz hsz hby hzs hps hx hy hl (fun j u hu => by rw [Addr.add_lit]; exact hM.cell hk2 (by simpa using hu)) h1 hmax hbs
  exact S.val hA hr hd (h a' cap' w' hM')
theorem D.append {k k2 n m c sz bytes b : Nat} {v z : Value} {xs news : List Value} {j : TypeInfo} (hA : St nn l a) (hM : Mem w0 F L w) (ho : ith os i = some { dst := some d, op := .call { callee := .builtin .append, args := #[x, y], argTypes := #[t, t] }, type := ty, pos, after := aft, guard := none })
    (hk : ith L k = some (own e sz v n xs)) (hk2 : ith L k2 = some (pt b news.toArray e)) (ht : P.underlying t = some (.slice e)) (hi : P.info? e = some j) (hz : j.zero = some z) (hsz : j.size = sz) (hby : j.bytes = bytes) (hzs : z.cells.size = sz) (hps : Nat.blt 0 sz = true)
    (hx : opv l x = some v) (hy : opv l y = some (.slice (some ⟨b, 0, none⟩) m c)) (hl : news.length = m * sz) (h1 : allOne news = true) (hmax : n + m ≤ maxLen) (hbs : (n + m) * bytes ≤ 140737488355328) (hd : Nat.blt d nn = true)
    (h : ∀ a' cap' w', Mem w0 F (setAt L k (own e sz (.slice a' (n + m) cap') (n + m) (xs ++ news))) w' → S w' ∧ ∀ a, St nn ((d, .slice a' (n + m) cap') :: l) a → wpOrd P last os Q S b0 is a w') : wpOrd P last os Q S b0 (.cons (i, false) is) a w := by
  obtain ⟨a', cap', w', hr, hM'⟩ := R.append (P := P) (ty := ty) (t := t) hM hk ht hi hz hsz hby hzs hps hx hy hl (fun j u hu => by rw [Addr.add_lit]; exact hM.cell hk2 (by simpa using hu)) h1 hmax hbs
  have g := h a' cap' w' hM'
  exact D.eff hA ho hr hd g.1 g.2
end
end
section
open Go.RowKit
section
variable {P : Program} {R : Ending → World → Prop} {f : FuncId} {a : Act} {w w0 : World} {n : Nat} {l : List (Nat × Value)} {ops : Array Oper} {Q : Exit → Act → World → Prop} {rest : List Oper} {F : Nat → Prop} {L : List Ck}
  {S : World → Prop} {os : List Oper} {is : Ordt} {b0 : Bool} {i last : Nat} {d : Nat} {t ty : TypeId} {x y : Operand} {pos : String} {aft : Array Edge}
end
end
section
open Go.RowKit
def feet (L : List Ck) : Nat → Prop := fun b => ∃ c ∈ L, c.foot b
section
variable {w0 w w' : World} {F : Nat → Prop} {L L' : List Ck}
theorem Mem.here (h : Mem w0 F L w) : Mem w (feet L) L w :=
  ⟨rfl, rfl, rfl, Nat.le_refl _, fun _ _ _ => rfl, h.holds, fun c hc b hb => ⟨(h.inb c hc b hb).1, fun _ => ⟨c, hc, hb⟩⟩, h.apart⟩
theorem Mem.hereN (h : Mem w0 F L w) (n : Nat) : Mem w (feet (L.take n)) (L.take n) w := (h.sub (List.take_sublist n L)).here
theorem Mem.firstN (h : Mem w0 F L w) (n : Nat) : Mem w0 F (L.take n) w := h.sub (List.take_sublist n L)
theorem Mem.callL (h : Mem w0 F L w) (n : Nat) (hn : Mem w (feet (L.take n)) L' w') : Mem w0 F (L' ++ L.drop n) w' := by
  have hsplit : L.take n ++ L.drop n = L := List.take_append_drop n L
  have hap : (L.take n ++ L.drop n).Pairwise (fun c d => ∀ b, c.foot b → ¬ d.foot b) := by rw [hsplit]; exact h.apart
  obtain ⟨hap1, hap2, hap3⟩ := List.pairwise_append.1 hap
  have hkeep : ∀ b, b < w.heap.size → ¬ feet (L.take n) b → w'.heap[b]? = w.heap[b]? := fun b hb hc => hn.old b hb hc
  have hfree : ∀ d ∈ L.drop n, ∀ b, d.foot b → ¬ feet (L.take n) b := fun d hd b hb ⟨c, hc, hcb⟩ => hap3 c hc d hd b hcb hb
  refine ⟨hn.os.trans h.os, hn.tape.trans h.tape, hn.output.trans h.output, Nat.le_trans h.size hn.size, fun b hb hF0 => ?_, fun e he => ?_, fun e he b hb => ?_, ?_⟩
  · rw [hkeep b (Nat.lt_of_lt_of_le hb h.size) (fun ⟨c, hc, hcb⟩ => hF0 ((h.inb c (List.mem_of_mem_take hc) b hcb).2 hb))]; exact h.old b hb hF0
  · rcases List.mem_append.1 he with he | he
    · exact hn.holds e he
    · have hm := List.mem_of_mem_drop he
      exact e.loc w w' (fun b hb => hkeep b (h.inb e hm b hb).1 (hfree e he b hb)) (h.holds e hm)
  · rcases List.mem_append.1 he with he | he
    · have := hn.inb e he b hb
      refine ⟨this.1, fun g => ?_⟩
      obtain ⟨c, hc, hcb⟩ := this.2 (Nat.lt_of_lt_of_le g h.size)
      exact (h.inb c (List.mem_of_mem_take hc) b hcb).2 g
    · have := h.inb e (List.mem_of_mem_drop he) b hb
      exact ⟨Nat.lt_of_lt_of_le this.1 hn.size, this.2⟩
  · refine List.pairwise_append.2 ⟨hn.apart, hap2, fun e he d hd b heb hdb => ?_⟩
    have g1 := hn.inb e he b heb
    have g2 := (h.inb d (List.mem_of_mem_drop hd) b hdb).1
    exact hfree d hd b hdb (g1.2 g2)
theorem Mem.cellB (h : Mem w0 nof L w) {b i : Nat} {cs : Array Value} {t : TypeId} {v : Value} (hb : w0.heap[b]? = some (.cells cs t (0, 0))) (hv : cs[i]? = some v) : w.cell? ⟨b, i, none⟩ = some v :=
  h.cell0 (by simp [World.cell?, hb, hv]) (fun h => h)
end
theorem Ends.unroll {P : Program} {f : FuncId} {R : Ending → World → Prop} {k : List Item} {a : Act} {w : World} {c : Code} (h : Ends P f R (.code c :: .inLoop c :: k) a w) : Ends P f R (.code (.loop c) :: k) a w :=
  Ends.step (fun _ _ _ _ => .one step_loop) h
theorem umod_ex (x k : Int) (hk : 0 < k ∧ k ≤ 4611686018427387904) : ∃ N : Nat, (N : Int) < k ∧ IntKind.i64.wrap (IntKind.u64.wrap x % k) = (N : Int) := by
  have h1 := Int.emod_nonneg (IntKind.u64.wrap x) (show k ≠ 0 by omega)
  have h2 := Int.emod_lt_of_pos (IntKind.u64.wrap x) (show 0 < k by omega)
  refine ⟨(IntKind.u64.wrap x % k).toNat, by omega, ?_⟩
  rw [IntWalk.i64_in _ ⟨by omega, by omega⟩]; omega
theorem u64_nn (x : Int) : 0 ≤ IntKind.u64.wrap x := by rw [IntKind.wrap_u64]; omega
end
section
open Go.RowKit
def intN (v : Int) : Int := if -9223372036854775808 ≤ v ∧ v ≤ 9223372036854775807 then v else 0
def intB (v : Int) : Bool := decide (-9223372036854775808 ≤ v ∧ v ≤ 9223372036854775807)
theorem int_no {v : Int} (h : ¬ (-9223372036854775808 ≤ v ∧ v ≤ 9223372036854775807)) : intN v = 0 ∧ intB v = false := ⟨by simp [intN, h], by simp only [intB, h, decide_false]⟩
theorem int_yes {v : Int} (h : -9223372036854775808 ≤ v ∧ v ≤ 9223372036854775807) : intN v = v ∧ intB v = true := ⟨by simp [intN, h], by simp only [intB, h, and_self, decide_true]⟩
theorem ret_ib {a b : Int} {p q : Bool} (h : a = b) (g : p = q) : Ending.returned (.tuple #[.int .i64 a, .bool p]) = .returned (.tuple #[.int .i64 b, .bool q]) := by rw [h, g]
end
section
open Go.RowKit
def IntSl (w : World) (v : Value) (l : List Int) : Prop :=
  ∃ a cap, v = .slice a l.length cap ∧ l.length ≤ cap ∧ cap ≤ maxLen ∧ (a = none → cap = 0) ∧ (l ≠ [] → ∃ b off, a = some ⟨b, off, none⟩ ∧ b < w.heap.size ∧ ∀ i, i < l.length → w.cell? ⟨b, off + i, none⟩ = some (.int .i64 (l.getD i 0)))
theorem IntSl.below {B : Nat} {w w' : World} {v : Value} {l : List Int} (h : IntSl w v l) (hb : Below B w w') (hB : w.heap.size ≤ B) : IntSl w' v l := by
  obtain ⟨a, cap, rfl, hle, hmx, hnn, h⟩ := h
  refine ⟨a, cap, rfl, hle, hmx, hnn, fun hn => ?_⟩
  obtain ⟨b, off, rfl, hlt, hc⟩ := h hn
  refine ⟨b, off, rfl, Nat.lt_of_lt_of_le hlt hb.size, fun i hi => ?_⟩
  rw [(bcell hb).1 _ _ (by omega)]; exact hc i hi
theorem getD_mem {l : List Int} {i : Nat} (h : i < l.length) : l.getD i 0 ∈ l := by
  rw [List.getD_eq_getElem?_getD, List.getElem?_eq_getElem h]; exact List.getElem_mem h
theorem take_succ_getD (l : List Int) (k : Nat) (h : k < l.length) : l.take (k + 1) = l.take k ++ [l.getD k 0] := by
  rw [List.take_succ_eq_append_getElem h, List.getD_eq_getElem?_getD, List.getElem?_eq_getElem h]; rfl
end
section
open Go.RowKit
section
variable {P : Program} {l : List (Nat × Value)} {w : World} {ty : TypeId} {x y z : Operand} {k k' : IntKind} {m n : Int} {t yt : TypeId}
end
theorem IntSl.at {w : World} {a : Option Addr} {n cap : Nat} {l : List Int} (h : IntSl w (.slice a n cap) l) {i : Nat} (hi : i < l.length) :
    ∃ b off, a = some ⟨b, off, none⟩ ∧ w.cell? ⟨b, off + i, none⟩ = some (.int .i64 (l.getD i 0)) := by
  obtain ⟨a', cap', he, h1, h2, h3, h4⟩ := h
  cases he
  obtain ⟨b, off, rfl, -, hc⟩ := h4 (by intro e; rw [e] at hi; simp at hi)
  exact ⟨b, off, rfl, hc i hi⟩
theorem IntSl.len {w : World} {a : Option Addr} {n cap : Nat} {l : List Int} (h : IntSl w (.slice a n cap) l) : n = l.length ∧ l.length ≤ cap ∧ cap ≤ maxLen := by
  obtain ⟨a', cap', he, h1, h2, -⟩ := h
  cases he
  exact ⟨rfl, h1, h2⟩
theorem IntSl.cut {w : World} {a : Option Addr} {n cap : Nat} {l : List Int} (h : IntSl w (.slice a n cap) l) (m : Nat) (hm : m ≤ l.length) : IntSl w (.slice a m cap) (l.take m) := by
  obtain ⟨a', cap', he, h1, h2, h3, h4⟩ := h
  cases he
  refine ⟨a, cap, by rw [List.length_take, Nat.min_eq_left hm], by rw [List.length_take]; omega, h2, h3, fun hne => ?_⟩
  obtain ⟨b, off, e, hlt, hc⟩ := h4 (by intro e; subst e; simp at hne)
  refine ⟨b, off, e, hlt, fun i hi => ?_⟩
  rw [List.length_take] at hi
  rw [hc i (by omega)]
  congr 2
  simp only [List.getD_eq_getElem?_getD, List.getElem?_take]
  rw [if_pos (by omega)]
theorem IntSl.mem {w0 w : World} {v : Value} {l : List Int} {L : List Ck} (h : IntSl w0 v l) (hM : Mem w0 nof L w) : IntSl w v l := h.below hM.nilL.below (Nat.le_refl _)
end
section
open Go.RowKit
section
variable {P : Program} {R : Ending → World → Prop} {f : FuncId} {a : Act} {w w0 : World} {n : Nat} {l : List (Nat × Value)} {ops : Array Oper} {Q : Exit → Act → World → Prop} {rest : List Oper} {F : Nat → Prop} {L : List Ck}
  {S : World → Prop} {os : List Oper} {is : Ordt} {b0 : Bool} {i last : Nat} {d : Nat} {t ty : TypeId} {x y : Operand} {pos : String} {aft : Array Edge}
theorem S.storeO {k g o m cap : Nat} {e : TypeId} {xs : List Value} {u v : Value} (hA : St n l a) (hM : Mem w0 F L w) (hi : szOf P t = some (false, 1)) (hx : opv l x = some (.pointer (some ⟨g, o, none⟩))) (hy : opv l y = some v) (hv : v.oneCell' = true)
    (hk : ith L k = some (own e 1 (.slice (some ⟨g, 0, none⟩) m cap) m xs)) (hu : xs[o]? = some u) (h : ∀ w', Mem w0 F (setAt L k (own e 1 (.slice (some ⟨g, 0, none⟩) m cap) m (xs.set o v))) w' → wpList P ops Q rest a w') :
    wpList P ops Q ({ dst := none, op := .store t x y, type := ty, pos, after := aft, guard := none } :: rest) a w :=
  S.skip hA (R.store hi hx hy hv (hM.ownCell hk hu) (hM.ownFree hk o)) (h _ (hM.ownStore hk o v))
end
end
section
open Go.RowKit
section
variable {P : Program} {R : Ending → World → Prop} {f : FuncId} {a : Act} {w w0 : World} {nn : Nat} {l : List (Nat × Value)} {ops : Array Oper} {Q : Exit → Act → World → Prop} {rest : List Oper} {F : Nat → Prop} {L : List Ck}
  {S : World → Prop} {os : List Oper} {is : Ordt} {i last : Nat} {d : Nat} {t e ty : TypeId} {x y : Operand} {pos : String} {aft : Array Edge}
end
end
section
open Go.RowKit
theorem D.storeO {P : Program} {a : Act} {w w0 : World} {n : Nat} {l : List (Nat × Value)} {Q : Exit → Act → World → Prop} {F : Nat → Prop} {L : List Ck} {S : World → Prop} {os : List Oper} {is : Ordt} {b0 : Bool} {i last : Nat} {t ty : TypeId} {x y : Operand} {pos : String} {aft : Array Edge}
    {k g o m cap : Nat} {e : TypeId} {xs : List Value} {u v : Value} (hA : St n l a) (hM : Mem w0 F L w) (ho : ith os i = some { dst := none, op := .store t x y, type := ty, pos, after := aft, guard := none }) (hi : szOf P t = some (false, 1)) (hx : opv l x = some (.pointer (some ⟨g, o, none⟩))) (hy : opv l y = some v) (hv : v.oneCell' = true)
    (hk : ith L k = some (own e 1 (.slice (some ⟨g, 0, none⟩) m cap) m xs)) (hu : xs[o]? = some u) (h : ∀ w', Mem w0 F (setAt L k (own e 1 (.slice (some ⟨g, 0, none⟩) m cap) m (xs.set o v))) w' → (b0 = false → i ≠ last → S w') ∧ wpOrd P last os Q S (b0 || Nat.beq i last) is a w') : wpOrd P last os Q S b0 (.cons (i, false) is) a w :=
  have g := h _ (hM.ownStore hk o v)
  D.skip hA ho (R.store hi hx hy hv (hM.ownCell hk hu) (hM.ownFree hk o)) g.1 g.2
end
section
open Go.RowKit
section
variable {P : Program} {l : List (Nat × Value)} {w : World} {ty : TypeId} {x y z : Operand} {k k' : IntKind} {m n : Int} {t yt : TypeId}
end
section
variable {P : Program} {R : Ending → World → Prop} {f : FuncId} {a : Act} {w w0 : World} {nn : Nat} {l : List (Nat × Value)} {ops : Array Oper} {Q : Exit → Act → World → Prop} {rest : List Oper} {F : Nat → Prop} {L : List Ck}
  {S : World → Prop} {os : List Oper} {is : Ordt} {b0 : Bool} {i last : Nat} {d : Nat} {t e ty : TypeId} {x y : Operand} {pos : String} {aft : Array Edge}
end
end
section
open Go.RowKit
section
variable {P : Program} {a : Act} {w : World} {n : Nat} {l : List (Nat × Value)} {ops : Array Oper} {Q : Exit → Act → World → Prop} {rest : List Oper} {S : World → Prop} {os : List Oper} {is : Ordt} {b0 : Bool} {i last : Nat}
theorem wanted_undef {ops : Array Oper} {o : Oper} {j d : Nat} {b : Bool} (hA : St n l a) (hg : o.guard = some (j, b)) (hj : dstOf ops j = some d) (hl : lk l d = some undef) : Region.wanted o (yielded ops a.tmps) = false := by
  have h1 := hA.has d _ hl
  unfold dstOf at hj
  unfold Region.wanted yielded
  rw [hg]
  simp only [hj, Option.bind_some, h1]
  cases b <;> rfl
theorem S.noU {d j dj : Nat} {b : Bool} {op : Op} {ty : TypeId} {pos : String} {aft : Array Edge} (hA : St n l a) (hj : dstOf ops j = some dj) (hl : lk l dj = some undef) (hd : Nat.blt d n = true)
    (h : ∀ a, St n ((d, undef) :: l) a → wpList P ops Q rest a w) : wpList P ops Q ({ dst := some d, op, type := ty, pos, after := aft, guard := some (j, b) } :: rest) a w := by
  refine wpList_step fun K hK => ?_
  rw [wanted_undef hA rfl hj hl]
  exact hK _ _ (h _ (hA.put hd undef))
theorem D.noU {d j dj : Nat} {b : Bool} {op : Op} {ty : TypeId} {pos : String} {aft : Array Edge} (hA : St n l a) (ho : ith os i = some { dst := some d, op, type := ty, pos, after := aft, guard := some (j, b) })
    (hj : dstOf os.toArray j = some dj) (hl : lk l dj = some undef)
    (hd : Nat.blt d n = true) (h : ∀ a, St n ((d, undef) :: l) a → wpOrd P last os Q S b0 is a w) : wpOrd P last os Q S b0 (.cons (i, true) is) a w :=
  ⟨_, ho, undef, .inr ⟨by rw [wanted_undef hA rfl hj hl], rfl⟩, h _ (hA.put hd undef)⟩
end
theorem or_bool {p : Prop} [Decidable p] {b : Bool} (h : ¬ p) : b = decide (p ∨ b = true) := by cases b <;> simp [h]
theorem and_bool {p : Prop} [Decidable p] {b : Bool} (h : p) : b = decide (p ∧ b = true) := by cases b <;> simp [h]
end
section
open Go.RowKit
def itC (b : Nat) (s : ByteArray) (p : Nat) : Ck := ⟨fun c => c = b, fun w => w.heap[b]? = some (.stringIter s p), fun w w' h hw => by rw [h b rfl]; exact hw⟩
def byt (s : ByteArray) (i : Nat) : Int := ((s.get! i).toNat : Nat)
theorem byt_at {s : ByteArray} {i : Nat} (h : i < s.size) : ((s[i]'h).toNat : Int) = byt s i := by
  have e : s.get! i = s[i]'h := by simp [ByteArray.get!, getElem!_pos, h]; rfl
  unfold byt; rw [e]
section
variable {w0 w w' : World} {F : Nat → Prop} {L : List Ck}
theorem Mem.allocI (h : Mem w0 F L w) (s : ByteArray) : Mem w0 F (itC w.heap.size s 0 :: L) (w.alloc (.stringIter s 0)) := by
  have hold : ∀ b, b < w.heap.size → (w.alloc (.stringIter s 0)).heap[b]? = w.heap[b]? := fun b hb => Below.heap_alloc w _ b hb
  refine ⟨h.os, h.tape, h.output, by have := h.size; simp; omega, fun b hb hF => by rw [hold b (Nat.lt_of_lt_of_le hb h.size)]; exact h.old b hb hF, ?_, ?_, ?_⟩
  · intro c hc
    rcases List.mem_cons.1 hc with rfl | hc
    · exact World.iter_heap w s 0
    · exact c.loc w _ (fun b hb => hold b (h.inb c hc b hb).1) (h.holds c hc)
  · intro c hc b hb
    rcases List.mem_cons.1 hc with rfl | hc
    · have e : b = w.heap.size := hb
      subst e
      exact ⟨by simp, fun g => absurd h.size (by omega)⟩
    · have := h.inb c hc b hb
      exact ⟨by simp; omega, this.2⟩
  · refine List.pairwise_cons.2 ⟨fun d hd b hb hdb => ?_, h.apart⟩
    have e : b = w.heap.size := hb
    have := (h.inb d hd b hdb).1
    omega
theorem Mem.setI (h : Mem w0 F L w) {k b p : Nat} {s : ByteArray} (hk : ith L k = some (itC b s p)) (q : Nat) : Mem w0 F (setAt L k (itC b s q)) { w with heap := w.heap.setIfInBounds b (.stringIter s q) } := by
  have hb : w.heap[b]? = some (.stringIter s p) := h.mem hk
  have hlt : b < w.heap.size := by
    rcases Nat.lt_or_ge b w.heap.size with g | g
    · exact g
    · rw [Array.getElem?_eq_none g] at hb; cases hb
  refine h.turn hk (fun _ h => h) ?_ rfl rfl rfl (by simp) (fun c _ hc => ?_)
  · show (w.heap.setIfInBounds b (.stringIter s q))[b]? = _
    rw [Array.getElem?_setIfInBounds_self_of_lt hlt]
  · show (w.heap.setIfInBounds b (.stringIter s q))[c]? = _
    rw [Array.getElem?_setIfInBounds_ne (fun e => hc e.symm)]
end
section
variable {P : Program} {l : List (Nat × Value)} {w w0 : World} {F : Nat → Prop} {L : List Ck} {ty : TypeId} {x y z : Operand} {k k' : IntKind} {m n : Int} {t yt : TypeId} {s r : ByteArray}
theorem R.rangeS (ht : P.underlying t = some .string) (hx : opv l x = some (.string s)) : Run P l w (.range t x) ty (.pointer (some ⟨w.heap.size, 0, none⟩)) (w.alloc (.stringIter s 0)) := fun ev h _ _ _ _ => by
  have h1 := run_range_string (P := P) w t s ht
  simp [execOp, h _ _ hx, h1, World.iter]
theorem R.nextT {b p k : Nat} (hM : Mem w0 F L w) (hk : ith L k = some (itC b s p)) (hx : opv l x = some (.pointer (some ⟨b, 0, none⟩))) (hp : p < s.size) :
    Run P l w (.next x true) ty (.tuple #[.bool true, .int .i64 (p : Int), .int .i32 ((Utf8.decode s p).1 : Int)]) { w with heap := w.heap.setIfInBounds b (.stringIter s (p + (Utf8.decode s p).2)) } := fun ev h _ _ _ _ => by
  have hb : w.heap[b]? = some (.stringIter s p) := hM.mem hk
  simp [execOp, h _ _ hx, Instr.next, getObj, setObj, Sem.run_bind, Sem.run, hb, Result.andThen, hp, goInt]
theorem R.nextF {b p k : Nat} (hM : Mem w0 F L w) (hk : ith L k = some (itC b s p)) (hx : opv l x = some (.pointer (some ⟨b, 0, none⟩))) (hp : ¬ p < s.size) :
    Run P l w (.next x true) ty (.tuple #[.bool false]) w := fun ev h _ _ _ _ => by
  have hb : w.heap[b]? = some (.stringIter s p) := hM.mem hk
  simp [execOp, h _ _ hx, Instr.next, getObj, setObj, Sem.run_bind, Sem.run, hb, Result.andThen, hp, goInt]
theorem R.idxS (ht : P.underlying t = some .string) (hx : opv l x = some (.string s)) (hy : opv l y = some (.int k n)) (h0 : 0 ≤ n ∧ n < s.size) : Run P l w (.index t x y) ty (.int .u8 (byt s n.toNat)) w := fun ev h _ _ _ _ => by
  have h1 := run_index_string (P := P) w t s k n ht
  rw [dif_pos h0, byt_at (by omega)] at h1
  simp [execOp, h _ _ hx, h _ _ hy, h1]
theorem R.sliceSS (ht : P.underlying t = some .string) (hx : opv l x = some (.string s)) (hy : opv l y = some (.int k m)) (hz : opv l z = some (.int k' n)) (h0 : 0 ≤ m ∧ m ≤ n ∧ n ≤ s.size) : Run P l w (.slice t x (some y) (some z) none) ty (.string (s.extract m.toNat n.toNat)) w := fun ev h _ _ _ _ => by
  have h1 := run_slice_string (P := P) w t s k k' m n ht h0.1 h0.2.1 h0.2.2
  have h2 : (Instr.sliceAt t (.string s) (some (.int k m)) (some (.int k' n)) none).run P w = .ok (.string (s.extract m.toNat n.toNat)) w := by
    unfold Instr.sliceAt
    simp only [Sem.run_bind, run_underlying ht, Result.andThen_ok]
    exact h1
  simp [execOp, h _ _ hx, h _ _ hy, h _ _ hz, h2]
theorem R.sliceSL (ht : P.underlying t = some .string) (hx : opv l x = some (.string s)) (hy : opv l y = some (.int k m)) (h0 : 0 ≤ m ∧ m ≤ s.size) : Run P l w (.slice t x (some y) none none) ty (.string (s.extract m.toNat s.size)) w := fun ev h _ _ _ _ => by
  have h1 := run_slice_string_from_if (P := P) w t s k m ht
  rw [if_pos h0] at h1
  have h2 : (Instr.sliceAt t (.string s) (some (.int k m)) none none).run P w = .ok (.string (s.extract m.toNat s.size)) w := by
    unfold Instr.sliceAt
    simp only [Sem.run_bind, run_underlying ht, Result.andThen_ok]
    exact h1
  simp [execOp, h _ _ hx, h _ _ hy, h2]
theorem R.sliceSH (ht : P.underlying t = some .string) (hx : opv l x = some (.string s)) (hy : opv l y = some (.int k m)) (h0 : 0 ≤ m ∧ m ≤ s.size) : Run P l w (.slice t x none (some y) none) ty (.string (s.extract 0 m.toNat)) w := fun ev h _ _ _ _ => by
  have h1 := run_slice_string_to_if (P := P) w t s k m ht
  rw [if_pos h0] at h1
  have h2 : (Instr.sliceAt t (.string s) none (some (.int k m)) none).run P w = .ok (.string (s.extract 0 m.toNat)) w := by
    unfold Instr.sliceAt
    simp only [Sem.run_bind, run_underlying ht, Result.andThen_ok]
    exact h1
  simp [execOp, h _ _ hx, h _ _ hy, h2]
theorem R.addS (hx : opv l x = some (.string s)) (hy : opv l y = some (.string r)) (hb : s.size + r.size ≤ 9223372036854775807) : Run P l w (.binOp .add t x y yt) ty (.string (s ++ r)) w := fun ev h _ _ _ _ => by
  have h1 := run_string_add_sum (P := P) w s r hb
  simp [execOp, h _ _ hx, h _ _ hy, eqGuard, binOp, h1]
theorem blist_dec (s r : ByteArray) : (s.toList == r.toList) = decide (s = r) := by
  by_cases e : s = r
  · subst e; simp
  · rw [decide_eq_false e]
    refine beq_eq_false_iff_ne.2 fun h => e ?_
    rw [Lib.toList_data, Lib.toList_data] at h
    cases s; cases r
    congr 1
    exact Array.toList_inj.1 h
theorem R.eqlStr (hx : opv l x = some (.string s)) (hy : opv l y = some (.string r)) : Run P l w (.binOp .eql t x y yt) ty (.bool (decide (s = r))) w := fun ev h _ _ _ _ => by
  simp [execOp, h _ _ hx, h _ _ hy, eqGuard, binOp, Op.stringOp, blist_dec]
end
section
variable {P : Program} {R : Ending → World → Prop} {f : FuncId} {a : Act} {w w0 : World} {nn : Nat} {l : List (Nat × Value)} {ops : Array Oper} {Q : Exit → Act → World → Prop} {rest : List Oper} {F : Nat → Prop} {L : List Ck}
  {d : Nat} {t e ty : TypeId} {x y : Operand} {pos : String} {aft : Array Edge} {s : ByteArray}
theorem S.rangeS (hA : St nn l a) (hM : Mem w0 F L w) (ht : P.underlying t = some .string) (hx : opv l x = some (.string s)) (hd : Nat.blt d nn = true)
    (h : ∀ b w', w0.heap.size ≤ b → Mem w0 F (itC b s 0 :: L) w' → ∀ a, St nn ((d, .pointer (some ⟨b, 0, none⟩)) :: l) a → wpList P ops Q rest a w') :
    wpList P ops Q ({ dst := some d, op := .range t x, type := ty, pos, after := aft, guard := none } :: rest) a w :=
  S.val hA (R.rangeS ht hx) hd (h _ _ hM.size (hM.allocI s))
theorem D.rangeS {S : World → Prop} {os : List Oper} {is : Ordt} {b0 : Bool} {i last : Nat} (hA : St nn l a) (hM : Mem w0 F L w) (ho : ith os i = some { dst := some d, op := .range t x, type := ty, pos, after := aft, guard := none }) (ht : P.underlying t = some .string) (hx : opv l x = some (.string s)) (hd : Nat.blt d nn = true)
    (h : ∀ b w', w0.heap.size ≤ b → Mem w0 F (itC b s 0 :: L) w' → S w' ∧ ∀ a, St nn ((d, .pointer (some ⟨b, 0, none⟩)) :: l) a → wpOrd P last os Q S b0 is a w') : wpOrd P last os Q S b0 (.cons (i, false) is) a w :=
  have g := h _ _ hM.size (hM.allocI s)
  D.eff hA ho (R.rangeS ht hx) hd g.1 g.2
theorem S.nextT {b p k : Nat} (hA : St nn l a) (hM : Mem w0 F L w) (hk : ith L k = some (itC b s p)) (hx : opv l x = some (.pointer (some ⟨b, 0, none⟩))) (hp : p < s.size) (hd : Nat.blt d nn = true)
    (h : ∀ w', Mem w0 F (setAt L k (itC b s (p + (Utf8.decode s p).2))) w' → ∀ a, St nn ((d, .tuple #[.bool true, .int .i64 (p : Int), .int .i32 ((Utf8.decode s p).1 : Int)]) :: l) a → wpList P ops Q rest a w') :
    wpList P ops Q ({ dst := some d, op := .next x true, type := ty, pos, after := aft, guard := none } :: rest) a w :=
  S.val hA (R.nextT hM hk hx hp) hd (h _ (hM.setI hk _))
end
end
section
open Go.RowKit
def apartL (cs : List Ck) : Prop := cs.Pairwise (fun c d => ∀ b, c.foot b → ¬ d.foot b)
def bundle (cs : List Ck) : Ck :=
  ⟨fun b => ∃ c ∈ cs, c.foot b, fun w => (∀ c ∈ cs, c.holds w) ∧ apartL cs,
    fun w w' h hh => ⟨fun c hc => c.loc w w' (fun b hb => h b ⟨c, hc, hb⟩) (hh.1 c hc), hh.2⟩⟩
section
variable {w0 w : World} {F : Nat → Prop} {L cs : List Ck} {α : Type} {f : α → Ck} {xs : List α} {x : α} {j : Nat}
theorem Mem.pack (h : Mem w0 F (cs ++ L) w) : Mem w0 F (bundle cs :: L) w := by
  obtain ⟨h1, h2, h3⟩ := List.pairwise_append.1 h.apart
  refine ⟨h.os, h.tape, h.output, h.size, h.old, fun d hd => ?_, fun d hd b hb => ?_, List.pairwise_cons.2 ⟨fun d hd b ⟨c, hc, hcb⟩ hdb => h3 c hc d hd b hcb hdb, h2⟩⟩
  · rcases List.mem_cons.1 hd with rfl | hd
    · exact ⟨fun c hc => h.holds c (List.mem_append_left _ hc), h1⟩
    · exact h.holds d (List.mem_append_right _ hd)
  · rcases List.mem_cons.1 hd with rfl | hd
    · obtain ⟨c, hc, hcb⟩ := hb
      exact h.inb c (List.mem_append_left _ hc) b hcb
    · exact h.inb d (List.mem_append_right _ hd) b hb
theorem Mem.unpack (h : Mem w0 F (bundle cs :: L) w) : Mem w0 F (cs ++ L) w := by
  obtain ⟨h1, h2⟩ := List.pairwise_cons.1 h.apart
  have hb : (bundle cs).holds w := h.holds _ (List.mem_cons_self ..)
  refine ⟨h.os, h.tape, h.output, h.size, h.old, fun d hd => ?_, fun d hd b hdb => ?_, List.pairwise_append.2 ⟨hb.2, h2, fun c hc d hd b hcb hdb => h1 d hd b ⟨c, hc, hcb⟩ hdb⟩⟩
  · rcases List.mem_append.1 hd with hd | hd
    · exact hb.1 d hd
    · exact h.holds d (List.mem_cons_of_mem _ hd)
  · rcases List.mem_append.1 hd with hd | hd
    · exact h.inb _ (List.mem_cons_self ..) b ⟨d, hd, hdb⟩
    · exact h.inb d (List.mem_cons_of_mem _ hd) b hdb
theorem perm_at : ∀ {xs : List α} {j : Nat} {x : α}, xs[j]? = some x → xs.Perm (x :: xs.eraseIdx j)
  | y :: xs, 0, x, h => by
    have e : y = x := by simpa using h
    subst e
    exact .refl _
  | y :: xs, j + 1, x, h => by
    have := perm_at (xs := xs) (j := j) (x := x) (by simpa using h)
    rw [List.eraseIdx_cons_succ]
    exact (this.cons y).trans (.swap x y _)
theorem Mem.openB (h : Mem w0 F (bundle (xs.map f) :: L) w) (hx : xs[j]? = some x) : Mem w0 F (f x :: bundle ((xs.eraseIdx j).map f) :: L) w := by
  have h1 := h.unpack.perm (L' := (xs.eraseIdx j).map f ++ f x :: L) (((((perm_at hx).map f).append_right L)).trans (List.perm_middle (l₁ := (xs.eraseIdx j).map f)).symm)
  exact h1.pack.front (k := 1) rfl
theorem Mem.closeB {y : α} (h : Mem w0 F (f y :: bundle ((xs.eraseIdx j).map f) :: L) w) (hx : xs[j]? = some x) : Mem w0 F (bundle ((xs.set j y).map f) :: L) w := by
  obtain ⟨hj, -⟩ := List.getElem?_eq_some_iff.1 hx
  have h0 : Mem w0 F (bundle ((xs.eraseIdx j).map f) :: f y :: L) w := h.front (k := 1) rfl
  have hy : (xs.set j y)[j]? = some y := List.getElem?_set_self hj
  have he : (xs.set j y).eraseIdx j = xs.eraseIdx j := List.eraseIdx_set_eq ..
  have hp := perm_at hy
  rw [he] at hp
  exact (h0.unpack.perm (L' := (xs.set j y).map f ++ L) ((List.perm_middle (l₁ := (xs.eraseIdx j).map f)).trans (((hp.map f).append_right L)).symm)).pack
end
end
section
open Go.RowKit
def pI (a : Option Addr) (i : Nat) : Value := .pointer (match a with | some p => some ⟨p.block, p.off + i, none⟩ | none => none)
theorem IntSl.lenB {w : World} {a : Option Addr} {n cap : Nat} {X : List Int} (h : IntSl w (.slice a n cap) X) : X.length ≤ 9223372036854775807 := by
  have := h.len; unfold maxLen at this; omega
theorem IntSl.nil (w : World) : IntSl w (.slice none ([] : List Int).length 0) [] := ⟨none, 0, rfl, Nat.le_refl _, Nat.zero_le _, fun _ => rfl, fun h => absurd rfl h⟩
section
variable {P : Program} {l : List (Nat × Value)} {w w0 : World} {ty : TypeId} {x y z : Operand} {k k' : IntKind} {m n : Int} {t yt e : TypeId}
theorem R.idxI {a : Option Addr} {cap j : Nat} {g : Bool} {i : Int} {X : List Int} (hX : IntSl w0 (.slice a X.length cap) X) (hi : slInfo P t = some (g, 1)) (hx : opv l x = some (.slice a X.length cap)) (hy : opv l y = some (.int k i)) (h0 : 0 ≤ i ∧ i < (X.length : Int)) (hj : i.toNat = j) :
    Run P l w (.indexAddr t x y) ty (pI a j) w := by
  obtain ⟨b, off, rfl, -⟩ := hX.at (i := i.toNat) (by omega)
  exact R.indexAddr hi hx hy h0 (by rw [Nat.mul_one, hj])
theorem R.loadI {a : Option Addr} {cap j : Nat} {X : List Int} (hX : IntSl w (.slice a X.length cap) X) (hi : szOf P t = some (false, 1)) (hx : opv l x = some (pI a j)) (hj : j < X.length) : Run P l w (.load t x) ty (.int .i64 (X.getD j 0)) w := by
  obtain ⟨b, off, rfl, hc⟩ := hX.at hj
  exact R.load hi hx hc
theorem opvs_map {ev : Operand → Value} (h : ∀ x u, opv l x = some u → ev x = u) : ∀ (os : List Operand) (vs : List Value), opvs l os = some vs → os.map ev = vs := by
  intro os
  induction os with
  | nil => intro vs hv; simp [opvs] at hv; subst hv; rfl
  | cons o os ih =>
    intro vs hv
    simp only [opvs] at hv
    split at hv
    · cases hv
    · rename_i v hv1
      split at hv
      · cases hv
      · rename_i us hus
        simp only [Option.some.injEq] at hv
        subst hv
        simp [ih us hus, h _ _ hv1]
theorem R.callV {f : FuncId} {fn : Func} {xs : Array Operand} {ats : Array TypeId} {vs : List Value} {cs : Array Value} (hf : P.funcs[f]? = some fn) (hname : (fn.name == "runtime.NumGoroutine") = false) (hb : fn.body.isNone = false) (hz : opv l z = some (.func (.func f) #[] cs)) (hp : opvs l xs.toList = some vs) :
    RunN P l w (.call { callee := .value z, args := xs, argTypes := ats }) ty (.enter f (vs.toArray ++ cs)) w := fun ev h _ _ _ _ => by
  have h1 : (xs.map ev) = vs.toArray := by
    have := opvs_map h _ _ hp
    apply Array.toList_inj.1
    simpa using this
  have hc : (callFunc f (vs.toArray ++ cs)).run P w = .ok (.enter f (vs.toArray ++ cs)) w := by
    simp only [callFunc, Sem.run_bind, run_program, Result.andThen_ok, hf, hname, hb, Bool.false_eq_true, if_false, Sem.run_pure]
  simp [execOp, resolve, h _ _ hz, Deferred.ofValue, invoke, h1, hc]
theorem R.makeFunc {f : FuncId} {cs : Array Operand} {vs : List Value} (hp : opvs l cs.toList = some vs) : Run P l w (.makeFunc (.func f) #[] cs) ty (.func (.func f) #[] vs.toArray) w := fun ev h _ _ _ _ => by
  have h1 : (cs.map ev) = vs.toArray := by
    have := opvs_map h _ _ hp
    apply Array.toList_inj.1
    simpa using this
  simp [execOp, Instr.makeFunc, h1]
end
section
variable {P : Program} {f : FuncId} {R : Ending → World → Prop} {a : Act} {w w0 : World} {n : Nat} {l : List (Nat × Value)} {F : Nat → Prop} {L : List Ck} {t : TypeId}
theorem loadVar_whole {b sz : Nat} {cs : List Value} {t' : TypeId} {k : Nat} (hM : Mem w0 F L w) (hk : ith L k = some (pt b cs.toArray t')) (hi : szOf P t = some (true, sz)) (hn : cs.length = sz) : (loadVar t ⟨b, 0, none⟩).run P w = .ok (.agg cs.toArray) w := by
  obtain ⟨d, j, hd, hj, hrow, hsz⟩ := szOf_spec hi
  exact run_loadVar_row w b t' t cs.toArray (0, 0) d (hM.block hk) hd (by cases d <;> first | rfl | cases hrow) (by simp [hj, hsz, hn])
theorem Ends.retC2 {fn : Func} {k b p sz u1 : Nat} {cs : List Value} {x : Value} {t' : TypeId} {kk : List Item} (hf : P.funcs[f]? = some fn) (hr : fn.results = #[.cell p t, .tmp u1]) (hA : St n l a) (hM : Mem w0 F L w) (hp : lk l p = some (.pointer (some ⟨b, 0, none⟩))) (h1 : lk l u1 = some x)
    (hk : ith L k = some (pt b cs.toArray t')) (hi : szOf P t = some (true, sz)) (hn : cs.length = sz) (hR : R (.returned (.tuple #[.agg cs.toArray, x])) w) : Ends P f R (.code .ret :: kk) a w := by
  have hl := loadVar_whole hM hk hi hn
  refine Ends.to_ret hf hA.defers (v := .tuple #[.agg cs.toArray, x]) ?_ hR
  simp [results, hr, hA.has _ _ hp, hA.has _ _ h1, asAddr, hl]
theorem Ends.retC3 {fn : Func} {k b p sz u1 u2 : Nat} {cs : List Value} {x y : Value} {t' : TypeId} {kk : List Item} (hf : P.funcs[f]? = some fn) (hr : fn.results = #[.cell p t, .tmp u1, .tmp u2]) (hA : St n l a) (hM : Mem w0 F L w) (hp : lk l p = some (.pointer (some ⟨b, 0, none⟩))) (h1 : lk l u1 = some x) (h2 : lk l u2 = some y)
    (hk : ith L k = some (pt b cs.toArray t')) (hi : szOf P t = some (true, sz)) (hn : cs.length = sz) (hR : R (.returned (.tuple #[.agg cs.toArray, x, y])) w) : Ends P f R (.code .ret :: kk) a w := by
  have hl := loadVar_whole hM hk hi hn
  refine Ends.to_ret hf hA.defers (v := .tuple #[.agg cs.toArray, x, y]) ?_ hR
  simp [results, hr, hA.has _ _ hp, hA.has _ _ h1, hA.has _ _ h2, asAddr, hl]
end
theorem Mem.oldRange {w0 w : World} {L : List Ck} {b : Nat} {cs : List Value} {t : TypeId} (hM : Mem w0 nof L w) (h : w0.heap[b]? = some (.cells cs.toArray t (0, 0))) : w.rangeAt b 0 cs := fun j v hv => by
  have := hM.cellB h (i := j) (v := v) (by simpa using hv)
  rw [Nat.zero_add]; exact this
theorem Mem.trans0 {w w1 w2 : World} {L : List Ck} (hb : Below w.heap.size w w1) (hM : Mem w1 nof L w2) : Below w.heap.size w w2 :=
  hb.trans (hM.below.mono hb.size)
theorem Mem.ptOwn {w0 w : World} {F : Nat → Prop} {L : List Ck} {e : TypeId} {b n : Nat} {X : List Int} (h : Mem w0 F (pt b (ints X) e :: L) w) (hl : X.length = n) (hm : n ≤ 1000000) : Mem w0 F (own e 1 (.slice (some ⟨b, 0, none⟩) X.length n) X.length (X.map (Value.int .i64)) :: L) w := by
  subst hl
  exact h.ownPt (cap := X.length) (n := X.length) (sz := 1) (xs := X.map (Value.int .i64)) (by simp [ints]) (by unfold maxLen; omega) (Nat.le_refl _) (by rw [Nat.mul_one]; simp only [ints]; rw [List.take_of_length_le (by simp)])
theorem Mem.ptRs {w0 w : World} {F : Nat → Prop} {L : List Ck} {k b : Nat} {X : List Int} {t : TypeId} (hM : Mem w0 F L w) (hk : ith L k = some (pt b (ints X) t)) (hm : X.length ≤ 1000000) : IntSl w (.slice (some ⟨b, 0, none⟩) X.length X.length) X := by
  refine ⟨_, _, rfl, Nat.le_refl _, by unfold maxLen; omega, (fun h => nomatch h), fun _ => ⟨b, 0, rfl, hM.lt hk, fun i hi => ?_⟩⟩
  rw [Nat.zero_add]
  exact hM.cell hk (by simp [ints, hi])
section
variable {P : Program} {l : List (Nat × Value)} {w w0 : World} {ty : TypeId} {x y z : Operand} {k k' : IntKind} {m n : Int} {t yt e : TypeId} {nn : Nat} {a : Act} {ops : Array Oper} {Q : Exit → Act → World → Prop} {rest : List Oper} {F : Nat → Prop} {L : List Ck} {d : Nat} {pos : String} {aft : Array Edge}
end
theorem Mem.keepB {w0 w : World} {L : List Ck} {b : Nat} {o : Obj} (hM : Mem w0 nof L w) (h : w0.heap[b]? = some o) : w.heap[b]? = some o := by
  rw [hM.below.block b (Array.getElem?_eq_some_iff.1 h).1]; exact h
end
section
open Go.RowKit
section
variable {P : Program} {l : List (Nat × Value)} {w w0 : World} {ty : TypeId} {x y z : Operand} {k k' : IntKind} {m n : Int} {t yt e : TypeId}
end
end
section
open Go.RowKit
theorem tab_of_reads {P : Program} {W : World} {name : String} {k : IntKind} {zs : List Int} {g : Nat} {t e : TypeId} {n : Nat}
    (hg : P.globalNamed name = some g) (hty : (P.globals[g]?).map (·.type) = some t) (ht : P.underlying t = some (.array n e)) (he : P.underlying e = some (.int k)) (hce : P.cellsOf e = 1) (hct : P.cellsOf t = n)
    (h : Lib.VarReads P W name (Lib.tabData k zs)) : Lib.TabIs P W name k zs := by
  obtain ⟨g', t', cs, fuel, p, hg', ht', hvar, hd⟩ := h
  obtain rfl := Option.some.inj (hg.symm.trans hg')
  obtain rfl := Option.some.inj (hty.symm.trans ht')
  unfold Lib.TabIs
  rw [hvar, ← Lib.cells_of_tab ht he hce hct hd]
theorem tab_below {P : Program} {w w' : World} {name : String} {k : IntKind} {zs : List Int} (h : Lib.TabIs P w name k zs) (hb : Below w.heap.size w w') : Lib.TabIs P w' name k zs := by
  unfold Lib.TabIs World.var? at *
  cases hg : P.globalNamed name with
  | none => rw [hg] at h; cases h
  | some g =>
    rw [hg] at h
    simp only [Option.bind_some] at h ⊢
    cases hx : w.heap[g]? with
    | none => rw [hx] at h; cases h
    | some o =>
      have hlt : g < w.heap.size := by
        rcases Nat.lt_or_ge g w.heap.size with q | q
        · exact q
        · rw [Array.getElem?_eq_none q] at hx; cases hx
      rw [hb.block g hlt]; exact h
end
section
open Go.RowKit
def vals (l : List Value) : Array Value := l.toArray
theorem vals_get (l : List Value) (o : Nat) (h : o < l.length) : (vals l)[o]? = some (l.getD o (.pointer none)) := by simp [vals, h]
theorem vals_set (l : List Value) (o : Nat) (v : Value) : (vals l).setIfInBounds o v = vals (l.set o v) := by simp [vals]
def nils (n : Nat) : List Value := List.replicate n (.slice none 0 0)
theorem made_vals (n : Nat) : madeCells #[.slice none 0 0] n = vals (nils n) := by
  apply Array.toList_inj.1
  rw [toList_madeCells_one]; simp [vals, nils]
end
end Go.Proofs.YtakfcekfmdjklaaDoor
namespace Go.Proofs.YtakfcekfmdjklaaDoor
section
def kindI (r : Int) : Int :=
  if r = 32 ∨ r = 9 ∨ r = 10 ∨ r = 13 then 1 else if 48 ≤ r ∧ r ≤ 57 then 2 else if (65 ≤ r ∧ r ≤ 90) ∨ (97 ≤ r ∧ r ≤ 122) then 3 else if r = 35 then 4 else 0
def dig (s : ByteArray) (i : Nat) : Prop := i < s.size ∧ 48 ≤ byt s i ∧ byt s i ≤ 57
instance (s : ByteArray) (i : Nat) : Decidable (dig s i) := by unfold dig; infer_instance
def dgF (s : ByteArray) : Nat → Nat → Nat
  | 0, _ => 0
  | f + 1, i => if dig s i then dgF s f (i + 1) + 1 else 0
def dgs (s : ByteArray) (i : Nat) : Nat := dgF s (s.size - i) i
theorem dgF_spec (s : ByteArray) : ∀ f i, s.size ≤ i + f → (∀ j, j < dgF s f i → dig s (i + j)) ∧ ¬ dig s (i + dgF s f i)
  | 0, i, h => ⟨fun j hj => absurd hj (Nat.not_lt_zero j), fun hd => by have := hd.1; simp only [dgF] at this; omega⟩
  | f + 1, i, h => by
    simp only [dgF]
    by_cases hd : dig s i
    · rw [if_pos hd]
      obtain ⟨h1, h2⟩ := dgF_spec s f (i + 1) (by omega)
      refine ⟨fun j hj => ?_, ?_⟩
      · match j with
        | 0 => exact hd
        | j + 1 => have := h1 j (by omega); rwa [show i + (j + 1) = i + 1 + j by omega]
      · rwa [show i + (dgF s f (i + 1) + 1) = i + 1 + dgF s f (i + 1) by omega]
    · rw [if_neg hd]
      exact ⟨fun j hj => absurd hj (Nat.not_lt_zero j), hd⟩
theorem dgs_spec (s : ByteArray) (i : Nat) : (∀ j, j < dgs s i → dig s (i + j)) ∧ ¬ dig s (i + dgs s i) := dgF_spec s (s.size - i) i (by omega)
theorem dgs_uniq {s : ByteArray} {i k : Nat} (h1 : ∀ j, j < k → dig s (i + j)) (h2 : ¬ dig s (i + k)) : dgs s i = k := by
  obtain ⟨g1, g2⟩ := dgs_spec s i
  rcases Nat.lt_trichotomy (dgs s i) k with h | h | h
  · exact absurd (h1 _ h) g2
  · exact h
  · exact absurd (g1 _ h) h2
theorem dgs_le (s : ByteArray) {i : Nat} (hi : i ≤ s.size) : i + dgs s i ≤ s.size := by
  obtain ⟨g1, -⟩ := dgs_spec s i
  rcases Nat.eq_zero_or_pos (dgs s i) with h | h
  · omega
  · have := (g1 (dgs s i - 1) (by omega)).1; omega
theorem byt_ext {s : ByteArray} {x y i : Nat} (h : x + i < y) (hb : y ≤ s.size) : byt (s.extract x y) i = byt s (x + i) := by
  have h1 : i < (s.extract x y).size := by rw [ByteArray.size_extract]; omega
  rw [← byt_at h1, ← byt_at (show x + i < s.size by omega)]
  congr 2
  exact ByteArray.getElem_extract ..
theorem size_ext {s : ByteArray} {x y : Nat} (hb : y ≤ s.size) : (s.extract x y).size = y - x := by rw [ByteArray.size_extract]; omega
theorem dig_ext {s : ByteArray} {x i : Nat} : dig (s.extract x s.size) i ↔ dig s (x + i) := by
  unfold dig
  rw [size_ext (Nat.le_refl _)]
  constructor
  · intro ⟨h1, h2⟩
    rw [byt_ext (by omega) (Nat.le_refl _)] at h2
    exact ⟨by omega, h2⟩
  · intro ⟨h1, h2⟩
    rw [byt_ext (by omega) (Nat.le_refl _)]
    exact ⟨by omega, h2⟩
theorem dgs_ext (s : ByteArray) (x : Nat) : dgs (s.extract x s.size) 0 = dgs s x := by
  obtain ⟨g1, g2⟩ := dgs_spec s x
  exact dgs_uniq (fun j hj => by rw [Nat.zero_add]; exact dig_ext.2 (g1 j hj)) (fun h => by rw [Nat.zero_add] at h; exact g2 (dig_ext.1 h))
theorem dec_dig {s : ByteArray} {p : Nat} (h : p < s.size) : (kindI (Utf8.decode s p).1 = 2 ↔ dig s p) ∧ (dig s p → (Utf8.decode s p).2 = 1 ∧ ((Utf8.decode s p).1 : Int) = byt s p) := by
  have hb := byt_at h
  by_cases ha : (s[p]'h).toNat < 128
  · rw [decode_ascii s p h ha]
    refine ⟨?_, fun _ => ⟨rfl, hb⟩⟩
    unfold dig
    rw [← hb]
    unfold kindI
    constructor
    · intro hk
      refine ⟨h, ?_⟩
      revert hk
      repeat' split
      all_goals (intro hk; first | omega | (simp at hk))
    · intro ⟨_, h1, h2⟩
      rw [if_neg (by omega), if_pos ⟨h1, h2⟩]
  · have h2 := (decode_high s p h (by omega)).1
    have hn : ¬ dig s p := fun hd => by have := hd.2.2; rw [← hb] at this; omega
    refine ⟨⟨fun hk => ?_, fun hd => absurd hd hn⟩, fun hd => absurd hd hn⟩
    exfalso
    revert hk
    unfold kindI
    repeat' split
    all_goals (intro hk; first | omega | (simp at hk))
def numv (s : ByteArray) (x : Nat) : Nat → Int
  | 0 => 0
  | j + 1 => numv s x j * 10 + (byt s (x + j) - 48)
theorem numv_bd {s : ByteArray} {x : Nat} : ∀ {k : Nat}, (∀ j, j < k → dig s (x + j)) → 0 ≤ numv s x k ∧ numv s x k < 10 ^ k
  | 0, _ => ⟨Int.le_refl _, by show (0 : Int) < 10 ^ 0; decide⟩
  | k + 1, h => by
    obtain ⟨h1, h2⟩ := numv_bd (k := k) (fun j hj => h j (by omega))
    have hd := (h k (by omega)).2
    have e : (10 : Int) ^ (k + 1) = 10 ^ k * 10 := Int.pow_succ ..
    simp only [numv]
    rw [e]
    generalize (10 : Int) ^ k = t at *
    omega
theorem numv_lt {s : ByteArray} {x k : Nat} (h : ∀ j, j < k → dig s (x + j)) (hk : k ≤ 17) : 0 ≤ numv s x k ∧ numv s x k < 100000000000000000 := by
  obtain ⟨h1, h2⟩ := numv_bd h
  have : (10 : Int) ^ k ≤ 10 ^ 17 := by
    have h3 : (10 : Nat) ^ k ≤ 10 ^ 17 := Nat.pow_le_pow_right (by decide) hk
    exact_mod_cast h3
  refine ⟨h1, Int.lt_of_lt_of_le h2 (Int.le_trans this (by decide))⟩
def readI (s : ByteArray) (p : Int) : Int × Int × Int :=
  if p < 0 ∨ (s.size : Int) < p then (0, 0, 1)
  else if dgs s p.toNat = 0 ∨ (1 < dgs s p.toNat ∧ byt s p.toNat = 48) then (0, 0, 4)
  else if 18 < dgs s p.toNat then (0, 0, 5)
  else (numv s p.toNat (dgs s p.toNat), p + dgs s p.toNat, 0)
end
section
open Go.RowKit
def runQ (q : Nat → Bool) : Nat → Nat → Nat
  | 0, _ => 0
  | f + 1, i => if q i then runQ q f (i + 1) + 1 else 0
theorem runQ_spec (q : Nat → Bool) (N : Nat) (hq : ∀ j, q j = true → j < N) : ∀ f i, N ≤ i + f → (∀ j, j < runQ q f i → q (i + j) = true) ∧ q (i + runQ q f i) = false
  | 0, i, h => ⟨fun j hj => absurd hj (Nat.not_lt_zero j), by
      cases hb : q (i + 0) with
      | false => exact hb
      | true => have := hq _ hb; omega⟩
  | f + 1, i, h => by
    simp only [runQ]
    cases hd : q i with
    | true =>
      rw [if_pos rfl]
      obtain ⟨h1, h2⟩ := runQ_spec q N hq f (i + 1) (by omega)
      refine ⟨fun j hj => ?_, ?_⟩
      · match j with
        | 0 => exact hd
        | j + 1 => have := h1 j (by omega); rwa [show i + (j + 1) = i + 1 + j by omega]
      · rwa [show i + (runQ q f (i + 1) + 1) = i + 1 + runQ q f (i + 1) by omega]
    | false => exact ⟨fun j hj => absurd hj (Nat.not_lt_zero j), hd⟩
theorem runQ_uniq {q : Nat → Bool} {N f i k : Nat} (hq : ∀ j, q j = true → j < N) (hf : N ≤ i + f) (h1 : ∀ j, j < k → q (i + j) = true) (h2 : q (i + k) = false) : runQ q f i = k := by
  obtain ⟨g1, g2⟩ := runQ_spec q N hq f i hf
  rcases Nat.lt_trichotomy (runQ q f i) k with h | h | h
  · have := h1 _ h; rw [g2] at this; cases this
  · exact h
  · have := g1 _ h; rw [h2] at this; cases this
def kb (s : ByteArray) (p : Nat) : Int := if p < s.size then kindI (byt s p) else 1
theorem kb_in {s : ByteArray} {p : Nat} (h : p < s.size) : kb s p = kindI (byt s p) := if_pos h
theorem kb_out {s : ByteArray} {p : Nat} (h : ¬ p < s.size) : kb s p = 1 := if_neg h
theorem kb_lt {s : ByteArray} {p : Nat} (h : kb s p ≠ 1) : p < s.size := Classical.byContradiction fun hn => h (kb_out hn)
def isL (s : ByteArray) (p : Nat) : Bool := kb s p = 3
def inR (s : ByteArray) (p : Nat) : Bool := p < s.size ∧ byt s p ≠ 10
def ltrs (s : ByteArray) (i : Nat) : Nat := runQ (isL s) (s.size - i) i
def eol (s : ByteArray) (i : Nat) : Nat := runQ (inR s) (s.size - i) i
theorem isL_lt {s : ByteArray} {j : Nat} (h : isL s j = true) : j < s.size := kb_lt (by have : kb s j = 3 := by simpa [isL] using h
                                                                                        omega)
theorem inR_lt {s : ByteArray} {j : Nat} (h : inR s j = true) : j < s.size := by have := of_decide_eq_true h; exact this.1
theorem ltrs_spec (s : ByteArray) (i : Nat) : (∀ j, j < ltrs s i → kb s (i + j) = 3) ∧ kb s (i + ltrs s i) ≠ 3 := by
  obtain ⟨h1, h2⟩ := runQ_spec (isL s) s.size (fun j h => isL_lt h) (s.size - i) i (by omega)
  exact ⟨fun j hj => by have := h1 j hj; simpa [isL] using this, by have : isL s (i + ltrs s i) = false := h2; simpa [isL] using this⟩
theorem ltrs_uniq {s : ByteArray} {i k : Nat} (h1 : ∀ j, j < k → kb s (i + j) = 3) (h2 : kb s (i + k) ≠ 3) : ltrs s i = k :=
  runQ_uniq (fun j h => isL_lt h) (by omega) (fun j hj => by simp [isL, h1 j hj]) (by simp [isL, h2])
theorem eol_spec (s : ByteArray) (i : Nat) : (∀ j, j < eol s i → i + j < s.size ∧ byt s (i + j) ≠ 10) ∧ ¬ (i + eol s i < s.size ∧ byt s (i + eol s i) ≠ 10) := by
  obtain ⟨h1, h2⟩ := runQ_spec (inR s) s.size (fun j h => inR_lt h) (s.size - i) i (by omega)
  exact ⟨fun j hj => of_decide_eq_true (h1 j hj), of_decide_eq_false (show inR s (i + eol s i) = false from h2)⟩
theorem eol_uniq {s : ByteArray} {i k : Nat} (h1 : ∀ j, j < k → i + j < s.size ∧ byt s (i + j) ≠ 10) (h2 : ¬ (i + k < s.size ∧ byt s (i + k) ≠ 10)) : eol s i = k :=
  runQ_uniq (fun j h => inR_lt h) (by omega) (fun j hj => decide_eq_true (h1 j hj)) (decide_eq_false h2)
theorem ltrs_le (s : ByteArray) {i : Nat} (hi : i ≤ s.size) : i + ltrs s i ≤ s.size := by
  rcases Nat.eq_zero_or_pos (ltrs s i) with h | h
  · omega
  · have := kb_lt (s := s) (p := i + (ltrs s i - 1)) (by rw [(ltrs_spec s i).1 _ (by omega)]; decide); omega
theorem ltrs_pos {s : ByteArray} {i : Nat} (h : kb s i = 3) : 0 < ltrs s i := by
  rcases Nat.eq_zero_or_pos (ltrs s i) with e | e
  · have := (ltrs_spec s i).2; rw [e, Nat.add_zero] at this; exact absurd h this
  · exact e
theorem eol_le (s : ByteArray) {i : Nat} (hi : i ≤ s.size) : i + eol s i ≤ s.size := by
  rcases Nat.eq_zero_or_pos (eol s i) with h | h
  · omega
  · have := ((eol_spec s i).1 (eol s i - 1) (by omega)).1; omega
theorem kindI_35 {c : Int} (h : kindI c = 4) : c = 35 := by
  revert h; unfold kindI
  repeat' split
  all_goals (intro h; first | omega | (simp at h))
theorem kindI_dig {c : Int} : kindI c = 2 ↔ 48 ≤ c ∧ c ≤ 57 := by
  unfold kindI
  constructor
  · repeat' split
    all_goals (intro h; first | omega | (simp at h))
  · intro h
    rw [if_neg (by omega), if_pos h]
theorem eol_pos {s : ByteArray} {i : Nat} (h : kb s i = 4) : 0 < eol s i := by
  have hlt := kb_lt (s := s) (p := i) (by omega)
  rw [kb_in hlt] at h
  rcases Nat.eq_zero_or_pos (eol s i) with e | e
  · have := (eol_spec s i).2; rw [e, Nat.add_zero, kindI_35 h] at this; exact absurd ⟨hlt, by decide⟩ this
  · exact e
theorem dig_kb {s : ByteArray} {i : Nat} : dig s i ↔ kb s i = 2 := by
  constructor
  · intro h; rw [kb_in h.1]; exact kindI_dig.2 h.2
  · intro h
    have hlt := kb_lt (s := s) (p := i) (by omega)
    rw [kb_in hlt] at h
    exact ⟨hlt, kindI_dig.1 h⟩
theorem dgs_pos {s : ByteArray} {i : Nat} (h : kb s i = 2) : 0 < dgs s i := by
  rcases Nat.eq_zero_or_pos (dgs s i) with e | e
  · have := (dgs_spec s i).2; rw [e, Nat.add_zero] at this; exact absurd (dig_kb.2 h) this
  · exact e
theorem dec_kb {s : ByteArray} {p : Nat} (h : p < s.size) : kindI (Utf8.decode s p).1 = kb s p ∧ (kb s p ≠ 0 → (Utf8.decode s p).2 = 1) := by
  have hb := byt_at h
  rw [kb_in h]
  by_cases ha : (s[p]'h).toNat < 128
  · rw [decode_ascii s p h ha, ← hb]
    exact ⟨rfl, fun _ => rfl⟩
  · have h2 := (decode_high s p h (by omega)).1
    have k0 : ∀ c : Int, 128 ≤ c → kindI c = 0 := fun c hc => by
      unfold kindI
      rw [if_neg (by omega), if_neg (by omega), if_neg (by omega), if_neg (by omega)]
    have h3 : kindI (byt s p) = 0 := k0 _ (by rw [← hb]; omega)
    rw [h3]
    exact ⟨k0 _ (by omega), fun e => absurd rfl e⟩
structure Tok where
  k : Int
  x : ByteArray
  n : Int
  a : Int
def tokv (X : List Tok) : List Value := X.flatMap fun t => [.int .i64 t.k, .string t.x, .int .i64 t.n, .int .i64 t.a]
theorem tokv_app (X : List Tok) (t : Tok) : tokv X ++ [.int .i64 t.k, .string t.x, .int .i64 t.n, .int .i64 t.a] = tokv (X ++ [t]) := by simp [tokv]
def tz : Tok := ⟨0, ⟨#[]⟩, 0, 0⟩
theorem tokv_get : ∀ (X : List Tok) (i : Nat), i < X.length → (tokv X)[i * 4]? = some (.int .i64 (X.getD i tz).k) ∧ (tokv X)[i * 4 + 1]? = some (.string (X.getD i tz).x) ∧ (tokv X)[i * 4 + 2]? = some (.int .i64 (X.getD i tz).n) ∧ (tokv X)[i * 4 + 3]? = some (.int .i64 (X.getD i tz).a)
  | [], i, h => absurd h (Nat.not_lt_zero i)
  | t :: X, 0, _ => ⟨rfl, rfl, rfl, rfl⟩
  | t :: X, i + 1, h => by
    have := tokv_get X i (by simpa using h)
    have e : ∀ j, (tokv (t :: X))[(i + 1) * 4 + j]? = (tokv X)[i * 4 + j]? := fun j => by
      show ([Value.int .i64 t.k, .string t.x, .int .i64 t.n, .int .i64 t.a] ++ tokv X)[(i + 1) * 4 + j]? = _
      rw [List.getElem?_append_right (by simp; omega)]
      congr 1
      simp; omega
    have e0 := e 0
    simp only [Nat.add_zero] at e0
    rw [e0, e 1, e 2, e 3]
    exact this
def lst (s : ByteArray) (p : Nat) : Int × Nat × List Tok :=
  if kb s p = 1 then (0, p + 1, [])
  else if kb s p = 4 then (0, p + eol s p, [])
  else if kb s p = 3 then
    if 16 < ltrs s p then (5, p, []) else (if kb s (p + ltrs s p) = 2 then 2 else 0, p + ltrs s p, [⟨1, s.extract p (p + ltrs s p), 0, p⟩])
  else if kb s p = 2 then
    if 1 < dgs s p ∧ byt s p = 48 then (4, p, []) else if 18 < dgs s p then (5, p, []) else (if kb s (p + dgs s p) = 3 then 2 else 0, p + dgs s p, [⟨2, ⟨#[]⟩, numv s p (dgs s p), p⟩])
  else (2, p, [])
def tend (s : ByteArray) : Tok := ⟨3, ⟨#[]⟩, 0, s.size⟩
def scF (s : ByteArray) : Nat → Nat → List Tok → List Tok × Int × Int
  | 0, _, X => (X ++ [tend s], 0, 0)
  | f + 1, p, X => if p < s.size then (if (lst s p).1 ≠ 0 then ([], ((lst s p).2.1 : Int), (lst s p).1) else scF s f (lst s p).2.1 (X ++ (lst s p).2.2)) else (X ++ [tend s], 0, 0)
def scan (s : ByteArray) : List Tok × Int × Int := if 65536 < s.size then ([], 0, 5) else scF s s.size 0 []
theorem lst_bd {s : ByteArray} {p : Nat} (h : p < s.size) : p ≤ (lst s p).2.1 ∧ (lst s p).2.1 ≤ s.size ∧ ((lst s p).1 = 0 → p < (lst s p).2.1) ∧ (lst s p).2.2.length ≤ 1 := by
  have h1 := ltrs_le s (Nat.le_of_lt h)
  have h2 := eol_le s (Nat.le_of_lt h)
  have h3 := dgs_le s (Nat.le_of_lt h)
  have h4 := @ltrs_pos s p
  have h5 := @eol_pos s p
  have h6 := @dgs_pos s p
  unfold lst
  repeat' split
  all_goals (simp only [List.length_nil, List.length_cons]; refine ⟨?_, ?_, ?_, ?_⟩ <;> first | omega | (intro; omega))
theorem scF_end {s : ByteArray} {p : Nat} (h : ¬ p < s.size) : ∀ (f : Nat) (X : List Tok), scF s f p X = (X ++ [tend s], 0, 0)
  | 0, _ => rfl
  | f + 1, X => by rw [scF, if_neg h]
theorem scF_err {s : ByteArray} {p f : Nat} {X : List Tok} (h : p < s.size) (hf : 0 < f) (he : (lst s p).1 ≠ 0) : scF s f p X = ([], ((lst s p).2.1 : Int), (lst s p).1) := by
  cases f with
  | zero => omega
  | succ f => rw [scF, if_pos h, if_pos he]
theorem scF_go {s : ByteArray} {p f : Nat} {X : List Tok} (h : p < s.size) (hf : 0 < f) (he : (lst s p).1 = 0) : scF s f p X = scF s (f - 1) (lst s p).2.1 (X ++ (lst s p).2.2) := by
  cases f with
  | zero => omega
  | succ f => rw [scF, if_pos h, if_neg (by simp [he])]; rfl
theorem readI_at {s : ByteArray} {p : Nat} (h : p < s.size) (hk : kb s p = 2) : readI s (p : Int) = if 1 < dgs s p ∧ byt s p = 48 then (0, 0, 4) else if 18 < dgs s p then (0, 0, 5) else (numv s p (dgs s p), ((p + dgs s p : Nat) : Int), 0) := by
  have h6 := dgs_pos hk
  unfold readI
  rw [if_neg (by omega)]
  simp only [Int.toNat_natCast]
  by_cases h1 : 1 < dgs s p ∧ byt s p = 48
  · rw [if_pos (.inr h1), if_pos h1]
  · rw [if_neg (by intro h; rcases h with h | h; omega; exact h1 h), if_neg h1]
    split
    · rfl
    · congr 2
theorem lst_1 {s : ByteArray} {p : Nat} (h : kb s p = 1) : lst s p = (0, p + 1, []) := if_pos h
theorem lst_4 {s : ByteArray} {p : Nat} (h : kb s p = 4) : lst s p = (0, p + eol s p, []) := by unfold lst; rw [if_neg (by omega), if_pos h]
theorem lst_3 {s : ByteArray} {p : Nat} (h : kb s p = 3) : lst s p = if 16 < ltrs s p then (5, p, []) else (if kb s (p + ltrs s p) = 2 then 2 else 0, p + ltrs s p, [⟨1, s.extract p (p + ltrs s p), 0, p⟩]) := by unfold lst; rw [if_neg (by omega), if_neg (by omega), if_pos h]
theorem lst_2 {s : ByteArray} {p : Nat} (h : kb s p = 2) : lst s p = if 1 < dgs s p ∧ byt s p = 48 then (4, p, []) else if 18 < dgs s p then (5, p, []) else (if kb s (p + dgs s p) = 3 then 2 else 0, p + dgs s p, [⟨2, ⟨#[]⟩, numv s p (dgs s p), p⟩]) := by unfold lst; rw [if_neg (by omega), if_neg (by omega), if_neg (by omega), if_pos h]
theorem kindI_rng (c : Int) : kindI c = 0 ∨ kindI c = 1 ∨ kindI c = 2 ∨ kindI c = 3 ∨ kindI c = 4 := by
  unfold kindI
  repeat' split
  all_goals simp
theorem kb_rng (s : ByteArray) (p : Nat) : kb s p = 0 ∨ kb s p = 1 ∨ kb s p = 2 ∨ kb s p = 3 ∨ kb s p = 4 := by
  unfold kb; split
  · exact kindI_rng _
  · simp
theorem lst_0 {s : ByteArray} {p : Nat} (h : kb s p = 0) : lst s p = (2, p, []) := by unfold lst; rw [if_neg (by omega), if_neg (by omega), if_neg (by omega), if_neg (by omega)]
theorem dgo_kb {s : ByteArray} {p : Nat} (h : p < s.size) : kindI (Lib.decodeGo (s.extract p s.size)).1 = kb s p := by
  have hs : (s.extract p s.size).size = s.size - p := size_ext (Nat.le_refl _)
  unfold Lib.decodeGo
  rw [if_neg (by omega), (dec_kb (by omega)).1, kb_in (by omega), kb_in h, byt_ext (by omega) (Nat.le_refl _), Nat.add_zero]
theorem ixb_eol {s : ByteArray} {p : Nat} (h : p ≤ s.size) : (Lib.indexByte (s.extract p s.size).data.toList 10 = -1 ∧ p + eol s p = s.size) ∨ (Lib.indexByte (s.extract p s.size).data.toList 10 = (eol s p : Int) ∧ p + eol s p < s.size) := by
  have hge := Lib.indexByte_ge (s.extract p s.size).data.toList 10
  have hl : (s.extract p s.size).data.toList.length = s.size - p := by rw [Array.length_toList]; exact size_ext (Nat.le_refl _)
  have hg : ∀ k : Nat, (s.extract p s.size).data.toList[k]? = some 10 ↔ (p + k < s.size ∧ byt s (p + k) = 10) := fun k => by
    have hsz : (s.extract p s.size).size = s.size - p := size_ext (Nat.le_refl _)
    by_cases hk : p + k < s.size
    · have hk' : k < (s.extract p s.size).size := by omega
      have e := byt_at hk'
      rw [byt_ext hk (Nat.le_refl _)] at e
      rw [List.getElem?_eq_getElem (by omega), Option.some.injEq, ← e]
      have e2 : (s.extract p s.size).data.toList[k]'(by omega) = (s.extract p s.size)[k]'hk' := by simp [ByteArray.getElem_eq_getElem_data]
      rw [e2]
      constructor
      · intro h; rw [h]; exact ⟨hk, rfl⟩
      · intro ⟨_, h⟩
        apply UInt8.toNat.inj
        have : ((s.extract p s.size)[k]'hk').toNat = 10 := by omega
        rw [this]; rfl
    · rw [List.getElem?_eq_none (by omega)]
      simp; omega
  by_cases hn : Lib.indexByte (s.extract p s.size).data.toList 10 = -1
  · refine .inl ⟨hn, ?_⟩
    have h2 := (eol_spec s p).2
    have h3 := eol_le s h
    rcases Nat.lt_or_ge (p + eol s p) s.size with q | q
    · exfalso
      refine Lib.indexByte_none hn (eol s p) ((hg _).2 ⟨q, ?_⟩)
      exact Classical.byContradiction fun e => h2 ⟨q, e⟩
    · omega
  · obtain ⟨o, ho⟩ : ∃ o : Nat, Lib.indexByte (s.extract p s.size).data.toList 10 = o := ⟨_, (Int.toNat_of_nonneg (by omega)).symm⟩
    obtain ⟨h1, h2⟩ := Lib.indexByte_some ho
    have h1' := (hg o).1 h1
    have e : eol s p = o := eol_uniq (fun j hj => ⟨by omega, fun e => h2 j hj ((hg j).2 ⟨by omega, e⟩)⟩) (fun h => h.2 h1'.2)
    exact .inr ⟨by rw [ho, e], by omega⟩
end
section
open Go.RowKit
def tokOK (s : ByteArray) (t : Tok) : Prop :=
  (t.k = 1 ∨ t.k = 2) ∧ 0 ≤ t.a ∧ t.a + t.x.size ≤ s.size ∧ (t.k = 1 → s.extract t.a.toNat (t.a + t.x.size).toNat = t.x)
def TI (s : ByteArray) (X : List Tok) (p : Nat) : Prop :=
  (∀ i, i < X.length → tokOK s (X.getD i tz) ∧ (X.getD i tz).a < p) ∧ ∀ i j, i < j → j < X.length → (X.getD i tz).a < (X.getD j tz).a
theorem getD_app1 {X : List Tok} {t : Tok} {i : Nat} (h : i < X.length) : (X ++ [t]).getD i tz = X.getD i tz := by
  simp [List.getD, List.getElem?_append_left h]
theorem getD_app2 {X : List Tok} {t : Tok} : (X ++ [t]).getD X.length tz = t := by
  simp [List.getD]
theorem TI.nil (s : ByteArray) : TI s [] 0 := ⟨fun i h => absurd h (Nat.not_lt_zero i), fun _ j _ h => absurd h (Nat.not_lt_zero j)⟩
theorem TI.mono {s : ByteArray} {X : List Tok} {p q : Nat} (h : TI s X p) (hq : p ≤ q) : TI s X q := ⟨fun i hi => ⟨(h.1 i hi).1, by have := (h.1 i hi).2; omega⟩, h.2⟩
theorem TI.snoc {s : ByteArray} {X : List Tok} {p q : Nat} {t : Tok} (h : TI s X p) (hq : p < q) (ht : tokOK s t) (ha : t.a = p) : TI s (X ++ [t]) q := by
  refine ⟨fun i hi => ?_, fun i j hij hj => ?_⟩
  · rw [List.length_append, List.length_singleton] at hi
    rcases Nat.lt_or_ge i X.length with g | g
    · rw [getD_app1 g]; exact ⟨(h.1 i g).1, by have := (h.1 i g).2; omega⟩
    · obtain rfl : i = X.length := by omega
      rw [getD_app2]; exact ⟨ht, by omega⟩
  · rw [List.length_append, List.length_singleton] at hj
    rcases Nat.lt_or_ge j X.length with g | g
    · rw [getD_app1 g, getD_app1 (by omega)]; exact h.2 i j hij g
    · obtain rfl : j = X.length := by omega
      rw [getD_app2, getD_app1 hij, ha]; exact (h.1 i hij).2
theorem lst_TI {s : ByteArray} {X : List Tok} {p : Nat} (hp : p < s.size) (h : TI s X p) (he : (lst s p).1 = 0) : TI s (X ++ (lst s p).2.2) (lst s p).2.1 := by
  rcases kb_rng s p with hk | hk | hk | hk | hk
  · rw [lst_0 hk] at he; simp at he
  · rw [lst_1 hk, List.append_nil]; exact h.mono (Nat.le_succ _)
  · rw [lst_2 hk] at he ⊢
    by_cases h1 : 1 < dgs s p ∧ byt s p = 48
    · rw [if_pos h1] at he; simp at he
    · rw [if_neg h1] at he ⊢
      by_cases h2 : 18 < dgs s p
      · rw [if_pos h2] at he; simp at he
      · rw [if_neg h2]
        have := dgs_pos hk
        have := dgs_le s (Nat.le_of_lt hp)
        refine h.snoc (show p < p + dgs s p by omega) ⟨.inr rfl, ?_, ?_, fun e => ?_⟩ rfl
        · show (0 : Int) ≤ p; omega
        · show (p : Int) + (0 : Nat) ≤ s.size; omega
        · have e' : (2 : Int) = 1 := e
          omega
  · rw [lst_3 hk] at he ⊢
    by_cases h1 : 16 < ltrs s p
    · rw [if_pos h1] at he; simp at he
    · rw [if_neg h1]
      have := ltrs_pos hk
      have hle := ltrs_le s (Nat.le_of_lt hp)
      have hx : (s.extract p (p + ltrs s p)).size = ltrs s p := by rw [size_ext hle]; omega
      refine h.snoc (show p < p + ltrs s p by omega) ⟨.inl rfl, ?_, ?_, fun _ => ?_⟩ rfl
      · show (0 : Int) ≤ p; omega
      · show (p : Int) + ((s.extract p (p + ltrs s p)).size : Nat) ≤ s.size; rw [hx]; omega
      · show s.extract (p : Int).toNat ((p : Int) + ((s.extract p (p + ltrs s p)).size : Nat)).toNat = s.extract p (p + ltrs s p)
        rw [hx]; congr 1
  · rw [lst_4 hk, List.append_nil]; exact h.mono (Nat.le_add_right _ _)
theorem scF_TI (s : ByteArray) : ∀ f p X, s.size ≤ p + f → p ≤ s.size → TI s X p → ((scF s f p X).2.2 = 0 → ∃ Y, (scF s f p X) = (Y ++ [tend s], 0, 0) ∧ TI s Y s.size) ∧ ((scF s f p X).2.2 ≠ 0 → (scF s f p X).1 = [])
  | 0, p, X, h0, h1, h => by
    refine ⟨fun _ => ⟨X, rfl, h.mono h1⟩, fun he => absurd rfl he⟩
  | f + 1, p, X, h0, h1, h => by
    by_cases hp : p < s.size
    · by_cases he : (lst s p).1 = 0
      · have hbd := lst_bd hp
        have := hbd.2.2.1 he
        rw [scF_go hp (Nat.succ_pos f) he]
        exact scF_TI s f _ _ (by omega) hbd.2.1 (lst_TI hp h he)
      · rw [scF_err hp (Nat.succ_pos f) he]
        exact ⟨fun h => absurd h he, fun _ => rfl⟩
    · rw [scF_end hp]
      exact ⟨fun _ => ⟨X, rfl, h.mono h1⟩, fun he => absurd rfl he⟩
theorem scan_TI (s : ByteArray) : ((scan s).2.2 = 0 → ∃ Y, scan s = (Y ++ [tend s], 0, 0) ∧ TI s Y s.size) ∧ ((scan s).2.2 ≠ 0 → (scan s).1 = []) := by
  unfold scan
  split
  · exact ⟨fun h => absurd h (by decide), fun _ => rfl⟩
  · exact scF_TI s _ _ _ (by omega) (by omega) (TI.nil s)
theorem scan_last {s : ByteArray} (he : (scan s).2.2 = 0) : 0 < (scan s).1.length ∧ (scan s).1.getD ((scan s).1.length - 1) tz = tend s := by
  obtain ⟨Y, hY, -⟩ := (scan_TI s).1 he
  rw [hY]
  refine ⟨by simp, ?_⟩
  show (Y ++ [tend s]).getD ((Y ++ [tend s]).length - 1) tz = tend s
  rw [List.length_append, List.length_singleton, Nat.add_sub_cancel, getD_app2]
end
section
open Go.RowKit
theorem byt_l {x y : ByteArray} {j : Nat} (h : j < x.size) : byt (x ++ y) j = byt x j := by
  have h2 : j < (x ++ y).size := by rw [ByteArray.size_append]; omega
  rw [← byt_at h2, ← byt_at h, ByteArray.getElem_append_left h]
theorem byt_r {x y : ByteArray} {j : Nat} (h : j < y.size) : byt (x ++ y) (x.size + j) = byt y j := by
  have h2 : x.size + j < (x ++ y).size := by rw [ByteArray.size_append]; omega
  rw [← byt_at h2, ← byt_at h, ByteArray.getElem_append_right (Nat.le_add_right _ _)]
  congr 2
  simp
theorem ba_ext {x y : ByteArray} (h : x.size = y.size) (hb : ∀ j, j < x.size → byt x j = byt y j) : x = y :=
  ByteArray.ext_getElem h fun j h1 h2 => UInt8.toNat.inj (by have := hb j h1; rw [← byt_at h1, ← byt_at h2] at this; omega)
theorem kb_byt {s u : ByteArray} {p q : Nat} (h1 : p < s.size) (h2 : q < u.size) (h : byt u q = byt s p) : kb u q = kb s p := by
  rw [kb_in h1, kb_in h2, h]
theorem kb_r {x y : ByteArray} {j : Nat} : kb (x ++ y) (x.size + j) = kb y j := by
  by_cases h : j < y.size
  · exact kb_byt h (by rw [ByteArray.size_append]; omega) (byt_r h)
  · rw [kb_out h, kb_out (by rw [ByteArray.size_append]; omega)]
def Going (u : ByteArray) (p : Nat) (X : List Tok) (q : Nat) (Y : List Tok) : Prop := ∀ f, u.size ≤ p + f → ∃ f', u.size ≤ q + f' ∧ scF u f p X = scF u f' q Y
theorem Going.refl (u : ByteArray) (p : Nat) (X : List Tok) : Going u p X p X := fun f h => ⟨f, h, rfl⟩
theorem Going.trans {u : ByteArray} {p q r : Nat} {X Y Z : List Tok} (h1 : Going u p X q Y) (h2 : Going u q Y r Z) : Going u p X r Z := fun f h => by
  obtain ⟨f1, g1, e1⟩ := h1 f h
  obtain ⟨f2, g2, e2⟩ := h2 f1 g1
  exact ⟨f2, g2, e1.trans e2⟩
theorem Going.step {u : ByteArray} {p q : Nat} {X N : List Tok} (hp : p < u.size) (he : lst u p = (0, q, N)) : Going u p X q (X ++ N) := fun f h => by
  have hb := (lst_bd hp).2.2.1 (by rw [he])
  rw [he] at hb
  refine ⟨f - 1, by simp only at hb; omega, ?_⟩
  rw [scF_go hp (by omega) (by rw [he]), he]
theorem Going.blank {u : ByteArray} {p : Nat} {X : List Tok} (hp : p < u.size) (h : kb u p = 1) : Going u p X (p + 1) X := by
  have := Going.step (X := X) hp (lst_1 h)
  rwa [List.append_nil] at this
theorem Going.rem {u : ByteArray} {p k : Nat} {X : List Tok} (h35 : byt u p = 35) (hk : 0 < k) (h : ∀ j, j < k → byt u (p + j) ≠ 10) (hs : p + k < u.size) (he : byt u (p + k) = 10) : Going u p X (p + k + 1) X := by
  have h4 : kb u p = 4 := by rw [kb_in (by omega), h35]; decide
  have e : eol u p = k := eol_uniq (fun j hj => ⟨by omega, h j hj⟩) (fun h => h.2 he)
  have h1 := Going.step (X := X) (show p < u.size by omega) (lst_4 h4)
  rw [List.append_nil, e] at h1
  exact h1.trans (Going.blank hs (by rw [kb_in hs, he]; decide))
def TK (s : ByteArray) (t : Tok) (A d : Nat) : Prop :=
  t.a = (A : Int) ∧ 0 < d ∧ A + d ≤ s.size ∧ (kb s (A + d) ≠ 2 ∧ kb s (A + d) ≠ 3) ∧
  ((t.k = 1 ∧ (∀ j, j < d → kb s (A + j) = 3) ∧ d ≤ 16 ∧ t.x = s.extract A (A + d) ∧ t.n = 0) ∨
   (t.k = 2 ∧ (∀ j, j < d → kb s (A + j) = 2) ∧ d ≤ 18 ∧ ¬ (1 < d ∧ byt s A = 48) ∧ t.x = ⟨#[]⟩ ∧ t.n = numv s A d))
def TJ (s : ByteArray) (X : List Tok) (p : Nat) : Prop :=
  ∀ i, i < X.length → ∃ A d, TK s (X.getD i tz) A d ∧ ((A + d : Nat) : Int) ≤ if i + 1 < X.length then (X.getD (i + 1) tz).a else p
theorem TJ.mono {s : ByteArray} {X : List Tok} {p q : Nat} (h : TJ s X p) (hq : p ≤ q) : TJ s X q := fun i hi => by
  obtain ⟨A, d, h1, h2⟩ := h i hi
  refine ⟨A, d, h1, ?_⟩
  split at h2
  · rw [if_pos (by assumption)]; exact h2
  · rw [if_neg (by assumption)]; omega
theorem TJ.snoc {s : ByteArray} {X : List Tok} {p d : Nat} {t : Tok} (h : TJ s X p) (ht : TK s t p d) : TJ s (X ++ [t]) (p + d) := fun i hi => by
  rw [List.length_append, List.length_singleton] at hi ⊢
  rcases Nat.lt_or_ge i X.length with g | g
  · obtain ⟨A, d', h1, h2⟩ := h i g
    rw [getD_app1 g, if_pos (by omega)]
    refine ⟨A, d', h1, ?_⟩
    rcases Nat.lt_or_ge (i + 1) X.length with g2 | g2
    · rw [if_pos g2] at h2; rw [getD_app1 g2]; exact h2
    · rw [if_neg (by omega)] at h2
      rw [show i + 1 = X.length by omega, getD_app2, ht.1]; exact h2
  · obtain rfl : i = X.length := by omega
    rw [getD_app2, if_neg (by omega)]
    exact ⟨p, d, ht, Int.le_refl _⟩
theorem lst_TJ {s : ByteArray} {X : List Tok} {p : Nat} (hp : p < s.size) (h : TJ s X p) (he : (lst s p).1 = 0) : TJ s (X ++ (lst s p).2.2) (lst s p).2.1 := by
  rcases kb_rng s p with hk | hk | hk | hk | hk
  · rw [lst_0 hk] at he; simp at he
  · rw [lst_1 hk, List.append_nil]; exact h.mono (Nat.le_succ _)
  · rw [lst_2 hk] at he ⊢
    by_cases h1 : 1 < dgs s p ∧ byt s p = 48
    · rw [if_pos h1] at he; simp at he
    · rw [if_neg h1] at he ⊢
      by_cases h2 : 18 < dgs s p
      · rw [if_pos h2] at he; simp at he
      · rw [if_neg h2] at he ⊢
        have h3 : kb s (p + dgs s p) ≠ 3 := fun e => by rw [if_pos e] at he; simp at he
        have hd := dgs_spec s p
        exact h.snoc ⟨rfl, dgs_pos hk, dgs_le s (Nat.le_of_lt hp), ⟨fun e => hd.2 (dig_kb.2 e), h3⟩, .inr ⟨rfl, fun j hj => dig_kb.1 (hd.1 j hj), by omega, h1, rfl, rfl⟩⟩
  · rw [lst_3 hk] at he ⊢
    by_cases h1 : 16 < ltrs s p
    · rw [if_pos h1] at he; simp at he
    · rw [if_neg h1] at he ⊢
      have h3 : kb s (p + ltrs s p) ≠ 2 := fun e => by rw [if_pos e] at he; simp at he
      have hd := ltrs_spec s p
      exact h.snoc ⟨rfl, ltrs_pos hk, ltrs_le s (Nat.le_of_lt hp), ⟨h3, hd.2⟩, .inl ⟨rfl, hd.1, by omega, rfl, rfl⟩⟩
  · rw [lst_4 hk, List.append_nil]; exact h.mono (Nat.le_add_right _ _)
theorem scF_TJ (s : ByteArray) : ∀ f p X, s.size ≤ p + f → p ≤ s.size → TJ s X p → (scF s f p X).2.2 = 0 → ∃ Y, (scF s f p X) = (Y ++ [tend s], 0, 0) ∧ TJ s Y s.size
  | 0, p, X, h0, h1, h => fun _ => ⟨X, rfl, h.mono h1⟩
  | f + 1, p, X, h0, h1, h => by
    by_cases hp : p < s.size
    · by_cases he : (lst s p).1 = 0
      · have hbd := lst_bd hp
        have := hbd.2.2.1 he
        rw [scF_go hp (Nat.succ_pos f) he]
        exact scF_TJ s f _ _ (by omega) hbd.2.1 (lst_TJ hp h he)
      · rw [scF_err hp (Nat.succ_pos f) he]
        exact fun h => absurd h he
    · rw [scF_end hp]
      exact fun _ => ⟨X, rfl, h.mono h1⟩
theorem scan_TJ {s : ByteArray} (he : (scan s).2.2 = 0) {i : Nat} (hi : i + 1 < (scan s).1.length) : ∃ A d, TK s ((scan s).1.getD i tz) A d ∧ ((A + d : Nat) : Int) ≤ ((scan s).1.getD (i + 1) tz).a ∧ ((scan s).1.getD (i + 1) tz).a ≤ s.size := by
  have hsz : ¬ 65536 < s.size := fun h => by unfold scan at he; rw [if_pos h] at he; simp at he
  have h0 : scan s = scF s s.size 0 [] := by unfold scan; rw [if_neg hsz]
  have he2 := he
  rw [h0] at he2
  obtain ⟨Y, hY, hT⟩ := scF_TJ s s.size 0 [] (by omega) (by omega) (fun i h => absurd h (Nat.not_lt_zero i)) he2
  rw [h0, hY] at hi ⊢
  simp only [List.length_append, List.length_singleton] at hi
  obtain ⟨A, d, h1, h2⟩ := hT i (by omega)
  refine ⟨A, d, ?_, ?_⟩
  · show TK s ((Y ++ [tend s]).getD i tz) A d
    rw [getD_app1 (by omega)]; exact h1
  · show _ ≤ ((Y ++ [tend s]).getD (i + 1) tz).a ∧ ((Y ++ [tend s]).getD (i + 1) tz).a ≤ _
    rcases Nat.lt_or_ge (i + 1) Y.length with g | g
    · rw [if_pos g] at h2
      rw [getD_app1 g]
      obtain ⟨A', d', h3, -⟩ := hT (i + 1) g
      refine ⟨h2, ?_⟩
      rw [h3.1]; have := h3.2.2.1; omega
    · rw [if_neg (by omega)] at h2
      rw [show i + 1 = Y.length by omega, getD_app2]; exact ⟨h2, Int.le_refl _⟩
def same3 (t t' : Tok) : Prop := t'.k = t.k ∧ t'.x = t.x ∧ t'.n = t.n
theorem numv_congr {s u : ByteArray} {A q : Nat} : ∀ d, (∀ j, j < d → byt u (q + j) = byt s (A + j)) → numv u q d = numv s A d
  | 0, _ => rfl
  | d + 1, h => by
    simp only [numv]
    rw [numv_congr d (fun j hj => h j (by omega)), h d (by omega)]
theorem lst_copy {s u : ByteArray} {t : Tok} {A d q : Nat} (ht : TK s t A d) (hu : ∀ j, j < d → q + j < u.size ∧ byt u (q + j) = byt s (A + j)) (hend : kb u (q + d) ≠ 2 ∧ kb u (q + d) ≠ 3) : ∃ t', lst u q = (0, q + d, [t']) ∧ same3 t t' := by
  obtain ⟨ha, hd, hle, hne, hc⟩ := ht
  have hk : ∀ j, j < d → kb u (q + j) = kb s (A + j) := fun j hj => kb_byt (by omega) (hu j hj).1 (hu j hj).2
  have hq := (hu (d - 1) (by omega)).1
  rcases hc with ⟨h1, h2, h3, h4, h5⟩ | ⟨h1, h2, h3, h4, h5, h6⟩
  · have hk0 : kb u q = 3 := by have := hk 0 hd; rw [h2 0 hd] at this; exact this
    have hl : ltrs u q = d := ltrs_uniq (fun j hj => by rw [hk j hj]; exact h2 j hj) hend.2
    have e := lst_3 hk0
    rw [hl, if_neg (by omega), if_neg hend.1] at e
    refine ⟨_, e, h1.symm, ?_, h5.symm⟩
    show u.extract q (q + d) = t.x
    rw [h4]
    refine ba_ext (by rw [size_ext (by omega), size_ext hle]; omega) (fun j hj => ?_)
    rw [size_ext (by omega)] at hj
    rw [byt_ext (by omega) (by omega), byt_ext (by omega) hle]
    exact (hu j (by omega)).2
  · have hk0 : kb u q = 2 := by have := hk 0 hd; rw [h2 0 hd] at this; exact this
    have hl : dgs u q = d := dgs_uniq (fun j hj => dig_kb.2 (by rw [hk j hj]; exact h2 j hj)) (fun h => hend.1 (dig_kb.1 h))
    have e := lst_2 hk0
    have hb0 : byt u q = byt s A := (hu 0 hd).2
    rw [hl, if_neg (by rw [hb0]; exact h4), if_neg (by omega), if_neg hend.2] at e
    refine ⟨_, e, h1.symm, h5.symm, ?_⟩
    show numv u q d = t.n
    rw [h6]; exact numv_congr d (fun j hj => (hu j hj).2)
def Built (Y : List Tok) (t : ByteArray) (i : Nat) : Prop :=
  t.size ≤ 30 * i ∧ ∃ m : List Tok, m.length = i ∧ (∀ j, j < i → same3 (Y.getD j tz) (m.getD j tz)) ∧ ∀ v, (kb v 0 ≠ 2 ∧ kb v 0 ≠ 3) → Going (t ++ v) 0 [] t.size m
theorem Built.nil (Y : List Tok) : Built Y ⟨#[]⟩ 0 := ⟨Nat.le_refl _, [], rfl, fun j h => absurd h (Nat.not_lt_zero j), fun _ _ => Going.refl _ _ _⟩
end
section
open Go.RowKit
structure Ins where
  kind : Int
  n : Int
  cap : Int
  wt : List Int
  vl : List Int
  cost : List (List Int)
def RowsV (w : World) (v : Value) (rows : List (List Int)) : Prop :=
  ∃ a cap, v = .slice a rows.length cap ∧ rows.length ≤ cap ∧ cap ≤ maxLen ∧ (a = none → cap = 0) ∧ (rows ≠ [] → ∃ b off, a = some ⟨b, off, none⟩ ∧ b < w.heap.size ∧ ∀ i, i < rows.length → ∃ u, w.cell? ⟨b, off + i, none⟩ = some u ∧ IntSl w u (rows.getD i []))
theorem RowsV.below {B : Nat} {w w' : World} {v : Value} {rows : List (List Int)} (h : RowsV w v rows) (hb : Below B w w') (hB : w.heap.size ≤ B) : RowsV w' v rows := by
  obtain ⟨a, cap, rfl, hle, hmx, hnn, h⟩ := h
  refine ⟨a, cap, rfl, hle, hmx, hnn, fun hn => ?_⟩
  obtain ⟨b, off, rfl, hlt, hc⟩ := h hn
  refine ⟨b, off, rfl, Nat.lt_of_lt_of_le hlt hb.size, fun i hi => ?_⟩
  obtain ⟨u, h1, h2⟩ := hc i hi
  exact ⟨u, by rw [(bcell hb).1 _ _ (by omega)]; exact h1, h2.below hb hB⟩
theorem RowsV.at {w : World} {a : Option Addr} {n cap : Nat} {rows : List (List Int)} (h : RowsV w (.slice a n cap) rows) {i : Nat} (hi : i < rows.length) :
    ∃ b off ra rc, a = some ⟨b, off, none⟩ ∧ w.cell? ⟨b, off + i, none⟩ = some (.slice ra (rows.getD i []).length rc) ∧ IntSl w (.slice ra (rows.getD i []).length rc) (rows.getD i []) := by
  obtain ⟨a', cap', he, h1, h2, h3, h4⟩ := h
  cases he
  obtain ⟨b, off, rfl, -, hc⟩ := h4 (by intro e; rw [e] at hi; simp at hi)
  obtain ⟨u, g1, g2⟩ := hc i hi
  have hf : ∃ a c, u = .slice a (rows.getD i []).length c := by obtain ⟨a, c, e, -⟩ := g2; exact ⟨a, c, e⟩
  obtain ⟨ra, rc, rfl⟩ := hf
  exact ⟨b, off, ra, rc, rfl, g1, g2⟩
def InsV (w : World) (v : Value) (i : Ins) : Prop :=
  ∃ vw vv vc, v = .agg #[.int .i64 i.kind, .int .i64 i.n, .int .i64 i.cap, vw, vv, vc] ∧ IntSl w vw i.wt ∧ IntSl w vv i.vl ∧ RowsV w vc i.cost
theorem InsV.below {B : Nat} {w w' : World} {v : Value} {i : Ins} (h : InsV w v i) (hb : Below B w w') (hB : w.heap.size ≤ B) : InsV w' v i := by
  obtain ⟨vw, vv, vc, e, h1, h2, h3⟩ := h
  exact ⟨vw, vv, vc, e, h1.below hb hB, h2.below hb hB, h3.below hb hB⟩
structure OwR where
  Y : List Int
  a : Option Addr
  c : Nat
def orV (o : OwR) : Value := .slice o.a o.Y.length o.c
def orC (e : TypeId) (o : OwR) : Ck := own e 1 (.slice o.a o.Y.length o.c) o.Y.length (o.Y.map (Value.int .i64))
def insA (i : Ins) (aw : Option Addr) (cw : Nat) (av : Option Addr) (cv : Nat) (ac : Option Addr) (cc : Nat) (rs : List OwR) : Value :=
  .agg #[.int .i64 i.kind, .int .i64 i.n, .int .i64 i.cap, .slice aw i.wt.length cw, .slice av i.vl.length cv, .slice ac rs.length cc]
def insL (eI eR : TypeId) (i : Ins) (aw : Option Addr) (cw : Nat) (av : Option Addr) (cv : Nat) (ac : Option Addr) (cc : Nat) (rs : List OwR) : List Ck :=
  [own eI 1 (.slice aw i.wt.length cw) i.wt.length (i.wt.map (Value.int .i64)), own eI 1 (.slice av i.vl.length cv) i.vl.length (i.vl.map (Value.int .i64)), own eR 1 (.slice ac rs.length cc) rs.length (rs.map orV), bundle (rs.map (orC eI))]
section
variable {w0 w w' : World} {F : Nat → Prop} {L : List Ck} {e t : TypeId} {k : Nat}
theorem Mem.bundleSnoc {o : OwR} {rs : List OwR} (h : Mem w0 F (orC e o :: bundle (rs.map (orC e)) :: L) w) : Mem w0 F (bundle ((rs ++ [o]).map (orC e)) :: L) w := by
  have h0 : Mem w0 F (bundle (rs.map (orC e)) :: orC e o :: L) w := h.front (k := 1) rfl
  have h1 := h0.unpack
  refine Mem.pack ?_
  rw [List.map_append, List.append_assoc]
  exact h1
theorem Mem.bundleNil (h : Mem w0 F L w) : Mem w0 F (bundle (([] : List OwR).map (orC e)) :: L) w := Mem.pack (cs := []) h
theorem own_intSl {v : Value} {X : List Int} {sz : Nat} (hs : sz = X.length) (ho : w.ownsRow 0 e 1 v sz (X.map (Value.int .i64))) (hin : ∀ b, v.ownBlock = some b → b < w.heap.size) : IntSl w v X := by
  subst hs
  have ho2 := ho
  obtain ⟨a, cap, rfl, hn, hm, -, h1, h2⟩ := own_form ho
  refine ⟨a, cap, rfl, hn, hm, fun hna => ?_, fun hne => ?_⟩
  · subst hna
    rcases ho.2 with ⟨h, -⟩ | ⟨g, c, cur, h, -⟩
    · injection h
    · cases h
  · have hpos : 0 < X.length := List.length_pos_iff.2 hne
    cases a with
    | none => have := h1 rfl; omega
    | some p =>
      obtain ⟨g, rfl⟩ := h2 p rfl
      refine ⟨g, 0, rfl, hin g rfl, fun i hi => ?_⟩
      have := ho.cells (g := g) rfl i _ (mapi_get X i hi)
      rw [Addr.add_lit, Nat.zero_add] at this
      rw [Nat.zero_add]; exact this
theorem Mem.rowsV {eR : TypeId} {ac : Option Addr} {cc : Nat} {rs : List OwR} (hM : Mem w0 F L w) (hk : ith L k = some (own eR 1 (.slice ac rs.length cc) rs.length (rs.map orV))) {k2 : Nat} (hk2 : ith L k2 = some (bundle (rs.map (orC e)))) : RowsV w (.slice ac rs.length cc) (rs.map (·.Y)) := by
  obtain ⟨a', cap', he, hn, hm, -, h1, h2⟩ := hM.ownForm hk
  cases he
  have ho : w.ownsRow 0 eR 1 (.slice ac rs.length cc) rs.length (rs.map orV) := hM.mem hk
  have hbd : (bundle (rs.map (orC e))).holds w := hM.mem hk2
  have hb2 : bundle (rs.map (orC e)) ∈ L := List.mem_of_getElem? (by rwa [ith_eq] at hk2)
  refine ⟨ac, cc, by rw [List.length_map], by rw [List.length_map]; exact hn, hm, fun hna => ?_, fun hne => ?_⟩
  · subst hna
    rcases ho.2 with ⟨h, -⟩ | ⟨g, c, cur, h, -⟩
    · injection h
    · cases h
  · have hpos : 0 < rs.length := by rcases rs with _ | ⟨r, rs⟩; simp at hne; simp
    obtain ⟨g, rfl⟩ := hM.ownAt hk hpos
    refine ⟨g, 0, rfl, (hM.inb _ (List.mem_of_getElem? (by rwa [ith_eq] at hk)) g rfl).1, fun i hi => ?_⟩
    rw [List.length_map] at hi
    refine ⟨orV rs[i], ?_, ?_⟩
    · rw [Nat.zero_add]
      exact hM.ownCell hk (by rw [List.getElem?_map, List.getElem?_eq_getElem hi]; rfl)
    · have hmem : orC e rs[i] ∈ rs.map (orC e) := List.mem_map.2 ⟨_, List.getElem_mem hi, rfl⟩
      have e1 : (rs.map (·.Y)).getD i [] = rs[i].Y := by simp [List.getD, hi]
      rw [e1]
      exact own_intSl rfl (hbd.1 _ hmem) (fun b hb => (hM.inb _ hb2 b ⟨_, hmem, hb⟩).1)
theorem Mem.insV {eI eR : TypeId} {i : Ins} {aw : Option Addr} {cw : Nat} {av : Option Addr} {cv : Nat} {ac : Option Addr} {cc : Nat} {rs : List OwR} (hM : Mem w0 F L w) (hk : ith L k = some (bundle (insL eI eR i aw cw av cv ac cc rs))) (hc : rs.map (·.Y) = i.cost) : InsV w (insA i aw cw av cv ac cc rs) i := by
  have h1 := (hM.front hk).unpack
  refine ⟨_, _, _, rfl, ?_, ?_, ?_⟩
  · exact own_intSl rfl (h1.mem (k := 0) rfl) (fun b hb => (h1.inb _ (.head _) b hb).1)
  · exact own_intSl rfl (h1.mem (k := 1) rfl) (fun b hb => (h1.inb _ (.tail _ (.head _)) b hb).1)
  · rw [← hc]; exact h1.rowsV (k := 2) (k2 := 3) rfl rfl
end
end
section
open Go.RowKit
theorem Ins.ext {i j : Ins} (g1 : i.kind = j.kind) (g2 : i.n = j.n) (g3 : i.cap = j.cap) (g4 : i.wt = j.wt) (g5 : i.vl = j.vl) (g6 : i.cost = j.cost) : i = j := by cases i; cases j; cases g1; cases g2; cases g3; cases g4; cases g5; cases g6; rfl
instance (i j : Ins) : Decidable (i = j) :=
  if h : ((((i.kind = j.kind ∧ i.n = j.n) ∧ i.cap = j.cap) ∧ i.wt = j.wt) ∧ i.vl = j.vl) ∧ i.cost = j.cost then .isTrue (Ins.ext h.1.1.1.1.1 h.1.1.1.1.2 h.1.1.1.2 h.1.1.2 h.1.2 h.2)
  else .isFalse (fun e => h (by subst e; exact ⟨⟨⟨⟨⟨rfl, rfl⟩, rfl⟩, rfl⟩, rfl⟩, rfl⟩))
section
variable {P : Program} {l : List (Nat × Value)} {w w0 : World} {ty : TypeId} {x y z : Operand} {k k' : IntKind} {m n : Int} {t yt e : TypeId}
theorem R.idxR {a : Option Addr} {cap j : Nat} {g : Bool} {i : Int} {Rs : List (List Int)} (hX : RowsV w0 (.slice a Rs.length cap) Rs) (hi : slInfo P t = some (g, 1)) (hx : opv l x = some (.slice a Rs.length cap)) (hy : opv l y = some (.int k i)) (h0 : 0 ≤ i ∧ i < (Rs.length : Int)) (hj : i.toNat = j) :
    Run P l w (.indexAddr t x y) ty (pI a j) w := by
  obtain ⟨b, off, ra, rc, rfl, -⟩ := hX.at (i := i.toNat) (by omega)
  exact R.indexAddr hi hx hy h0 (by rw [Nat.mul_one, hj])
theorem RowsV.atP {a : Option Addr} {cap : Nat} {Rs : List (List Int)} (hX : RowsV w0 (.slice a Rs.length cap) Rs) {i : Nat} (hi : i < Rs.length) :
    ∃ ra rc, IntSl w0 (.slice ra (Rs.getD i []).length rc) (Rs.getD i []) ∧ ∀ (P : Program) (l : List (Nat × Value)) (x : Operand) (ty t : TypeId) (L : List Ck) {w : World}, Mem w0 nof L w → szOf P t = some (false, 1) → opv l x = some (pI a i) → Run P l w (.load t x) ty (.slice ra (Rs.getD i []).length rc) w := by
  obtain ⟨b, off, ra, rc, rfl, hc, hr⟩ := hX.at hi
  exact ⟨ra, rc, hr, fun P l x ty t L w hM hs hx => R.load hs hx (hM.cell0 hc (fun h => h))⟩
theorem RowsV.mem {v : Value} {Rs : List (List Int)} {L : List Ck} (h : RowsV w0 v Rs) (hM : Mem w0 nof L w) : RowsV w v Rs := h.below hM.nilL.below (Nat.le_refl _)
theorem RowsV.lenB {a : Option Addr} {n cap : Nat} {Rs : List (List Int)} (h : RowsV w (.slice a n cap) Rs) : Rs.length ≤ 9223372036854775807 := by
  obtain ⟨a', cap', he, h1, h2, -⟩ := h
  unfold maxLen at h2; omega
theorem RowsV.nil (w : World) : RowsV w (.slice none ([] : List (List Int)).length 0) [] := ⟨none, 0, rfl, Nat.le_refl _, Nat.zero_le _, fun _ => rfl, fun h => absurd rfl h⟩
end
def insR (w : World) (i : Ins) (aw : Option Addr) (cw : Nat) (av : Option Addr) (cv : Nat) (ac : Option Addr) (cc : Nat) : Prop :=
  IntSl w (.slice aw i.wt.length cw) i.wt ∧ IntSl w (.slice av i.vl.length cv) i.vl ∧ RowsV w (.slice ac i.cost.length cc) i.cost
def insG (i : Ins) (aw : Option Addr) (cw : Nat) (av : Option Addr) (cv : Nat) (ac : Option Addr) (cc : Nat) : Value :=
  .agg #[.int .i64 i.kind, .int .i64 i.n, .int .i64 i.cap, .slice aw i.wt.length cw, .slice av i.vl.length cv, .slice ac i.cost.length cc]
theorem insR_of {w w' : World} {L : List Ck} {eI eR : TypeId} {i : Ins} {aw : Option Addr} {cw : Nat} {av : Option Addr} {cv : Nat} {ac : Option Addr} {cc : Nat} {rs : List OwR} (hM : Mem w nof L w') {k : Nat} (hk : ith L k = some (bundle (insL eI eR i aw cw av cv ac cc rs))) (hc : rs.map (·.Y) = i.cost) :
    insA i aw cw av cv ac cc rs = insG i aw cw av cv ac cc ∧ insR w' i aw cw av cv ac cc := by
  have h := hM.insV hk hc
  have e : insA i aw cw av cv ac cc rs = insG i aw cw av cv ac cc := by unfold insA insG; rw [← hc, List.length_map]
  obtain ⟨vw, vv, vc, e2, h1, h2, h3⟩ := h
  rw [e] at e2
  unfold insG at e2
  injection e2 with e3
  have e4 := congrArg Array.toList e3
  simp only [List.cons.injEq] at e4
  obtain ⟨-, -, -, rfl, rfl, rfl, -⟩ := e4
  exact ⟨e, h1, h2, h3⟩
end
section
def numE (n : Int) : Int := if n < 0 then 1 else if 2147483647 < n then 5 else 0
def pfx (f : Nat → Int) : Nat → Int
  | 0 => 0
  | k + 1 => if pfx f k ≠ 0 then pfx f k else f k
theorem pfx_step {f : Nat → Int} {k : Nat} (h : pfx f k = 0) : pfx f (k + 1) = f k := by rw [pfx, if_neg (by rw [h]; simp)]
theorem pfx_stay {f : Nat → Int} {k n : Nat} (hk : pfx f k ≠ 0) (h : k ≤ n) : pfx f n = pfx f k := by
  induction h with
  | refl => rfl
  | step h ih => rw [Nat.succ_eq_add_one, pfx, ih, if_pos hk]
theorem pfx_err {f : Nat → Int} {k n : Nat} (h0 : pfx f k = 0) (hf : f k ≠ 0) (h : k < n) : pfx f n = f k := by
  have e := pfx_step h0
  rw [pfx_stay (k := k + 1) (by rw [e]; exact hf) h, e]
theorem pfx_zero {f : Nat → Int} {n : Nat} (h : pfx f n = 0) : ∀ k, k < n → f k = 0 := by
  intro k hk
  have h1 : pfx f (k + 1) = 0 := by
    by_cases e : pfx f (k + 1) = 0
    · exact e
    · rw [← pfx_stay e hk]; exact h
  have h0 : pfx f k = 0 := by
    by_cases e : pfx f k = 0
    · exact e
    · rw [pfx, if_pos e] at h1; exact h1
  rw [pfx_step h0] at h1; exact h1
theorem pfx_all {f : Nat → Int} : ∀ n, (∀ k, k < n → f k = 0) → pfx f n = 0
  | 0, _ => rfl
  | n + 1, h => by rw [pfx_step (pfx_all n (fun k hk => h k (by omega)))]; exact h n (by omega)
def itF (i : Ins) (k : Nat) : Int := if numE (i.wt.getD k 0) ≠ 0 then numE (i.wt.getD k 0) else numE (i.vl.getD k 0)
def cellF (i : Ins) (r c : Nat) : Int := if numE ((i.cost.getD r []).getD c 0) ≠ 0 then numE ((i.cost.getD r []).getD c 0) else if (i.kind = 3 ∧ r = c) ∧ (i.cost.getD r []).getD c 0 ≠ 0 then 8 else 0
def sizeE (i : Ins) : Int := if i.kind < 1 ∨ 3 < i.kind then 14 else if i.n < 1 then 1 else if (i.kind = 1 ∧ 64 < i.n) ∨ (1 < i.kind ∧ 24 < i.n) then 5 else 0
def shapeOK (i : Ins) : Prop :=
  (i.kind = 1 ∧ (i.wt.length : Int) = i.n ∧ (i.vl.length : Int) = i.n ∧ i.cost.length = 0) ∨
  (i.kind ≠ 1 ∧ (i.cost.length : Int) = i.n ∧ i.cap = 0 ∧ i.wt.length = 0 ∧ i.vl.length = 0 ∧ ∀ r, r < i.cost.length → ((i.cost.getD r []).length : Int) = i.n)
def numsE (i : Ins) : Int := if i.kind = 1 then (if numE i.cap ≠ 0 then numE i.cap else pfx (itF i) i.n.toNat) else pfx (fun r => pfx (cellF i r) i.n.toNat) i.n.toNat
end
section
def bs (l : List UInt8) : ByteArray := ⟨l.toArray⟩
theorem bs_app (a b : List UInt8) : bs a ++ bs b = bs (a ++ b) := by
  have h : ∀ x y : ByteArray, x.data.toList = y.data.toList → x = y := fun x y e => by cases x; cases y; simp at e; simp [e]
  apply h
  simp [bs]
theorem bs_size (l : List UInt8) : (bs l).size = l.length := by show l.toArray.size = _; simp
def bd64 (n : Int) : Prop := -9223372036854775808 ≤ n ∧ n ≤ 9223372036854775807
def nameB (k : Int) : List UInt8 := if k = 1 then [75, 78, 65, 80, 83, 65, 67, 75] else if k = 2 then [65, 83, 83, 73, 71, 78, 77, 69, 78, 84] else if k = 3 then [84, 83, 80] else []
def lineB (l : List Int) : List UInt8 := Lib.join (l.map Lib.itoa) [32] ++ [10]
def itemsB (i : Ins) : Nat → List UInt8
  | 0 => []
  | k + 1 => itemsB i k ++ lineB [i.wt.getD k 0, i.vl.getD k 0]
def rowsB (i : Ins) : Nat → List UInt8
  | 0 => []
  | k + 1 => rowsB i k ++ lineB (i.cost.getD k [])
def headB (i : Ins) : List UInt8 :=
  if i.kind = 1 then (nameB 1 ++ [32]) ++ lineB [i.n, i.cap]
  else if i.kind = 2 then (nameB 2 ++ [32]) ++ lineB [i.n]
  else (nameB 3 ++ [32]) ++ (((Lib.itoa i.n ++ [32]) ++ [70, 85, 76, 76]) ++ [10])
def textB (i : Ins) : List UInt8 := (if i.kind = 1 then headB i ++ itemsB i i.n.toNat else headB i) ++ rowsB i i.cost.length
theorem itoa_len' {n : Int} (h : bd64 n) : (Lib.itoa n).length ≤ 21 := by
  rcases (show n < 0 ∨ 0 ≤ n by omega) with g | g
  · obtain ⟨A, rfl⟩ : ∃ A : Nat, n = -(A : Int) := ⟨n.natAbs, by omega⟩
    have hA : 1 ≤ A := by omega
    rw [Lib.itoa_neg A hA, List.length_cons, Lib.decDigits_length]
    have := Lib.nDigits_le20 A (by unfold bd64 at h; omega)
    omega
  · obtain ⟨A, rfl⟩ : ∃ A : Nat, n = (A : Int) := ⟨n.toNat, by omega⟩
    rw [Lib.itoa_nonneg A, Lib.decDigits_length]
    have := Lib.nDigits_le20 A (by unfold bd64 at h; omega)
    omega
theorem lens_itoa : ∀ (l : List Int), (∀ x ∈ l, bd64 x) → Lib.lens (l.map Lib.itoa) ≤ 21 * l.length
  | [], _ => by simp [Lib.lens]
  | x :: l, h => by
    have h1 := itoa_len' (h x (.head _))
    have h2 := lens_itoa l (fun y hy => h y (.tail _ hy))
    simp only [Lib.lens, List.map_cons, List.sum_cons, List.length_cons] at h2 ⊢
    omega
theorem join_len {l : List Int} (h : ∀ x ∈ l, bd64 x) : (Lib.join (l.map Lib.itoa) [32]).length ≤ 22 * l.length := by
  cases l with
  | nil => simp [Lib.join_nil]
  | cons x l =>
    have h1 := lens_itoa (x :: l) h
    rw [List.map_cons, Lib.join_length]
    simp only [List.map_cons, List.length_map, List.length_cons, List.length_nil] at h1 ⊢
    omega
theorem lineB_len {l : List Int} (h : ∀ x ∈ l, bd64 x) : (lineB l).length ≤ 22 * l.length + 1 := by
  have := join_len h
  rw [lineB, List.length_append]; simp only [List.length_cons, List.length_nil]; omega
structure InF (i : Ins) : Prop where
  kind : 1 ≤ i.kind ∧ i.kind ≤ 3
  n1 : 1 ≤ i.n
  n64 : i.n ≤ 64
  n24 : i.kind ≠ 1 → i.n ≤ 24
  cap : 0 ≤ i.cap ∧ i.cap ≤ 2147483647
  cap0 : i.kind ≠ 1 → i.cap = 0
  wt : i.wt.length = if i.kind = 1 then i.n.toNat else 0
  vl : i.vl.length = if i.kind = 1 then i.n.toNat else 0
  cost : i.cost.length = if i.kind = 1 then 0 else i.n.toNat
  row : ∀ r, r < i.cost.length → (i.cost.getD r []).length = i.n.toNat
  wtr : ∀ k, 0 ≤ i.wt.getD k 0 ∧ i.wt.getD k 0 ≤ 2147483647
  vlr : ∀ k, 0 ≤ i.vl.getD k 0 ∧ i.vl.getD k 0 ≤ 2147483647
  cell : ∀ r c, 0 ≤ (i.cost.getD r []).getD c 0 ∧ (i.cost.getD r []).getD c 0 ≤ 2147483647
  diag : i.kind = 3 → ∀ r, (i.cost.getD r []).getD r 0 = 0
theorem numE_zero {n : Int} (h : numE n = 0) : 0 ≤ n ∧ n ≤ 2147483647 := by
  unfold numE at h
  split at h
  · cases h
  · split at h
    · cases h
    · omega
theorem getD_out {l : List Int} {k : Nat} (h : l.length ≤ k) : l.getD k 0 = 0 := by rw [List.getD_eq_getElem?_getD, List.getElem?_eq_none h]; rfl
theorem getD_outR {l : List (List Int)} {k : Nat} (h : l.length ≤ k) : l.getD k [] = [] := by rw [List.getD_eq_getElem?_getD, List.getElem?_eq_none h]; rfl
theorem inF_of {i : Ins} (h1 : sizeE i = 0) (h2 : shapeOK i) (h3 : numsE i = 0) : InF i := by
 have hk : 1 ≤ i.kind ∧ i.kind ≤ 3 ∧ 1 ≤ i.n ∧ (i.kind = 1 → i.n ≤ 64) ∧ (i.kind ≠ 1 → i.n ≤ 24) := by
  unfold sizeE at h1
  split at h1
  · cases h1
  ·
   split at h1
   · cases h1
   ·
    split at h1
    · cases h1
    · refine ⟨by omega, by omega, by omega, fun h => by omega, fun h => by omega⟩
 unfold numsE at h3
 rcases h2 with ⟨k1, k2, k3, k4⟩ | ⟨k1, k2, k3, k4, k5, k6⟩
 ·
  rw [if_pos k1] at h3
  have hc : numE i.cap = 0 := by
   by_cases e : numE i.cap = 0
   · exact e
   · rw [if_pos e] at h3; exact h3
  rw [if_neg (by rw [hc]; simp)] at h3
  have hz := pfx_zero h3
  have hw : ∀ k, 0 ≤ i.wt.getD k 0 ∧ i.wt.getD k 0 ≤ 2147483647 := fun k => by
   rcases Nat.lt_or_ge k i.wt.length with g | g
   ·
    have := hz k (by omega)
    unfold itF at this
    split at this
    · rename_i q; exact absurd this q
    · rename_i q; exact numE_zero (Decidable.not_not.1 q)
   · rw [getD_out g]; omega
  have hv : ∀ k, 0 ≤ i.vl.getD k 0 ∧ i.vl.getD k 0 ≤ 2147483647 := fun k => by
   rcases Nat.lt_or_ge k i.vl.length with g | g
   ·
    have := hz k (by omega)
    unfold itF at this
    split at this
    · rename_i q; exact absurd this q
    · exact numE_zero this
   · rw [getD_out g]; omega
  refine ⟨⟨hk.1, hk.2.1⟩, hk.2.2.1, hk.2.2.2.1 k1, hk.2.2.2.2, numE_zero hc, fun h => absurd k1 h, by rw [if_pos k1]; omega, by rw [if_pos k1]; omega, by rw [if_pos k1]; exact k4, fun r hr => by omega, hw, hv, fun r c => ?_, fun h => by omega⟩
  rw [getD_outR (by omega)]
  exact ⟨by simp, by simp⟩
 ·
  rw [if_neg k1] at h3
  have hn := hk.2.2.2.2 k1
  have hz := pfx_zero h3
  have hcell : ∀ r c, r < i.n.toNat → c < i.n.toNat → cellF i r c = 0 := fun r c hr hc => pfx_zero (hz r hr) c hc
  have hcl : ∀ r c, 0 ≤ (i.cost.getD r []).getD c 0 ∧ (i.cost.getD r []).getD c 0 ≤ 2147483647 := fun r c => by
   rcases Nat.lt_or_ge r i.cost.length with g | g
   ·
    have hl := k6 r g
    rcases Nat.lt_or_ge c (i.cost.getD r []).length with g2 | g2
    ·
     have := hcell r c (by omega) (by omega)
     unfold cellF at this
     split at this
     · rename_i q; exact absurd this q
     · rename_i q; exact numE_zero (Decidable.not_not.1 q)
    · rw [getD_out g2]; omega
   · rw [getD_outR g]; exact ⟨by simp, by simp⟩
  refine ⟨⟨hk.1, hk.2.1⟩, hk.2.2.1, by omega, hk.2.2.2.2, by omega, fun _ => k3, by rw [if_neg k1]; exact k4, by rw [if_neg k1]; exact k5, by rw [if_neg k1]; omega, fun r hr => by have := k6 r hr; omega, fun k => ?_, fun k => ?_, hcl, fun h3' r => ?_⟩
  · rw [getD_out (by omega)]; omega
  · rw [getD_out (by omega)]; omega
  ·
   rcases Nat.lt_or_ge r i.cost.length with g | g
   ·
    have := hcell r r (by omega) (by omega)
    unfold cellF at this
    split at this
    · rename_i q; exact absurd this q
    ·
     split at this
     · cases this
     ·
      rename_i q2
      by_cases e : (i.cost.getD r []).getD r 0 = 0
      · exact e
      · exact absurd ⟨⟨h3', rfl⟩, e⟩ q2
   · rw [getD_outR g]; rfl
theorem bd_range {n : Int} (h : 0 ≤ n ∧ n ≤ 2147483647) : bd64 n := by unfold bd64; omega
theorem InF.rowbd {i : Ins} (h : InF i) (r : Nat) : ∀ x ∈ i.cost.getD r [], bd64 x := fun x hx => by
  obtain ⟨c, hc, rfl⟩ := List.mem_iff_getElem.1 hx
  have := h.cell r c
  rw [List.getD_eq_getElem?_getD, List.getElem?_eq_getElem hc] at this
  exact bd_range this
theorem itemsB_len {i : Ins} (h : InF i) : ∀ k, (itemsB i k).length ≤ 45 * k
  | 0 => by simp [itemsB]
  | k + 1 => by
    have h1 := itemsB_len h k
    have h2 := lineB_len (l := [i.wt.getD k 0, i.vl.getD k 0]) (fun x hx => by
      rcases List.mem_cons.1 hx with rfl | hx
      · exact bd_range (h.wtr k)
      · rcases List.mem_cons.1 hx with rfl | hx
        · exact bd_range (h.vlr k)
        · cases hx)
    rw [itemsB, List.length_append]
    simp only [List.length_cons, List.length_nil] at h2
    omega
theorem rowsB_len {i : Ins} (h : InF i) : ∀ k, k ≤ i.cost.length → (rowsB i k).length ≤ 1409 * k
  | 0, _ => by simp [rowsB]
  | k + 1, hk => by
    have h1 := rowsB_len h k (by omega)
    have h2 := lineB_len (h.rowbd k)
    rw [h.row k (by omega)] at h2
    have := h.n64
    rw [rowsB, List.length_append]
    omega
end
section
open Go.RowKit
theorem u8_dig {d : Nat} (h : d < 10) : (UInt8.ofNat (48 + d)).toNat = 48 + d := by
  rw [UInt8.toNat_ofNat']; omega
def dd (M : Nat) : List UInt8 := if M = 0 then [] else Lib.decDigits M
theorem dd_step {M : Nat} (h : M ≠ 0) : dd M = dd (M / 10) ++ [UInt8.ofNat (48 + M % 10)] := by
  unfold dd
  rw [if_neg h, Lib.decDigits]
  split
  · rename_i h10
    rw [if_pos (by omega), show M % 10 = M by omega]; rfl
  · rw [if_neg (by omega)]
theorem dd_dig : ∀ (u : Nat), ∀ c ∈ Lib.decDigits u, 48 ≤ c.toNat ∧ c.toNat ≤ 57 := by
  intro u
  induction u using Nat.strongRecOn with
  | ind u ih =>
    intro c hc
    rw [Lib.decDigits] at hc
    split at hc
    · rename_i h
      obtain rfl : c = UInt8.ofNat (48 + u) := by simpa using hc
      rw [u8_dig h]; omega
    · rename_i h
      rcases List.mem_append.1 hc with hc | hc
      · exact ih (u / 10) (by omega) c hc
      · obtain rfl : c = UInt8.ofNat (48 + u % 10) := by simpa using hc
        rw [u8_dig (by omega)]; omega
def valL (l : List UInt8) : Int := l.foldl (fun a c => a * 10 + ((c.toNat : Int) - 48)) 0
theorem valL_snoc (l : List UInt8) (c : UInt8) : valL (l ++ [c]) = valL l * 10 + ((c.toNat : Int) - 48) := by simp [valL]
theorem dd_val : ∀ u : Nat, valL (Lib.decDigits u) = u := by
  intro u
  induction u using Nat.strongRecOn with
  | ind u ih =>
    rw [Lib.decDigits]
    split
    · rename_i h
      show (0 : Int) * 10 + (((UInt8.ofNat (48 + u)).toNat : Int) - 48) = u
      rw [u8_dig h]; omega
    · rw [valL_snoc, ih (u / 10) (by omega), u8_dig (by omega)]; omega
theorem dd_head : ∀ u : Nat, 0 < u → ∃ c r, Lib.decDigits u = c :: r ∧ 49 ≤ c.toNat := by
  intro u
  induction u using Nat.strongRecOn with
  | ind u ih =>
    intro h0
    rw [Lib.decDigits]
    split
    · rename_i h
      exact ⟨_, [], rfl, by rw [u8_dig h]; omega⟩
    · obtain ⟨c, r, h1, h2⟩ := ih (u / 10) (by omega) (by omega)
      exact ⟨c, r ++ [UInt8.ofNat (48 + u % 10)], by rw [h1]; rfl, h2⟩
theorem dd_pos (u : Nat) : 0 < (Lib.decDigits u).length := by
  rw [Lib.decDigits]
  split
  · exact Nat.one_pos
  · rw [List.length_append]; simp
theorem byt_mk {l : List UInt8} {j : Nat} (h : j < l.length) : byt ⟨l.toArray⟩ j = ((l[j]).toNat : Int) := by
  have h1 : j < (⟨l.toArray⟩ : ByteArray).size := by show j < l.toArray.size; simpa using h
  rw [← byt_at h1]
  rfl
theorem size_mk (l : List UInt8) : (⟨l.toArray⟩ : ByteArray).size = l.length := by show l.toArray.size = _; simp
theorem numv_list (l : List UInt8) : ∀ k, k ≤ l.length → numv ⟨l.toArray⟩ 0 k = valL (l.take k)
  | 0, _ => by simp [numv, valL]
  | k + 1, h => by
    simp only [numv]
    rw [numv_list l k (by omega), Nat.zero_add, byt_mk (by omega), List.take_succ_eq_append_getElem (by omega), valL_snoc]
section
variable {P : Program} {l : List (Nat × Value)} {w w0 : World} {F : Nat → Prop} {L : List Ck} {ty src dst : TypeId} {x : Operand}
end
end
section
structure Toks (X : List Tok) : Prop where
  pos : 0 < X.length
  next : ∀ j, j < X.length → (X.getD j tz).k ≠ 3 → j + 1 < X.length
  len : X.length ≤ 1000000
  kinds : ∀ j, j < X.length → (X.getD j tz).k = 1 ∨ (X.getD j tz).k = 2 ∨ (X.getD j tz).k = 3
  num : ∀ j, 0 ≤ (X.getD j tz).n
  two : ∀ j, (X.getD j tz).k = 2 → (X.getD j tz).x = ⟨#[]⟩
def numN (t : Tok) (most : Int) : Int := if t.k = 3 then 0 else if t.k = 1 then 0 else if most < t.n then 0 else t.n
def numR (t : Tok) (most : Int) : Int := if t.k = 3 then 6 else if t.k = 1 then 4 else if most < t.n then 5 else 0
def nxJ (j : Nat) (e : Int) : Nat := if e = 0 then j + 1 else j
theorem numR_end {t : Tok} {m : Int} (h : t.k = 3) : numR t m = 6 ∧ numN t m = 0 := ⟨if_pos h, if_pos h⟩
theorem numR_word {t : Tok} {m : Int} (h : ¬ t.k = 3) (g : t.k = 1) : numR t m = 4 ∧ numN t m = 0 := by unfold numR numN; rw [if_neg h, if_neg h, if_pos g, if_pos g]; exact ⟨rfl, rfl⟩
theorem numR_big {t : Tok} {m : Int} (h : ¬ t.k = 3) (g : ¬ t.k = 1) (l : m < t.n) : numR t m = 5 ∧ numN t m = 0 := by unfold numR numN; rw [if_neg h, if_neg h, if_neg g, if_neg g, if_pos l, if_pos l]; exact ⟨rfl, rfl⟩
theorem numR_ok {t : Tok} {m : Int} (h : ¬ t.k = 3) (g : ¬ t.k = 1) (l : ¬ m < t.n) : numR t m = 0 ∧ numN t m = t.n := by unfold numR numN; rw [if_neg h, if_neg h, if_neg g, if_neg g, if_neg l, if_neg l]; exact ⟨rfl, rfl⟩
theorem Toks.ok {X : List Tok} (h : Toks X) {j : Nat} (hj : j < X.length) {m : Int} (e : numR (X.getD j tz) m = 0) : j + 1 < X.length := by
  refine h.next j hj (fun k => ?_)
  rw [(numR_end k).1] at e; cases e
def cntR (t : Tok) (most : Int) : Int := if numR t most = 0 ∧ numN t most = 0 then 1 else numR t most
theorem cntR_pos {t : Tok} {m : Int} (h : numR t m = 0 ∧ numN t m = 0) : cntR t m = 1 := if_pos h
theorem cntR_neg {t : Tok} {m : Int} (h : ¬ (numR t m = 0 ∧ numN t m = 0)) : cntR t m = numR t m := if_neg h
def endR (t : Tok) : Int := if t.k ≠ 3 then 7 else 0
def wdI (t : Tok) : List ByteArray → Int → Int × Int
  | [], _ => (0, 3)
  | a :: l, i => if t.k = 1 ∧ t.x = a then (i, 0) else wdI t l (i + 1)
def wordR (t : Tok) (l : List ByteArray) : Int × Int := if t.k = 3 then (0, 6) else wdI t l 0
theorem wordR_end {t : Tok} {l : List ByteArray} (h : t.k = 3) : wordR t l = (0, 6) := if_pos h
theorem wordR_in {t : Tok} {l : List ByteArray} (h : ¬ t.k = 3) : wordR t l = wdI t l 0 := if_neg h
theorem wdI_hit {t : Tok} {a : ByteArray} {l : List ByteArray} {i : Int} (h : t.k = 1 ∧ t.x = a) : wdI t (a :: l) i = (i, 0) := if_pos h
theorem wdI_miss {t : Tok} {a : ByteArray} {l : List ByteArray} {i : Int} (h : ¬ (t.k = 1 ∧ t.x = a)) : wdI t (a :: l) i = wdI t l (i + 1) := if_neg h
end
section
theorem numN_eq {t : Tok} {m : Int} (h : numR t m = 0) : numN t m = t.n ∧ t.k ≠ 3 ∧ t.k ≠ 1 ∧ t.n ≤ m := by
  unfold numR at h
  split at h
  · cases h
  · rename_i g1
    split at h
    · cases h
    · rename_i g2
      split at h
      · cases h
      · rename_i g3
        exact ⟨(numR_ok g1 g2 g3).2, g1, g2, by omega⟩
def fsx (f : Nat → Int) : Nat → Nat
  | 0 => 0
  | m + 1 => if fsx f m < m then fsx f m else if f m ≠ 0 then m else m + 1
theorem fsx_le (f : Nat → Int) : ∀ m, fsx f m ≤ m
  | 0 => Nat.le_refl _
  | m + 1 => by have := fsx_le f m; unfold fsx; (repeat' split) <;> omega
theorem fsx_all {f : Nat → Int} : ∀ {m : Nat}, (∀ q, q < m → f q = 0) → fsx f m = m
  | 0, _ => rfl
  | m + 1, h => by
    have := fsx_all (f := f) (m := m) (fun q hq => h q (by omega))
    unfold fsx
    rw [if_neg (by omega), if_neg (fun hn => hn (h m (by omega)))]
theorem fsx_hit {f : Nat → Int} {q : Nat} (h : ∀ r, r < q → f r = 0) (hq : f q ≠ 0) : ∀ {m : Nat}, q < m → fsx f m = q
  | 0, hm => absurd hm (Nat.not_lt_zero _)
  | m + 1, hm => by
    unfold fsx
    rcases Nat.lt_or_ge q m with g | g
    · rw [fsx_hit h hq g, if_pos g]
    · obtain rfl : q = m := by omega
      rw [fsx_all h, if_neg (by omega), if_pos hq]
theorem fsx_spec (f : Nat → Int) : ∀ m, (∀ r, r < fsx f m → f r = 0) ∧ (fsx f m < m → f (fsx f m) ≠ 0)
  | 0 => ⟨fun r h => absurd h (Nat.not_lt_zero _), fun h => absurd h (Nat.not_lt_zero _)⟩
  | m + 1 => by
    obtain ⟨h1, h2⟩ := fsx_spec f m
    have h3 := fsx_le f m
    unfold fsx
    split
    · rename_i g; exact ⟨h1, fun _ => h2 g⟩
    · rename_i g
      have e : fsx f m = m := by omega
      rw [e] at h1
      split
      · rename_i g2; exact ⟨h1, fun _ => g2⟩
      · rename_i g2
        refine ⟨fun r hr => ?_, fun h => absurd h (by omega)⟩
        rcases Nat.lt_succ_iff_lt_or_eq.1 hr with g3 | g3
        · exact h1 r g3
        · subst g3; exact Decidable.not_not.1 g2
def nuE (d : Bool) (t : Tok) : Int := if numR t 2147483647 = 0 ∧ d = true ∧ numN t 2147483647 ≠ 0 then 8 else numR t 2147483647
theorem nuE_num {d : Bool} {t : Tok} (h : numR t 2147483647 ≠ 0) : nuE d t = numR t 2147483647 := if_neg (fun g => h g.1)
theorem nuE_form {d : Bool} {t : Tok} (h : numR t 2147483647 = 0) (g : d = true) (l : numN t 2147483647 ≠ 0) : nuE d t = 8 := if_pos ⟨h, g, l⟩
theorem nuE_ok {d : Bool} {t : Tok} (h : numR t 2147483647 = 0) (g : ¬ (d = true ∧ numN t 2147483647 ≠ 0)) : nuE d t = 0 := by unfold nuE; rw [if_neg (fun q => g q.2), h]
theorem nuE_zero {d : Bool} {t : Tok} (h : nuE d t = 0) : numR t 2147483647 = 0 ∧ (d = true → numN t 2147483647 = 0) := by
  unfold nuE at h
  split at h
  · cases h
  · rename_i g; exact ⟨h, fun hd => Classical.byContradiction fun hn => g ⟨h, hd, hn⟩⟩
def nuR (f : Nat → Bool) (X : List Tok) (j m : Nat) : Int × Nat :=
  if fsx (fun q => nuE (f q) (X.getD (j + q) tz)) m < m then (nuE (f (fsx (fun q => nuE (f q) (X.getD (j + q) tz)) m)) (X.getD (j + fsx (fun q => nuE (f q) (X.getD (j + q) tz)) m) tz), j + fsx (fun q => nuE (f q) (X.getD (j + q) tz)) m) else (0, j + m)
theorem nuR_bad {f : Nat → Bool} {X : List Tok} {j m q : Nat} (h : ∀ r, r < q → nuE (f r) (X.getD (j + r) tz) = 0) (hq : nuE (f q) (X.getD (j + q) tz) ≠ 0) (hm : q < m) : nuR f X j m = (nuE (f q) (X.getD (j + q) tz), j + q) := by
  unfold nuR
  rw [fsx_hit (f := fun q => nuE (f q) (X.getD (j + q) tz)) h hq hm, if_pos hm]
theorem nuR_ok {f : Nat → Bool} {X : List Tok} {j m : Nat} (h : ∀ r, r < m → nuE (f r) (X.getD (j + r) tz) = 0) : nuR f X j m = (0, j + m) := by
  unfold nuR
  rw [fsx_all (f := fun q => nuE (f q) (X.getD (j + q) tz)) h, if_neg (by omega)]
theorem nuR_zero {f : Nat → Bool} {X : List Tok} {j m : Nat} (h : (nuR f X j m).1 = 0) : (∀ r, r < m → nuE (f r) (X.getD (j + r) tz) = 0) ∧ nuR f X j m = (0, j + m) := by
  have hs := fsx_spec (fun q => nuE (f q) (X.getD (j + q) tz)) m
  unfold nuR at h ⊢
  split at h
  · rename_i g; exact absurd h (hs.2 g)
  · rename_i g
    have e := fsx_le (fun q => nuE (f q) (X.getD (j + q) tz)) m
    have e2 : fsx (fun q => nuE (f q) (X.getD (j + q) tz)) m = m := by omega
    rw [e2] at hs
    exact ⟨hs.1, if_neg g⟩
theorem scan_toks {s : ByteArray} (he : (scan s).2.2 = 0) (hl : (scan s).1.length ≤ 1000000) : Toks (scan s).1 := by
  obtain ⟨h0, h1⟩ := scan_last he
  have hj : ∀ j, j < (scan s).1.length → ((scan s).1.getD j tz).k = 3 ∧ j + 1 = (scan s).1.length ∧ (scan s).1.getD j tz = tend s ∨ (∃ A d, TK s ((scan s).1.getD j tz) A d) ∧ j + 1 < (scan s).1.length := fun j hj => by
    rcases Nat.lt_or_ge (j + 1) (scan s).1.length with g | g
    · obtain ⟨A, d, h2, -⟩ := scan_TJ he g; exact .inr ⟨⟨A, d, h2⟩, g⟩
    · have e : (scan s).1.getD j tz = tend s := by rw [← h1]; congr 1; omega
      exact .inl ⟨by rw [e]; rfl, by omega, e⟩
  have ho : ∀ j, ¬ j < (scan s).1.length → (scan s).1.getD j tz = tz := fun j hj => by rw [List.getD_eq_getElem?_getD, List.getElem?_eq_none (by omega)]; rfl
  refine ⟨h0, fun j h hk => ?_, hl, fun j h => ?_, fun j => ?_, fun j hk => ?_⟩
  · rcases hj j h with g | g
    · exact absurd g.1 hk
    · exact g.2
  · rcases hj j h with g | ⟨⟨A, d, g⟩, -⟩
    · exact .inr (.inr g.1)
    · rcases g.2.2.2.2 with q | q
      · exact .inl q.1
      · exact .inr (.inl q.1)
  · by_cases h : j < (scan s).1.length
    · rcases hj j h with g | ⟨⟨A, d, g⟩, -⟩
      · rw [g.2.2]; exact Int.le_refl _
      · rcases g.2.2.2.2 with q | q
        · rw [q.2.2.2.2]; exact Int.le_refl _
        · rw [q.2.2.2.2.2]
          exact (numv_bd (fun j hj => dig_kb.2 (q.2.1 j hj))).1
    · rw [ho j h]; exact Int.le_refl _
  · by_cases h : j < (scan s).1.length
    · rcases hj j h with g | ⟨⟨A, d, g⟩, -⟩
      · rw [g.1] at hk; cases hk
      · rcases g.2.2.2.2 with q | q
        · rw [q.1] at hk; cases hk
        · exact q.2.2.2.2.1
    · rw [ho j h]; rfl
def ff : Nat → Bool := fun _ => false
def dgk (kd : Int) (n q : Nat) : Bool := decide (kd = 3 ∧ q % (n + 1) = 0)
theorem dg_iff {n a b : Nat} (ha : a < n) (hb : b < n) : (a * n + b) % (n + 1) = 0 ↔ a = b := by
  rcases Nat.lt_or_ge b a with g | g
  · obtain ⟨d, rfl⟩ : ∃ d, a = b + d + 1 := ⟨a - b - 1, by omega⟩
    have e : (b + d + 1) * n + b = (n - d) + (n + 1) * (b + d) := by
      have e1 : (b + d + 1) * n = (b + d) * n + n := by rw [Nat.add_mul, Nat.one_mul]
      have e2 : (n + 1) * (b + d) = (b + d) * n + (b + d) := by rw [Nat.add_mul, Nat.one_mul, Nat.mul_comm]
      rw [e1, e2]; omega
    rw [e, Nat.add_mul_mod_self_left, Nat.mod_eq_of_lt (by omega)]; omega
  · obtain ⟨d, rfl⟩ : ∃ d, b = a + d := ⟨b - a, by omega⟩
    have e : a * n + (a + d) = d + (n + 1) * a := by rw [Nat.add_mul, Nat.one_mul, Nat.mul_comm]; omega
    rw [e, Nat.add_mul_mod_self_left, Nat.mod_eq_of_lt (by omega)]; omega
def ctN (X : List Tok) (j : Nat) (most : Int) : Nat := (numN (X.getD j tz) most).toNat
def itR (X : List Tok) (j : Nat) : Int × Nat := if cntR (X.getD j tz) 64 ≠ 0 then (cntR (X.getD j tz) 64, j) else nuR ff X (j + 1) (1 + 2 * ctN X j 64)
def asR (X : List Tok) (j : Nat) : Int × Nat := if cntR (X.getD j tz) 24 ≠ 0 then (cntR (X.getD j tz) 24, j) else nuR ff X (j + 1) (ctN X j 24 * ctN X j 24)
def W3 : List ByteArray := [⟨#[75, 78, 65, 80, 83, 65, 67, 75]⟩, ⟨#[65, 83, 83, 73, 71, 78, 77, 69, 78, 84]⟩, ⟨#[84, 83, 80]⟩]
def W2 : List ByteArray := [⟨#[70, 85, 76, 76]⟩, ⟨#[85, 80, 80, 69, 82]⟩]
def offH (n : Nat) : Nat → Nat
  | 0 => 0
  | a + 1 => offH n a + (n - 1 - a)
def hlf (n : Nat) : Nat := offH n n
def toR (X : List Tok) (j : Nat) : Int × Nat :=
  if cntR (X.getD j tz) 24 ≠ 0 then (cntR (X.getD j tz) 24, j) else if (wordR (X.getD (j + 1) tz) W2).2 ≠ 0 then ((wordR (X.getD (j + 1) tz) W2).2, j + 1)
  else if (wordR (X.getD (j + 1) tz) W2).1 = 0 then nuR (dgk 3 (ctN X j 24)) X (j + 2) (ctN X j 24 * ctN X j 24) else nuR ff X (j + 2) (hlf (ctN X j 24))
def bodR (X : List Tok) (kd : Int) (j : Nat) : Int × Nat := if kd = 1 then itR X j else if kd = 3 then toR X j else asR X j
def finR (X : List Tok) (r : Int × Nat) : Int × Nat := if r.1 ≠ 0 then r else (endR (X.getD r.2 tz), r.2)
def pbR (X : List Tok) : Int × Nat :=
  if (wordR (X.getD 0 tz) W3).2 ≠ 0 then ((wordR (X.getD 0 tz) W3).2, 0) else finR X (bodR X ((wordR (X.getD 0 tz) W3).1 + 1) 1)
def mat (n : Nat) (g : Nat → Nat → Int) : List (List Int) := (List.range n).map fun r => (List.range n).map (g r)
theorem mat_len (n : Nat) (g : Nat → Nat → Int) : (mat n g).length = n := by simp [mat]
theorem mat_row {n : Nat} {g : Nat → Nat → Int} {r : Nat} (h : r < n) : (mat n g).getD r [] = (List.range n).map (g r) := by simp [mat, List.getD, h]
theorem mat_congr {n : Nat} {g h : Nat → Nat → Int} (e : ∀ r c, r < n → c < n → g r c = h r c) : mat n g = mat n h :=
  List.map_congr_left fun r hr => List.map_congr_left fun c hc => e r c (List.mem_range.1 hr) (List.mem_range.1 hc)
theorem range_set {n : Nat} {g : Nat → Int} {c : Nat} {x : Int} : ((List.range n).map g).set c x = (List.range n).map fun q => if q = c then x else g q := by
  refine List.ext_getElem (by simp) (fun i h1 h2 => ?_)
  simp only [List.getElem_set, List.getElem_map, List.getElem_range]
  by_cases h : c = i
  · rw [if_pos h, if_pos h.symm]
  · rw [if_neg h, if_neg (fun q => h q.symm)]
theorem mat_set {n : Nat} {g : Nat → Nat → Int} {a b : Nat} {x : Int} : (mat n g).set a (((List.range n).map (g a)).set b x) = mat n fun r c => if r = a ∧ c = b then x else g r c := by
  rw [range_set]
  refine List.ext_getElem (by simp [mat]) (fun i h1 h2 => ?_)
  simp only [mat, List.getElem_set, List.getElem_map, List.getElem_range]
  by_cases h : a = i
  · subst h; rw [if_pos rfl]
    refine List.map_congr_left fun c _ => ?_
    by_cases h3 : c = b
    · rw [if_pos h3, if_pos ⟨rfl, h3⟩]
    · rw [if_neg h3, if_neg (fun q => h3 q.2)]
  · rw [if_neg h]
    refine List.map_congr_left fun c _ => ?_
    rw [if_neg (fun q => h q.1.symm)]
def vl (X : List Tok) (j q : Nat) : Int := (X.getD (j + q) tz).n
def rwI (X : List Tok) (j n : Nat) : Nat → Nat → Int := fun r c => vl X j (r * n + c)
def hxI (n r c : Nat) : Nat := offH n (min r c) + (max r c - min r c - 1)
def hfI (X : List Tok) (j n : Nat) : Nat → Nat → Int := fun r c => if r = c then 0 else vl X j (hxI n r c)
def itI (X : List Tok) (j n : Nat) : List Int := (List.range n).map fun k => vl X j (2 * k)
theorem itI_snoc (X : List Tok) (j k : Nat) : itI X j k ++ [vl X j (2 * k)] = itI X j (k + 1) := by simp [itI, List.range_succ]
theorem itI_len (X : List Tok) (j k : Nat) : (itI X j k).length = k := by simp [itI]
def insZ : Ins := ⟨0, 0, 0, [], [], []⟩
def bodI (X : List Tok) (kd : Int) (j : Nat) : Ins :=
  if kd = 1 then ⟨1, ctN X j 64, vl X (j + 1) 0, itI X (j + 2) (ctN X j 64), itI X (j + 3) (ctN X j 64), []⟩
  else if kd = 3 then ⟨3, ctN X j 24, 0, [], [], mat (ctN X j 24) (if (wordR (X.getD (j + 1) tz) W2).1 = 0 then rwI X (j + 2) (ctN X j 24) else hfI X (j + 2) (ctN X j 24))⟩
  else ⟨2, ctN X j 24, 0, [], [], mat (ctN X j 24) (rwI X (j + 1) (ctN X j 24))⟩
def pbI (X : List Tok) : Ins := bodI X ((wordR (X.getD 0 tz) W3).1 + 1) 1
def prs (s : ByteArray) : Ins × Int × Int :=
  if (scan s).2.2 ≠ 0 then (insZ, (scan s).2.1, (scan s).2.2)
  else if (pbR (scan s).1).1 ≠ 0 then (insZ, ((scan s).1.getD (pbR (scan s).1).2 tz).a, (pbR (scan s).1).1) else (pbI (scan s).1, 0, 0)
end
end Go.Proofs.YtakfcekfmdjklaaDoor
namespace Go.Proofs.YtakfcekfmdjklaaDoor
theorem nxJ_ok {j : Nat} {e : Int} (h : e = 0) : nxJ j e = j + 1 := if_pos h
theorem Toks.ct {X : List Tok} (hX : Toks X) {j : Nat} {m : Int} (h : cntR (X.getD j tz) m = 0) :
    ∃ n : Nat, numN (X.getD j tz) m = (n : Int) ∧ ctN X j m = n ∧ 1 ≤ n ∧ (n : Int) ≤ m ∧ numR (X.getD j tz) m = 0 := by
  have h0 : numR (X.getD j tz) m = 0 := by
    unfold cntR at h; split at h
    · cases h
    · exact h
  obtain ⟨e1, -, -, e2⟩ := numN_eq h0
  have e3 : numN (X.getD j tz) m ≠ 0 := fun hn => by rw [cntR_pos ⟨h0, hn⟩] at h; cases h
  have e4 := hX.num j
  refine ⟨(numN (X.getD j tz) m).toNat, ?_, rfl, ?_, ?_, h0⟩
  · rw [e1]; omega
  · rw [e1] at e3 ⊢; omega
  · rw [e1]; omega
theorem nuR_badP {f : Nat → Bool} {X : List Tok} {j m q p : Nat} (h : ∀ r, r < q → nuE (f r) (X.getD (j + r) tz) = 0) (hp : p = j + q) (hq : numR (X.getD p tz) 2147483647 ≠ 0) (hm : q < m) : nuR f X j m = (numR (X.getD p tz) 2147483647, p) := by
  subst hp
  have e := nuE_num (d := f q) hq
  rw [nuR_bad h (by rw [e]; exact hq) hm, e]
theorem nuR_badF {f : Nat → Bool} {X : List Tok} {j m q p : Nat} (h : ∀ r, r < q → nuE (f r) (X.getD (j + r) tz) = 0) (hp : p = j + q) (h0 : numR (X.getD p tz) 2147483647 = 0) (hf : f q = true) (hn : numN (X.getD p tz) 2147483647 ≠ 0) (hm : q < m) : nuR f X j m = (8, p) := by
  subst hp
  have e := nuE_form h0 hf hn
  rw [nuR_bad h (by rw [e]; decide) hm, e]
theorem nuE_step {f : Nat → Bool} {X : List Tok} {j q p : Nat} (h : ∀ r, r < q → nuE (f r) (X.getD (j + r) tz) = 0) (hp : p = j + q) (h0 : numR (X.getD p tz) 2147483647 = 0) (hf : ¬ (f q = true ∧ numN (X.getD p tz) 2147483647 ≠ 0)) : ∀ r, r < q + 1 → nuE (f r) (X.getD (j + r) tz) = 0 := fun r hr => by
  rcases Nat.lt_succ_iff_lt_or_eq.1 hr with g | g
  · exact h r g
  · subst g; subst hp; exact nuE_ok h0 hf
theorem ff_no {q : Nat} {p : Prop} : ¬ (ff q = true ∧ p) := fun h => by cases h.1
theorem dgk_no {kd : Int} {n : Nat} (h : ¬ kd = 3) : dgk kd n = ff := funext fun q => decide_eq_false fun g => h g.1
theorem itR_cnt {X : List Tok} {j : Nat} (h : cntR (X.getD j tz) 64 ≠ 0) : itR X j = (cntR (X.getD j tz) 64, j) := if_pos h
theorem itR_num {X : List Tok} {j n : Nat} (h : cntR (X.getD j tz) 64 = 0) (hn : ctN X j 64 = n) : itR X j = nuR ff X (j + 1) (1 + 2 * n) := by unfold itR; rw [if_neg (not_not_intro h), hn]
theorem asR_cnt {X : List Tok} {j : Nat} (h : cntR (X.getD j tz) 24 ≠ 0) : asR X j = (cntR (X.getD j tz) 24, j) := if_pos h
theorem asR_num {X : List Tok} {j n : Nat} (h : cntR (X.getD j tz) 24 = 0) (hn : ctN X j 24 = n) : asR X j = nuR ff X (j + 1) (n * n) := by unfold asR; rw [if_neg (not_not_intro h), hn]
theorem toR_cnt {X : List Tok} {j : Nat} (h : cntR (X.getD j tz) 24 ≠ 0) : toR X j = (cntR (X.getD j tz) 24, j) := if_pos h
theorem toR_word {X : List Tok} {j : Nat} (h : cntR (X.getD j tz) 24 = 0) (g : (wordR (X.getD (j + 1) tz) W2).2 ≠ 0) : toR X j = ((wordR (X.getD (j + 1) tz) W2).2, j + 1) := by unfold toR; rw [if_neg (not_not_intro h), if_pos g]
theorem toR_full {X : List Tok} {j n : Nat} (h : cntR (X.getD j tz) 24 = 0) (hn : ctN X j 24 = n) (g : (wordR (X.getD (j + 1) tz) W2).2 = 0) (l : (wordR (X.getD (j + 1) tz) W2).1 = 0) : toR X j = nuR (dgk 3 n) X (j + 2) (n * n) := by unfold toR; rw [if_neg (not_not_intro h), if_neg (not_not_intro g), if_pos l, hn]
theorem toR_half {X : List Tok} {j n : Nat} (h : cntR (X.getD j tz) 24 = 0) (hn : ctN X j 24 = n) (g : (wordR (X.getD (j + 1) tz) W2).2 = 0) (l : ¬ (wordR (X.getD (j + 1) tz) W2).1 = 0) : toR X j = nuR ff X (j + 2) (hlf n) := by unfold toR; rw [if_neg (not_not_intro h), if_neg (not_not_intro g), if_neg l, hn]
theorem idx_lt {a b n : Nat} (ha : a < n) (hb : b < n) : a * n + b < n * n := by
  have : (a + 1) * n ≤ n * n := Nat.mul_le_mul_right n ha
  rw [Nat.add_mul, Nat.one_mul] at this; omega
theorem mat_setRow {n a : Nat} {g : Nat → Nat → Int} {h : Nat → Int} : (mat n g).set a ((List.range n).map h) = mat n fun r c => if r = a then h c else g r c := by
  refine List.ext_getElem (by simp [mat]) (fun i h1 h2 => ?_)
  simp only [mat, List.getElem_set, List.getElem_map, List.getElem_range]
  by_cases e : a = i
  · subst e; rw [if_pos rfl]
    exact List.map_congr_left fun c _ => (if_pos rfl).symm
  · rw [if_neg e]
    exact List.map_congr_left fun c _ => (if_neg fun q => e q.symm).symm
theorem row_of {rs : List OwR} {n a : Nat} {g : Nat → Nat → Int} (hY : rs.map (·.Y) = mat n g) (ha : a < n) : ∃ Y b c, rs[a]? = some ⟨Y, b, c⟩ ∧ Y = (List.range n).map (g a) ∧ Y.length = n := by
  have hl : rs.length = n := by have := congrArg List.length hY; simpa [mat] using this
  have e1 : (rs.map (·.Y))[a]? = some ((List.range n).map (g a)) := by rw [hY]; simp [mat, ha]
  rw [List.getElem?_map, List.getElem?_eq_getElem (by omega)] at e1
  have e2 : rs[a].Y = (List.range n).map (g a) := by simpa using e1
  exact ⟨rs[a].Y, rs[a].a, rs[a].c, List.getElem?_eq_getElem (by omega), e2, by rw [e2]; simp⟩
theorem rows_len {rs : List OwR} {n : Nat} {g : Nat → Nat → Int} (hY : rs.map (·.Y) = mat n g) : rs.length = n := by have := congrArg List.length hY; simpa [mat] using this
theorem rows_setRow {rs : List OwR} {n a : Nat} {g : Nat → Nat → Int} {u : OwR} {h : Nat → Int} (hY : rs.map (·.Y) = mat n g) (hu : u.Y = (List.range n).map h) : (rs.set a u).map (·.Y) = mat n fun r c => if r = a then h c else g r c := by
  rw [List.map_set, hY, hu, mat_setRow]
theorem rows_setCell {rs : List OwR} {n a b : Nat} {g : Nat → Nat → Int} {u : OwR} {x : Int} (hY : rs.map (·.Y) = mat n g) (hu : u.Y = ((List.range n).map (g a)).set b x) : (rs.set a u).map (·.Y) = mat n fun r c => if r = a ∧ c = b then x else g r c := by
  rw [List.map_set, hY, hu, mat_set]
theorem orV_of {rs : List OwR} {i : Nat} {Y : List Int} {a : Option Addr} {c : Nat} (h : rs[i]? = some ⟨Y, a, c⟩) : (rs.map orV)[i]? = some (.slice a Y.length c) := by rw [List.getElem?_map, h]; rfl
theorem setV {rs : List OwR} {i : Nat} {o u : OwR} (h : rs[i]? = some o) (hu : orV u = orV o) : (rs.set i u).map orV = rs.map orV := by
  obtain ⟨hi, rfl⟩ := List.getElem?_eq_some_iff.1 h
  rw [List.map_set, hu]
  have : (rs.map orV)[i]'(by simpa using hi) = orV rs[i] := by simp
  rw [← this, List.set_getElem_self]
theorem nils_set {rs : List OwR} {n k : Nat} {o : OwR} (hl : rs.length = k) (hk : k < n) : (rs.map orV ++ nils (n - k)).set k (orV o) = (rs ++ [o]).map orV ++ nils (n - (k + 1)) := by
  rw [List.set_append_right _ _ (by simp [hl]), List.length_map, hl, Nat.sub_self]
  have : nils (n - k) = .slice none 0 0 :: nils (n - (k + 1)) := by
    unfold nils; rw [show n - k = (n - (k + 1)) + 1 by omega]; rfl
  rw [this, List.set_cons_zero, List.map_append, List.append_assoc]; rfl
section
variable {w0 w : World} {F : Nat → Prop} {L : List Ck} {e : TypeId} {b n : Nat} {l : List Value}
theorem Mem.eqL {L2 : List Ck} (h : Mem w0 F L w) (he : L = L2) : Mem w0 F L2 w := he ▸ h
theorem Mem.ptVals (h : Mem w0 F (pt b (vals l) e :: L) w) (hl : l.length = n) (hm : n ≤ 1000000) : Mem w0 F (own e 1 (.slice (some ⟨b, 0, none⟩) n n) n l :: L) w :=
  h.ownPt (cap := n) (n := n) (sz := 1) (xs := l) (by simp [vals, hl]) (Nat.le_trans hm (by decide)) (Nat.le_refl _) (by simp [vals, ← hl])
end
theorem rep_mat (n : Nat) : List.replicate n (List.replicate n (0 : Int)) = mat n fun _ _ => 0 := by
  unfold mat
  refine List.ext_getElem (by simp) (fun i h1 h2 => ?_)
  simp only [List.getElem_replicate, List.getElem_map]
  exact List.ext_getElem (by simp) (fun q h3 h4 => by simp)
theorem offH_mono (n : Nat) {a b : Nat} (h : a ≤ b) : offH n a ≤ offH n b := by
  induction b with
  | zero => obtain rfl : a = 0 := by omega
            exact Nat.le_refl _
  | succ b ih =>
    rcases Nat.lt_or_ge b a with g | g
    · obtain rfl : a = b + 1 := by omega
      exact Nat.le_refl _
    · have := ih g; show offH n a ≤ offH n b + _; omega
theorem hxI_lt {n r c : Nat} (h : r < c) (hc : c < n) : hxI n r c = offH n r + (c - r - 1) := by
  unfold hxI; rw [Nat.min_eq_left (by omega), Nat.max_eq_right (by omega)]
theorem hxI_comm (n r c : Nat) : hxI n r c = hxI n c r := by unfold hxI; rw [Nat.min_comm, Nat.max_comm]
theorem hxI_cmp {n r c a b : Nat} (h : r < c) (hc : c < n) (hab : a < b) (hb : b < n) : (hxI n r c < hxI n a b ↔ r < a ∨ r = a ∧ c < b) ∧ (hxI n r c = hxI n a b ↔ r = a ∧ c = b) := by
  rw [hxI_lt h hc, hxI_lt hab hb]
  have e1 : offH n (r + 1) = offH n r + (n - 1 - r) := rfl
  have e2 : offH n (a + 1) = offH n a + (n - 1 - a) := rfl
  rcases Nat.lt_trichotomy r a with g | g | g
  · have := offH_mono n (show r + 1 ≤ a from g)
    constructor <;> omega
  · subst g; constructor <;> omega
  · have := offH_mono n (show a + 1 ≤ r from g)
    constructor <;> omega
theorem hxI_hlf {n a b : Nat} (hab : a < b) (hb : b < n) : hxI n a b < hlf n := by
  rw [hxI_lt hab hb]
  have e2 : offH n (a + 1) = offH n a + (n - 1 - a) := rfl
  have := offH_mono n (show a + 1 ≤ n by omega)
  unfold hlf; omega
def hfQ (X : List Tok) (j n q : Nat) : Nat → Nat → Int := fun r c => if r = c then 0 else if hxI n r c < q then vl X j (hxI n r c) else 0
theorem hfQ_step {X : List Tok} {j n a b : Nat} (hab : a < b) (hb : b < n) : mat n (fun r c => if r = b ∧ c = a then vl X j (hxI n a b) else if r = a ∧ c = b then vl X j (hxI n a b) else hfQ X j n (hxI n a b) r c) = mat n (hfQ X j n (hxI n a b + 1)) := by
  refine mat_congr fun r c hr hc => ?_
  unfold hfQ
  by_cases h1 : r = b ∧ c = a
  · rw [if_pos h1, if_neg (by omega), h1.1, h1.2, hxI_comm n b a, if_pos (by omega)]
  · rw [if_neg h1]
    by_cases h2 : r = a ∧ c = b
    · rw [if_pos h2, if_neg (by omega), h2.1, h2.2, if_pos (by omega)]
    · rw [if_neg h2]
      by_cases h3 : r = c
      · rw [if_pos h3, if_pos h3]
      · rw [if_neg h3, if_neg h3]
        have key : hxI n r c ≠ hxI n a b := fun e => by
          rcases Nat.lt_or_ge r c with g | g
          · exact h2 ((hxI_cmp g hc hab hb).2.1 e)
          · rw [hxI_comm] at e
            exact h1 (by have := (hxI_cmp (show c < r by omega) hr hab hb).2.1 e; omega)
        by_cases h4 : hxI n r c < hxI n a b
        · rw [if_pos h4, if_pos (by omega)]
        · rw [if_neg h4, if_neg (by omega)]
theorem hfQ_zero (X : List Tok) (j n : Nat) : (mat n fun _ _ => 0) = mat n (hfQ X j n 0) := mat_congr fun r c _ _ => by
  unfold hfQ; rw [if_neg (Nat.not_lt_zero (hxI n r c)), ite_self]
theorem hfQ_all (X : List Tok) (j n : Nat) : mat n (hfQ X j n (hlf n)) = mat n (hfI X j n) := mat_congr fun r c hr hc => by
  unfold hfQ hfI
  by_cases h : r = c
  · rw [if_pos h, if_pos h]
  · rw [if_neg h, if_neg h]
    rcases Nat.lt_or_ge r c with g | g
    · rw [if_pos (hxI_hlf g hc)]
    · rw [hxI_comm, if_pos (hxI_hlf (by omega) hr)]
theorem rwQ_step {X : List Tok} {j n a b : Nat} {Y : List Int} {v : Int} (hY : Y = (List.range n).map fun c => if c < b then vl X j (a * n + c) else 0) (hv : v = vl X j (a * n + b)) : Y.set b v = (List.range n).map fun c => if c < b + 1 then vl X j (a * n + c) else 0 := by
  rw [hY, range_set]
  refine List.map_congr_left fun c _ => ?_
  by_cases h : c = b
  · rw [if_pos h, if_pos (by omega), hv, h]
  · rw [if_neg h]
    by_cases g : c < b
    · rw [if_pos g, if_pos (by omega)]
    · rw [if_neg g, if_neg (by omega)]
def rwQ (X : List Tok) (j n a : Nat) : Nat → Nat → Int := fun r c => if r < a then vl X j (r * n + c) else 0
theorem rwQ_row {X : List Tok} {j n a : Nat} : (List.range n).map (rwQ X j n a a) = (List.range n).map fun c => if c < 0 then vl X j (a * n + c) else 0 :=
  List.map_congr_left fun c _ => by unfold rwQ; rw [if_neg (Nat.lt_irrefl a), if_neg (Nat.not_lt_zero c)]
theorem rwQ_next {X : List Tok} {j n a : Nat} : (mat n fun r c => if r = a then (if c < n then vl X j (a * n + c) else 0) else rwQ X j n a r c) = mat n (rwQ X j n (a + 1)) := mat_congr fun r c _ hc => by
  unfold rwQ
  by_cases h : r = a
  · rw [if_pos h, if_pos hc, if_pos (by omega), h]
  · rw [if_neg h]
    by_cases g : r < a
    · rw [if_pos g, if_pos (by omega)]
    · rw [if_neg g, if_neg (by omega)]
theorem rwQ_zero (X : List Tok) (j n : Nat) : (mat n fun _ _ => 0) = mat n (rwQ X j n 0) := mat_congr fun r c _ _ => (if_neg (Nat.not_lt_zero r)).symm
theorem rwQ_all (X : List Tok) (j n : Nat) : mat n (rwQ X j n n) = mat n (rwI X j n) := mat_congr fun r c hr _ => if_pos hr
open Go.RowKit
section
variable {w0 w : World} {F : Nat → Prop} {c1 c2 : Ck} {ib : Nat} {t eI eR : TypeId} {G0 G : Ins} {aw av ac : Option Addr} {cw cv cc : Nat} {rs : List OwR}
theorem Mem.packI (hG : G0 = G) (h : Mem w0 F [c1, c2, pt ib #[.int .i64 G0.kind, .int .i64 G0.n, .int .i64 G0.cap, .slice aw G0.wt.length cw, .slice av G0.vl.length cv, .slice ac rs.length cc] t, own eI 1 (.slice aw G0.wt.length cw) G0.wt.length (G0.wt.map (Value.int .i64)), own eI 1 (.slice av G0.vl.length cv) G0.vl.length (G0.vl.map (Value.int .i64)), own eR 1 (.slice ac rs.length cc) rs.length (rs.map orV), bundle (rs.map (orC eI))] w) :
    Mem w0 F [c1, c2, pt ib #[.int .i64 G.kind, .int .i64 G.n, .int .i64 G.cap, .slice aw G.wt.length cw, .slice av G.vl.length cv, .slice ac rs.length cc] t, bundle (insL eI eR G aw cw av cv ac cc rs)] w := by
  subst hG
  have h1 := (((h.front (k := 6) rfl).front (k := 6) rfl).front (k := 6) rfl).front (k := 6) rfl
  have h2 := Mem.pack (cs := insL eI eR G0 aw cw av cv ac cc rs) (L := [c1, c2, pt ib #[.int .i64 G0.kind, .int .i64 G0.n, .int .i64 G0.cap, .slice aw G0.wt.length cw, .slice av G0.vl.length cv, .slice ac rs.length cc] t]) h1
  exact ((h2.front (k := 3) rfl).front (k := 3) rfl).front (k := 3) rfl
end
theorem wordR_rng (t : Tok) (l : List ByteArray) : (wordR t l).2 = 0 → 0 ≤ (wordR t l).1 ∧ (wordR t l).1 < l.length := by
  unfold wordR
  split
  · intro h; cases h
  · have key : ∀ (l : List ByteArray) (i : Int), (wdI t l i).2 = 0 → i ≤ (wdI t l i).1 ∧ (wdI t l i).1 < i + l.length := by
      intro l
      induction l with
      | nil => intro i h; cases h
      | cons x l ih =>
        intro i h
        unfold wdI at h ⊢
        split at h
        · rename_i g; rw [if_pos g]; rw [List.length_cons]; omega
        · rename_i g; rw [if_neg g]; have := ih (i + 1) h; rw [List.length_cons]; omega
    intro h; have := key l 0 h; omega
theorem finR_err {X : List Tok} {r : Int × Nat} (h : r.1 ≠ 0) : finR X r = r := if_pos h
theorem finR_end {X : List Tok} {r : Int × Nat} (h : r.1 = 0) : finR X r = (endR (X.getD r.2 tz), r.2) := if_neg (not_not_intro h)
theorem pbR_word {X : List Tok} (h : (wordR (X.getD 0 tz) W3).2 ≠ 0) : pbR X = ((wordR (X.getD 0 tz) W3).2, 0) := if_pos h
theorem pbR_in {X : List Tok} {kd : Int} (h : (wordR (X.getD 0 tz) W3).2 = 0) (hk : (wordR (X.getD 0 tz) W3).1 + 1 = kd) : pbR X = finR X (bodR X kd 1) := by unfold pbR; rw [if_neg (not_not_intro h), hk]
theorem bodR_it {X : List Tok} {j : Nat} : bodR X 1 j = itR X j := if_pos rfl
theorem bodR_to {X : List Tok} {j : Nat} : bodR X 3 j = toR X j := rfl
theorem bodR_as {X : List Tok} {j : Nat} {kd : Int} (h : ¬ kd = 1) (g : ¬ kd = 3) : bodR X kd j = asR X j := by unfold bodR; rw [if_neg h, if_neg g]
theorem pbI_it {X : List Tok} {n : Nat} (hk : (wordR (X.getD 0 tz) W3).1 + 1 = 1) (hn : ctN X 1 64 = n) : (⟨1, n, (X.getD 2 tz).n, itI X 3 n, itI X 4 n, []⟩ : Ins) = pbI X := by unfold pbI bodI; rw [if_pos hk, hn]; rfl
theorem pbI_full {X : List Tok} {n : Nat} {R : List (List Int)} (hk : (wordR (X.getD 0 tz) W3).1 + 1 = 3) (hn : ctN X 1 24 = n) (hR : R = mat n (if (wordR (X.getD 2 tz) W2).1 = 0 then rwI X 3 n else hfI X 3 n)) : (⟨3, n, 0, [], [], R⟩ : Ins) = pbI X := by unfold pbI bodI; rw [if_neg (by omega), if_pos hk, hn, hR]
theorem pbI_as {X : List Tok} {n : Nat} {R : List (List Int)} {kd : Int} (hk : (wordR (X.getD 0 tz) W3).1 + 1 = kd) (h2 : kd = 2) (hn : ctN X 1 24 = n) (hR : R = mat n (rwI X 2 n)) : (⟨kd, n, 0, [], [], R⟩ : Ins) = pbI X := by unfold pbI bodI; rw [if_neg (by omega), if_neg (by omega), hn, hR, h2]
theorem prs_scan {s : ByteArray} (h : (scan s).2.2 ≠ 0) : prs s = (insZ, (scan s).2.1, (scan s).2.2) := if_pos h
theorem prs_bad {s : ByteArray} (h : (scan s).2.2 = 0) (g : (pbR (scan s).1).1 ≠ 0) : prs s = (insZ, ((scan s).1.getD (pbR (scan s).1).2 tz).a, (pbR (scan s).1).1) := by unfold prs; rw [if_neg (not_not_intro h), if_pos g]
theorem prs_ok {s : ByteArray} (h : (scan s).2.2 = 0) (g : (pbR (scan s).1).1 = 0) : prs s = (pbI (scan s).1, 0, 0) := by unfold prs; rw [if_neg (not_not_intro h), if_neg (not_not_intro g)]
theorem nilI (w : World) : IntSl w (.slice none insZ.wt.length 0) insZ.wt ∧ IntSl w (.slice none insZ.vl.length 0) insZ.vl ∧ RowsV w (.slice none insZ.cost.length 0) insZ.cost := ⟨IntSl.nil w, IntSl.nil w, RowsV.nil w⟩
end Go.Proofs.YtakfcekfmdjklaaDoor
namespace Go.Proofs.YtakfcekfmdjklaaDoor
def wKN : ByteArray := ⟨#[75, 78, 65, 80, 83, 65, 67, 75]⟩
def wAS : ByteArray := ⟨#[65, 83, 83, 73, 71, 78, 77, 69, 78, 84]⟩
def wTS : ByteArray := ⟨#[84, 83, 80]⟩
def wFU : ByteArray := ⟨#[70, 85, 76, 76]⟩
def wUP : ByteArray := ⟨#[85, 80, 80, 69, 82]⟩
theorem w3_kn {t : Tok} (k : t.k = 1) (x : t.x = wKN) : wordR t W3 = (0, 0) := by
  rw [wordR_in (by omega), show W3 = [wKN, wAS, wTS] from rfl, wdI_hit ⟨k, x⟩]
theorem w3_as {t : Tok} (k : t.k = 1) (x : t.x = wAS) : wordR t W3 = (1, 0) := by
  rw [wordR_in (by omega), show W3 = [wKN, wAS, wTS] from rfl, wdI_miss (fun h => by rw [x] at h; exact absurd h.2 (by decide)), wdI_hit ⟨k, x⟩]; rfl
theorem w3_ts {t : Tok} (k : t.k = 1) (x : t.x = wTS) : wordR t W3 = (2, 0) := by
  rw [wordR_in (by omega), show W3 = [wKN, wAS, wTS] from rfl, wdI_miss (fun h => by rw [x] at h; exact absurd h.2 (by decide)), wdI_miss (fun h => by rw [x] at h; exact absurd h.2 (by decide)), wdI_hit ⟨k, x⟩]; rfl
theorem w2_fu {t : Tok} (k : t.k = 1) (x : t.x = wFU) : wordR t W2 = (0, 0) := by
  rw [wordR_in (by omega), show W2 = [wFU, wUP] from rfl, wdI_hit ⟨k, x⟩]
theorem Toks.one {X : List Tok} (h : Toks X) {j : Nat} (hj : j < X.length) (k3 : ¬ (X.getD j tz).k = 3) {y : ByteArray} (hx : (X.getD j tz).x = y) (hy : y ≠ ⟨#[]⟩) : (X.getD j tz).k = 1 := by
  rcases h.kinds j hj with g | g | g
  · exact g
  · exact absurd (hx ▸ h.two j g) hy
  · exact absurd g k3
theorem cnt_0 {t : Tok} {m : Int} (h : ¬ t.k = 3) (g : ¬ t.k = 1) (l : ¬ m < t.n) (z : ¬ t.n = 0) : cntR t m = 0 ∧ numN t m = t.n := by
  obtain ⟨h1, h2⟩ := numR_ok h g l
  exact ⟨by rw [cntR_neg (fun q => z (h2 ▸ q.2)), h1], h2⟩
theorem pb_b {X : List Tok} {kd e i : Int} {p : Nat} (h : wordR (X.getD 0 tz) W3 = (i, 0)) (hk : i + 1 = kd) (hb : bodR X kd 1 = (e, p)) (g : e ≠ 0) : pbR X = (e, p) := by
  rw [pbR_in (kd := kd) (by rw [h]) (by rw [h]; exact hk), hb, finR_err g]
theorem pb_e {X : List Tok} {kd i : Int} {p : Nat} (h : wordR (X.getD 0 tz) W3 = (i, 0)) (hk : i + 1 = kd) (hb : bodR X kd 1 = (0, p)) : pbR X = (endR (X.getD p tz), p) := by
  rw [pbR_in (kd := kd) (by rw [h]) (by rw [h]; exact hk), hb, finR_end rfl]
theorem bod1 {X : List Tok} {n M : Nat} {e : Int} {p : Nat} (hc : cntR (X.getD 1 tz) 64 = 0) (hn : ctN X 1 64 = n) (hM : M = 1 + 2 * n) (h : nuR ff X 2 M = (e, p)) : bodR X 1 1 = (e, p) := by rw [bodR_it, itR_num hc hn, ← hM, h]
theorem bod2 {X : List Tok} {n M : Nat} {e : Int} {p : Nat} (hc : cntR (X.getD 1 tz) 24 = 0) (hn : ctN X 1 24 = n) (hM : M = n * n) (h : nuR ff X 2 M = (e, p)) : bodR X 2 1 = (e, p) := by rw [bodR_as (by decide) (by decide), asR_num hc hn, ← hM, h]
theorem bod3f {X : List Tok} {n M : Nat} {e : Int} {p : Nat} (hc : cntR (X.getD 1 tz) 24 = 0) (hn : ctN X 1 24 = n) (hw : wordR (X.getD 2 tz) W2 = (0, 0)) (hM : M = n * n) (h : nuR (dgk 3 n) X 3 M = (e, p)) : bodR X 3 1 = (e, p) := by
  rw [bodR_to, toR_full hc hn (by rw [hw]) (by rw [hw]), ← hM, h]
theorem pb_full {X : List Tok} {n : Nat} {R : List (List Int)} (h : wordR (X.getD 0 tz) W3 = (2, 0)) (hw : wordR (X.getD 2 tz) W2 = (0, 0)) (hn : ctN X 1 24 = n) (hR : R = mat n (rwI X 3 n)) : (⟨3, n, 0, [], [], R⟩ : Ins) = pbI X :=
  pbI_full (by rw [h]; rfl) hn (by rw [hw, if_pos rfl]; exact hR)
theorem pb_as {X : List Tok} {n : Nat} {R : List (List Int)} (h : wordR (X.getD 0 tz) W3 = (1, 0)) (hn : ctN X 1 24 = n) (hR : R = mat n (rwI X 2 n)) : (⟨2, n, 0, [], [], R⟩ : Ins) = pbI X :=
  pbI_as (by rw [h]; rfl) rfl hn hR
theorem pb_it {X : List Tok} {n : Nat} (h : wordR (X.getD 0 tz) W3 = (0, 0)) (hn : ctN X 1 64 = n) : (⟨1, n, (X.getD 2 tz).n, itI X 3 n, itI X 4 n, []⟩ : Ins) = pbI X := pbI_it (by rw [h]; rfl) hn
end Go.Proofs.YtakfcekfmdjklaaDoor
namespace Go.Proofs
open Go.Shelf
def Tryd.lays156_ren : Go.Shelf.Ren := ⟨fun | 156 => 59 | 165 => 75 | 166 => 76 | 169 => 77 | 240 => 89 | 241 => 90 | 276 => 95 | 277 => 96 | n => n, fun | 31 => 34 | 9 => 9 | 3 => 3 | 4 => 4 | 0 => 0 | 20 => 20 | 72 => 99 | 76 => 103 | 70 => 97 | 37 => 54 | 75 => 102 | 127 => 113 | 164 => 116 | 5 => 5 | 80 => 105 | n => n, fun | n => n⟩
theorem Tryd.lays156 : Go.Proofs.Lays.n156 Tryd.prog Tryd.lays156_ren := {
 mixed := by kernel_rfl
 f156 := Tryd.func59.trans (congrArg some (by kernel_rfl))
 f165 := Tryd.func75.trans (congrArg some (by kernel_rfl))
 f166 := Tryd.func76.trans (congrArg some (by kernel_rfl))
 f169 := Tryd.func77.trans (congrArg some (by kernel_rfl))
 f240 := Tryd.func89.trans (congrArg some (by kernel_rfl))
 f241 := Tryd.func90.trans (congrArg some (by kernel_rfl))
 f276 := Tryd.func95.trans (congrArg some (by kernel_rfl))
 f277 := Tryd.func96.trans (congrArg some (by kernel_rfl))
 t0 := Tryd.underlying0
 a0 := Tryd.isAgg0
 z0 := Tryd.sizeOf0
 v0 := Tryd.zeroValue0
 t3 := Tryd.underlying3
 a3 := Tryd.isAgg3
 z3 := Tryd.sizeOf3
 v3 := Tryd.zeroValue3
 t4 := Tryd.underlying4
 a4 := Tryd.isAgg4
 z4 := Tryd.sizeOf4
 v4 := Tryd.zeroValue4
 t9 := Tryd.underlying9
 a9 := Tryd.isAgg9
 z9 := Tryd.sizeOf9
 v9 := Tryd.zeroValue9
 t20 := Tryd.underlying20
 a20 := Tryd.isAgg20
 z20 := Tryd.sizeOf20
 v20 := Tryd.zeroValue20
 t31 := Tryd.underlying34
 a31 := Tryd.isAgg34
 z31 := Tryd.sizeOf34
 v31 := Tryd.zeroValue34
 t37 := Tryd.underlying54
 a37 := Tryd.isAgg54
 z37 := Tryd.sizeOf54
 v37 := Tryd.zeroValue54
 t70 := Tryd.underlying97
 a70 := Tryd.isAgg97
 z70 := Tryd.sizeOf97
 v70 := Tryd.zeroValue97
 t72 := Tryd.underlying99
 a72 := Tryd.isAgg99
 z72 := Tryd.sizeOf99
 v72 := Tryd.zeroValue99
 t75 := Tryd.underlying102
 a75 := Tryd.isAgg102
 z75 := Tryd.sizeOf102
 v75 := Tryd.zeroValue102
 t76 := Tryd.underlying103
 a76 := Tryd.isAgg103
 z76 := Tryd.sizeOf103
 v76 := Tryd.zeroValue103
 t127 := Tryd.underlying113
 a127 := Tryd.isAgg113
 z127 := Tryd.sizeOf113
 v127 := Tryd.zeroValue113
 t164 := Tryd.underlying116
 a164 := Tryd.isAgg116
 z164 := Tryd.sizeOf116
 v164 := Tryd.zeroValue116 }
theorem Tryd.Builder_Extra_156 : Builder.Extra Tryd.prog Tryd.lays156_ren := {
  sizeBuilder := by kernel_rfl
  liesBuilder := by kernel_rfl
  t5 := Tryd.underlying5
  a5 := Tryd.isAgg5
  z5 := Tryd.sizeOf5
  v5 := Tryd.zeroValue5
  infoByte := by kernel_rfl
  cellsByte := by kernel_rfl
  sizeByte := by kernel_rfl
  neB5 := by decide }
open Go.RowKit in
theorem Tryd.strings_Join (bk o c : Nat) (xs : List ByteArray) (sep : ByteArray) (w : World) (hcells : ∀ (j : Nat) x, xs[j]? = some x → w.cell? ⟨bk, o + j, none⟩ = some (.string x)) (hbk : bk < w.heap.size) (hN : xs.length ≤ 140737488355328) (hcap : xs.length ≤ c) (hlen : (Lib.join (xs.map (·.data.toList)) sep.data.toList).length ≤ 140737488355328) :
    Calls Tryd.prog 59 #[.slice (some ⟨bk, o, none⟩) xs.length c, .string sep] w fun e w' => e = .returned (.string ⟨(Lib.join (xs.map (·.data.toList)) sep.data.toList).toArray⟩) ∧ Below w.heap.size w w' := Any.strings_Join Tryd.lays156 Tryd.Builder_Extra_156 bk o c xs sep w hcells hbk hN hcap hlen
def Tryd.lays137_ren : Go.Shelf.Ren := ⟨fun | 137 => 87 | 217 => 93 | 266 => 101 | n => n, fun | 9 => 9 | 5 => 5 | 3 => 3 | n => n, fun | n => n⟩
theorem Tryd.lays137 : Go.Proofs.Lays.n137 Tryd.prog Tryd.lays137_ren := {
  mixed := by kernel_rfl
  f137 := Tryd.func87.trans (congrArg some (by kernel_rfl))
  f217 := Tryd.func93.trans (congrArg some (by kernel_rfl))
  f266 := Tryd.func101.trans (congrArg some (by kernel_rfl))
  t3 := Tryd.underlying3
  a3 := Tryd.isAgg3
  z3 := Tryd.sizeOf3
  v3 := Tryd.zeroValue3
  t5 := Tryd.underlying5
  a5 := Tryd.isAgg5
  z5 := Tryd.sizeOf5
  v5 := Tryd.zeroValue5
  t9 := Tryd.underlying9
  a9 := Tryd.isAgg9
  z9 := Tryd.sizeOf9
  v9 := Tryd.zeroValue9 }
open Go.RowKit in
theorem Tryd.strings_IndexByte (s : ByteArray) (c : Int) (w : World) :
    Calls Tryd.prog 87 #[.string s, .int .u8 c] w fun e w' => e = .returned (.int .i64 (Lib.indexByte s.data.toList c.toNat.toUInt8)) ∧ w' = w := Any.strings_IndexByte Tryd.lays137 s c w
def Tryd.laysM171_ren : Go.Shelf.Ren := ⟨fun | 171 => 60 | 243 => 78 | 246 => 91 | 283 => 97 | 284 => 98 | 285 => 99 | 286 => 100 | 129 => 103 | 317 => 102 | 318 => 104 | 319 => 105 | 320 => 106 | 337 => 107 | 338 => 108 | n => n, fun | 3 => 3 | 9 => 9 | 2 => 2 | 4 => 4 | 171 => 119 | 0 => 0 | 53 => 38 | 37 => 54 | 5 => 5 | 173 => 122 | 212 => 130 | 51 => 131 | 20 => 20 | 213 => 132 | 46 => 95 | 232 => 135 | 233 => 136 | n => n, fun | 17 => 3 | 18 => 4 | 19 => 5 | n => n⟩
theorem Tryd.laysM171 : Go.Proofs.LaysM.n171 Tryd.prog Tryd.laysM171_ren := {
 mixed := by kernel_rfl
 f129 := Tryd.func103.trans (congrArg some (by kernel_rfl))
 f171 := Tryd.func60.trans (congrArg some (by kernel_rfl))
 f243 := Tryd.func78.trans (congrArg some (by kernel_rfl))
 f246 := Tryd.func91.trans (congrArg some (by kernel_rfl))
 f283 := Tryd.func97.trans (congrArg some (by kernel_rfl))
 f284 := Tryd.func98.trans (congrArg some (by kernel_rfl))
 f285 := Tryd.func99.trans (congrArg some (by kernel_rfl))
 f286 := Tryd.func100.trans (congrArg some (by kernel_rfl))
 f317 := Tryd.func102.trans (congrArg some (by kernel_rfl))
 f318 := Tryd.func104.trans (congrArg some (by kernel_rfl))
 f319 := Tryd.func105.trans (congrArg some (by kernel_rfl))
 f320 := Tryd.func106.trans (congrArg some (by kernel_rfl))
 f337 := Tryd.func107.trans (congrArg some (by kernel_rfl))
 f338 := Tryd.func108.trans (congrArg some (by kernel_rfl))
 t0 := Tryd.underlying0
 a0 := Tryd.isAgg0
 z0 := Tryd.sizeOf0
 v0 := Tryd.zeroValue0
 t2 := Tryd.underlying2
 a2 := Tryd.isAgg2
 z2 := Tryd.sizeOf2
 v2 := Tryd.zeroValue2
 t3 := Tryd.underlying3
 a3 := Tryd.isAgg3
 z3 := Tryd.sizeOf3
 v3 := Tryd.zeroValue3
 t4 := Tryd.underlying4
 a4 := Tryd.isAgg4
 z4 := Tryd.sizeOf4
 v4 := Tryd.zeroValue4
 t5 := Tryd.underlying5
 a5 := Tryd.isAgg5
 z5 := Tryd.sizeOf5
 v5 := Tryd.zeroValue5
 t9 := Tryd.underlying9
 a9 := Tryd.isAgg9
 z9 := Tryd.sizeOf9
 v9 := Tryd.zeroValue9
 t20 := Tryd.underlying20
 a20 := Tryd.isAgg20
 z20 := Tryd.sizeOf20
 v20 := Tryd.zeroValue20
 t37 := Tryd.underlying54
 a37 := Tryd.isAgg54
 z37 := Tryd.sizeOf54
 v37 := Tryd.zeroValue54
 t46 := Tryd.underlying95
 a46 := Tryd.isAgg95
 z46 := Tryd.sizeOf95
 v46 := Tryd.zeroValue95
 t51 := Tryd.underlying131
 a51 := Tryd.isAgg131
 z51 := Tryd.sizeOf131
 v51 := Tryd.zeroValue131
 t53 := Tryd.underlying38
 a53 := Tryd.isAgg38
 z53 := Tryd.sizeOf38
 v53 := Tryd.zeroValue38
 t171 := Tryd.underlying119
 a171 := Tryd.isAgg119
 z171 := Tryd.sizeOf119
 v171 := Tryd.zeroValue119
 t173 := Tryd.underlying122
 a173 := Tryd.isAgg122
 z173 := Tryd.sizeOf122
 v173 := Tryd.zeroValue122
 t212 := Tryd.underlying130
 a212 := Tryd.isAgg130
 z212 := Tryd.sizeOf130
 v212 := Tryd.zeroValue130
 t213 := Tryd.underlying132
 a213 := Tryd.isAgg132
 z213 := Tryd.sizeOf132
 t232 := Tryd.underlying135
 a232 := Tryd.isAgg135
 z232 := Tryd.sizeOf135
 v232 := Tryd.zeroValue135
 t233 := Tryd.underlying136
 a233 := Tryd.isAgg136
 z233 := Tryd.sizeOf136
 v233 := Tryd.zeroValue136
 g17 := by kernel_rfl
 g18 := by kernel_rfl
 g19 := by kernel_rfl
 i0 := by kernel_rfl
 i2 := by kernel_rfl
 i3 := by kernel_rfl
 i4 := by kernel_rfl
 i5 := by kernel_rfl
 i9 := by kernel_rfl
 i20 := by kernel_rfl
 i37 := by kernel_rfl
 i46 := by kernel_rfl
 i51 := by kernel_rfl
 i53 := by kernel_rfl
 i171 := by kernel_rfl
 i173 := by kernel_rfl
 i212 := by kernel_rfl
 i232 := by kernel_rfl
 i233 := by kernel_rfl
 m17 := by kernel_rfl
 m18 := by kernel_rfl
 m19 := by kernel_rfl }
open Go.RowKit Go.Sort Go.Lib in
theorem Tryd.strconv_Itoa (n : Int) (h0 : -9223372036854775808 ≤ n) (h1 : n ≤ 9223372036854775807) (w : World) (htab : Lib.TabIs Tryd.prog w "internal/strconv.uint64pow10" .u64 Lib.pow10Tab) :
    Calls Tryd.prog 60 #[.int .i64 n] w fun e w' => e = .returned (.string ⟨(Lib.itoa n).toArray⟩) ∧ ∃ k os, w' = grow (w.drewN k) os := Any.strconv_Itoa Tryd.laysM171 n h0 h1 w htab
def Tryd.lays260_ren : Go.Shelf.Ren := ⟨fun | 260 => 92 | n => n, fun | 9 => 9 | 21 => 21 | 3 => 3 | 4 => 4 | 5 => 5 | 119 => 124 | 0 => 0 | 46 => 95 | 139 => 127 | 138 => 126 | n => n, fun | 3 => 0 | 4 => 1 | n => n⟩
theorem Tryd.lays260 : Go.Proofs.Lays.n260 Tryd.prog Tryd.lays260_ren := {
 mixed := by kernel_rfl
 f260 := Tryd.func92.trans (congrArg some (by kernel_rfl))
 t0 := Tryd.underlying0
 a0 := Tryd.isAgg0
 z0 := Tryd.sizeOf0
 v0 := Tryd.zeroValue0
 t3 := Tryd.underlying3
 a3 := Tryd.isAgg3
 z3 := Tryd.sizeOf3
 v3 := Tryd.zeroValue3
 t4 := Tryd.underlying4
 a4 := Tryd.isAgg4
 z4 := Tryd.sizeOf4
 v4 := Tryd.zeroValue4
 t5 := Tryd.underlying5
 a5 := Tryd.isAgg5
 z5 := Tryd.sizeOf5
 v5 := Tryd.zeroValue5
 t9 := Tryd.underlying9
 a9 := Tryd.isAgg9
 z9 := Tryd.sizeOf9
 v9 := Tryd.zeroValue9
 t21 := Tryd.underlying21
 a21 := Tryd.isAgg21
 z21 := Tryd.sizeOf21
 v21 := Tryd.zeroValue21
 t46 := Tryd.underlying95
 a46 := Tryd.isAgg95
 z46 := Tryd.sizeOf95
 v46 := Tryd.zeroValue95
 t119 := Tryd.underlying124
 a119 := Tryd.isAgg124
 z119 := Tryd.sizeOf124
 t138 := Tryd.underlying126
 a138 := Tryd.isAgg126
 z138 := Tryd.sizeOf126
 v138 := Tryd.zeroValue126
 t139 := Tryd.underlying127
 a139 := Tryd.isAgg127
 z139 := Tryd.sizeOf127
 v139 := Tryd.zeroValue127
 g3 := by kernel_rfl
 g4 := by kernel_rfl }
def Tryd.lays197_ren : Go.Shelf.Ren := ⟨fun | 197 => 85 | 260 => 92 | n => n, fun | 9 => 9 | 21 => 21 | 3 => 3 | 4 => 4 | 5 => 5 | 105 => 109 | 119 => 124 | 0 => 0 | 46 => 95 | 139 => 127 | 138 => 126 | n => n, fun | 3 => 0 | 4 => 1 | n => n⟩
theorem Tryd.lays197 : Go.Proofs.Lays.n197 Tryd.prog Tryd.lays197_ren := {
 mixed := by kernel_rfl
 f197 := Tryd.func85.trans (congrArg some (by kernel_rfl))
 f260 := Tryd.func92.trans (congrArg some (by kernel_rfl))
 t0 := Tryd.underlying0
 a0 := Tryd.isAgg0
 z0 := Tryd.sizeOf0
 v0 := Tryd.zeroValue0
 t3 := Tryd.underlying3
 a3 := Tryd.isAgg3
 z3 := Tryd.sizeOf3
 v3 := Tryd.zeroValue3
 t4 := Tryd.underlying4
 a4 := Tryd.isAgg4
 z4 := Tryd.sizeOf4
 v4 := Tryd.zeroValue4
 t5 := Tryd.underlying5
 a5 := Tryd.isAgg5
 z5 := Tryd.sizeOf5
 v5 := Tryd.zeroValue5
 t9 := Tryd.underlying9
 a9 := Tryd.isAgg9
 z9 := Tryd.sizeOf9
 v9 := Tryd.zeroValue9
 t21 := Tryd.underlying21
 a21 := Tryd.isAgg21
 z21 := Tryd.sizeOf21
 v21 := Tryd.zeroValue21
 t46 := Tryd.underlying95
 a46 := Tryd.isAgg95
 z46 := Tryd.sizeOf95
 v46 := Tryd.zeroValue95
 t105 := Tryd.underlying109
 a105 := Tryd.isAgg109
 z105 := Tryd.sizeOf109
 v105 := Tryd.zeroValue109
 t119 := Tryd.underlying124
 a119 := Tryd.isAgg124
 z119 := Tryd.sizeOf124
 t138 := Tryd.underlying126
 a138 := Tryd.isAgg126
 z138 := Tryd.sizeOf126
 v138 := Tryd.zeroValue126
 t139 := Tryd.underlying127
 a139 := Tryd.isAgg127
 z139 := Tryd.sizeOf127
 v139 := Tryd.zeroValue127
 g3 := by kernel_rfl
 g4 := by kernel_rfl }
open Go.RowKit Go.Lib in
theorem Tryd.utf8_DecodeRuneInString (s : ByteArray) (w : World) (hT : Lib.Utf8Tabs 0 1 w) :
    Calls Tryd.prog 85 #[.string s] w fun e w' => e = .returned (.tuple #[.int .i32 (Lib.decodeGo s).1, .int .i64 (Lib.decodeGo s).2]) ∧ Below w.heap.size w w' := Any.utf8_DecodeRuneInString Tryd.lays197 s w hT
end Go.Proofs
namespace Go.Proofs.YtakfcekfmdjklaaDoor
theorem mixed : Tryd.prog.follows .mixedOrders = true := by kernel_rfl
theorem sz3 : szOf Tryd.prog 3 = some (false, 1) := by kernel_rfl
theorem info3 : Tryd.prog.info? 3 = some Tryd.t3 := by kernel_rfl
theorem sz5 : szOf Tryd.prog 5 = some (false, 1) := by kernel_rfl
theorem sz9 : szOf Tryd.prog 9 = some (false, 1) := by kernel_rfl
theorem info9 : Tryd.prog.info? 9 = some Tryd.t9 := by kernel_rfl
theorem sz22 : szOf Tryd.prog 22 = some (false, 1) := by kernel_rfl
theorem info22 : Tryd.prog.info? 22 = some Tryd.t22 := by kernel_rfl
theorem sl22 : slInfo Tryd.prog 22 = some (false, 1) := by kernel_rfl
theorem sz23 : szOf Tryd.prog 23 = some (false, 1) := by kernel_rfl
theorem sl23 : slInfo Tryd.prog 23 = some (false, 1) := by kernel_rfl
theorem sz25 : szOf Tryd.prog 25 = some (true, 6) := by kernel_rfl
theorem info25 : Tryd.prog.info? 25 = some Tryd.t25 := by kernel_rfl
theorem fi25_0 : fieldInfo Tryd.prog 25 0 = some (0, false, 1) := by kernel_rfl
theorem fi25_1 : fieldInfo Tryd.prog 25 1 = some (1, false, 1) := by kernel_rfl
theorem fi25_2 : fieldInfo Tryd.prog 25 2 = some (2, false, 1) := by kernel_rfl
theorem fi25_3 : fieldInfo Tryd.prog 25 3 = some (3, false, 1) := by kernel_rfl
theorem fi25_4 : fieldInfo Tryd.prog 25 4 = some (4, false, 1) := by kernel_rfl
theorem fi25_5 : fieldInfo Tryd.prog 25 5 = some (5, false, 1) := by kernel_rfl
theorem sl34 : slInfo Tryd.prog 34 = some (false, 1) := by kernel_rfl
theorem sz38 : szOf Tryd.prog 38 = some (false, 1) := by kernel_rfl
theorem sz48 : szOf Tryd.prog 48 = some (false, 1) := by kernel_rfl
theorem sl48 : slInfo Tryd.prog 48 = some (true, 4) := by kernel_rfl
theorem sl54 : slInfo Tryd.prog 54 = some (false, 1) := by kernel_rfl
theorem fi62_0 : fieldInfo Tryd.prog 62 0 = some (0, false, 1) := by kernel_rfl
theorem fi62_1 : fieldInfo Tryd.prog 62 1 = some (1, false, 1) := by kernel_rfl
theorem fi75_0 : fieldInfo Tryd.prog 75 0 = some (0, false, 1) := by kernel_rfl
theorem fi75_1 : fieldInfo Tryd.prog 75 1 = some (1, false, 1) := by kernel_rfl
theorem fi75_2 : fieldInfo Tryd.prog 75 2 = some (2, false, 1) := by kernel_rfl
theorem sz77 : szOf Tryd.prog 77 = some (true, 4) := by kernel_rfl
theorem info77 : Tryd.prog.info? 77 = some Tryd.t77 := by kernel_rfl
theorem fi77_0 : fieldInfo Tryd.prog 77 0 = some (0, false, 1) := by kernel_rfl
theorem fi77_1 : fieldInfo Tryd.prog 77 1 = some (1, false, 1) := by kernel_rfl
theorem fi77_2 : fieldInfo Tryd.prog 77 2 = some (2, false, 1) := by kernel_rfl
theorem fi77_3 : fieldInfo Tryd.prog 77 3 = some (3, false, 1) := by kernel_rfl
theorem fi80_0 : fieldInfo Tryd.prog 80 0 = some (0, false, 1) := by kernel_rfl
theorem fi80_1 : fieldInfo Tryd.prog 80 1 = some (1, false, 1) := by kernel_rfl
end Go.Proofs.YtakfcekfmdjklaaDoor
