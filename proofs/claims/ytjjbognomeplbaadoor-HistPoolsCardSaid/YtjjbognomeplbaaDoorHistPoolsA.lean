/-
  HistPools, part 1 of 5: what the code computes, and plain laws; no condition beside those that each theorem tells.
-/
import Derived.WalkKit
import Derived.OrdersHeld
import Derived.Deep.RegionHeld
import Derived.KernelRfl
import Derived.WalkSpells
import Derived.WalkLawsBesides
import Derived.OneCell
import Derived.Deep.QuietTactic
import Derived.BigQuiet
import Derived.Deep.MidRow
import Derived.Laws.OwnMore
import Derived.Great.BuildSlice
import Derived.Laws.RangeAny
import Derived.Lib.RuneCount
import Derived.Lib.Strings
import Derived.Laws.Strings
import Derived.Laws.Strings2
import Derived.Laws.Strings3
import Derived.Laws.Concat
import Derived.Laws.StructEq
import Derived.Lib.LaidTab
import Derived.Lib.LaidU8
import Derived.Lib.ItoaNum
import Derived.Lib.IndexLaws
import Derived.Shelf.Unicode.DecodeSlow
import Derived.Lib.Join
import Derived.Lib.ItoaLen
import Derived.Lib.ItoaMem
import Derived.Laws.BytesString
import Derived.Lib.TrailingZeros
import Derived.Test.YtjjbognomeplbaaDoorRows
import Derived.ChangeKeysEq
import Derived.RangeFuncFrom
import Derived.RangeFuncCalls
import Derived.RangeFuncLeaves
import Derived.OrdersIn
import Derived.LoopNIn
import Derived.OpenShut
import Derived.ProofKit
import Derived.Deep.Slices
import Derived.RangeFuncWrites
namespace Go.Proofs.YtjjbognomeplbaaDoor
section
open Go.RowKit
def lk : List (Nat × Value) → Nat → Option Value
  | [], _ => none
  | (j, v) :: l, i => match Nat.beq i j with | true => some v | false => lk l i
def opv (l : List (Nat × Value)) : Operand → Option Value
  | .tmp t => lk l t
  | .const v => some v
  | .global g => some (.pointer (some ⟨g, 0, none⟩))
  | .func f => some (.func (.func f) #[] #[])
def opvs (l : List (Nat × Value)) : List Operand → Option (List Value)
  | [] => some []
  | x :: xs => match opv l x with
    | none => none
    | some v => match opvs l xs with
      | none => none
      | some vs => some (v :: vs)
structure St (n : Nat) (l : List (Nat × Value)) (a : Act) : Prop where
  size : a.tmps.size = n
  defers : a.defers = []
  has : ∀ i v, lk l i = some v → a.tmps[i]? = some v
theorem St.eval {n : Nat} {l : List (Nat × Value)} {a : Act} (h : St n l a) {x : Operand} {v : Value} (hx : opv l x = some v) : a.eval x = v := by
  cases x with
  | tmp t =>
    have := h.has t v hx
    simp only [Act.eval, Array.getD_eq_getD_getElem?, this, Option.getD_some]
  | const u => simpa [opv, Act.eval] using hx
  | global g => simpa [opv, Act.eval] using hx
  | func f => simpa [opv, Act.eval] using hx
theorem St.put {n : Nat} {l : List (Nat × Value)} {a : Act} (h : St n l a) {d : Nat} (hd : Nat.blt d n = true) (v : Value) : St n ((d, v) :: l) (a.put (some d) v) := by
  have hd' : d < n := Nat.le_of_ble_eq_true hd
  refine ⟨by simp [Act.put, h.size], h.defers, fun i u hu => ?_⟩
  simp only [lk] at hu
  show (a.tmps.setIfInBounds d v)[i]? = some u
  rw [Array.getElem?_setIfInBounds]
  by_cases hi : d = i
  · subst hi
    have e : Nat.beq d d = true := by simp
    rw [e] at hu
    simp only [Option.some.injEq] at hu
    rw [if_pos rfl, if_pos (by rw [h.size]; exact hd'), hu]
  · have e : Nat.beq i d = false := by
      rw [← Bool.not_eq_true, Nat.beq_eq]; exact fun e => hi e.symm
    rw [e] at hu
    rw [if_neg hi]
    exact h.has i u hu
def Sub (l : List (Nat × Value)) : List (Nat × Value) → Prop
  | [] => True
  | (i, v) :: r => lk l i = some v ∧ Sub l r
theorem Sub.lk {l : List (Nat × Value)} : ∀ {m : List (Nat × Value)}, Sub l m → ∀ i v, Go.Proofs.YtjjbognomeplbaaDoor.lk m i = some v → Go.Proofs.YtjjbognomeplbaaDoor.lk l i = some v
  | [], _, i, v, h => by simp [Go.Proofs.YtjjbognomeplbaaDoor.lk] at h
  | (j, u) :: m, ⟨h1, h2⟩, i, v, h => by
    simp only [Go.Proofs.YtjjbognomeplbaaDoor.lk] at h
    by_cases e : i = j
    · subst e
      have e' : Nat.beq i i = true := by simp
      rw [e'] at h
      simp only [Option.some.injEq] at h
      rw [← h]; exact h1
    · have e' : Nat.beq i j = false := by rw [← Bool.not_eq_true, Nat.beq_eq]; exact e
      rw [e'] at h
      exact Sub.lk h2 i v h
theorem Sub.nil {l : List (Nat × Value)} : Sub l [] := trivial
theorem Sub.cons {l m : List (Nat × Value)} {i : Nat} {v : Value} (h : Go.Proofs.YtjjbognomeplbaaDoor.lk l i = some v) (hs : Sub l m) : Sub l ((i, v) :: m) := ⟨h, hs⟩
theorem St.sub {n : Nat} {l m : List (Nat × Value)} {a : Act} (h : St n l a) (hs : Sub l m) : St n m a := ⟨h.size, h.defers, fun i v hv => h.has i v (hs.lk i v hv)⟩
def ini : Nat → List Value → List (Nat × Value)
  | _, [] => []
  | i, v :: vs => (i, v) :: ini (i + 1) vs
theorem ini_lk : ∀ (vs : List Value) (k i : Nat) (v : Value), lk (ini k vs) i = some v → k ≤ i ∧ vs[i - k]? = some v
  | [], k, i, v, h => by simp [ini, lk] at h
  | u :: vs, k, i, v, h => by
    simp only [ini, lk] at h
    by_cases e : i = k
    · subst e
      have e' : Nat.beq i i = true := by simp
      rw [e'] at h
      simp only [Option.some.injEq] at h
      exact ⟨Nat.le_refl _, by simp [h]⟩
    · have e' : Nat.beq i k = false := by rw [← Bool.not_eq_true, Nat.beq_eq]; exact e
      rw [e'] at h
      obtain ⟨h1, h2⟩ := ini_lk vs (k + 1) i v h
      refine ⟨by omega, ?_⟩
      rw [show i - k = (i - (k + 1)) + 1 by omega]
      simpa using h2
def Ends (P : Program) (f : FuncId) (R : Ending → World → Prop) (k : List Item) (a : Act) (w : World) : Prop :=
  ∀ (b : Frame) (cs : List Frame), b.fn = f → b.kind = .normal → ∃ e w' fr, R e w' ∧ Comes P (lone (b.at a k) cs w) (lone fr cs w') e ∧ fr.fn = f ∧ fr.leaving P w' e
section
variable {P : Program} {f : FuncId} {R : Ending → World → Prop} {k : List Item} {a : Act} {w : World} {n : Nat} {l : List (Nat × Value)}
theorem Ends.step {k' : List Item} {a' : Act} {w' : World} (hs : ∀ (b : Frame) cs, b.fn = f → b.kind = .normal → Steps P (lone (b.at a k) cs w) (lone (b.at a' k') cs w')) (h : Ends P f R k' a' w') : Ends P f R k a w :=
  fun b cs hf hk => by
    obtain ⟨e, w2, fr, hR, hc, h1, h2⟩ := h b cs hf hk
    exact ⟨e, w2, fr, hR, hc.of_steps (hs b cs hf hk), h1, h2⟩
def Aft (P : Program) (f : FuncId) (R : Ending → World → Prop) (k : List Item) : Exit → Act → World → Prop
  | .normal, a, w => Ends P f R k a w
  | _, _, _ => False
theorem Ends.of_wp {c : Code} (h : c.wp P (Aft P f R k) a w) : Ends P f R (.code c :: k) a w := fun b cs hf hk => by
  obtain ⟨e, a', w', hq, harr⟩ := h b k cs
  cases e with
  | normal =>
    obtain ⟨e, w2, fr, hR, hc, h1, h2⟩ := hq b cs hf hk
    exact ⟨e, w2, fr, hR, hc.of_steps harr, h1, h2⟩
  | _ => exact hq.elim
theorem Ends.seq {x y : Code} (h : Ends P f R (.code x :: .code y :: k) a w) : Ends P f R (.code (.seq x y) :: k) a w :=
  Ends.step (fun _ _ _ _ => .one step_seq) h
theorem Ends.skip (h : Ends P f R k a w) : Ends P f R (.code .skip :: k) a w := Ends.step (fun _ _ _ _ => .one step_skip) h
theorem Ends.block {id : Nat} {c : Code} (h : Ends P f R (.code c :: .inBlock id :: k) a w) : Ends P f R (.code (.block id c) :: k) a w :=
  Ends.step (fun _ _ _ _ => .one step_block) h
theorem Ends.inBlock {id : Nat} (h : Ends P f R k a w) : Ends P f R (.inBlock id :: k) a w := Ends.step (fun _ _ _ _ => .one step_inBlock) h
theorem Ends.exit {id : Nat} {k' : List Item} (he : exitTo id k = some k') (h : Ends P f R k' a w) : Ends P f R (.code (.exit id) :: k) a w :=
  Ends.step (fun _ _ _ _ => .one (step_exit he)) h
theorem Ends.inLoop {c : Code} (h : Ends P f R (.code c :: .inLoop c :: k) a w) : Ends P f R (.inLoop c :: k) a w := Ends.step (fun _ _ _ _ => .one step_inLoop) h
theorem Ends.condT {c : Operand} {x y : Code} (hA : St n l a) (hc : opv l c = some (.bool true)) (h : Ends P f R (.code x :: k) a w) : Ends P f R (.code (.cond c x y) :: k) a w :=
  Ends.step (fun _ _ _ _ => .one (step_cond (t := true) (hA.eval hc))) h
theorem Ends.condF {c : Operand} {x y : Code} (hA : St n l a) (hc : opv l c = some (.bool false)) (h : Ends P f R (.code y :: k) a w) : Ends P f R (.code (.cond c x y) :: k) a w :=
  Ends.step (fun _ _ _ _ => .one (step_cond (t := false) (hA.eval hc))) h
theorem Ends.ite {c : Operand} {x y : Code} {p : Prop} [Decidable p] (hA : St n l a) (hc : opv l c = some (.bool (decide p)))
    (ht : p → Ends P f R (.code x :: k) a w) (hf : ¬ p → Ends P f R (.code y :: k) a w) : Ends P f R (.code (.cond c x y) :: k) a w := by
  by_cases hp : p
  · rw [decide_eq_true hp] at hc; exact Ends.condT hA hc (ht hp)
  · rw [decide_eq_false hp] at hc; exact Ends.condF hA hc (hf hp)
theorem Ends.iteB {c : Operand} {x y : Code} {p : Bool} (hA : St n l a) (hc : opv l c = some (.bool p))
    (ht : p = true → Ends P f R (.code x :: k) a w) (hf : p = false → Ends P f R (.code y :: k) a w) : Ends P f R (.code (.cond c x y) :: k) a w := by
  cases p
  · exact Ends.condF hA hc (hf rfl)
  · exact Ends.condT hA hc (ht rfl)
theorem Ends.loop {c : Code} {σ : Type} (I : σ → Act → World → Prop) (μ : σ → Nat) (s0 : σ) (h0 : I s0 a w)
    (hr : ∀ s a w, I s a w → (∀ s' a' w', μ s' < μ s → I s' a' w' → Ends P f R (.inLoop c :: k) a' w') → Ends P f R (.code c :: .inLoop c :: k) a w) :
    Ends P f R (.code (.loop c) :: k) a w := by
  have key : ∀ m s a w, μ s = m → I s a w → Ends P f R (.code c :: .inLoop c :: k) a w := by
    intro m
    induction m using Nat.strongRecOn with
    | _ m ih =>
      intro s a w hm hI
      exact hr s a w hI fun s' a' w' hlt hI' => Ends.inLoop (ih _ (hm ▸ hlt) s' a' w' rfl hI')
  exact Ends.step (fun _ _ _ _ => .one step_loop) (key _ s0 a w rfl h0)
theorem Ends.cut {c : Code} (I : Act → World → Prop) (h2 : ∀ a w, I a w → Ends P f R k a w)
    (h1 : ∀ k' : List Item, (∀ a w, I a w → Ends P f R k' a w) → Ends P f R (.code c :: k') a w) : Ends P f R (.code c :: k) a w := h1 k h2
theorem Ends.to_ret {v : Value} {fn : Func} (hf : P.funcs[f]? = some fn) (hd : a.defers = []) (hr : (results fn a.tmps).run P w = .ok v w) (hR : R (.returned v) w) :
    Ends P f R (.code .ret :: k) a w := fun b cs hb hk =>
  ⟨.returned v, w, _, hR, .one step_ret, hb, rfl, hd, by rw [show ({ b.at a (.code .ret :: k) with mode := .returning } : Frame).kind = b.kind from rfl, hk], fn,
    by rw [show ({ b.at a (.code .ret :: k) with mode := .returning } : Frame).fn = b.fn from rfl, hb]; exact hf, hr⟩
theorem Ends.to_end {v : Value} {fn : Func} (hf : P.funcs[f]? = some fn) (hd : a.defers = []) (hr : (results fn a.tmps).run P w = .ok v w) (hR : R (.returned v) w) :
    Ends P f R [] a w := fun b cs hb hk =>
  ⟨.returned v, w, _, hR, .one step_end, hb, rfl, hd, by rw [show ({ b.at a [] with mode := .returning } : Frame).kind = b.kind from rfl, hk], fn,
    by rw [show ({ b.at a [] with mode := .returning } : Frame).fn = b.fn from rfl, hb]; exact hf, hr⟩
theorem St.getD (hA : St n l a) {t : Nat} {v : Value} (h : lk l t = some v) : a.tmps.getD t undef = v := by
  have := hA.has t v h
  simp only [Array.getD_eq_getD_getElem?, this, Option.getD_some]
section
variable {fn : Func} (hf : P.funcs[f]? = some fn)
include hf
theorem Ends.ret0 (hr : fn.results = #[]) (hA : St n l a) (hR : R (.returned (.tuple #[])) w) : Ends P f R (.code .ret :: k) a w :=
  Ends.to_ret hf hA.defers (results_none hr _ _ _) hR
theorem Ends.ret1 {t : Nat} {v : Value} (hr : fn.results = #[.tmp t]) (hA : St n l a) (h1 : lk l t = some v) (hR : R (.returned v) w) : Ends P f R (.code .ret :: k) a w :=
  Ends.to_ret hf hA.defers (by rw [results_tmp hr, hA.getD h1]) hR
theorem Ends.ret2 {t u : Nat} {v x : Value} (hr : fn.results = #[.tmp t, .tmp u]) (hA : St n l a) (h1 : lk l t = some v) (h2 : lk l u = some x) (hR : R (.returned (.tuple #[v, x])) w) : Ends P f R (.code .ret :: k) a w :=
  Ends.to_ret hf hA.defers (by rw [results_tmp2 hr, hA.getD h1, hA.getD h2]) hR
theorem Ends.end0 (hr : fn.results = #[]) (hA : St n l a) (hR : R (.returned (.tuple #[])) w) : Ends P f R [] a w :=
  Ends.to_end hf hA.defers (results_none hr _ _ _) hR
end
theorem Calls.of_ends {fn : Func} {c : Code} {vs : List Value} (hf : P.funcs[f]? = some fn) (hb : fn.body = some c) (hn : fn.ntmps = n) (hv : Nat.ble vs.length n = true)
    (h : ∀ a, St n (ini 0 vs) a → Ends P f R [.code c] a w) : Calls P f vs.toArray w R := by
  intro cs
  have hle : vs.length ≤ n := by simpa using hv
  let b : Frame := { (default : Frame) with fn := f, kind := .normal }
  have henter : Frame.enter P f vs.toArray .normal =
      b.at { tmps := vs.toArray ++ Array.replicate (fn.ntmps - vs.toArray.size) undef, defers := [] } [.code c] := by
    simp [Frame.enter, Frame.at, hf, hb, b]
  rw [henter]
  refine h _ ⟨?_, rfl, fun i v hi => ?_⟩ b cs rfl rfl
  · simp [hn]; omega
  · obtain ⟨-, h2⟩ := ini_lk vs 0 i v hi
    have hlt : i < vs.length := by
      rcases Nat.lt_or_ge i vs.length with g | g
      · exact g
      · rw [List.getElem?_eq_none (by simpa using g)] at h2; cases h2
    rw [Array.getElem?_append_left (by simpa using hlt)]
    simpa using h2
theorem Ends.region {id : Nat} {os : List Oper} (h : wpList P os.toArray (Aft P f R k) os a w) : Ends P f R (.code (.region id os.toArray false) :: k) a w :=
  Ends.of_wp (wp_region_lit h)
def RunN (P : Program) (l : List (Nat × Value)) (w : World) (op : Op) (ty : TypeId) (r : Next) (w' : World) : Prop :=
  ∀ ev : Operand → Value, (∀ x u, opv l x = some u → ev x = u) → ∀ dst pos aft g, (execOp ev { dst, op, type := ty, pos, after := aft, guard := g }).run P w = .ok r w'
abbrev Run (P : Program) (l : List (Nat × Value)) (w : World) (op : Op) (ty : TypeId) (v : Value) (w' : World) : Prop := RunN P l w op ty (.value v) w'
def dstOf (ops : Array Oper) (j : Nat) : Option Tmp := (ops[j]?).bind (·.dst)
theorem wanted_of {ops : Array Oper} {o : Oper} {j d : Nat} {b u : Bool} (hA : St n l a) (hg : o.guard = some (j, b)) (hj : dstOf ops j = some d) (hl : lk l d = some (.bool u)) : Region.wanted o (yielded ops a.tmps) = (u == b) := by
  have h1 := hA.has d _ hl
  unfold dstOf at hj
  unfold Region.wanted yielded
  rw [hg]
  simp only [hj, Option.bind_some, h1]
  cases u <;> cases b <;> rfl
variable {ops : Array Oper} {Q : Exit → Act → World → Prop} {rest : List Oper} {w' : World}
theorem S.val {d : Nat} {op : Op} {ty : TypeId} {pos : String} {aft : Array Edge} {v : Value} (hA : St n l a) (hr : Run P l w op ty v w') (hd : Nat.blt d n = true)
    (h : ∀ a, St n ((d, v) :: l) a → wpList P ops Q rest a w') : wpList P ops Q ({ dst := some d, op, type := ty, pos, after := aft, guard := none } :: rest) a w := by
  refine wpList_plain rfl fun K hK => ?_
  unfold Oper.wp
  rw [hr a.eval (fun x u hx => hA.eval hx)]
  exact hK _ _ (h _ (hA.put hd v))
theorem S.valg {d j dj : Nat} {b : Bool} {op : Op} {ty : TypeId} {pos : String} {aft : Array Edge} {v : Value} (hA : St n l a) (hj : dstOf ops j = some dj) (hl : lk l dj = some (.bool b)) (hr : Run P l w op ty v w') (hd : Nat.blt d n = true)
    (h : ∀ a, St n ((d, v) :: l) a → wpList P ops Q rest a w') : wpList P ops Q ({ dst := some d, op, type := ty, pos, after := aft, guard := some (j, b) } :: rest) a w := by
  refine wpList_step fun K hK => ?_
  rw [if_pos (by rw [wanted_of hA rfl hj hl]; simp)]
  unfold Oper.wp
  rw [hr a.eval (fun x u hx => hA.eval hx)]
  exact hK _ _ (h _ (hA.put hd v))
theorem S.no {d j dj : Nat} {b u : Bool} {op : Op} {ty : TypeId} {pos : String} {aft : Array Edge} (hA : St n l a) (hj : dstOf ops j = some dj) (hl : lk l dj = some (.bool u)) (hu : (u == b) = false) (hd : Nat.blt d n = true)
    (h : ∀ a, St n ((d, undef) :: l) a → wpList P ops Q rest a w) : wpList P ops Q ({ dst := some d, op, type := ty, pos, after := aft, guard := some (j, b) } :: rest) a w := by
  refine wpList_step fun K hK => ?_
  rw [wanted_of hA rfl hj hl, hu]
  exact hK _ _ (h _ (hA.put hd undef))
theorem S.skip {op : Op} {ty : TypeId} {pos : String} {aft : Array Edge} (hA : St n l a) (hr : RunN P l w op ty .skip w')
    (h : wpList P ops Q rest a w') : wpList P ops Q ({ dst := none, op, type := ty, pos, after := aft, guard := none } :: rest) a w := by
  refine wpList_plain rfl fun K hK => ?_
  unfold Oper.wp
  rw [hr a.eval (fun x u hx => hA.eval hx)]
  exact hK _ _ h
theorem S.call {d : Nat} {op : Op} {ty : TypeId} {pos : String} {aft : Array Edge} {g : FuncId} {args : Array Value} {R' : Ending → World → Prop} (hA : St n l a) (hr : RunN P l w op ty (.enter g args) w) (hd : Nat.blt d n = true)
    (hc : Calls P g args w R') (h : ∀ e w', R' e w' → ∃ v, e = .returned v ∧ ∀ a, St n ((d, v) :: l) a → wpList P ops Q rest a w') :
    wpList P ops Q ({ dst := some d, op, type := ty, pos, after := aft, guard := none } :: rest) a w := by
  refine wpList_plain rfl fun K hK => ?_
  unfold Oper.wp
  rw [hr a.eval (fun x u hx => hA.eval hx)]
  refine hc.mono fun e w2 hR => ?_
  obtain ⟨v, rfl, hv⟩ := h e w2 hR
  exact hK _ _ (hv _ (hA.put hd v))
theorem S.callg {d j dj : Nat} {b : Bool} {op : Op} {ty : TypeId} {pos : String} {aft : Array Edge} {g : FuncId} {args : Array Value} {R' : Ending → World → Prop} (hA : St n l a) (hj : dstOf ops j = some dj) (hl : lk l dj = some (.bool b)) (hr : RunN P l w op ty (.enter g args) w) (hd : Nat.blt d n = true)
    (hc : Calls P g args w R') (h : ∀ e w', R' e w' → ∃ v, e = .returned v ∧ ∀ a, St n ((d, v) :: l) a → wpList P ops Q rest a w') :
    wpList P ops Q ({ dst := some d, op, type := ty, pos, after := aft, guard := some (j, b) } :: rest) a w := by
  refine wpList_step fun K hK => ?_
  rw [if_pos (by rw [wanted_of hA rfl hj hl]; simp)]
  unfold Oper.wp
  rw [hr a.eval (fun x u hx => hA.eval hx)]
  refine hc.mono fun e w2 hR => ?_
  obtain ⟨v, rfl, hv⟩ := h e w2 hR
  exact hK _ _ (hv _ (hA.put hd v))
theorem S.done (h : Ends P f R k a w) : wpList P ops (Aft P f R k) [] a w := h
theorem St.same {d : Nat} {v : Value} (hA : St n l a) (hl : lk l d = some v) : St n ((d, v) :: l) a :=
  ⟨hA.size, hA.defers, fun i u hu => by
    simp only [lk] at hu
    by_cases e : i = d
    · subst e
      have e' : Nat.beq i i = true := by simp
      rw [e'] at hu
      simp only [Option.some.injEq] at hu
      rw [← hu]; exact hA.has _ _ hl
    · have e' : Nat.beq i d = false := by rw [← Bool.not_eq_true, Nat.beq_eq]; exact e
      rw [e'] at hu
      exact hA.has _ _ hu⟩
theorem St.split {p : Prop} [Decidable p] {d : Nat} {G : Prop} (hA : St n l a) (hl : lk l d = some (.bool (decide p)))
    (ht : p → St n ((d, .bool true) :: l) a → G) (hf : ¬ p → St n ((d, .bool false) :: l) a → G) : G := by
  by_cases hp : p
  · exact ht hp (hA.same (by rw [hl, decide_eq_true hp]))
  · exact hf hp (hA.same (by rw [hl, decide_eq_false hp]))
def aw (ops : Array Oper) (last i : Nat) : Bool :=
  match ops[last]? with
  | none => true
  | some o => o.after.toList.any fun ed => Region.binds .any ed && ed.on == i
theorem aw_spec {ops : Array Oper} {last i : Nat} {listed : Array Bool} (h : aw ops last i = true) (hl : last ∈ Region.ready .any ops listed) : listed.getD i false = true := by
  obtain ⟨-, o, ho, hall⟩ := mem_ready.1 hl
  unfold aw at h
  rw [ho] at h
  simp only [List.any_eq_true, Bool.and_eq_true, beq_iff_eq] at h
  obtain ⟨ed, hed, hb, hon⟩ := h
  rw [← hon]; exact hall ed (Array.mem_toList_iff.1 hed) hb
def Wh (S : World → Prop) (ops : Array Oper) (last i : Nat) (w : World) : Prop := aw ops last i = true → S w
def wpAnyL (P : Program) (last : Nat) (ops : Array Oper) (Q : Exit → Act → World → Prop) (S : World → Prop) : Nat → Array Bool → Act → World → Prop
  | 0, listed, a, w => Region.ready .any ops listed = [] ∧ Q .normal a w
  | m + 1, listed, a, w => (Region.ready .any ops listed = [] → Q .normal a w) ∧
    ∀ i ∈ Region.ready .any ops listed, wpOp P ops Q i (fun a' w' => ((listed.setIfInBounds i true).getD last false = false → S w') ∧ wpAnyL P last ops Q S m (listed.setIfInBounds i true) a' w') a w
theorem wpAnyL_any {S : World → Prop} {last : Nat} {ops : Array Oper} {Q : Exit → Act → World → Prop} {P : Program} : ∀ (m : Nat) (listed : Array Bool) (a : Act) (w : World), wpAnyL P last ops Q S m listed a w → wpAny P .any ops Q m listed a w
  | 0, _, _, _, h => h
  | m + 1, _, _, _, h => ⟨h.1, fun i hi => wpOp_mono (fun a' w' g => wpAnyL_any m _ a' w' g.2) (h.2 i hi)⟩
theorem getD_false {listed : Array Bool} {i : Nat} (h : listed.getD i true = false) : i < listed.size ∧ listed.getD i false = false := by
  rcases Nat.lt_or_ge i listed.size with g | g
  · refine ⟨g, ?_⟩
    rw [Array.getD_eq_getD_getElem?, Array.getElem?_eq_getElem g] at h ⊢; exact h
  · rw [Array.getD_eq_getD_getElem?, Array.getElem?_eq_none g] at h; cases h
theorem wpAnyL_take {P : Program} {S : World → Prop} {last : Nat} {ops : Array Oper} {Q : Exit → Act → World → Prop} {i : Nat} {oi : Oper} {v : Value} (hi : ops[i]? = some oi) (hs : Region.noSelect ops = true) (hil : i ≠ last)
    (hQ : ∀ c a w, Q (.panic c) (a.put oi.dst v) w → Q (.panic c) a w) :
    ∀ (m : Nat) (listed : Array Bool) (a : Act) (w : World), (∀ j oj, ops[j]? = some oj → j ≠ i → listed.getD j true = false → (∀ e ∈ oj.after, Region.binds .any e = true → e.on ≠ i) → oi.apart ops oj = true) →
      i ∈ Region.ready .any ops listed → YieldsIf P ops (Wh S ops last i) oi v a → (aw ops last i = true → listed.getD last false = false) → (listed.getD last false = false → S w) →
      wpAnyL P last ops Q S m (listed.setIfInBounds i true) (a.put oi.dst v) w → wpAnyL P last ops Q S (m + 1) listed a w := by
  intro m
  induction m with
  | zero =>
    intro listed a w _ hr hy hN hL H
    refine ⟨fun e => (by rw [e] at hr; cases hr), fun j hj => ?_⟩
    by_cases hji : j = i
    · rw [hji]; exact hy.wpOp hi (fun h => hL (hN h)) ⟨fun h => hL (by rwa [getD_set_ne false hil] at h), H⟩
    · have h1 := ready_mono hj hji
      rw [H.1] at h1; cases h1
  | succ m ih =>
    intro listed a w hap hr hy hN hL H
    refine ⟨fun e => (by rw [e] at hr; cases hr), fun j hj => ?_⟩
    by_cases hji : j = i
    · rw [hji]; exact hy.wpOp hi (fun h => hL (hN h)) ⟨fun h => hL (by rwa [getD_set_ne false hil] at h), H⟩
    obtain ⟨-, hfalse⟩ := getD_false (mem_ready.1 hr).1
    obtain ⟨hjun, oj, hoj, hall⟩ := mem_ready.1 hj
    have hno : ∀ e ∈ oj.after, Region.binds .any e = true → e.on ≠ i := fun e he hb heq => by
      have h1 := hall e he hb
      rw [heq, hfalse] at h1; cases h1
    have h1 := wpOp_putIf hoj (hap j oj hoj hji hjun hno) (fun cs b => Region.noSelect_spec hs i oi cs b hi) (fun cs b => Region.noSelect_spec hs j oj cs b hoj) hQ hy (H.2 j (ready_mono hj hji))
    have hN' : aw ops last i = true → (listed.setIfInBounds j true).getD last false = false := fun h => by
      have hjl : j ≠ last := fun e => by
        have h2 := aw_spec h (e ▸ hj)
        rw [hfalse] at h2; cases h2
      rw [getD_set_ne false hjl]; exact hN h
    refine wpOp_mono (fun a' w' g => ?_) h1
    have hL' : (listed.setIfInBounds j true).getD last false = false → S w' := fun h => g.2.1 (by
      rw [Array.setIfInBounds_comm _ _ (Ne.symm hji), getD_set_ne false hil]; exact h)
    refine ⟨hL', ih (listed.setIfInBounds j true) a' w' (fun q oq hq hqi hqun hqno => hap q oq hq hqi ?_ hqno) (ready_mono hr (Ne.symm hji)) g.1 hN' hL' ?_⟩
    · by_cases hjq : j = q
      · rw [← hjq]; exact hjun
      · rwa [getD_set_ne true hjq] at hqun
    · rw [Array.setIfInBounds_comm _ _ hji]; exact g.2.2
inductive Ordt where
  | nil
  | cons (p : Nat × Bool) (t : Ordt)
  | fork (i j : Nat) (t u : Ordt)
  | fork3 (i j q : Nat) (t u v : Ordt)
def Ordt.depth : Ordt → Nat
  | .nil => 0
  | .cons _ t => t.depth + 1
  | .fork _ _ t u => max t.depth u.depth + 1
  | .fork3 _ _ _ t u v => max (max t.depth u.depth) v.depth + 1
def noAw (ops : Array Oper) (last : Nat) : Ordt → Bool
  | .nil => true
  | .cons p t => (!p.2 || !aw ops last p.1) && noAw ops last t
  | .fork _ _ t u => noAw ops last t && noAw ops last u
  | .fork3 _ _ _ t u v => noAw ops last t && noAw ops last u && noAw ops last v
def okOrd (last : Nat) (ops : Array Oper) : Ordt → Array Bool → Bool
  | .nil, listed => (Region.ready .any ops listed).isEmpty
  | .fork i j t u, listed => decide (Region.ready .any ops listed = [i, j]) && !(Nat.beq i last) && !(Nat.beq j last) && okOrd last ops t (listed.setIfInBounds i true) && okOrd last ops u (listed.setIfInBounds j true)
  | .fork3 i j q t u v, listed => decide (Region.ready .any ops listed = [i, j, q]) && !(Nat.beq i last) && !(Nat.beq j last) && !(Nat.beq q last) && okOrd last ops t (listed.setIfInBounds i true) && okOrd last ops u (listed.setIfInBounds j true) && okOrd last ops v (listed.setIfInBounds q true)
  | .cons (i, true) is, listed => Region.free .any ops listed i && (Region.ready .any ops listed).contains i && !(Nat.beq i last) && okOrd last ops is (listed.setIfInBounds i true)
  | .cons (i, false) is, listed => decide (Region.ready .any ops listed = [i]) && (!(Nat.beq i last) || noAw ops last is) && okOrd last ops is (listed.setIfInBounds i true)
def ith {α : Type} : List α → Nat → Option α
  | [], _ => none
  | x :: _, 0 => some x
  | _ :: xs, i + 1 => ith xs i
theorem ith_eq {α : Type} : ∀ (l : List α) (i : Nat), ith l i = l[i]?
  | [], i => by simp [ith]
  | x :: xs, 0 => by simp [ith]
  | x :: xs, i + 1 => by simp [ith, ith_eq xs i]
def wpOrd (P : Program) (last : Nat) (os : List Oper) (Q : Exit → Act → World → Prop) (S : World → Prop) : Bool → Ordt → Act → World → Prop
  | _, .nil, a, w => Q .normal a w
  | b, .fork i j t u, a, w => wpOp P os.toArray Q i (fun a' w' => (b = false → i ≠ last → S w') ∧ wpOrd P last os Q S b t a' w') a w ∧ wpOp P os.toArray Q j (fun a' w' => (b = false → j ≠ last → S w') ∧ wpOrd P last os Q S b u a' w') a w
  | b, .fork3 i j q t u v, a, w => wpOp P os.toArray Q i (fun a' w' => (b = false → i ≠ last → S w') ∧ wpOrd P last os Q S b t a' w') a w ∧ wpOp P os.toArray Q j (fun a' w' => (b = false → j ≠ last → S w') ∧ wpOrd P last os Q S b u a' w') a w ∧ wpOp P os.toArray Q q (fun a' w' => (b = false → q ≠ last → S w') ∧ wpOrd P last os Q S b v a' w') a w
  | b, .cons (i, true) is, a, w => ∃ o, ith os i = some o ∧ ∃ v, YieldsIf P os.toArray (Wh S os.toArray last i) o v a ∧ wpOrd P last os Q S b is (a.put o.dst v) w
  | b, .cons (i, false) is, a, w => wpOp P os.toArray Q i (fun a' w' => (b = false → i ≠ last → S w') ∧ wpOrd P last os Q S (b || Nat.beq i last) is a' w') a w
theorem wpOrd_true {S : World → Prop} {last : Nat} {os : List Oper} : ∀ (is : Ordt) (b : Bool) (a : Act) (w : World), wpOrd P last os Q S b is a w → wpOrd P last os Q S true is a w := by
  intro is
  induction is with
  | nil => intro b a w h; exact h
  | cons p is ih =>
    intro b a w h
    obtain ⟨i, first⟩ := p
    cases first with
    | true => obtain ⟨o, ho, v, hy, h⟩ := h; exact ⟨o, ho, v, hy, ih _ _ _ h⟩
    | false => exact wpOp_mono (fun a' w' g => ⟨fun e => (by cases e), ih _ _ _ g.2⟩) h
  | fork i j t u iht ihu =>
    intro b a w h
    exact ⟨wpOp_mono (fun a' w' g => ⟨fun e => (by cases e), iht _ _ _ g.2⟩) h.1, wpOp_mono (fun a' w' g => ⟨fun e => (by cases e), ihu _ _ _ g.2⟩) h.2⟩
  | fork3 i j q t u v iht ihu ihv =>
    intro b a w h
    exact ⟨wpOp_mono (fun a' w' g => ⟨fun e => (by cases e), iht _ _ _ g.2⟩) h.1, wpOp_mono (fun a' w' g => ⟨fun e => (by cases e), ihu _ _ _ g.2⟩) h.2.1, wpOp_mono (fun a' w' g => ⟨fun e => (by cases e), ihv _ _ _ g.2⟩) h.2.2⟩
theorem wpOrd_or {S : World → Prop} {last : Nat} {os : List Oper} {is : Ordt} {b : Bool} (x : Bool) {a : Act} {w : World} (h : wpOrd P last os Q S b is a w) : wpOrd P last os Q S (b || x) is a w := by
  cases b <;> cases x
  · exact h
  · exact wpOrd_true _ _ _ _ h
  · exact h
  · exact h
theorem wpAnyL_of_ord {S : World → Prop} {last : Nat} {os : List Oper} (hs : Region.noSelect os.toArray = true) (hQ : ∀ c a w, ¬ Q (.panic c) a w) :
  ∀ (is : Ordt) (fuel : Nat) (listed : Array Bool) (b : Bool) (a : Act) (w : World), is.depth ≤ fuel → okOrd last os.toArray is listed = true → (listed.getD last false = true → noAw os.toArray last is = true) → (listed.getD last false = false → S w) → (b = true → listed.getD last false = true) →
   wpOrd P last os Q S b is a w → wpAnyL P last os.toArray Q S fuel listed a w := by
 intro is
 induction is with
 | nil =>
  intro fuel listed b a w _ hok _ _ _ h
  have hr : Region.ready .any os.toArray listed = [] := by simpa [okOrd] using hok
  cases fuel with
  | zero => exact ⟨hr, h⟩
  | succ m => exact ⟨fun _ => h, by rw [hr]; simp⟩
 | cons p is ih =>
  intro fuel listed b a w hlen hok hK hL hB h
  obtain ⟨fuel, rfl⟩ : ∃ m, fuel = m + 1 := ⟨fuel - 1, by simp [Ordt.depth] at hlen; omega⟩
  have hlen' : is.depth ≤ fuel := by simp [Ordt.depth] at hlen; omega
  obtain ⟨i, first⟩ := p
  cases first with
  | true =>
   obtain ⟨o, ho, v, hy, h⟩ := h
   have ho' : os.toArray[i]? = some o := by rw [← ho, ith_eq]; simp
   unfold okOrd at hok
   simp only [Bool.and_eq_true, Bool.not_eq_true'] at hok
   have hil : i ≠ last := fun e => by
    have h1 := hok.1.2
    rw [e, show Nat.beq last last = true by simp] at h1; cases h1
   refine wpAnyL_take ho' hs hil (fun c a w h => (hQ _ _ _ h).elim) fuel listed a w (Region.free_spec ho' hok.1.1.1) (by simpa using hok.1.1.2) hy (fun haw => ?_) hL (ih _ _ b _ _ hlen' hok.2 (fun hl => ?_) (fun hl => hL ?_) (fun e => ?_) h)
   ·
    cases hx : listed.getD last false with
    | false => rfl
    | true =>
     have h2 := hK hx
     unfold noAw at h2
     simp only [haw, Bool.not_true, Bool.or_self, Bool.false_and] at h2
     cases h2
   ·
    rw [getD_set_ne false hil] at hl
    have h2 := hK hl
    unfold noAw at h2
    simp only [Bool.and_eq_true] at h2
    exact h2.2
   · rwa [getD_set_ne false hil] at hl
   · rw [getD_set_ne false hil]; exact hB e
  | false =>
   unfold okOrd at hok
   simp only [Bool.and_eq_true, decide_eq_true_eq] at hok
   refine ⟨fun e => (by rw [hok.1.1] at e; cases e), fun j hj => ?_⟩
   have hj0 := hj
   rw [hok.1.1] at hj
   have : j = i := by simpa using hj
   subst this
   obtain ⟨hlt, -⟩ := getD_false (mem_ready.1 hj0).1
   have hself : j = last → (listed.setIfInBounds j true).getD last false = true := fun e => by
    subst e
    rw [Array.getD_eq_getD_getElem?, Array.getElem?_setIfInBounds_self_of_lt hlt]; rfl
   have key : ∀ w', (b = false → j ≠ last → S w') → (listed.setIfInBounds j true).getD last false = false → S w' := fun w' hS hl => by
    have hjl : j ≠ last := fun e => by rw [hself e] at hl; cases hl
    refine hS ?_ hjl
    rw [getD_set_ne false hjl] at hl
    cases hb : b with
    | false => rfl
    | true => rw [hB hb] at hl; cases hl
   refine wpOp_mono (fun a' w' h => ⟨key w' h.1, ih _ _ (b || Nat.beq j last) _ _ hlen' hok.2 (fun hl => ?_) (key w' h.1) (fun e => ?_) h.2⟩) h
   ·
    by_cases hjl : j = last
    ·
     have h2 := hok.1.2
     rw [hjl, show Nat.beq last last = true by simp] at h2
     simpa using h2
    ·
     rw [getD_set_ne false hjl] at hl
     have h2 := hK hl
     unfold noAw at h2
     simp only [Bool.and_eq_true] at h2
     exact h2.2
   ·
    by_cases hjl : j = last
    · exact hself hjl
    ·
     have hbq : Nat.beq j last = false := by rw [← Bool.not_eq_true, Nat.beq_eq]; exact hjl
     rw [hbq, Bool.or_false] at e
     rw [getD_set_ne false hjl]; exact hB e
 | fork i j t u iht ihu =>
  intro fuel listed b a w hlen hok hK hL hB h
  obtain ⟨fuel, rfl⟩ : ∃ m, fuel = m + 1 := ⟨fuel - 1, by simp [Ordt.depth] at hlen; omega⟩
  have hlt : t.depth ≤ fuel := by simp [Ordt.depth] at hlen; omega
  have hlu : u.depth ≤ fuel := by simp [Ordt.depth] at hlen; omega
  unfold okOrd at hok
  simp only [Bool.and_eq_true, decide_eq_true_eq, Bool.not_eq_true'] at hok
  obtain ⟨⟨⟨⟨hr, hi⟩, hj⟩, hot⟩, hou⟩ := hok
  have hil : i ≠ last := fun e => by rw [e, show Nat.beq last last = true by simp] at hi; cases hi
  have hjl : j ≠ last := fun e => by rw [e, show Nat.beq last last = true by simp] at hj; cases hj
  have hb0 : listed.getD last false = false → b = false := fun hl => by
   cases hb : b with
   | false => rfl
   | true => rw [hB hb] at hl; cases hl
  obtain ⟨h1, h2⟩ := h
  refine ⟨fun e => (by rw [hr] at e; cases e), fun q hq => ?_⟩
  rw [hr] at hq
  rcases List.mem_cons.1 hq with rfl | hq
  ·
   refine wpOp_mono (fun a' w' h => ⟨fun hl => h.1 (hb0 (by rwa [getD_set_ne false hil] at hl)) hil, iht _ _ b _ _ hlt hot (fun hl => ?_) (fun hl => h.1 (hb0 (by rwa [getD_set_ne false hil] at hl)) hil) (fun e => by rw [getD_set_ne false hil]; exact hB e) h.2⟩) h1
   rw [getD_set_ne false hil] at hl
   have h3 := hK hl
   unfold noAw at h3
   simp only [Bool.and_eq_true] at h3
   exact h3.1
  ·
   obtain rfl : q = j := by simpa using hq
   refine wpOp_mono (fun a' w' h => ⟨fun hl => h.1 (hb0 (by rwa [getD_set_ne false hjl] at hl)) hjl, ihu _ _ b _ _ hlu hou (fun hl => ?_) (fun hl => h.1 (hb0 (by rwa [getD_set_ne false hjl] at hl)) hjl) (fun e => by rw [getD_set_ne false hjl]; exact hB e) h.2⟩) h2
   rw [getD_set_ne false hjl] at hl
   have h3 := hK hl
   unfold noAw at h3
   simp only [Bool.and_eq_true] at h3
   exact h3.2
 | fork3 i j p t u v iht ihu ihv =>
  intro fuel listed b a w hlen hok hK hL hB h
  obtain ⟨fuel, rfl⟩ : ∃ m, fuel = m + 1 := ⟨fuel - 1, by simp [Ordt.depth] at hlen; omega⟩
  have hlt : t.depth ≤ fuel := by simp [Ordt.depth] at hlen; omega
  have hlu : u.depth ≤ fuel := by simp [Ordt.depth] at hlen; omega
  have hlv : v.depth ≤ fuel := by simp [Ordt.depth] at hlen; omega
  unfold okOrd at hok
  simp only [Bool.and_eq_true, decide_eq_true_eq, Bool.not_eq_true'] at hok
  obtain ⟨⟨⟨⟨⟨⟨hr, hi⟩, hj⟩, hp⟩, hot⟩, hou⟩, hov⟩ := hok
  have hil : i ≠ last := fun e => by rw [e, show Nat.beq last last = true by simp] at hi; cases hi
  have hjl : j ≠ last := fun e => by rw [e, show Nat.beq last last = true by simp] at hj; cases hj
  have hpl : p ≠ last := fun e => by rw [e, show Nat.beq last last = true by simp] at hp; cases hp
  have hb0 : listed.getD last false = false → b = false := fun hl => by
   cases hb : b with
   | false => rfl
   | true => rw [hB hb] at hl; cases hl
  have h9 : listed.getD last false = true → noAw os.toArray last t = true ∧ noAw os.toArray last u = true ∧ noAw os.toArray last v = true := fun hl => by
   have h3 := hK hl
   unfold noAw at h3
   simp only [Bool.and_eq_true] at h3
   exact ⟨h3.1.1, h3.1.2, h3.2⟩
  obtain ⟨h1, h2, h3⟩ := h
  refine ⟨fun e => (by rw [hr] at e; cases e), fun q hq => ?_⟩
  rw [hr] at hq
  rcases List.mem_cons.1 hq with rfl | hq
  · exact wpOp_mono (fun a' w' h => ⟨fun hl => h.1 (hb0 (by rwa [getD_set_ne false hil] at hl)) hil, iht _ _ b _ _ hlt hot (fun hl => (h9 (by rwa [getD_set_ne false hil] at hl)).1) (fun hl => h.1 (hb0 (by rwa [getD_set_ne false hil] at hl)) hil) (fun e => by rw [getD_set_ne false hil]; exact hB e) h.2⟩) h1
  rcases List.mem_cons.1 hq with rfl | hq
  · exact wpOp_mono (fun a' w' h => ⟨fun hl => h.1 (hb0 (by rwa [getD_set_ne false hjl] at hl)) hjl, ihu _ _ b _ _ hlu hou (fun hl => (h9 (by rwa [getD_set_ne false hjl] at hl)).2.1) (fun hl => h.1 (hb0 (by rwa [getD_set_ne false hjl] at hl)) hjl) (fun e => by rw [getD_set_ne false hjl]; exact hB e) h.2⟩) h2
  ·
   obtain rfl : q = p := by simpa using hq
   exact wpOp_mono (fun a' w' h => ⟨fun hl => h.1 (hb0 (by rwa [getD_set_ne false hpl] at hl)) hpl, ihv _ _ b _ _ hlv hov (fun hl => (h9 (by rwa [getD_set_ne false hpl] at hl)).2.2) (fun hl => h.1 (hb0 (by rwa [getD_set_ne false hpl] at hl)) hpl) (fun e => by rw [getD_set_ne false hpl]; exact hB e) h.2⟩) h3
theorem replicate_getD (n i : Nat) : (Array.replicate n false).getD i false = false := by
  rw [Array.getD_eq_getD_getElem?, Array.getElem?_replicate]; split <;> rfl
theorem Ends.drawn {id : Nat} {os : List Oper} (S : World → Prop) (is : Ordt) (last : Nat) (hm : P.follows .mixedOrders = true) (hs : Region.noSelect os.toArray = true)
    (hl : Nat.ble is.depth os.toArray.size = true) (hok : okOrd last os.toArray is (Array.replicate os.toArray.size false) = true) (hS : S w.drew) (h : wpOrd P last os (Aft P f R k) S false is a w.drew) :
    Ends P f R (.code (.region id os.toArray true) :: k) a w :=
  Ends.of_wp (wp_region_any hm (wpAnyL_any _ _ _ _ (wpAnyL_of_ord hs (fun _ _ _ h => h) is _ _ _ _ _ (by simpa using hl) hok (fun h => by rw [replicate_getD] at h; cases h) (fun _ => hS) (fun h => by cases h) h)))
section
variable {S : World → Prop} {os : List Oper} {is : Ordt} {i last : Nat} {b0 : Bool}
theorem D.val {d : Nat} {op : Op} {ty : TypeId} {pos : String} {aft : Array Edge} {v : Value} (hA : St n l a) (ho : ith os i = some { dst := some d, op, type := ty, pos, after := aft, guard := none }) (haw : aw os.toArray last i = true)
    (hr : ∀ w, S w → Run P l w op ty v w) (hd : Nat.blt d n = true) (h : ∀ a, St n ((d, v) :: l) a → wpOrd P last os Q S b0 is a w) : wpOrd P last os Q S b0 (.cons (i, true) is) a w :=
  ⟨_, ho, v, .inl ⟨rfl, fun w hS => hr w (hS haw) a.eval (fun _ _ hx => hA.eval hx) _ _ _ _⟩, h _ (hA.put hd v)⟩
theorem D.valF {d : Nat} {op : Op} {ty : TypeId} {pos : String} {aft : Array Edge} {v : Value} (hA : St n l a) (ho : ith os i = some { dst := some d, op, type := ty, pos, after := aft, guard := none })
    (hr : ∀ w, Run P l w op ty v w) (hd : Nat.blt d n = true) (h : ∀ a, St n ((d, v) :: l) a → wpOrd P last os Q S b0 is a w) : wpOrd P last os Q S b0 (.cons (i, true) is) a w :=
  ⟨_, ho, v, .inl ⟨rfl, fun w _ => hr w a.eval (fun _ _ hx => hA.eval hx) _ _ _ _⟩, h _ (hA.put hd v)⟩
theorem D.valg {d j dj : Nat} {b : Bool} {op : Op} {ty : TypeId} {pos : String} {aft : Array Edge} {v : Value} (hA : St n l a) (ho : ith os i = some { dst := some d, op, type := ty, pos, after := aft, guard := some (j, b) }) (haw : aw os.toArray last i = true)
    (hj : dstOf os.toArray j = some dj) (hl : lk l dj = some (.bool b))
    (hr : ∀ w, S w → Run P l w op ty v w) (hd : Nat.blt d n = true) (h : ∀ a, St n ((d, v) :: l) a → wpOrd P last os Q S b0 is a w) : wpOrd P last os Q S b0 (.cons (i, true) is) a w :=
  ⟨_, ho, v, .inl ⟨by rw [wanted_of hA rfl hj hl]; simp, fun w hS => hr w (hS haw) a.eval (fun _ _ hx => hA.eval hx) _ _ _ _⟩, h _ (hA.put hd v)⟩
theorem D.no {d j dj : Nat} {b u : Bool} {op : Op} {ty : TypeId} {pos : String} {aft : Array Edge} (hA : St n l a) (ho : ith os i = some { dst := some d, op, type := ty, pos, after := aft, guard := some (j, b) })
    (hj : dstOf os.toArray j = some dj) (hl : lk l dj = some (.bool u)) (hu : (u == b) = false)
    (hd : Nat.blt d n = true) (h : ∀ a, St n ((d, undef) :: l) a → wpOrd P last os Q S b0 is a w) : wpOrd P last os Q S b0 (.cons (i, true) is) a w :=
  ⟨_, ho, undef, .inr ⟨by rw [wanted_of hA rfl hj hl, hu], rfl⟩, h _ (hA.put hd undef)⟩
theorem wpOp_of {o : Oper} {K : Act → World → Prop} (ho : ith os i = some o) (hw : Region.wanted o (yielded os.toArray a.tmps) = true) (h : o.wp P a w K Q) : wpOp P os.toArray Q i K a w := by
  unfold wpOp
  have ho' : os.toArray[i]? = some o := by rw [List.getElem?_toArray, ← ith_eq, ho]
  simp only [ho', hw, if_true]
  exact .inl h
theorem D.eff {d : Nat} {op : Op} {ty : TypeId} {pos : String} {aft : Array Edge} {v : Value} (hA : St n l a) (ho : ith os i = some { dst := some d, op, type := ty, pos, after := aft, guard := none })
    (hr : Run P l w op ty v w') (hd : Nat.blt d n = true) (hS : S w') (h : ∀ a, St n ((d, v) :: l) a → wpOrd P last os Q S b0 is a w') : wpOrd P last os Q S b0 (.cons (i, false) is) a w :=
  wpOp_of ho rfl (by
    unfold Oper.wp
    rw [hr a.eval (fun x u hx => hA.eval hx)]
    exact ⟨fun _ _ => hS, wpOrd_or _ (h _ (hA.put hd v))⟩)
theorem D.skip {op : Op} {ty : TypeId} {pos : String} {aft : Array Edge} (hA : St n l a) (ho : ith os i = some { dst := none, op, type := ty, pos, after := aft, guard := none })
    (hr : RunN P l w op ty .skip w') (hS : b0 = false → i ≠ last → S w') (h : wpOrd P last os Q S (b0 || Nat.beq i last) is a w') : wpOrd P last os Q S b0 (.cons (i, false) is) a w :=
  wpOp_of ho rfl (by
    unfold Oper.wp
    rw [hr a.eval (fun x u hx => hA.eval hx)]
    exact ⟨hS, h⟩)
theorem D.call {d : Nat} {op : Op} {ty : TypeId} {pos : String} {aft : Array Edge} {g : FuncId} {args : Array Value} {R' : Ending → World → Prop} (hA : St n l a) (ho : ith os i = some { dst := some d, op, type := ty, pos, after := aft, guard := none })
    (hr : RunN P l w op ty (.enter g args) w) (hd : Nat.blt d n = true)
    (hc : Calls P g args w R') (h : ∀ e w', R' e w' → ∃ v, e = .returned v ∧ S w' ∧ ∀ a, St n ((d, v) :: l) a → wpOrd P last os Q S b0 is a w') : wpOrd P last os Q S b0 (.cons (i, false) is) a w :=
  wpOp_of ho rfl (by
    unfold Oper.wp
    rw [hr a.eval (fun x u hx => hA.eval hx)]
    refine hc.mono fun e w2 hR => ?_
    obtain ⟨v, rfl, hS, hv⟩ := h e w2 hR
    exact ⟨fun _ _ => hS, wpOrd_or _ (hv _ (hA.put hd v))⟩)
theorem D.callg {d j dj : Nat} {b : Bool} {op : Op} {ty : TypeId} {pos : String} {aft : Array Edge} {g : FuncId} {args : Array Value} {R' : Ending → World → Prop} (hA : St n l a) (ho : ith os i = some { dst := some d, op, type := ty, pos, after := aft, guard := some (j, b) })
    (hj : dstOf os.toArray j = some dj) (hl : lk l dj = some (.bool b))
    (hr : RunN P l w op ty (.enter g args) w) (hd : Nat.blt d n = true)
    (hc : Calls P g args w R') (h : ∀ e w', R' e w' → ∃ v, e = .returned v ∧ S w' ∧ ∀ a, St n ((d, v) :: l) a → wpOrd P last os Q S b0 is a w') : wpOrd P last os Q S b0 (.cons (i, false) is) a w :=
  wpOp_of ho (by rw [wanted_of hA rfl hj hl]; simp) (by
    unfold Oper.wp
    rw [hr a.eval (fun x u hx => hA.eval hx)]
    refine hc.mono fun e w2 hR => ?_
    obtain ⟨v, rfl, hS, hv⟩ := h e w2 hR
    exact ⟨fun _ _ => hS, wpOrd_or _ (hv _ (hA.put hd v))⟩)
theorem D.done (h : Ends P f R k a w) : wpOrd P last os (Aft P f R k) S b0 .nil a w := h
theorem D.fork {j : Nat} {t u : Ordt} (hb : Nat.beq i last = false) (hb2 : Nat.beq j last = false) (h1 : wpOrd P last os Q S b0 (.cons (i, false) t) a w) (h2 : wpOrd P last os Q S b0 (.cons (j, false) u) a w) : wpOrd P last os Q S b0 (.fork i j t u) a w := by
  unfold wpOrd at h1 h2
  rw [hb, Bool.or_false] at h1
  rw [hb2, Bool.or_false] at h2
  exact ⟨h1, h2⟩
theorem D.fork3 {j p : Nat} {t u v : Ordt} (hb : Nat.beq i last = false) (hb2 : Nat.beq j last = false) (hb3 : Nat.beq p last = false) (h1 : wpOrd P last os Q S b0 (.cons (i, false) t) a w) (h2 : wpOrd P last os Q S b0 (.cons (j, false) u) a w) (h3 : wpOrd P last os Q S b0 (.cons (p, false) v) a w) : wpOrd P last os Q S b0 (.fork3 i j p t u v) a w := by
  unfold wpOrd at h1 h2 h3
  rw [hb, Bool.or_false] at h1
  rw [hb2, Bool.or_false] at h2
  rw [hb3, Bool.or_false] at h3
  exact ⟨h1, h2, h3⟩
end
end
end
section
open Go.RowKit
def blk (w : World) (b : Nat) (cs : Array Value) (t : TypeId) : Prop := w.heap[b]? = some (.cells cs t (0, 0))
theorem blk.lt {w : World} {b : Nat} {cs : Array Value} {t : TypeId} (h : blk w b cs t) : b < w.heap.size := lt_of_block h
theorem blk.cell {w : World} {b : Nat} {cs : Array Value} {t : TypeId} (h : blk w b cs t) (i : Nat) : w.cell? ⟨b, i, none⟩ = cs[i]? := by
  unfold blk at h; simp [World.cell?, h]
theorem blk.free {w : World} {b : Nat} {cs : Array Value} {t : TypeId} (h : blk w b cs t) (i : Nat) : w.frozen? ⟨b, i, none⟩ = false := by
  unfold blk at h; simp [World.frozen?, h]
theorem blk.new (w : World) (cs : Array Value) (t : TypeId) : blk (w.alloc (.cells cs t)) w.heap.size cs t := heap_alloc_new w _
theorem blk.alloc {w : World} {b : Nat} {cs : Array Value} {t : TypeId} (h : blk w b cs t) (o : Obj) : blk (w.alloc o) b cs t := by
  unfold blk at *; rw [Below.heap_alloc _ _ _ (lt_of_block h)]; exact h
theorem blk.drew {w : World} {b : Nat} {cs : Array Value} {t : TypeId} (h : blk w b cs t) : blk w.drew b cs t := h
theorem blk.other {w : World} {b : Nat} {cs : Array Value} {t : TypeId} (h : blk w b cs t) {a : Addr} (ha : b ≠ a.block) (v : Value) : blk (w.setCell a v) b cs t := by
  unfold blk at *; rw [Below.heap_setCell _ _ _ _ ha]; exact h
theorem blk.off {w : World} {b : Nat} {cs : Array Value} {t : TypeId} (h : blk w b cs t) {b' i : Nat} (ha : b ≠ b') (v : Value) : blk (w.setCell ⟨b', i, none⟩ v) b cs t := h.other ha v
theorem blk.set {w : World} {b : Nat} {cs : Array Value} {t : TypeId} (h : blk w b cs t) (i : Nat) (v : Value) : blk (w.setCell ⟨b, i, none⟩ v) b (cs.setIfInBounds i v) t := by
  have hlt := h.lt
  unfold blk at *
  have h' : w.heap[b] = .cells cs t (0, 0) := by simpa [Array.getElem?_eq_getElem hlt] using h
  show (w.heap.modify b _)[b]? = _
  rw [Array.getElem?_eq_getElem (by simpa using hlt), Array.getElem_modify_self, h']
  rfl
theorem blk.to {w : World} {b : Nat} {cs cs' : Array Value} {t : TypeId} (h : blk w b cs t) (hc : cs = cs') : blk w b cs' t := hc ▸ h
theorem blk.below {B : Nat} {w w' : World} {b : Nat} {cs : Array Value} {t : TypeId} (h : blk w b cs t) (hb : Below B w w') (hlt : b < B) : blk w' b cs t := by
  unfold blk at *; rw [hb.block b hlt]; exact h
theorem bcell {B : Nat} {W w1 : World} (hb : Below B W w1) : (∀ b o, b < B → w1.cell? ⟨b, o, none⟩ = W.cell? ⟨b, o, none⟩) ∧ (∀ b o, b < B → w1.frozen? ⟨b, o, none⟩ = W.frozen? ⟨b, o, none⟩) :=
  ⟨fun b o h => hb.cell (p := ⟨b, o, none⟩) h, fun b o h => hb.frozen (p := ⟨b, o, none⟩) h⟩
def ints (l : List Int) : Array Value := (l.map (Value.int .i64)).toArray
theorem ints_getD (l : List Int) (i : Nat) (h : i < l.length) : (ints l)[i]? = some (.int .i64 (l.getD i 0)) := by simp [ints, h]
theorem ints_set (l : List Int) (i : Nat) (v : Int) : (ints l).setIfInBounds i (.int .i64 v) = ints (l.set i v) := by
  simp [ints, List.map_set]
def row (n : Nat) (f : Nat → Int) : List Int := (List.range n).map f
end
section
open Go.RowKit
def fieldInfo (P : Program) (t : TypeId) (i : Nat) : Option (Nat × Bool × Nat) :=
  match P.underlying t with
  | some (.struct fs) => match fs[i]? with
    | some f => match P.underlying f.type, P.info? f.type with
      | some d, some j => some (f.offset, d.isRow, j.size)
      | _, _ => none
    | none => none
  | _ => none
def szOf (P : Program) (t : TypeId) : Option (Bool × Nat) :=
  match P.underlying t, P.info? t with
  | some d, some j => some (d.isRow, j.size)
  | _, _ => none
def slInfo (P : Program) (t : TypeId) : Option (Bool × Nat) :=
  match P.underlying t with
  | some (.slice e) => szOf P e
  | _ => none
def arInfo (P : Program) (t : TypeId) : Option (Nat × Bool × Nat) :=
  match P.underlying t with
  | some (.array n e) => (szOf P e).map fun x => (n, x.1, x.2)
  | _ => none
section
variable {P : Program} {l : List (Nat × Value)} {w : World} {ty : TypeId} {x y z : Operand} {k k' : IntKind} {m n : Int} {t yt : TypeId}
theorem fieldInfo_spec {i off sz : Nat} {b : Bool} (h : fieldInfo P t i = some (off, b, sz)) :
    ∃ fs f d j, P.underlying t = some (.struct fs) ∧ fs[i]? = some f ∧ P.underlying f.type = some d ∧ P.info? f.type = some j ∧ f.offset = off ∧ d.isRow = b ∧ j.size = sz := by
  unfold fieldInfo at h
  split at h
  · rename_i fs hu
    split at h
    · rename_i f hf
      split at h
      · rename_i d j hd hj
        simp only [Option.some.injEq, Prod.mk.injEq] at h
        exact ⟨fs, f, d, j, hu, hf, hd, hj, h.1, h.2.1, h.2.2⟩
      · cases h
    · cases h
  · cases h
theorem szOf_spec {sz : Nat} {b : Bool} (h : szOf P t = some (b, sz)) : ∃ d j, P.underlying t = some d ∧ P.info? t = some j ∧ d.isRow = b ∧ j.size = sz := by
  unfold szOf at h
  split at h
  · rename_i d j hd hj
    simp only [Option.some.injEq, Prod.mk.injEq] at h
    exact ⟨d, j, hd, hj, h.1, h.2⟩
  · cases h
theorem slInfo_spec {sz : Nat} {b : Bool} (h : slInfo P t = some (b, sz)) : ∃ e, P.underlying t = some (.slice e) ∧ szOf P e = some (b, sz) := by
  unfold slInfo at h
  split at h
  · rename_i e hu; exact ⟨e, hu, h⟩
  · cases h
theorem arInfo_spec {n sz : Nat} {b : Bool} (h : arInfo P t = some (n, b, sz)) : ∃ e, P.underlying t = some (.array n e) ∧ szOf P e = some (b, sz) := by
  unfold arInfo at h
  split at h
  · rename_i n' e hu
    cases hz : szOf P e with
    | none => simp [hz] at h
    | some x =>
      simp only [hz, Option.map_some, Option.some.injEq, Prod.mk.injEq] at h
      obtain ⟨rfl, h1, h2⟩ := h
      exact ⟨e, hu, by rw [← h1, ← h2] ; exact hz⟩
  · cases h
theorem run_isAgg_of {d : TypeDesc} (h : P.underlying t = some d) : (isAgg t).run P w = .ok d.isRow w := by
  unfold isAgg
  rw [Sem.run_bind, run_underlying h w]
  cases d <;> rfl
theorem run_sizeOf_of {j : TypeInfo} (h : P.info? t = some j) : (sizeOf t).run P w = .ok j.size w := by
  simp [sizeOf, typeInfo, h]
theorem beq_dec (m n : Int) : (m == n) = decide (m = n) := by rw [Bool.eq_iff_iff]; simp
theorem R.tt {p : Prop} [Decidable p] {op : Op} {w' : World} (h : Run P l w op ty (.bool (decide p)) w') (hp : p) : Run P l w op ty (.bool true) w' := by rwa [decide_eq_true hp] at h
theorem R.ff {p : Prop} [Decidable p] {op : Op} {w' : World} (h : Run P l w op ty (.bool (decide p)) w') (hp : ¬ p) : Run P l w op ty (.bool false) w' := by rwa [decide_eq_false hp] at h
theorem R.to {op : Op} {w' : World} {u v : Value} (h : Run P l w op ty u w') (e : u = v) : Run P l w op ty v w' := e ▸ h
theorem R.move {v : Value} (hx : opv l x = some v) : Run P l w (.move x) ty v w := fun ev h _ _ _ _ => by simp only [execOp, h _ _ hx]; rfl
theorem R.assign {v : Value} (hx : opv l x = some v) : Run P l w (.assign x) ty v w := fun ev h _ _ _ _ => by simp only [execOp, h _ _ hx]; rfl
theorem R.pickT {v : Value} (hc : opv l z = some (.bool true)) (hx : opv l x = some v) : Run P l w (.pick z x y) ty v w := fun ev h _ _ _ _ => by simp only [execOp, h _ _ hc, h _ _ hx]; rfl
theorem R.pickF {v : Value} (hc : opv l z = some (.bool false)) (hy : opv l y = some v) : Run P l w (.pick z x y) ty v w := fun ev h _ _ _ _ => by simp only [execOp, h _ _ hc, h _ _ hy]; rfl
theorem R.extract {vs : Array Value} {i : Nat} {v : Value} (hx : opv l x = some (.tuple vs)) (hv : vs[i]? = some v) : Run P l w (.extract x i) ty v w := fun ev h _ _ _ _ => by
  simp [execOp, h _ _ hx, Instr.extract, hv]
theorem R.nilCheck {p : Addr} (hx : opv l x = some (.pointer (some p))) : Run P l w (.nilCheck x) ty (.pointer (some p)) w := fun ev h _ _ _ _ => by simp only [execOp, h _ _ hx]; rfl
theorem R.add (hx : opv l x = some (.int k m)) (hy : opv l y = some (.int k n)) : Run P l w (.binOp .add t x y yt) ty (.int k (k.wrap (m + n))) w := fun ev h _ _ _ _ => by
  simp [execOp, h _ _ hx, h _ _ hy, eqGuard, binOp, Op.intArith]
theorem R.sub (hx : opv l x = some (.int k m)) (hy : opv l y = some (.int k n)) : Run P l w (.binOp .sub t x y yt) ty (.int k (k.wrap (m - n))) w := fun ev h _ _ _ _ => by
  simp [execOp, h _ _ hx, h _ _ hy, eqGuard, binOp, Op.intArith]
theorem R.mul (hx : opv l x = some (.int k m)) (hy : opv l y = some (.int k n)) : Run P l w (.binOp .mul t x y yt) ty (.int k (k.wrap (m * n))) w := fun ev h _ _ _ _ => by
  simp [execOp, h _ _ hx, h _ _ hy, eqGuard, binOp, Op.intArith]
theorem R.addI (hx : opv l x = some (.int .i64 m)) (hy : opv l y = some (.int .i64 n)) {r : Int} (hr : m + n = r) (h0 : -9223372036854775808 ≤ r ∧ r ≤ 9223372036854775807) : Run P l w (.binOp .add t x y yt) ty (.int .i64 r) w := by
  subst hr; have := R.add (P := P) (w := w) (ty := ty) (t := t) (yt := yt) hx hy; rwa [IntWalk.i64_in _ ⟨h0.1, by omega⟩] at this
theorem R.subI (hx : opv l x = some (.int .i64 m)) (hy : opv l y = some (.int .i64 n)) {r : Int} (hr : m - n = r) (h0 : -9223372036854775808 ≤ r ∧ r ≤ 9223372036854775807) : Run P l w (.binOp .sub t x y yt) ty (.int .i64 r) w := by
  subst hr; have := R.sub (P := P) (w := w) (ty := ty) (t := t) (yt := yt) hx hy; rwa [IntWalk.i64_in _ ⟨h0.1, by omega⟩] at this
theorem R.mulI (hx : opv l x = some (.int .i64 m)) (hy : opv l y = some (.int .i64 n)) {r : Int} (hr : m * n = r) (h0 : -9223372036854775808 ≤ r ∧ r ≤ 9223372036854775807) : Run P l w (.binOp .mul t x y yt) ty (.int .i64 r) w := by
  subst hr; have := R.mul (P := P) (w := w) (ty := ty) (t := t) (yt := yt) hx hy; rwa [IntWalk.i64_in _ ⟨h0.1, by omega⟩] at this
theorem R.quo (hx : opv l x = some (.int k m)) (hy : opv l y = some (.int k n)) (h0 : n ≠ 0) : Run P l w (.binOp .quo t x y yt) ty (.int k (k.wrap (m.tdiv n))) w := fun ev h _ _ _ _ => by
  simp [execOp, h _ _ hx, h _ _ hy, eqGuard, binOp, Op.intDiv, h0]
theorem R.rem (hx : opv l x = some (.int k m)) (hy : opv l y = some (.int k n)) (h0 : n ≠ 0) : Run P l w (.binOp .rem t x y yt) ty (.int k (m.tmod n)) w := fun ev h _ _ _ _ => by
  simp [execOp, h _ _ hx, h _ _ hy, eqGuard, binOp, Op.intDiv, h0]
theorem R.quoI (hx : opv l x = some (.int .i64 m)) (hy : opv l y = some (.int .i64 n)) {r : Int} (hr : m / n = r) (h0 : 0 ≤ m ∧ m ≤ 9223372036854775807 ∧ 0 < n) : Run P l w (.binOp .quo t x y yt) ty (.int .i64 r) w := by
  subst hr
  have := R.quo (P := P) (w := w) (ty := ty) (t := t) (yt := yt) hx hy (by omega)
  rw [Int.tdiv_eq_ediv_of_nonneg h0.1] at this
  have h1 : 0 ≤ m / n := Int.ediv_nonneg h0.1 (by omega)
  have h2 : m / n ≤ m := Int.ediv_le_self _ h0.1
  rwa [IntWalk.i64_in _ ⟨by omega, by omega⟩] at this
theorem R.remI (hx : opv l x = some (.int k m)) (hy : opv l y = some (.int k n)) {r : Int} (hr : m % n = r) (h0 : 0 ≤ m ∧ n ≠ 0) : Run P l w (.binOp .rem t x y yt) ty (.int k r) w := by
  subst hr
  have := R.rem (P := P) (w := w) (ty := ty) (t := t) (yt := yt) hx hy h0.2
  rwa [Int.tmod_eq_emod_of_nonneg h0.1] at this
theorem R.bits {op : BinOp} (hop : op = .and ∨ op = .or ∨ op = .xor ∨ op = .andNot) (hx : opv l x = some (.int k m)) (hy : opv l y = some (.int k n)) : Run P l w (.binOp op t x y yt) ty (.int k (bits op k m n)) w := fun ev h _ _ _ _ => by
  rcases hop with rfl | rfl | rfl | rfl <;> simp [execOp, h _ _ hx, h _ _ hy, eqGuard, binOp, Op.intBits, Go.bits]
theorem R.shl (hx : opv l x = some (.int k m)) (hy : opv l y = some (.int k' n)) (h0 : 0 ≤ n) : Run P l w (.binOp .shl t x y yt) ty (.int k (k.wrap (m * 2 ^ min n.toNat k.bits))) w := fun ev h _ _ _ _ => by
  simp [execOp, h _ _ hx, h _ _ hy, eqGuard, binOp, Op.shift, show ¬ n < 0 by omega]
theorem R.shr (hx : opv l x = some (.int k m)) (hy : opv l y = some (.int k' n)) (h0 : 0 ≤ n) : Run P l w (.binOp .shr t x y yt) ty (.int k (m.fdiv (2 ^ min n.toNat k.bits))) w := fun ev h _ _ _ _ => by
  simp [execOp, h _ _ hx, h _ _ hy, eqGuard, binOp, Op.shift, show ¬ n < 0 by omega]
theorem R.eql (hx : opv l x = some (.int k m)) (hy : opv l y = some (.int k n)) : Run P l w (.binOp .eql t x y yt) ty (.bool (decide (m = n))) w := fun ev h _ _ _ _ => by
  simp [execOp, h _ _ hx, h _ _ hy, eqGuard, binOp, Op.intCmp, beq_dec]
theorem R.neq (hx : opv l x = some (.int k m)) (hy : opv l y = some (.int k n)) : Run P l w (.binOp .neq t x y yt) ty (.bool (decide (m ≠ n))) w := fun ev h _ _ _ _ => by
  simp [execOp, h _ _ hx, h _ _ hy, eqGuard, binOp, Op.intCmp, bne, beq_dec]
theorem R.lss (hx : opv l x = some (.int k m)) (hy : opv l y = some (.int k n)) : Run P l w (.binOp .lss t x y yt) ty (.bool (decide (m < n))) w := fun ev h _ _ _ _ => by
  simp [execOp, h _ _ hx, h _ _ hy, eqGuard, binOp, Op.intCmp]
theorem R.gtr (hx : opv l x = some (.int k m)) (hy : opv l y = some (.int k n)) : Run P l w (.binOp .gtr t x y yt) ty (.bool (decide (n < m))) w := fun ev h _ _ _ _ => by
  simp [execOp, h _ _ hx, h _ _ hy, eqGuard, binOp, Op.intCmp]
theorem R.geq (hx : opv l x = some (.int k m)) (hy : opv l y = some (.int k n)) : Run P l w (.binOp .geq t x y yt) ty (.bool (decide (n ≤ m))) w := fun ev h _ _ _ _ => by
  simp [execOp, h _ _ hx, h _ _ hy, eqGuard, binOp, Op.intCmp]
theorem R.neg (hx : opv l x = some (.int k m)) : Run P l w (.unOp .neg t x) ty (.int k (k.wrap (-m))) w := fun ev h _ _ _ _ => by
  simp [execOp, h _ _ hx, Op.unary, Op.intArith]
theorem R.conv (hd : P.underlying yt = some (.int k')) (hs : P.underlying t = some (.int k)) (hx : opv l x = some (.int k m)) : Run P l w (.convert t yt x) ty (.int k' (k'.wrap m)) w := fun ev h _ _ _ _ => by
  simp [execOp, h _ _ hx, convert, run_underlying hd, run_underlying hs, Conv.intToInt]
theorem R.not {b : Bool} (hx : opv l x = some (.bool b)) : Run P l w (.unOp .not t x) ty (.bool (!b)) w := fun ev h _ _ _ _ => by
  simp [execOp, h _ _ hx, Op.unary]
theorem R.notD {p : Prop} [Decidable p] (hx : opv l x = some (.bool (decide p))) : Run P l w (.unOp .not t x) ty (.bool (decide (¬ p))) w := by
  have := R.not (P := P) (w := w) (ty := ty) (t := t) hx
  rwa [decide_not]
theorem run_eql_ptr_nil {p : Option Addr} {e : TypeId} (ht : P.underlying t = some (.pointer e)) : (Op.equal t (.pointer p) (.pointer none)).run P w = .ok p.isNone w := by
  unfold Op.equal Op.maxDepth Op.equalIn
  rw [Sem.run_bind, run_underlying ht w]
  cases p <;> rfl
theorem R.eqlNil {p : Option Addr} {e : TypeId} (ht : P.underlying t = some (.pointer e)) (hx : opv l x = some (.pointer p)) (hy : opv l y = some (.pointer none)) : Run P l w (.binOp .eql t x y yt) ty (.bool p.isNone) w := fun ev h _ _ _ _ => by
  have h1 := run_eql_ptr_nil (P := P) (w := w) (p := p) ht
  simp [execOp, h _ _ hx, h _ _ hy, eqGuard, binOp, h1]
theorem R.neqNil {p : Option Addr} {e : TypeId} (ht : P.underlying t = some (.pointer e)) (hx : opv l x = some (.pointer p)) (hy : opv l y = some (.pointer none)) : Run P l w (.binOp .neq t x y yt) ty (.bool p.isSome) w := fun ev h _ _ _ _ => by
  have h1 := run_eql_ptr_nil (P := P) (w := w) (p := p) ht
  simp [execOp, h _ _ hx, h _ _ hy, eqGuard, binOp, h1]
theorem R.lenS {e : TypeId} {a : Option Addr} {len cap : Nat} {ats : Array TypeId} (ht : P.underlying t = some (.slice e)) (hat : ats = #[t]) (hx : opv l x = some (.slice a len cap)) : Run P l w (.call { callee := .builtin .len, args := #[x], argTypes := ats }) ty (.int .i64 (len : Int)) w := fun ev h _ _ _ _ => by
  subst hat
  simp [execOp, resolve, invoke, builtin, h _ _ hx, Builtin.len_, run_underlying ht, goInt]
theorem R.max {ats : Array TypeId} (hx : opv l x = some (.int k m)) (hy : opv l y = some (.int k n)) : Run P l w (.call { callee := .builtin .max, args := #[x, y], argTypes := ats }) ty (.int k (max m n)) w := fun ev h _ _ _ _ => by
  simp [execOp, resolve, invoke, builtin, h _ _ hx, h _ _ hy, run_max_int2]
  split <;> omega
theorem R.indexA {cs : Array Value} {i : Int} {len : Nat} {v : Value} (hi : arInfo P t = some (len, false, 1)) (hx : opv l x = some (.agg cs)) (hy : opv l y = some (.int k i)) (h0 : 0 ≤ i ∧ i < len) (hv : cs[i.toNat]? = some v) : Run P l w (.index t x y) ty v w := fun ev h _ _ _ _ => by
  obtain ⟨e, hu, hs⟩ := arInfo_spec hi
  obtain ⟨d, j, hd, hj, hrow, hsz⟩ := szOf_spec hs
  simp [execOp, h _ _ hx, h _ _ hy, Instr.index, asIntOf, run_underlying hu, h0, part, run_isAgg_of hd, hrow, run_sizeOf_of hj, hsz, hv]
theorem R.build {ps : Array (Nat × Operand)} {cells : Array Value} {vs : List Value} (hp : opvs l (ps.toList.map (·.2)) = some vs) (hb : P.built t ((ps.toList.map (·.1)).zip vs) = some cells) : Run P l w (.build t ps) ty (.agg cells) w := fun ev h _ _ _ _ => by
  have key : ∀ (os : List (Nat × Operand)) (vs : List Value), opvs l (os.map (·.2)) = some vs → os.map (fun (i, x) => (i, ev x)) = (os.map (·.1)).zip vs := by
    intro os
    induction os with
    | nil => intro vs hv; simp [opvs] at hv; subst hv; rfl
    | cons o os ih =>
      intro vs hv
      simp only [List.map_cons, opvs] at hv
      split at hv
      · cases hv
      · rename_i v hv1
        split at hv
        · cases hv
        · rename_i us hus
          simp only [Option.some.injEq] at hv
          subst hv
          simp [ih us hus, h _ _ hv1]
  have h1 : (ps.map fun (i, x) => (i, ev x)).toList = (ps.toList.map (·.1)).zip vs := by simpa using key _ _ hp
  simp only [execOp]
  rw [Sem.run_bind, run_build w t _ cells (by rw [h1]; exact hb)]
  rfl
theorem R.fieldAddr {i off sz b o q : Nat} {g : Bool} (hi : fieldInfo P t i = some (off, g, sz)) (hx : opv l x = some (.pointer (some ⟨b, o, none⟩))) (hsz : Nat.beq sz 0 = false) (hq : o + off = q) : Run P l w (.fieldAddr t x i) ty (.pointer (some ⟨b, q, none⟩)) w := fun ev h _ _ _ _ => by
  obtain ⟨fs, f, d, j, hu, hf, hd, hj, rfl, hrow, rfl⟩ := fieldInfo_spec hi
  have hz : ¬ j.size = 0 := by intro e; rw [e] at hsz; cases hsz
  simp [execOp, h _ _ hx, Instr.fieldAt, run_underlying hu, hf, Instr.sureAddr, fieldPlace, run_sizeOf_of hj, hz, Addr.add_mid, hq]
theorem R.indexAddr {len cap b o sz q : Nat} {g : Bool} {i : Int} (hi : slInfo P t = some (g, sz)) (hx : opv l x = some (.slice (some ⟨b, o, none⟩) len cap)) (hy : opv l y = some (.int k i)) (h0 : 0 ≤ i ∧ i < (len : Int)) (hq : o + i.toNat * sz = q) :
    Run P l w (.indexAddr t x y) ty (.pointer (some ⟨b, q, none⟩)) w := fun ev h _ _ _ _ => by
  obtain ⟨e, hu, hs⟩ := slInfo_spec hi
  obtain ⟨d, j, hd, hj, hrow, hsz⟩ := szOf_spec hs
  simp [execOp, h _ _ hx, h _ _ hy, Instr.indexAt, asIntOf, run_underlying hu, h0, run_sizeOf_of hj, hsz, Addr.add_mid, hq]
theorem R.indexAddrA {len b o sz q : Nat} {g : Bool} {i : Int} (hi : arInfo P t = some (len, g, sz)) (hx : opv l x = some (.pointer (some ⟨b, o, none⟩))) (hy : opv l y = some (.int k i)) (h0 : 0 ≤ i ∧ i < (len : Int)) (hq : o + i.toNat * sz = q) :
    Run P l w (.indexAddr t x y) ty (.pointer (some ⟨b, q, none⟩)) w := fun ev h _ _ _ _ => by
  obtain ⟨e, hu, hs⟩ := arInfo_spec hi
  obtain ⟨d, j, hd, hj, hrow, hsz⟩ := szOf_spec hs
  simp [execOp, h _ _ hx, h _ _ hy, Instr.indexAt, asIntOf, run_underlying hu, Instr.sureAddr, h0, run_sizeOf_of hj, hsz, Addr.add_mid, hq]
theorem R.load {p : Addr} {v : Value} (hi : szOf P t = some (false, 1)) (hx : opv l x = some (.pointer (some p))) (hc : w.cell? p = some v) : Run P l w (.load t x) ty v w := fun ev h _ _ _ _ => by
  obtain ⟨d, j, hd, hj, hrow, hsz⟩ := szOf_spec hi
  simp [execOp, h _ _ hx, Instr.loadAt, Instr.sureAddr, loadVar, run_isAgg_of hd, hrow, hc]
theorem R.loadA {b o sz : Nat} {cs : List Value} (hi : szOf P t = some (true, sz)) (hx : opv l x = some (.pointer (some ⟨b, o, none⟩))) (hc : w.rangeAt b o cs) (hn : cs.length = sz) : Run P l w (.load t x) ty (.agg cs.toArray) w := fun ev h _ _ _ _ => by
  obtain ⟨d, j, hd, hj, hrow, hsz⟩ := szOf_spec hi
  have := run_loadAt_mid (P := P) w b o t cs d hc hd hrow (by simp [hj, hsz, hn])
  simp [execOp, h _ _ hx, this]
theorem R.store {p : Addr} {u v : Value} (hi : szOf P t = some (false, 1)) (hx : opv l x = some (.pointer (some p))) (hy : opv l y = some v) (hv : v.oneCell' = true) (hc : w.cell? p = some u) (hfz : w.frozen? p = false) : RunN P l w (.store t x y) ty .skip (w.setCell p v) := fun ev h _ _ _ _ => by
  obtain ⟨d, j, hd, hj, hrow, hsz⟩ := szOf_spec hi
  have hcs : v.cells = #[v] := by cases v <;> first | rfl | cases hv
  have hst := run_store P w p v .plain hv
  simp only [hc, hfz] at hst
  have ha : p.add 0 = p := by simp [Addr.add]
  simp only [execOp, h _ _ hx, h _ _ hy, Instr.storeAt, Instr.sureAddr, storeVar, Sem.run_bind, Sem.run_pure, Result.andThen_ok, run_sizeOf_of hj, hsz, hcs]
  simp [storeCells, ha, hst]
theorem R.storeA {b o sz : Nat} {cs : Array Value} (hi : szOf P t = some (true, sz)) (hx : opv l x = some (.pointer (some ⟨b, o, none⟩))) (hy : opv l y = some (.agg cs)) (hn : cs.size = sz) (h1 : cs.all (·.oneCell') = true) (ht : w.there b o cs.size) : RunN P l w (.store t x y) ty .skip (w.setCells b o cs.toList) := fun ev h _ _ _ _ => by
  obtain ⟨d, j, hd, hj, hrow, hsz⟩ := szOf_spec hi
  have := run_storeAt_mid (P := P) w b o t cs ht (by simp [hj, hsz, hn]) h1
  simp [execOp, h _ _ hx, h _ _ hy, this]
theorem R.box {v : Value} (hx : opv l x = some v) : Run P l w (.box t x) ty (.pointer (some ⟨w.heap.size, 0, none⟩)) (w.alloc (.cells v.cells t)) := fun ev h _ _ _ _ => by
  simp [execOp, h _ _ hx, Instr.box, newVar, newRow]
theorem R.alloc {j : TypeInfo} {z : Value} (hj : P.info? t = some j) (hz : j.zero = some z) : Run P l w (.alloc t) ty (.pointer (some ⟨w.heap.size, 0, none⟩)) (w.alloc (.cells z.cells t)) := fun ev h _ _ _ _ => by
  simp [execOp, Instr.alloc, zeroValue, typeInfo, hj, hz, newVar, newRow]
theorem R.callF {f : FuncId} {fn : Func} {xs : Array Operand} {ats : Array TypeId} {vs : List Value} (hf : P.funcs[f]? = some fn) (hname : (fn.name == "runtime.NumGoroutine") = false) (hb : fn.body.isNone = false) (hp : opvs l xs.toList = some vs) :
    RunN P l w (.call { callee := .value (.func f), args := xs, argTypes := ats }) ty (.enter f vs.toArray) w := fun ev h _ _ _ _ => by
  have key : ∀ (os : List Operand) (vs : List Value), opvs l os = some vs → os.map ev = vs := by
    intro os
    induction os with
    | nil => intro vs hv; simp [opvs] at hv; subst hv; rfl
    | cons o os ih =>
      intro vs hv
      simp only [opvs] at hv
      split at hv
      · cases hv
      · rename_i v hv1
        split at hv
        · cases hv
        · rename_i us hus
          simp only [Option.some.injEq] at hv
          subst hv
          simp [ih us hus, h _ _ hv1]
  have h1 : (xs.map ev) = vs.toArray := by
    have := key _ _ hp
    apply Array.toList_inj.1
    simpa using this
  have hef : ev (.func f) = .func (.func f) #[] #[] := h (.func f) _ rfl
  have hc : (callFunc f vs.toArray).run P w = .ok (.enter f vs.toArray) w := by
    simp only [callFunc, Sem.run_bind, run_program, Result.andThen_ok, hf, hname, hb, Bool.false_eq_true, if_false, Sem.run_pure]
  simp [execOp, resolve, hef, Deferred.ofValue, invoke, h1, hc]
end
end
section
open Go.RowKit
structure Ck where
  foot : Nat → Prop
  holds : World → Prop
  loc : ∀ w w' : World, (∀ b, foot b → w'.heap[b]? = w.heap[b]?) → holds w → holds w'
def pt (b : Nat) (cs : Array Value) (t : TypeId) : Ck :=
  ⟨fun c => c = b, fun w => w.heap[b]? = some (.cells cs t (0, 0)), fun w w' h hw => by rw [h b rfl]; exact hw⟩
def nof : Nat → Prop := fun _ => False
structure Mem (w0 : World) (F : Nat → Prop) (L : List Ck) (w : World) : Prop where
  os : w.os = w0.os
  tape : w.tape = w0.tape
  output : w.output = w0.output
  size : w0.heap.size ≤ w.heap.size
  old : ∀ b, b < w0.heap.size → ¬ F b → w.heap[b]? = w0.heap[b]?
  holds : ∀ c ∈ L, c.holds w
  inb : ∀ c ∈ L, ∀ b, c.foot b → b < w.heap.size ∧ (b < w0.heap.size → F b)
  apart : L.Pairwise fun c d => ∀ b, c.foot b → ¬ d.foot b
section
variable {w0 w w' : World} {F F' : Nat → Prop} {L L' : List Ck} {c d : Ck}
theorem Mem.start (w : World) : Mem w nof [] w := ⟨rfl, rfl, rfl, Nat.le_refl _, fun _ _ _ => rfl, fun _ h => (by cases h), fun _ h => (by cases h), .nil⟩
theorem Mem.below (h : Mem w0 nof L w) : Below w0.heap.size w0 w := ⟨h.os, h.tape, h.output, h.size, fun b hb => h.old b hb (fun f => f)⟩
theorem Mem.of_below (h : Below w0.heap.size w0 w) : Mem w0 nof [] w := ⟨h.os, h.tape, h.output, h.size, fun b hb _ => h.block b hb, fun _ h => (by cases h), fun _ h => (by cases h), .nil⟩
theorem Mem.drew (h : Mem w0 F L w) : Mem w0 F L w.drew := ⟨h.os, h.tape, h.output, h.size, h.old, fun c hc => c.loc w w.drew (fun _ _ => rfl) (h.holds c hc), h.inb, h.apart⟩
theorem Mem.sub (h : Mem w0 F L w) (hs : L'.Sublist L) : Mem w0 F L' w :=
  ⟨h.os, h.tape, h.output, h.size, h.old, fun c hc => h.holds c (hs.mem hc), fun c hc => h.inb c (hs.mem hc), h.apart.sublist hs⟩
theorem Mem.tail (h : Mem w0 F (c :: L) w) : Mem w0 F L w := h.sub (List.sublist_cons_self _ _)
theorem Mem.nilL (h : Mem w0 F L w) : Mem w0 F [] w := h.sub (List.nil_sublist _)
theorem Mem.perm (h : Mem w0 F L w) (hp : L.Perm L') : Mem w0 F L' w :=
  ⟨h.os, h.tape, h.output, h.size, h.old, fun c hc => h.holds c (hp.mem_iff.2 hc), fun c hc => h.inb c (hp.mem_iff.2 hc), hp.pairwise h.apart (fun h b hc hd => h b hd hc)⟩
theorem Mem.mem (h : Mem w0 F L w) {k : Nat} (hk : ith L k = some c) : c.holds w :=
  h.holds c (List.mem_of_getElem? (by rw [← ith_eq]; exact hk))
theorem Mem.block (h : Mem w0 F L w) {k b : Nat} {cs : Array Value} {t : TypeId} (hk : ith L k = some (pt b cs t)) : w.heap[b]? = some (.cells cs t (0, 0)) := h.mem hk
theorem Mem.lt (h : Mem w0 F L w) {k b : Nat} {cs : Array Value} {t : TypeId} (hk : ith L k = some (pt b cs t)) : b < w.heap.size :=
  ((h.inb _ (List.mem_of_getElem? (by rw [← ith_eq]; exact hk))) b rfl).1
theorem Mem.new (h : Mem w0 nof L w) {k b : Nat} {cs : Array Value} {t : TypeId} (hk : ith L k = some (pt b cs t)) : w0.heap.size ≤ b := by
  rcases Nat.lt_or_ge b w0.heap.size with g | g
  · exact ((h.inb _ (List.mem_of_getElem? (by rw [← ith_eq]; exact hk))) b rfl).2 g |>.elim
  · exact g
theorem Mem.cell (h : Mem w0 F L w) {k b i : Nat} {cs : Array Value} {t : TypeId} {v : Value} (hk : ith L k = some (pt b cs t)) (hv : cs[i]? = some v) : w.cell? ⟨b, i, none⟩ = some v := by
  simp [World.cell?, h.block hk, hv]
theorem Mem.free (h : Mem w0 F L w) {k b : Nat} (i : Nat) {cs : Array Value} {t : TypeId} (hk : ith L k = some (pt b cs t)) : w.frozen? ⟨b, i, none⟩ = false := by
  simp [World.frozen?, h.block hk]
theorem Mem.cell0 (h : Mem w0 F L w) {b i : Nat} {v : Value} (hc : w0.cell? ⟨b, i, none⟩ = some v) (hF : ¬ F b) : w.cell? ⟨b, i, none⟩ = some v := by
  have hlt := World.block_lt_of_cell? w0 _ hc
  rw [← hc]
  exact World.cell?_of_block (h.old b hlt hF)
theorem Mem.range (h : Mem w0 F L w) {k b : Nat} {cs : List Value} {t : TypeId} (hk : ith L k = some (pt b cs.toArray t)) : w.rangeAt b 0 cs := fun j v hv => by
  rw [Nat.zero_add]; exact h.cell hk (by simpa using hv)
theorem Mem.alloc (h : Mem w0 F L w) (cs : Array Value) (t : TypeId) : Mem w0 F (pt w.heap.size cs t :: L) (w.alloc (.cells cs t)) := by
  have hold : ∀ b, b < w.heap.size → (w.alloc (.cells cs t)).heap[b]? = w.heap[b]? := fun b hb => Below.heap_alloc w _ b hb
  refine ⟨h.os, h.tape, h.output, by have := h.size; simp; omega, fun b hb hF => by rw [hold b (Nat.lt_of_lt_of_le hb h.size)]; exact h.old b hb hF, ?_, ?_, ?_⟩
  · intro c hc
    rcases List.mem_cons.1 hc with rfl | hc
    · exact heap_alloc_new w _
    · exact c.loc w _ (fun b hb => hold b (h.inb c hc b hb).1) (h.holds c hc)
  · intro c hc b hb
    rcases List.mem_cons.1 hc with rfl | hc
    · have e : b = w.heap.size := hb
      subst e
      exact ⟨by simp, fun g => absurd h.size (by omega)⟩
    · have := h.inb c hc b hb
      exact ⟨by simp; omega, this.2⟩
  · refine List.pairwise_cons.2 ⟨fun d hd b hb hdb => ?_, h.apart⟩
    have e : b = w.heap.size := hb
    have := (h.inb d hd b hdb).1
    omega
def setAt {α : Type} : List α → Nat → α → List α
  | [], _, _ => []
  | _ :: xs, 0, y => y :: xs
  | x :: xs, i + 1, y => x :: setAt xs i y
theorem setAt_eq {α : Type} : ∀ (l : List α) (i : Nat) (y : α), setAt l i y = l.set i y
  | [], _, _ => rfl
  | _ :: _, 0, _ => rfl
  | x :: xs, i + 1, y => by simp [setAt, setAt_eq xs i y]
theorem Mem.turn (h : Mem w0 F L w) {k : Nat} (hk : ith L k = some c) (hf : ∀ b, d.foot b → c.foot b) (hd : d.holds w') (ho : w'.os = w.os) (ht : w'.tape = w.tape) (hu : w'.output = w.output) (hz : w'.heap.size = w.heap.size)
  (hb : ∀ b, b < w.heap.size → ¬ c.foot b → w'.heap[b]? = w.heap[b]?) : Mem w0 F (setAt L k d) w' := by
 rw [ith_eq] at hk
 rw [setAt_eq]
 obtain ⟨hlt, hck⟩ := List.getElem?_eq_some_iff.1 hk
 have hcm : c ∈ L := List.mem_of_getElem? hk
 have hother : ∀ j (hj : j < L.length), j ≠ k → ∀ b, L[j].foot b → ¬ c.foot b := by
  intro j hj hjk b hjb hcb
  rcases Nat.lt_or_gt_of_ne hjk with g | g
  · exact (List.pairwise_iff_getElem.1 h.apart j k hj hlt g) b hjb (hck ▸ hcb)
  · exact (List.pairwise_iff_getElem.1 h.apart k j hlt hj g) b (hck ▸ hcb) hjb
 have hmem : ∀ e ∈ L.set k d, e = d ∨ ∃ j, ∃ hj : j < L.length, j ≠ k ∧ L[j] = e := by
  intro e he
  obtain ⟨j, hj⟩ := List.getElem?_of_mem he
  rw [List.getElem?_set] at hj
  split at hj
  · left; simpa using hj.symm
  ·
   rename_i hne
   obtain ⟨hj1, hj2⟩ := List.getElem?_eq_some_iff.1 hj
   exact .inr ⟨j, hj1, fun e => hne e.symm, hj2⟩
 refine ⟨ho.trans h.os, ht.trans h.tape, hu.trans h.output, by rw [hz]; exact h.size, fun b hlt' hF => ?_, ?_, ?_, ?_⟩
 ·
  rw [hb b (Nat.lt_of_lt_of_le hlt' h.size) (fun hc => hF ((h.inb c hcm b hc).2 hlt'))]
  exact h.old b hlt' hF
 ·
  intro e he
  rcases hmem e he with rfl | ⟨j, hj, hjk, rfl⟩
  · exact hd
  · exact L[j].loc w w' (fun b hjb => hb b (h.inb _ (List.getElem_mem hj) b hjb).1 (hother j hj hjk b hjb)) (h.holds _ (List.getElem_mem hj))
 ·
  intro e he b heb
  rw [hz]
  rcases hmem e he with rfl | ⟨j, hj, hjk, rfl⟩
  · exact h.inb c hcm b (hf b heb)
  · exact h.inb _ (List.getElem_mem hj) b heb
 ·
  refine List.pairwise_iff_getElem.2 fun i j hi hj hij b hb1 hb2 => ?_
  simp only [List.length_set] at hi hj
  rw [List.getElem_set] at hb1 hb2
  split at hb1
  ·
   rename_i e; subst e
   split at hb2
   · omega
   · exact hother j hj (by omega) b hb2 (hf b hb1)
  ·
   split at hb2
   ·
    rename_i e; subst e
    exact hother i hi (by omega) b hb1 (hf b hb2)
   · exact (List.pairwise_iff_getElem.1 h.apart i j hi hj hij) b hb1 hb2
theorem heap_setCell_at {w : World} {b : Nat} {cs : Array Value} {t : TypeId} (h : w.heap[b]? = some (.cells cs t (0, 0))) (i : Nat) (v : Value) : (w.setCell ⟨b, i, none⟩ v).heap[b]? = some (.cells (cs.setIfInBounds i v) t (0, 0)) := by
  have hlt := lt_of_block h
  have h' : w.heap[b] = .cells cs t (0, 0) := by simpa [Array.getElem?_eq_getElem hlt] using h
  show (w.heap.modify b _)[b]? = _
  rw [Array.getElem?_eq_getElem (by simpa using hlt), Array.getElem_modify_self, h']
  rfl
theorem Mem.store (h : Mem w0 F L w) {k b : Nat} {cs : Array Value} {t : TypeId} (hk : ith L k = some (pt b cs t)) (i : Nat) (v : Value) : Mem w0 F (setAt L k (pt b (cs.setIfInBounds i v) t)) (w.setCell ⟨b, i, none⟩ v) :=
  h.turn (c := pt b cs t) hk (fun _ h => h) (heap_setCell_at (h.block hk) i v) rfl rfl rfl (by simp) (fun c _ hc => Below.heap_setCell w _ _ _ hc)
def spl : Array Value → Nat → List Value → Array Value
  | cs, _, [] => cs
  | cs, o, v :: vs => spl (cs.setIfInBounds o v) (o + 1) vs
theorem setAt_setAt {α : Type} : ∀ (l : List α) (k : Nat) (x y : α), setAt (setAt l k x) k y = setAt l k y
  | [], _, _, _ => rfl
  | _ :: _, 0, _, _ => rfl
  | z :: zs, k + 1, x, y => by simp [setAt, setAt_setAt zs k x y]
theorem ith_setAt {α : Type} : ∀ (l : List α) (k : Nat) (x y : α), ith l k = some y → ith (setAt l k x) k = some x
  | [], _, _, _, h => by simp [ith] at h
  | _ :: _, 0, _, _, _ => rfl
  | _ :: zs, k + 1, x, y, h => ith_setAt zs k x y h
theorem Mem.storeA : ∀ (vs : List Value) {w0 w : World} {F : Nat → Prop} {L : List Ck} {k b : Nat} {cs : Array Value} {t : TypeId} (o : Nat), Mem w0 F L w → ith L k = some (pt b cs t) → Mem w0 F (setAt L k (pt b (spl cs o vs) t)) (w.setCells b o vs)
  | [], w0, w, F, L, k, b, cs, t, o, h, hk => by
    have e : setAt L k (pt b cs t) = L := by
      rw [setAt_eq]; rw [ith_eq] at hk
      exact List.ext_getElem? fun j => by
        rw [List.getElem?_set]
        split
        · rename_i e; subst e
          obtain ⟨hlt, -⟩ := List.getElem?_eq_some_iff.1 hk
          rw [hk]; simp [hlt]
        · rfl
    show Mem w0 F (setAt L k (pt b cs t)) w
    rw [e]; exact h
  | v :: vs, w0, w, F, L, k, b, cs, t, o, h, hk => by
    have h1 := h.store hk o v
    have h2 := Mem.storeA vs (o + 1) h1 (ith_setAt _ _ _ _ hk)
    rw [setAt_setAt] at h2
    exact h2
theorem Mem.part (h : Mem w0 F L w) {k b : Nat} {cs : List Value} {t : TypeId} (hk : ith L k = some (pt b cs.toArray t)) (o n : Nat) {ds : List Value} (hd : (cs.drop o).take n = ds) : w.rangeAt b o ds := fun j v hv => by
  subst hd
  refine h.cell hk ?_
  have hj : j < n := by
    rcases Nat.lt_or_ge j n with g | g
    · exact g
    · rw [List.getElem?_eq_none (by simp; omega)] at hv; cases hv
  rw [List.getElem?_take, if_pos hj, List.getElem?_drop] at hv
  simpa using hv
theorem Mem.there (h : Mem w0 F L w) {k b : Nat} {cs : Array Value} {t : TypeId} (hk : ith L k = some (pt b cs t)) {o n : Nat} (hn : Nat.ble (o + n) cs.size = true) : w.there b o n := fun j hj => by
  have hle : o + n ≤ cs.size := Nat.le_of_ble_eq_true hn
  refine ⟨?_, h.free _ hk⟩
  rw [h.cell hk (v := cs[o + j]'(by omega)) (by rw [Array.getElem?_eq_getElem])]
  rfl
def allOne : List Value → Bool
  | [] => true
  | v :: vs => v.oneCell' && allOne vs
theorem allOne_spec : ∀ (vs : List Value), allOne vs = true → vs.toArray.all (·.oneCell') = true
  | [], _ => by simp
  | v :: vs, h => by
    simp only [allOne, Bool.and_eq_true] at h
    have := allOne_spec vs h.2
    simp only [List.all_toArray, List.all_cons, h.1, Bool.true_and] at this ⊢
    exact this
theorem Mem.call (h : Mem w0 F L w) (hn : Mem w nof L' w') : Mem w0 F (L' ++ L) w' := by
  have hkeep : ∀ b, b < w.heap.size → w'.heap[b]? = w.heap[b]? := fun b hb => hn.old b hb (fun f => f)
  refine ⟨hn.os.trans h.os, hn.tape.trans h.tape, hn.output.trans h.output, Nat.le_trans h.size hn.size, fun b hb hF => by rw [hkeep b (Nat.lt_of_lt_of_le hb h.size)]; exact h.old b hb hF, ?_, ?_, ?_⟩
  · intro c hc
    rcases List.mem_append.1 hc with hc | hc
    · exact hn.holds c hc
    · exact c.loc w w' (fun b hb => hkeep b (h.inb c hc b hb).1) (h.holds c hc)
  · intro c hc b hb
    rcases List.mem_append.1 hc with hc | hc
    · have := hn.inb c hc b hb
      refine ⟨this.1, fun g => ?_⟩
      exact (this.2 (Nat.lt_of_lt_of_le g h.size)).elim
    · have := h.inb c hc b hb
      exact ⟨Nat.lt_of_lt_of_le this.1 hn.size, this.2⟩
  · refine List.pairwise_append.2 ⟨hn.apart, h.apart, fun c hc d hd b hcb hdb => ?_⟩
    have h1 := hn.inb c hc b hcb
    have h2 := h.inb d hd b hdb
    exact h1.2 h2.1
theorem Mem.callB (h : Mem w0 F L w) (hn : Below w.heap.size w w') : Mem w0 F L w' := h.call (Mem.of_below hn)
theorem Mem.callW (h : Mem w0 F L w) {k : Nat} (hk : ith L k = some c) (hn : Mem w F' L' w') (hF : ∀ b, F' b → c.foot b) : Mem w0 F (L' ++ L.eraseIdx k) w' := by
  rw [ith_eq] at hk
  obtain ⟨hlt, hck⟩ := List.getElem?_eq_some_iff.1 hk
  have hcm : c ∈ L := List.mem_of_getElem? hk
  have hkeep : ∀ b, b < w.heap.size → ¬ c.foot b → w'.heap[b]? = w.heap[b]? := fun b hb hc => hn.old b hb (fun f => hc (hF b f))
  have hother : ∀ e ∈ L.eraseIdx k, e ∈ L ∧ ∀ b, e.foot b → ¬ c.foot b := by
    intro e he
    obtain ⟨j, hj⟩ := List.getElem?_of_mem he
    rw [List.getElem?_eraseIdx] at hj
    split at hj
    · rename_i hjk
      obtain ⟨hj1, hj2⟩ := List.getElem?_eq_some_iff.1 hj
      exact ⟨List.mem_of_getElem? hj, fun b heb hcb => (List.pairwise_iff_getElem.1 h.apart j k hj1 hlt hjk) b (hj2 ▸ heb) (hck ▸ hcb)⟩
    · obtain ⟨hj1, hj2⟩ := List.getElem?_eq_some_iff.1 hj
      exact ⟨List.mem_of_getElem? hj, fun b heb hcb => (List.pairwise_iff_getElem.1 h.apart k (j + 1) hlt hj1 (by omega)) b (hck ▸ hcb) (hj2 ▸ heb)⟩
  refine ⟨hn.os.trans h.os, hn.tape.trans h.tape, hn.output.trans h.output, Nat.le_trans h.size hn.size, fun b hb hF0 => ?_, ?_, ?_, ?_⟩
  · rw [hkeep b (Nat.lt_of_lt_of_le hb h.size) (fun hc => hF0 ((h.inb c hcm b hc).2 hb))]; exact h.old b hb hF0
  · intro e he
    rcases List.mem_append.1 he with he | he
    · exact hn.holds e he
    · obtain ⟨h1, h2⟩ := hother e he
      exact e.loc w w' (fun b hb => hkeep b (h.inb e h1 b hb).1 (h2 b hb)) (h.holds e h1)
  · intro e he b hb
    rcases List.mem_append.1 he with he | he
    · have := hn.inb e he b hb
      refine ⟨this.1, fun g => ?_⟩
      exact (h.inb c hcm b (hF b (this.2 (Nat.lt_of_lt_of_le g h.size)))).2 g
    · have := h.inb e (hother e he).1 b hb
      exact ⟨Nat.lt_of_lt_of_le this.1 hn.size, this.2⟩
  · refine List.pairwise_append.2 ⟨hn.apart, h.apart.sublist (List.eraseIdx_sublist _ _), fun e he d hd b heb hdb => ?_⟩
    obtain ⟨h1, h2⟩ := hother d hd
    have g1 := hn.inb e he b heb
    have g2 := (h.inb d h1 b hdb).1
    exact h2 b hdb (hF b (g1.2 g2))
end
section
variable {P : Program} {R : Ending → World → Prop} {f : FuncId} {a : Act} {w w0 : World} {n : Nat} {l : List (Nat × Value)} {ops : Array Oper} {Q : Exit → Act → World → Prop} {rest : List Oper} {F : Nat → Prop} {L : List Ck}
  {S : World → Prop} {os : List Oper} {is : Ordt} {b0 : Bool} {i last : Nat} {d : Nat} {t ty : TypeId} {x y : Operand} {pos : String} {aft : Array Edge}
theorem S.store {k b o : Nat} {cs : Array Value} {t' : TypeId} {u v : Value} (hA : St n l a) (hM : Mem w0 F L w) (hi : szOf P t = some (false, 1)) (hx : opv l x = some (.pointer (some ⟨b, o, none⟩))) (hy : opv l y = some v) (hv : v.oneCell' = true)
    (hk : ith L k = some (pt b cs t')) (hu : cs[o]? = some u) (h : ∀ w', Mem w0 F (setAt L k (pt b (cs.setIfInBounds o v) t')) w' → wpList P ops Q rest a w') :
    wpList P ops Q ({ dst := none, op := .store t x y, type := ty, pos, after := aft, guard := none } :: rest) a w :=
  S.skip hA (R.store hi hx hy hv (hM.cell hk hu) (hM.free _ hk)) (h _ (hM.store hk o v))
theorem S.storeA {k b o sz : Nat} {cs : Array Value} {t' : TypeId} {vs : List Value} (hA : St n l a) (hM : Mem w0 F L w) (hi : szOf P t = some (true, sz)) (hx : opv l x = some (.pointer (some ⟨b, o, none⟩))) (hy : opv l y = some (.agg vs.toArray)) (hn : vs.length = sz) (h1 : allOne vs = true)
    (hk : ith L k = some (pt b cs t')) (hfit : Nat.ble (o + vs.length) cs.size = true) (h : ∀ w', Mem w0 F (setAt L k (pt b (spl cs o vs) t')) w' → wpList P ops Q rest a w') :
    wpList P ops Q ({ dst := none, op := .store t x y, type := ty, pos, after := aft, guard := none } :: rest) a w :=
  S.skip hA (R.storeA hi hx hy (by simpa using hn) (allOne_spec _ h1) (hM.there hk (by simpa using hfit))) (h _ (by simpa using hM.storeA vs o hk))
theorem S.box {v : Value} (hA : St n l a) (hM : Mem w0 F L w) (hx : opv l x = some v) (hd : Nat.blt d n = true) (h : ∀ b w', w0.heap.size ≤ b → Mem w0 F (pt b v.cells t :: L) w' → ∀ a, St n ((d, .pointer (some ⟨b, 0, none⟩)) :: l) a → wpList P ops Q rest a w') :
    wpList P ops Q ({ dst := some d, op := .box t x, type := ty, pos, after := aft, guard := none } :: rest) a w :=
  S.val hA (R.box hx) hd (h _ _ hM.size (hM.alloc _ _))
theorem S.alloc {j : TypeInfo} {z : Value} (hA : St n l a) (hM : Mem w0 F L w) (hj : P.info? t = some j) (hz : j.zero = some z) (hd : Nat.blt d n = true) (h : ∀ b w', w0.heap.size ≤ b → Mem w0 F (pt b z.cells t :: L) w' → ∀ a, St n ((d, .pointer (some ⟨b, 0, none⟩)) :: l) a → wpList P ops Q rest a w') :
    wpList P ops Q ({ dst := some d, op := .alloc t, type := ty, pos, after := aft, guard := none } :: rest) a w :=
  S.val hA (R.alloc hj hz) hd (h _ _ hM.size (hM.alloc _ _))
theorem D.store {k b o : Nat} {cs : Array Value} {t' : TypeId} {u v : Value} (hA : St n l a) (hM : Mem w0 F L w) (ho : ith os i = some { dst := none, op := .store t x y, type := ty, pos, after := aft, guard := none })
    (hi : szOf P t = some (false, 1)) (hx : opv l x = some (.pointer (some ⟨b, o, none⟩))) (hy : opv l y = some v) (hv : v.oneCell' = true)
    (hk : ith L k = some (pt b cs t')) (hu : cs[o]? = some u) (h : ∀ w', Mem w0 F (setAt L k (pt b (cs.setIfInBounds o v) t')) w' → (b0 = false → i ≠ last → S w') ∧ wpOrd P last os Q S (b0 || Nat.beq i last) is a w') : wpOrd P last os Q S b0 (.cons (i, false) is) a w :=
  have g := h _ (hM.store hk o v)
  D.skip hA ho (R.store hi hx hy hv (hM.cell hk hu) (hM.free _ hk)) g.1 g.2
theorem D.storeA {k b o sz : Nat} {cs : Array Value} {t' : TypeId} {vs : List Value} (hA : St n l a) (hM : Mem w0 F L w) (ho : ith os i = some { dst := none, op := .store t x y, type := ty, pos, after := aft, guard := none })
    (hi : szOf P t = some (true, sz)) (hx : opv l x = some (.pointer (some ⟨b, o, none⟩))) (hy : opv l y = some (.agg vs.toArray)) (hn : vs.length = sz) (h1 : allOne vs = true)
    (hk : ith L k = some (pt b cs t')) (hfit : Nat.ble (o + vs.length) cs.size = true) (h : ∀ w', Mem w0 F (setAt L k (pt b (spl cs o vs) t')) w' → (b0 = false → i ≠ last → S w') ∧ wpOrd P last os Q S (b0 || Nat.beq i last) is a w') : wpOrd P last os Q S b0 (.cons (i, false) is) a w :=
  have g := h (w.setCells b o vs) (hM.storeA vs o hk)
  D.skip hA ho (by simpa using R.storeA hi hx hy (by simpa using hn) (allOne_spec _ h1) (hM.there hk (by simpa using hfit))) g.1 g.2
theorem Ends.retC {fn : Func} {k b p sz : Nat} {cs : List Value} {t' : TypeId} {kk : List Item} (hf : P.funcs[f]? = some fn) (hr : fn.results = #[.cell p t]) (hA : St n l a) (hM : Mem w0 F L w) (hp : lk l p = some (.pointer (some ⟨b, 0, none⟩)))
    (hk : ith L k = some (pt b cs.toArray t')) (hi : szOf P t = some (true, sz)) (hn : cs.length = sz) (hR : R (.returned (.agg cs.toArray)) w) : Ends P f R (.code .ret :: kk) a w := by
  obtain ⟨d, j, hd, hj, hrow, hsz⟩ := szOf_spec hi
  refine Ends.to_ret hf hA.defers ?_ hR
  exact results_cell_row hr a.tmps w b t' cs.toArray (0, 0) d (hA.getD hp) (hM.block hk) hd (by cases d <;> first | rfl | cases hrow) (by simp [hj, hsz, hn])
theorem D.box {v : Value} (hA : St n l a) (hM : Mem w0 F L w) (ho : ith os i = some { dst := some d, op := .box t x, type := ty, pos, after := aft, guard := none }) (hx : opv l x = some v) (hd : Nat.blt d n = true)
    (h : ∀ b w', w0.heap.size ≤ b → Mem w0 F (pt b v.cells t :: L) w' → S w' ∧ ∀ a, St n ((d, .pointer (some ⟨b, 0, none⟩)) :: l) a → wpOrd P last os Q S b0 is a w') : wpOrd P last os Q S b0 (.cons (i, false) is) a w :=
  have g := h _ _ hM.size (hM.alloc _ _)
  D.eff hA ho (R.box hx) hd g.1 g.2
theorem D.alloc {j : TypeInfo} {z : Value} (hA : St n l a) (hM : Mem w0 F L w) (ho : ith os i = some { dst := some d, op := .alloc t, type := ty, pos, after := aft, guard := none }) (hj : P.info? t = some j) (hz : j.zero = some z) (hd : Nat.blt d n = true)
    (h : ∀ b w', w0.heap.size ≤ b → Mem w0 F (pt b z.cells t :: L) w' → S w' ∧ ∀ a, St n ((d, .pointer (some ⟨b, 0, none⟩)) :: l) a → wpOrd P last os Q S b0 is a w') : wpOrd P last os Q S b0 (.cons (i, false) is) a w :=
  have g := h _ _ hM.size (hM.alloc _ _)
  D.eff hA ho (R.alloc hj hz) hd g.1 g.2
end
end
section
open Go.RowKit
def own (e : TypeId) (sz : Nat) (v : Value) (n : Nat) (xs : List Value) : Ck :=
  ⟨fun b => v.ownBlock = some b, fun w => w.ownsRow 0 e sz v n xs, fun w w' h hw => by
    refine ⟨hw.1, ?_⟩
    rcases hw.2 with hn | ⟨g, cap, cur, rfl, hb, hg, rest⟩
    · exact .inl hn
    · exact .inr ⟨g, cap, cur, rfl, hb, by rw [h g rfl]; exact hg, rest⟩⟩
section
variable {w0 w w' : World} {F : Nat → Prop} {L L' : List Ck} {e t : TypeId} {sz n m cap g k b : Nat} {v v' : Value} {xs news : List Value}
theorem Mem.consNo (h : Mem w0 F L w) {c : Ck} (hc : c.holds w) (hf : ∀ b, ¬ c.foot b) : Mem w0 F (c :: L) w :=
  ⟨h.os, h.tape, h.output, h.size, h.old, fun d hd => (List.mem_cons.1 hd).elim (fun e => e ▸ hc) (h.holds d),
    fun d hd b hb => (List.mem_cons.1 hd).elim (fun e => (hf b (e ▸ hb)).elim) (fun hd => h.inb d hd b hb), List.pairwise_cons.2 ⟨fun _ _ b hb => (hf b hb).elim, h.apart⟩⟩
theorem Mem.ownNil (h : Mem w0 F L w) (e : TypeId) (sz : Nat) : Mem w0 F (own e sz (.slice none 0 0) 0 [] :: L) w :=
  h.consNo (World.ownsRow_nil w 0 e sz) (fun b hb => by cases hb)
theorem Mem.head {c : Ck} (h : Mem w0 F (c :: L) w) {d : Ck} (hd : d.holds w) (hf : ∀ b, d.foot b → c.foot b) : Mem w0 F (d :: L) w := by
  have := h.turn (k := 0) (c := c) (d := d) (w' := w) rfl hf hd rfl rfl rfl rfl (fun _ _ _ => rfl)
  exact this
theorem Mem.ofOwn (h : Below w.heap.size w w') (ho : w'.ownsRow w.heap.size e sz v n xs) : Mem w nof [own e sz v n xs] w' := by
  have h0 := Mem.of_below h
  have hx : w'.ownsRow 0 e sz v n xs := ⟨ho.1, ho.2.imp id fun ⟨g, cap, cur, r1, _, r3⟩ => ⟨g, cap, cur, r1, Nat.zero_le _, r3⟩⟩
  refine ⟨h0.os, h0.tape, h0.output, h0.size, h0.old, fun d hd => ?_, fun d hd b hb => ?_, List.pairwise_singleton _ _⟩
  · obtain rfl : d = own e sz v n xs := by simpa using hd
    exact hx
  · obtain rfl : d = own e sz v n xs := by simpa using hd
    have := ho.lt b hb
    exact ⟨this.2, fun g => by omega⟩
theorem own_form {w : World} (h : w.ownsRow 0 e sz v n xs) : ∃ a cap, v = .slice a n cap ∧ n ≤ cap ∧ cap ≤ maxLen ∧ xs.length = n * sz ∧ (a = none → n = 0) ∧ ∀ p, a = some p → ∃ g, p = ⟨g, 0, none⟩ := by
  obtain ⟨h1, h2⟩ := h
  rcases h2 with ⟨rfl, rfl⟩ | ⟨g, cap, cur, rfl, _, _, hn, hm, _⟩
  · exact ⟨none, 0, rfl, Nat.le_refl _, Nat.zero_le _, h1, fun _ => rfl, fun p hp => by cases hp⟩
  · exact ⟨_, cap, rfl, hn, hm, h1, fun h => (nomatch h), fun p hp => ⟨g, (Option.some.inj hp).symm⟩⟩
theorem Mem.ownForm (h : Mem w0 F L w) (hk : ith L k = some (own e sz v n xs)) : ∃ a cap, v = .slice a n cap ∧ n ≤ cap ∧ cap ≤ maxLen ∧ xs.length = n * sz ∧ (a = none → n = 0) ∧ ∀ p, a = some p → ∃ g, p = ⟨g, 0, none⟩ :=
  own_form (h.mem hk)
theorem Mem.ownAt (h : Mem w0 F L w) {a : Option Addr} (hk : ith L k = some (own e sz (.slice a n cap) n xs)) (hn : 0 < n) : ∃ g, a = some ⟨g, 0, none⟩ := by
  obtain ⟨a', cap', he, -, -, -, h1, h2⟩ := h.ownForm hk
  cases he
  cases a with
  | none => have := h1 rfl; omega
  | some p => obtain ⟨g, rfl⟩ := h2 p rfl; exact ⟨g, rfl⟩
theorem Mem.ownLe (h : Mem w0 F L w) {a : Option Addr} (hk : ith L k = some (own e sz (.slice a n cap) n xs)) : n ≤ cap ∧ cap ≤ maxLen := by
  obtain ⟨a', cap', he, h1, h2, -⟩ := h.ownForm hk
  cases he
  exact ⟨h1, h2⟩
theorem Mem.ownCell (h : Mem w0 F L w) (hk : ith L k = some (own e sz (.slice (some ⟨g, 0, none⟩) n cap) n xs)) {i : Nat} {u : Value} (hx : xs[i]? = some u) : w.cell? ⟨g, i, none⟩ = some u := by
  have h0 : w.ownsRow 0 e sz (.slice (some ⟨g, 0, none⟩) n cap) n xs := h.mem hk
  have := h0.cells (g := g) rfl i u hx
  rwa [Addr.add_lit, Nat.zero_add] at this
theorem Mem.ownFree (h : Mem w0 F L w) (hk : ith L k = some (own e sz (.slice (some ⟨g, 0, none⟩) n cap) n xs)) (i : Nat) : w.frozen? ⟨g, i, none⟩ = false := by
  have h0 : w.ownsRow 0 e sz (.slice (some ⟨g, 0, none⟩) n cap) n xs := h.mem hk
  rcases h0.2 with ⟨h1, _⟩ | ⟨g', cap', cur, h1, _, hg, _⟩
  · cases h1
  · cases h1; simp [World.frozen?, hg]
theorem Mem.ownStore (h : Mem w0 F L w) (hk : ith L k = some (own e sz (.slice (some ⟨g, 0, none⟩) n cap) n xs)) (i : Nat) (u : Value) :
    Mem w0 F (setAt L k (own e sz (.slice (some ⟨g, 0, none⟩) n cap) n (xs.set i u))) (w.setCell ⟨g, i, none⟩ u) := by
  have h0 : w.ownsRow 0 e sz (.slice (some ⟨g, 0, none⟩) n cap) n xs := h.mem hk
  exact h.turn hk (fun _ hb => hb) (h0.stored i u).1 rfl rfl rfl (by simp) (fun c _ hc => Below.heap_setCell w _ _ _ (fun e => hc (by rw [e]; rfl)))
def dropAt {α : Type} : List α → Nat → List α
  | [], _ => []
  | _ :: xs, 0 => xs
  | x :: xs, i + 1 => x :: dropAt xs i
theorem dropAt_sub {α : Type} : ∀ (l : List α) (i : Nat), (dropAt l i).Sublist l
  | [], _ => List.Sublist.refl _
  | _ :: _, 0 => List.sublist_cons_self _ _
  | _ :: xs, i + 1 => (dropAt_sub xs i).cons_cons _
theorem Mem.drop (h : Mem w0 F L w) (k : Nat) : Mem w0 F (dropAt L k) w := h.sub (dropAt_sub L k)
theorem dropAt_perm {α : Type} : ∀ (l : List α) (i : Nat) (x : α), ith l i = some x → l.Perm (x :: dropAt l i)
  | [], _, _, h => by simp [ith] at h
  | y :: ys, 0, x, h => by
    have e : y = x := by simpa [ith] using h
    subst e; exact List.Perm.refl _
  | y :: ys, i + 1, x, h => ((dropAt_perm ys i x h).cons y).trans (List.Perm.swap _ _ _)
theorem Mem.front (h : Mem w0 F L w) {k : Nat} {c : Ck} (hk : ith L k = some c) : Mem w0 F (c :: dropAt L k) w := h.perm (dropAt_perm L k c hk)
theorem append_form {P : Program} (w : World) (t ty e : TypeId) (i : TypeInfo) (z : Value) (size bytes : Nat) (ht : P.underlying t = some (.slice e)) (hi : P.info? e = some i) (hz : i.zero = some z)
    (hsize : i.size = size) (hby : i.bytes = bytes) (hzs : z.cells.size = size) (hsz : 0 < size)
    (v : Value) (n : Nat) (xs : List Value) (hown : w.ownsRow 0 e size v n xs)
    (a : Addr) (m c : Nat) (news : List Value) (hl : news.length = m * size) (hnews : ∀ j u, news[j]? = some u → w.cell? (a.add j) = some u) (h1 : ∀ u ∈ news, u.oneCell' = true)
    (h63 : n + m ≤ maxLen) (hbytes : (n + m) * bytes ≤ 140737488355328) :
    ∃ v' w', (Builtin.append_ #[t, t] ty #[v, .slice (some a) m c]).run P w = .ok v' w' ∧ w'.ownsRow 0 e size v' (n + m) (xs ++ news) ∧ w.grownBy w' v.ownBlock ∧
      (∀ b, v'.ownBlock = some b → v.ownBlock = some b ∨ w.heap.size ≤ b) := by
  obtain ⟨v', w', hr, h2, h3, -⟩ := run_append_own (P := P) w 0 t ty e i z size bytes ht hi hz hsize hby hzs hsz v n xs hown a m c news hl hnews h1 h63 hbytes (Nat.zero_le _)
  refine ⟨v', w', hr, h2, h3, fun b hb => ?_⟩
  rcases hown.2 with ⟨rfl, rfl⟩ | ⟨g, cap, cur, rfl, hbg, hg, hnc, hcm, hcs, htake⟩
  · obtain ⟨v2, w2, hr2, g2, -, -⟩ := run_append_own (P := P) w w.heap.size t ty e i z size bytes ht hi hz hsize hby hzs hsz (.slice none 0 0) 0 xs
      ⟨hown.1, .inl ⟨rfl, rfl⟩⟩ a m c news hl hnews h1 h63 hbytes (Nat.le_refl _)
    rw [hr] at hr2
    obtain ⟨rfl, rfl⟩ := (Result.ok.injEq .. ▸ hr2 : v' = v2 ∧ w' = w2)
    exact .inr (g2.lt b hb).1
  · by_cases hroom : n + m ≤ cap
    · obtain ⟨w2, hr2, -, -⟩ := run_append_fits (P := P) w 0 t ty e i size ht hi hsize g n cap xs hown a m c news hl hnews h1 hroom
      rw [hr] at hr2
      obtain ⟨rfl, rfl⟩ := (Result.ok.injEq .. ▸ hr2 : v' = _ ∧ w' = w2)
      exact .inl hb
    · have holds : ∀ j u, xs[j]? = some u → w.cell? ((⟨g, 0, none⟩ : Addr).add j) = some u := hown.cells (g := g) rfl
      have hl' := hown.1
      subst hsize
      subst hby
      have hr2 := run_append_grow (P := P) w t ty e i z ht hi hz ⟨g, 0, none⟩ n cap xs hl' holds a m c news hl hnews (by omega) (by unfold maxLen at h63; omega) (growslice_fits (by omega) hbytes)
      rw [hr] at hr2
      obtain ⟨rfl, rfl⟩ := (Result.ok.injEq .. ▸ hr2 : v' = _ ∧ w' = _)
      have e : some w.heap.size = some b := hb
      exact .inr (by rw [← Option.some.inj e]; exact Nat.le_refl _)
theorem Mem.grown (h : Mem w0 F L w) (hk : ith L k = some (own e sz v n xs)) (h2 : w'.ownsRow 0 e sz v' m news) (h3 : w.grownBy w' v.ownBlock) (h4 : ∀ b, v'.ownBlock = some b → v.ownBlock = some b ∨ w.heap.size ≤ b) :
    Mem w0 F (setAt L k (own e sz v' m news)) w' := by
  have hfr := h.front hk
  have hperm : (setAt L k (own e sz v' m news)).Perm (own e sz v' m news :: dropAt L k) := by
    have : ∀ (l : List Ck) (i : Nat) (x y : Ck), ith l i = some x → (setAt l i y).Perm (y :: dropAt l i) := by
      intro l
      induction l with
      | nil => intro i x y h; simp [ith] at h
      | cons z zs ih =>
        intro i x y h
        cases i with
        | zero => exact List.Perm.refl _
        | succ i => exact ((ih i x y h).cons z).trans (List.Perm.swap _ _ _)
    exact this L k _ _ hk
  refine Mem.perm ?_ hperm.symm
  have hap := List.pairwise_cons.1 hfr.apart
  refine ⟨h3.os.trans h.os, h3.tape.trans h.tape, h3.output.trans h.output, Nat.le_trans h.size h3.size, fun b hb hF => ?_, fun d hd => ?_, fun d hd b hb => ?_, List.pairwise_cons.2 ⟨fun d hd b hb hdb => ?_, hap.2⟩⟩
  · rw [h3.block b (Nat.lt_of_lt_of_le hb h.size) (fun e => hF ((hfr.inb _ (List.mem_cons_self ..) b e.symm).2 hb))]
    exact h.old b hb hF
  · rcases List.mem_cons.1 hd with rfl | hd
    · exact h2
    · refine d.loc w w' (fun b hb => h3.block b (hfr.inb d (by simp [hd]) b hb).1 (fun e => hap.1 d hd b e.symm hb)) (hfr.holds d (by simp [hd]))
  · rcases List.mem_cons.1 hd with rfl | hd
    · refine ⟨(h2.lt b hb).2, fun hlt => ?_⟩
      rcases h4 b hb with h4 | h4
      · exact (hfr.inb _ (List.mem_cons_self ..) b h4).2 hlt
      · have := h.size; omega
    · have := hfr.inb d (by simp [hd]) b hb
      exact ⟨Nat.lt_of_lt_of_le this.1 h3.size, this.2⟩
  · rcases h4 b hb with h4 | h4
    · exact hap.1 d hd b h4 hdb
    · have := (hfr.inb d (by simp [hd]) b hdb).1; omega
end
section
variable {P : Program} {l : List (Nat × Value)} {w : World} {ty : TypeId} {x y : Operand} {t e : TypeId}
theorem R.make {k k' : IntKind} {n : Int} {i : TypeInfo} {z : Value} (ht : P.underlying t = some (.slice e)) (hi : P.info? e = some i) (hz : i.zero = some z) (hx : opv l x = some (.int k n)) (hy : opv l y = some (.int k' n)) (h0 : 0 ≤ n) (hb : (i.bytes : Int) * n ≤ 281474976710656) (h1 : n ≤ 9223372036854775807) :
    Run P l w (.makeSlice t x y) ty (.slice (some ⟨w.heap.size, 0, none⟩) n.toNat n.toNat) (w.alloc (.cells (madeCells z.cells (n.toNat * i.size)) e)) := fun ev h _ _ _ _ => by
  have hr := run_make (P := P) w t e i z ht hi hz k k' n n h0 (Int.le_refl _) hb h1
  simp [execOp, h _ _ hx, h _ _ hy, hr]
theorem mapi_get (l : List Int) (i : Nat) (h : i < l.length) : (l.map (Value.int .i64))[i]? = some (.int .i64 (l.getD i 0)) := by simp [h]
theorem made_ints (n : Nat) : madeCells #[.int .i64 0] n = ints (List.replicate n 0) := by
  apply Array.toList_inj.1
  rw [toList_madeCells_one]; simp [ints]
theorem R.buildSl {len : Nat} {ps : Array (Nat × Operand)} {vs : List Value} {cells : Array Value} {i : TypeInfo} {z : Value} (ht : P.underlying t = some (.slice e)) (hi : P.info? e = some i) (hz : i.zero = some z) (hp : opvs l (ps.toList.map (·.2)) = some vs)
    (hsm : Nat.ble (len * i.size) 1000 = true) (hps : Nat.beq (len * i.size) 0 = false) (hf : Instr.fill (fun j => some (j * i.size, i.size)) ((Array.range (len * i.size)).map (z.cells[· % z.cells.size]!)) ((ps.toList.map (·.1)).zip vs) = some cells) :
    Run P l w (.buildSlice t len ps) ty (.slice (some ⟨w.heap.size, 0, none⟩) len len) (w.alloc (.cells cells e)) := fun ev h _ _ _ _ => by
  have key : ∀ (os : List (Nat × Operand)) (vs : List Value), opvs l (os.map (·.2)) = some vs → os.map (fun (i, x) => (i, ev x)) = (os.map (·.1)).zip vs := by
    intro os
    induction os with
    | nil => intro vs hv; simp [opvs] at hv; subst hv; rfl
    | cons o os ih =>
      intro vs hv
      simp only [List.map_cons, opvs] at hv
      split at hv
      · cases hv
      · rename_i v hv1
        split at hv
        · cases hv
        · rename_i us hus
          simp only [Option.some.injEq] at hv
          subst hv
          simp [ih us hus, h _ _ hv1]
  have h1 : (ps.map fun (i, x) => (i, ev x)).toList = (ps.toList.map (·.1)).zip vs := by simpa using key _ _ hp
  have hle : len * i.size ≤ 1000 := Nat.le_of_ble_eq_true hsm
  have hne : ¬ len * i.size = 0 := by intro e; rw [e] at hps; cases hps
  simp only [execOp]
  rw [Sem.run_bind, run_buildSlice w t e len _ cells i z ht hi hz (by omega) hne (by rw [h1]; exact hf)]
  rfl
end
section
variable {P : Program} {R : Ending → World → Prop} {f : FuncId} {a : Act} {w w0 : World} {nn : Nat} {l : List (Nat × Value)} {ops : Array Oper} {Q : Exit → Act → World → Prop} {rest : List Oper} {F : Nat → Prop} {L : List Ck}
  {S : World → Prop} {os : List Oper} {is : Ordt} {b0 : Bool} {i last : Nat} {d : Nat} {t e ty : TypeId} {x y : Operand} {pos : String} {aft : Array Edge}
theorem S.make {k k' : IntKind} {n : Int} {j : TypeInfo} {z : Value} (hA : St nn l a) (hM : Mem w0 F L w) (ht : P.underlying t = some (.slice e)) (hi : P.info? e = some j) (hz : j.zero = some z) (hx : opv l x = some (.int k n)) (hy : opv l y = some (.int k' n)) (h0 : 0 ≤ n) (hb : (j.bytes : Int) * n ≤ 281474976710656) (h1 : n ≤ 9223372036854775807) (hd : Nat.blt d nn = true)
    (h : ∀ b w', w0.heap.size ≤ b → Mem w0 F (pt b (madeCells z.cells (n.toNat * j.size)) e :: L) w' → ∀ a, St nn ((d, .slice (some ⟨b, 0, none⟩) n.toNat n.toNat) :: l) a → wpList P ops Q rest a w') :
    wpList P ops Q ({ dst := some d, op := .makeSlice t x y, type := ty, pos, after := aft, guard := none } :: rest) a w :=
  S.val hA (R.make ht hi hz hx hy h0 hb h1) hd (h _ _ hM.size (hM.alloc _ _))
theorem S.buildSl {len : Nat} {ps : Array (Nat × Operand)} {vs : List Value} {cells : Array Value} {j : TypeInfo} {z : Value} (hA : St nn l a) (hM : Mem w0 F L w) (ht : P.underlying t = some (.slice e)) (hi : P.info? e = some j) (hz : j.zero = some z) (hp : opvs l (ps.toList.map (·.2)) = some vs)
    (hsm : Nat.ble (len * j.size) 1000 = true) (hps : Nat.beq (len * j.size) 0 = false) (hf : Instr.fill (fun i => some (i * j.size, j.size)) ((Array.range (len * j.size)).map (z.cells[· % z.cells.size]!)) ((ps.toList.map (·.1)).zip vs) = some cells) (hd : Nat.blt d nn = true)
    (h : ∀ b w', w0.heap.size ≤ b → Mem w0 F (pt b cells e :: L) w' → ∀ a, St nn ((d, .slice (some ⟨b, 0, none⟩) len len) :: l) a → wpList P ops Q rest a w') :
    wpList P ops Q ({ dst := some d, op := .buildSlice t len ps, type := ty, pos, after := aft, guard := none } :: rest) a w :=
  S.val hA (R.buildSl ht hi hz hp hsm hps hf) hd (h _ _ hM.size (hM.alloc _ _))
theorem D.buildSl {len : Nat} {ps : Array (Nat × Operand)} {vs : List Value} {cells : Array Value} {j : TypeInfo} {z : Value} (hA : St nn l a) (hM : Mem w0 F L w) (ho : ith os i = some { dst := some d, op := .buildSlice t len ps, type := ty, pos, after := aft, guard := none })
    (ht : P.underlying t = some (.slice e)) (hi : P.info? e = some j) (hz : j.zero = some z) (hp : opvs l (ps.toList.map (·.2)) = some vs)
    (hsm : Nat.ble (len * j.size) 1000 = true) (hps : Nat.beq (len * j.size) 0 = false) (hf : Instr.fill (fun i => some (i * j.size, j.size)) ((Array.range (len * j.size)).map (z.cells[· % z.cells.size]!)) ((ps.toList.map (·.1)).zip vs) = some cells) (hd : Nat.blt d nn = true)
    (h : ∀ b w', w0.heap.size ≤ b → Mem w0 F (pt b cells e :: L) w' → S w' ∧ ∀ a, St nn ((d, .slice (some ⟨b, 0, none⟩) len len) :: l) a → wpOrd P last os Q S b0 is a w') : wpOrd P last os Q S b0 (.cons (i, false) is) a w :=
  have g := h _ _ hM.size (hM.alloc _ _)
  D.eff hA ho (R.buildSl ht hi hz hp hsm hps hf) hd g.1 g.2
theorem D.make {k k' : IntKind} {n : Int} {j : TypeInfo} {z : Value} (hA : St nn l a) (hM : Mem w0 F L w) (ho : ith os i = some { dst := some d, op := .makeSlice t x y, type := ty, pos, after := aft, guard := none })
    (ht : P.underlying t = some (.slice e)) (hi : P.info? e = some j) (hz : j.zero = some z) (hx : opv l x = some (.int k n)) (hy : opv l y = some (.int k' n)) (h0 : 0 ≤ n) (hb : (j.bytes : Int) * n ≤ 281474976710656) (h1 : n ≤ 9223372036854775807) (hd : Nat.blt d nn = true)
    (h : ∀ b w', w0.heap.size ≤ b → Mem w0 F (pt b (madeCells z.cells (n.toNat * j.size)) e :: L) w' → S w' ∧ ∀ a, St nn ((d, .slice (some ⟨b, 0, none⟩) n.toNat n.toNat) :: l) a → wpOrd P last os Q S b0 is a w') : wpOrd P last os Q S b0 (.cons (i, false) is) a w :=
  have g := h _ _ hM.size (hM.alloc _ _)
  D.eff hA ho (R.make ht hi hz hx hy h0 hb h1) hd g.1 g.2
theorem R.append {P : Program} {l : List (Nat × Value)} {w w0 : World} {F : Nat → Prop} {L : List Ck} {k n m c sz bytes : Nat} {v z : Value} {xs news : List Value} {p : Addr} {j : TypeInfo} (hM : Mem w0 F L w) (hk : ith L k = some (own e sz v n xs)) (ht : P.underlying t = some (.slice e)) (hi : P.info? e = some j) (hz : j.zero = some z) (hsz : j.size = sz) (hby : j.bytes = bytes) (hzs : z.cells.size = sz) (hps : Nat.blt 0 sz = true)
    (hx : opv l x = some v) (hy : opv l y = some (.slice (some p) m c)) (hl : news.length = m * sz) (hnews : ∀ j u, news[j]? = some u → w.cell? (p.add j) = some u) (h1 : allOne news = true) (hmax : n + m ≤ maxLen) (hbs : (n + m) * bytes ≤ 140737488355328) :
    ∃ a' cap' w', Run P l w (.call { callee := .builtin .append, args := #[x, y], argTypes := #[t, t] }) ty (.slice a' (n + m) cap') w' ∧ Mem w0 F (setAt L k (own e sz (.slice a' (n + m) cap') (n + m) (xs ++ news))) w' := by
  have hone : ∀ u ∈ news, u.oneCell' = true := by
    clear hl hnews
    induction news with
    | nil => intro u hu; cases hu
    | cons v vs ih =>
      simp only [allOne, Bool.and_eq_true] at h1
      intro u hu
      rcases List.mem_cons.1 hu with rfl | hu
      · exact h1.1
      · exact ih h1.2 u hu
  obtain ⟨v', w', hr, h2, h3, h4⟩ := append_form (P := P) w t ty e j z sz bytes ht hi hz hsz hby hzs (Nat.le_of_ble_eq_true hps) v n xs (hM.mem hk) p m c news hl hnews hone hmax hbs
  obtain ⟨a', cap', rfl, -⟩ := own_form h2
  exact ⟨a', cap', w', fun ev h _ _ _ _ => by simp [execOp, resolve, invoke, builtin, h _ _ hx, h _ _ hy, hr], hM.grown hk h2 h3 h4⟩
theorem S.append {k k2 n m c sz bytes b : Nat} {v z : Value} {xs news : List Value} {j : TypeInfo} (hA : St nn l a) (hM : Mem w0 F L w) (hk : ith L k = some (own e sz v n xs)) (hk2 : ith L k2 = some (pt b news.toArray e)) (ht : P.underlying t = some (.slice e)) (hi : P.info? e = some j) (hz : j.zero = some z) (hsz : j.size = sz) (hby : j.bytes = bytes) (hzs : z.cells.size = sz) (hps : Nat.blt 0 sz = true)
    (hx : opv l x = some v) (hy : opv l y = some (.slice (some ⟨b, 0, none⟩) m c)) (hl : news.length = m * sz) (h1 : allOne news = true) (hmax : n + m ≤ maxLen) (hbs : (n + m) * bytes ≤ 140737488355328) (hd : Nat.blt d nn = true)
    (h : ∀ a' cap' w', Mem w0 F (setAt L k (own e sz (.slice a' (n + m) cap') (n + m) (xs ++ news))) w' → ∀ a, St nn ((d, .slice a' (n + m) cap') :: l) a → wpList P ops Q rest a w') :
    wpList P ops Q ({ dst := some d, op := .call { callee := .builtin .append, args := #[x, y], argTypes := #[t, t] }, type := ty, pos, after := aft, guard := none } :: rest) a w := by
  obtain ⟨a', cap', w', hr, hM'⟩ := R.append (P := P) (ty := ty) (t := t) hM hk ht hi hz hsz hby hzs hps hx hy hl (fun j u hu => by rw [Addr.add_lit]; exact hM.cell hk2 (by simpa using hu)) h1 hmax hbs
  exact S.val hA hr hd (h a' cap' w' hM')
theorem D.append {k k2 n m c sz bytes b : Nat} {v z : Value} {xs news : List Value} {j : TypeInfo} (hA : St nn l a) (hM : Mem w0 F L w) (ho : ith os i = some { dst := some d, op := .call { callee := .builtin .append, args := #[x, y], argTypes := #[t, t] }, type := ty, pos, after := aft, guard := none })
    (hk : ith L k = some (own e sz v n xs)) (hk2 : ith L k2 = some (pt b news.toArray e)) (ht : P.underlying t = some (.slice e)) (hi : P.info? e = some j) (hz : j.zero = some z) (hsz : j.size = sz) (hby : j.bytes = bytes) (hzs : z.cells.size = sz) (hps : Nat.blt 0 sz = true)
    (hx : opv l x = some v) (hy : opv l y = some (.slice (some ⟨b, 0, none⟩) m c)) (hl : news.length = m * sz) (h1 : allOne news = true) (hmax : n + m ≤ maxLen) (hbs : (n + m) * bytes ≤ 140737488355328) (hd : Nat.blt d nn = true)
    (h : ∀ a' cap' w', Mem w0 F (setAt L k (own e sz (.slice a' (n + m) cap') (n + m) (xs ++ news))) w' → S w' ∧ ∀ a, St nn ((d, .slice a' (n + m) cap') :: l) a → wpOrd P last os Q S b0 is a w') : wpOrd P last os Q S b0 (.cons (i, false) is) a w := by
  obtain ⟨a', cap', w', hr, hM'⟩ := R.append (P := P) (ty := ty) (t := t) hM hk ht hi hz hsz hby hzs hps hx hy hl (fun j u hu => by rw [Addr.add_lit]; exact hM.cell hk2 (by simpa using hu)) h1 hmax hbs
  have g := h a' cap' w' hM'
  exact D.eff hA ho hr hd g.1 g.2
end
end
section
open Go.RowKit
section
variable {P : Program} {R : Ending → World → Prop} {f : FuncId} {a : Act} {w w0 : World} {n : Nat} {l : List (Nat × Value)} {ops : Array Oper} {Q : Exit → Act → World → Prop} {rest : List Oper} {F : Nat → Prop} {L : List Ck}
  {S : World → Prop} {os : List Oper} {is : Ordt} {b0 : Bool} {i last : Nat} {d : Nat} {t ty : TypeId} {x y : Operand} {pos : String} {aft : Array Edge}
end
end
section
open Go.RowKit
def feet (L : List Ck) : Nat → Prop := fun b => ∃ c ∈ L, c.foot b
section
variable {w0 w w' : World} {F : Nat → Prop} {L L' : List Ck}
theorem Mem.here (h : Mem w0 F L w) : Mem w (feet L) L w :=
  ⟨rfl, rfl, rfl, Nat.le_refl _, fun _ _ _ => rfl, h.holds, fun c hc b hb => ⟨(h.inb c hc b hb).1, fun _ => ⟨c, hc, hb⟩⟩, h.apart⟩
theorem Mem.hereN (h : Mem w0 F L w) (n : Nat) : Mem w (feet (L.take n)) (L.take n) w := (h.sub (List.take_sublist n L)).here
theorem Mem.firstN (h : Mem w0 F L w) (n : Nat) : Mem w0 F (L.take n) w := h.sub (List.take_sublist n L)
theorem Mem.callL (h : Mem w0 F L w) (n : Nat) (hn : Mem w (feet (L.take n)) L' w') : Mem w0 F (L' ++ L.drop n) w' := by
  have hsplit : L.take n ++ L.drop n = L := List.take_append_drop n L
  have hap : (L.take n ++ L.drop n).Pairwise (fun c d => ∀ b, c.foot b → ¬ d.foot b) := by rw [hsplit]; exact h.apart
  obtain ⟨hap1, hap2, hap3⟩ := List.pairwise_append.1 hap
  have hkeep : ∀ b, b < w.heap.size → ¬ feet (L.take n) b → w'.heap[b]? = w.heap[b]? := fun b hb hc => hn.old b hb hc
  have hfree : ∀ d ∈ L.drop n, ∀ b, d.foot b → ¬ feet (L.take n) b := fun d hd b hb ⟨c, hc, hcb⟩ => hap3 c hc d hd b hcb hb
  refine ⟨hn.os.trans h.os, hn.tape.trans h.tape, hn.output.trans h.output, Nat.le_trans h.size hn.size, fun b hb hF0 => ?_, fun e he => ?_, fun e he b hb => ?_, ?_⟩
  · rw [hkeep b (Nat.lt_of_lt_of_le hb h.size) (fun ⟨c, hc, hcb⟩ => hF0 ((h.inb c (List.mem_of_mem_take hc) b hcb).2 hb))]; exact h.old b hb hF0
  · rcases List.mem_append.1 he with he | he
    · exact hn.holds e he
    · have hm := List.mem_of_mem_drop he
      exact e.loc w w' (fun b hb => hkeep b (h.inb e hm b hb).1 (hfree e he b hb)) (h.holds e hm)
  · rcases List.mem_append.1 he with he | he
    · have := hn.inb e he b hb
      refine ⟨this.1, fun g => ?_⟩
      obtain ⟨c, hc, hcb⟩ := this.2 (Nat.lt_of_lt_of_le g h.size)
      exact (h.inb c (List.mem_of_mem_take hc) b hcb).2 g
    · have := h.inb e (List.mem_of_mem_drop he) b hb
      exact ⟨Nat.lt_of_lt_of_le this.1 hn.size, this.2⟩
  · refine List.pairwise_append.2 ⟨hn.apart, hap2, fun e he d hd b heb hdb => ?_⟩
    have g1 := hn.inb e he b heb
    have g2 := (h.inb d (List.mem_of_mem_drop hd) b hdb).1
    exact hfree d hd b hdb (g1.2 g2)
theorem Mem.cellB (h : Mem w0 nof L w) {b i : Nat} {cs : Array Value} {t : TypeId} {v : Value} (hb : w0.heap[b]? = some (.cells cs t (0, 0))) (hv : cs[i]? = some v) : w.cell? ⟨b, i, none⟩ = some v :=
  h.cell0 (by simp [World.cell?, hb, hv]) (fun h => h)
end
theorem Ends.unroll {P : Program} {f : FuncId} {R : Ending → World → Prop} {k : List Item} {a : Act} {w : World} {c : Code} (h : Ends P f R (.code c :: .inLoop c :: k) a w) : Ends P f R (.code (.loop c) :: k) a w :=
  Ends.step (fun _ _ _ _ => .one step_loop) h
theorem umod_ex (x k : Int) (hk : 0 < k ∧ k ≤ 4611686018427387904) : ∃ N : Nat, (N : Int) < k ∧ IntKind.i64.wrap (IntKind.u64.wrap x % k) = (N : Int) := by
  have h1 := Int.emod_nonneg (IntKind.u64.wrap x) (show k ≠ 0 by omega)
  have h2 := Int.emod_lt_of_pos (IntKind.u64.wrap x) (show 0 < k by omega)
  refine ⟨(IntKind.u64.wrap x % k).toNat, by omega, ?_⟩
  rw [IntWalk.i64_in _ ⟨by omega, by omega⟩]; omega
theorem u64_nn (x : Int) : 0 ≤ IntKind.u64.wrap x := by rw [IntKind.wrap_u64]; omega
end
section
open Go.RowKit
theorem ret_i64 {a b : Int} (h : a = b) : Ending.returned (.int .i64 a) = .returned (.int .i64 b) := by rw [h]
end
section
open Go.RowKit
def IntSl (w : World) (v : Value) (l : List Int) : Prop :=
  ∃ a cap, v = .slice a l.length cap ∧ l.length ≤ cap ∧ cap ≤ maxLen ∧ (a = none → cap = 0) ∧ (l ≠ [] → ∃ b off, a = some ⟨b, off, none⟩ ∧ b < w.heap.size ∧ ∀ i, i < l.length → w.cell? ⟨b, off + i, none⟩ = some (.int .i64 (l.getD i 0)))
theorem IntSl.below {B : Nat} {w w' : World} {v : Value} {l : List Int} (h : IntSl w v l) (hb : Below B w w') (hB : w.heap.size ≤ B) : IntSl w' v l := by
  obtain ⟨a, cap, rfl, hle, hmx, hnn, h⟩ := h
  refine ⟨a, cap, rfl, hle, hmx, hnn, fun hn => ?_⟩
  obtain ⟨b, off, rfl, hlt, hc⟩ := h hn
  refine ⟨b, off, rfl, Nat.lt_of_lt_of_le hlt hb.size, fun i hi => ?_⟩
  rw [(bcell hb).1 _ _ (by omega)]; exact hc i hi
end
section
open Go.RowKit
section
variable {P : Program} {l : List (Nat × Value)} {w : World} {ty : TypeId} {x y z : Operand} {k k' : IntKind} {m n : Int} {t yt : TypeId}
theorem R.sliceH {e : TypeId} {a : Option Addr} {len cap h : Nat} {j : TypeInfo} (ht : P.underlying t = some (.slice e)) (hj : P.info? e = some j) (hx : opv l x = some (.slice a len cap)) (hy : opv l y = some (.int k n)) (hn : n = (h : Int)) (hc : h ≤ cap) :
    Run P l w (.slice t x none (some y) none) ty (.slice a h cap) w := fun ev hev _ _ _ _ => by
  subst hn
  have hz : Option.map (fun a : Addr => a.add 0) a = a := by cases a <;> simp [Addr.add]
  have h1 : (Instr.slice t (.slice a len cap) none (some (.int k (h : Int))) none).run P w = .ok (.slice a h cap) w := by
    simp only [Instr.slice, Sem.run_bind, run_underlying ht, Result.andThen_ok, Instr.sliceBounds, Instr.sliceBound, asIntOf, Sem.run_pure]
    simp [hc, run_sizeOf_of hj, hz]
  have h2 : (Instr.sliceAt t (.slice a len cap) none (some (.int k (h : Int))) none).run P w = .ok (.slice a h cap) w := by
    unfold Instr.sliceAt
    simp only [Sem.run_bind, run_underlying ht, Result.andThen_ok]
    exact h1
  simp [execOp, hev _ _ hx, hev _ _ hy, h2]
theorem R.eqlS {xs ys : Array Value} {b : Bool} (hg : P.eqGuardType P.depth t = false) (he : ∀ w, (Op.equalIn 10000 t (.agg xs) (.agg ys)).run P w = .ok b w) (hx : opv l x = some (.agg xs)) (hy : opv l y = some (.agg ys)) : Run P l w (.binOp .eql t x y yt) ty (.bool b) w := fun ev h _ _ _ _ => by
  have h1 := run_eqGuard_agg (P := P) w .eql t x y xs ys hg
  have h2 := run_eql_struct (P := P) w t xs ys
  simp only [execOp, h _ _ hx, h _ _ hy, Sem.run_bind, h1, Result.andThen_ok, h2, he, Sem.run_pure]
end
theorem IntSl.at {w : World} {a : Option Addr} {n cap : Nat} {l : List Int} (h : IntSl w (.slice a n cap) l) {i : Nat} (hi : i < l.length) :
    ∃ b off, a = some ⟨b, off, none⟩ ∧ w.cell? ⟨b, off + i, none⟩ = some (.int .i64 (l.getD i 0)) := by
  obtain ⟨a', cap', he, h1, h2, h3, h4⟩ := h
  cases he
  obtain ⟨b, off, rfl, -, hc⟩ := h4 (by intro e; rw [e] at hi; simp at hi)
  exact ⟨b, off, rfl, hc i hi⟩
theorem IntSl.len {w : World} {a : Option Addr} {n cap : Nat} {l : List Int} (h : IntSl w (.slice a n cap) l) : n = l.length ∧ l.length ≤ cap ∧ cap ≤ maxLen := by
  obtain ⟨a', cap', he, h1, h2, -⟩ := h
  cases he
  exact ⟨rfl, h1, h2⟩
theorem IntSl.form {w : World} {v : Value} {l : List Int} (h : IntSl w v l) : ∃ a cap, v = .slice a l.length cap := by
  obtain ⟨a, cap, he, -⟩ := h; exact ⟨a, cap, he⟩
theorem IntSl.cut {w : World} {a : Option Addr} {n cap : Nat} {l : List Int} (h : IntSl w (.slice a n cap) l) (m : Nat) (hm : m ≤ l.length) : IntSl w (.slice a m cap) (l.take m) := by
  obtain ⟨a', cap', he, h1, h2, h3, h4⟩ := h
  cases he
  refine ⟨a, cap, by rw [List.length_take, Nat.min_eq_left hm], by rw [List.length_take]; omega, h2, h3, fun hne => ?_⟩
  obtain ⟨b, off, e, hlt, hc⟩ := h4 (by intro e; subst e; simp at hne)
  refine ⟨b, off, e, hlt, fun i hi => ?_⟩
  rw [List.length_take] at hi
  rw [hc i (by omega)]
  congr 2
  simp only [List.getD_eq_getElem?_getD, List.getElem?_take]
  rw [if_pos (by omega)]
theorem IntSl.mem {w0 w : World} {v : Value} {l : List Int} {L : List Ck} (h : IntSl w0 v l) (hM : Mem w0 nof L w) : IntSl w v l := h.below hM.nilL.below (Nat.le_refl _)
end
section
open Go.RowKit
section
variable {P : Program} {R : Ending → World → Prop} {f : FuncId} {a : Act} {w w0 : World} {n : Nat} {l : List (Nat × Value)} {ops : Array Oper} {Q : Exit → Act → World → Prop} {rest : List Oper} {F : Nat → Prop} {L : List Ck}
  {S : World → Prop} {os : List Oper} {is : Ordt} {b0 : Bool} {i last : Nat} {d : Nat} {t ty : TypeId} {x y : Operand} {pos : String} {aft : Array Edge}
theorem S.buildSlg {e : TypeId} {jg dj : Nat} {u : Bool} {len : Nat} {ps : Array (Nat × Operand)} {vs : List Value} {cells : Array Value} {j : TypeInfo} {z : Value} (hA : St n l a) (hM : Mem w0 F L w) (hj : dstOf ops jg = some dj) (hl : lk l dj = some (.bool u)) (ht : P.underlying t = some (.slice e)) (hi : P.info? e = some j) (hz : j.zero = some z) (hp : opvs l (ps.toList.map (·.2)) = some vs)
    (hsm : Nat.ble (len * j.size) 1000 = true) (hps : Nat.beq (len * j.size) 0 = false) (hf : Instr.fill (fun i => some (i * j.size, j.size)) ((Array.range (len * j.size)).map (z.cells[· % z.cells.size]!)) ((ps.toList.map (·.1)).zip vs) = some cells) (hd : Nat.blt d n = true)
    (h : ∀ b w', w0.heap.size ≤ b → Mem w0 F (pt b cells e :: L) w' → ∀ a, St n ((d, .slice (some ⟨b, 0, none⟩) len len) :: l) a → wpList P ops Q rest a w') :
    wpList P ops Q ({ dst := some d, op := .buildSlice t len ps, type := ty, pos, after := aft, guard := some (jg, u) } :: rest) a w :=
  S.valg hA hj hl (R.buildSl ht hi hz hp hsm hps hf) hd (h _ _ hM.size (hM.alloc _ _))
end
theorem own_slice {w w' : World} {e : TypeId} {v : Value} {n : Nat} {xs : List Value} (ho : w'.ownsRow w.heap.size e 1 v n xs) (hb : Below w.heap.size w w') : ∃ a cap, v = .slice a n cap ∧ Mem w nof [own e 1 (.slice a n cap) n xs] w' := by
  have h := Mem.ofOwn hb ho
  obtain ⟨a, cap, rfl, -⟩ := own_form (h.mem (k := 0) rfl)
  exact ⟨a, cap, rfl, h⟩
end
section
open Go.RowKit
section
variable {P : Program} {R : Ending → World → Prop} {f : FuncId} {a : Act} {w w0 : World} {nn : Nat} {l : List (Nat × Value)} {ops : Array Oper} {Q : Exit → Act → World → Prop} {rest : List Oper} {F : Nat → Prop} {L : List Ck}
  {S : World → Prop} {os : List Oper} {is : Ordt} {i last : Nat} {d : Nat} {t e ty : TypeId} {x y : Operand} {pos : String} {aft : Array Edge}
end
end
section
open Go.RowKit
end
section
open Go.RowKit
section
variable {P : Program} {l : List (Nat × Value)} {w : World} {ty : TypeId} {x y z : Operand} {k k' : IntKind} {m n : Int} {t yt : TypeId}
end
section
variable {P : Program} {R : Ending → World → Prop} {f : FuncId} {a : Act} {w w0 : World} {nn : Nat} {l : List (Nat × Value)} {ops : Array Oper} {Q : Exit → Act → World → Prop} {rest : List Oper} {F : Nat → Prop} {L : List Ck}
  {S : World → Prop} {os : List Oper} {is : Ordt} {b0 : Bool} {i last : Nat} {d : Nat} {t e ty : TypeId} {x y : Operand} {pos : String} {aft : Array Edge}
end
end
section
open Go.RowKit
section
variable {P : Program} {a : Act} {w : World} {n : Nat} {l : List (Nat × Value)} {ops : Array Oper} {Q : Exit → Act → World → Prop} {rest : List Oper} {S : World → Prop} {os : List Oper} {is : Ordt} {b0 : Bool} {i last : Nat}
end
theorem or_bool {p : Prop} [Decidable p] {b : Bool} (h : ¬ p) : b = decide (p ∨ b = true) := by cases b <;> simp [h]
theorem and_bool {p : Prop} [Decidable p] {b : Bool} (h : p) : b = decide (p ∧ b = true) := by cases b <;> simp [h]
end
section
open Go.RowKit
def byt (s : ByteArray) (i : Nat) : Int := ((s.get! i).toNat : Nat)
theorem byt_at {s : ByteArray} {i : Nat} (h : i < s.size) : ((s[i]'h).toNat : Int) = byt s i := by
  have e : s.get! i = s[i]'h := by simp [ByteArray.get!, getElem!_pos, h]; rfl
  unfold byt; rw [e]
section
variable {w0 w w' : World} {F : Nat → Prop} {L : List Ck}
end
section
variable {P : Program} {l : List (Nat × Value)} {w w0 : World} {F : Nat → Prop} {L : List Ck} {ty : TypeId} {x y z : Operand} {k k' : IntKind} {m n : Int} {t yt : TypeId} {s r : ByteArray}
end
section
variable {P : Program} {R : Ending → World → Prop} {f : FuncId} {a : Act} {w w0 : World} {nn : Nat} {l : List (Nat × Value)} {ops : Array Oper} {Q : Exit → Act → World → Prop} {rest : List Oper} {F : Nat → Prop} {L : List Ck}
  {d : Nat} {t e ty : TypeId} {x y : Operand} {pos : String} {aft : Array Edge} {s : ByteArray}
end
end
section
open Go.RowKit
def apartL (cs : List Ck) : Prop := cs.Pairwise (fun c d => ∀ b, c.foot b → ¬ d.foot b)
def bundle (cs : List Ck) : Ck :=
  ⟨fun b => ∃ c ∈ cs, c.foot b, fun w => (∀ c ∈ cs, c.holds w) ∧ apartL cs,
    fun w w' h hh => ⟨fun c hc => c.loc w w' (fun b hb => h b ⟨c, hc, hb⟩) (hh.1 c hc), hh.2⟩⟩
def emp : Ck := ⟨fun _ => False, fun _ => True, fun _ _ _ _ => trivial⟩
section
variable {w0 w : World} {F : Nat → Prop} {L cs : List Ck} {α : Type} {f : α → Ck} {xs : List α} {x : α} {j : Nat}
theorem Mem.pack (h : Mem w0 F (cs ++ L) w) : Mem w0 F (bundle cs :: L) w := by
  obtain ⟨h1, h2, h3⟩ := List.pairwise_append.1 h.apart
  refine ⟨h.os, h.tape, h.output, h.size, h.old, fun d hd => ?_, fun d hd b hb => ?_, List.pairwise_cons.2 ⟨fun d hd b ⟨c, hc, hcb⟩ hdb => h3 c hc d hd b hcb hdb, h2⟩⟩
  · rcases List.mem_cons.1 hd with rfl | hd
    · exact ⟨fun c hc => h.holds c (List.mem_append_left _ hc), h1⟩
    · exact h.holds d (List.mem_append_right _ hd)
  · rcases List.mem_cons.1 hd with rfl | hd
    · obtain ⟨c, hc, hcb⟩ := hb
      exact h.inb c (List.mem_append_left _ hc) b hcb
    · exact h.inb d (List.mem_append_right _ hd) b hb
theorem Mem.unpack (h : Mem w0 F (bundle cs :: L) w) : Mem w0 F (cs ++ L) w := by
  obtain ⟨h1, h2⟩ := List.pairwise_cons.1 h.apart
  have hb : (bundle cs).holds w := h.holds _ (List.mem_cons_self ..)
  refine ⟨h.os, h.tape, h.output, h.size, h.old, fun d hd => ?_, fun d hd b hdb => ?_, List.pairwise_append.2 ⟨hb.2, h2, fun c hc d hd b hcb hdb => h1 d hd b ⟨c, hc, hcb⟩ hdb⟩⟩
  · rcases List.mem_append.1 hd with hd | hd
    · exact hb.1 d hd
    · exact h.holds d (List.mem_cons_of_mem _ hd)
  · rcases List.mem_append.1 hd with hd | hd
    · exact h.inb _ (List.mem_cons_self ..) b ⟨d, hd, hdb⟩
    · exact h.inb d (List.mem_cons_of_mem _ hd) b hdb
theorem perm_at : ∀ {xs : List α} {j : Nat} {x : α}, xs[j]? = some x → xs.Perm (x :: xs.eraseIdx j)
  | y :: xs, 0, x, h => by
    have e : y = x := by simpa using h
    subst e
    exact .refl _
  | y :: xs, j + 1, x, h => by
    have := perm_at (xs := xs) (j := j) (x := x) (by simpa using h)
    rw [List.eraseIdx_cons_succ]
    exact (this.cons y).trans (.swap x y _)
theorem Mem.openB (h : Mem w0 F (bundle (xs.map f) :: L) w) (hx : xs[j]? = some x) : Mem w0 F (f x :: bundle ((xs.eraseIdx j).map f) :: L) w := by
  have h1 := h.unpack.perm (L' := (xs.eraseIdx j).map f ++ f x :: L) (((((perm_at hx).map f).append_right L)).trans (List.perm_middle (l₁ := (xs.eraseIdx j).map f)).symm)
  exact h1.pack.front (k := 1) rfl
theorem Mem.closeB {y : α} (h : Mem w0 F (f y :: bundle ((xs.eraseIdx j).map f) :: L) w) (hx : xs[j]? = some x) : Mem w0 F (bundle ((xs.set j y).map f) :: L) w := by
  obtain ⟨hj, -⟩ := List.getElem?_eq_some_iff.1 hx
  have h0 : Mem w0 F (bundle ((xs.eraseIdx j).map f) :: f y :: L) w := h.front (k := 1) rfl
  have hy : (xs.set j y)[j]? = some y := List.getElem?_set_self hj
  have he : (xs.set j y).eraseIdx j = xs.eraseIdx j := List.eraseIdx_set_eq ..
  have hp := perm_at hy
  rw [he] at hp
  exact (h0.unpack.perm (L' := (xs.set j y).map f ++ L) ((List.perm_middle (l₁ := (xs.eraseIdx j).map f)).trans (((hp.map f).append_right L)).symm)).pack
end
end
section
open Go.RowKit
def pI (a : Option Addr) (i : Nat) : Value := .pointer (match a with | some p => some ⟨p.block, p.off + i, none⟩ | none => none)
theorem IntSl.lenB {w : World} {a : Option Addr} {n cap : Nat} {X : List Int} (h : IntSl w (.slice a n cap) X) : X.length ≤ 9223372036854775807 := by
  have := h.len; unfold maxLen at this; omega
theorem IntSl.nil (w : World) : IntSl w (.slice none ([] : List Int).length 0) [] := ⟨none, 0, rfl, Nat.le_refl _, Nat.zero_le _, fun _ => rfl, fun h => absurd rfl h⟩
section
variable {P : Program} {l : List (Nat × Value)} {w w0 : World} {ty : TypeId} {x y z : Operand} {k k' : IntKind} {m n : Int} {t yt e : TypeId}
theorem R.idxI {a : Option Addr} {cap j : Nat} {g : Bool} {i : Int} {X : List Int} (hX : IntSl w0 (.slice a X.length cap) X) (hi : slInfo P t = some (g, 1)) (hx : opv l x = some (.slice a X.length cap)) (hy : opv l y = some (.int k i)) (h0 : 0 ≤ i ∧ i < (X.length : Int)) (hj : i.toNat = j) :
    Run P l w (.indexAddr t x y) ty (pI a j) w := by
  obtain ⟨b, off, rfl, -⟩ := hX.at (i := i.toNat) (by omega)
  exact R.indexAddr hi hx hy h0 (by rw [Nat.mul_one, hj])
theorem R.loadI {a : Option Addr} {cap j : Nat} {X : List Int} (hX : IntSl w (.slice a X.length cap) X) (hi : szOf P t = some (false, 1)) (hx : opv l x = some (pI a j)) (hj : j < X.length) : Run P l w (.load t x) ty (.int .i64 (X.getD j 0)) w := by
  obtain ⟨b, off, rfl, hc⟩ := hX.at hj
  exact R.load hi hx hc
theorem opvs_map {ev : Operand → Value} (h : ∀ x u, opv l x = some u → ev x = u) : ∀ (os : List Operand) (vs : List Value), opvs l os = some vs → os.map ev = vs := by
  intro os
  induction os with
  | nil => intro vs hv; simp [opvs] at hv; subst hv; rfl
  | cons o os ih =>
    intro vs hv
    simp only [opvs] at hv
    split at hv
    · cases hv
    · rename_i v hv1
      split at hv
      · cases hv
      · rename_i us hus
        simp only [Option.some.injEq] at hv
        subst hv
        simp [ih us hus, h _ _ hv1]
theorem R.makeFunc {f : FuncId} {cs : Array Operand} {vs : List Value} (hp : opvs l cs.toList = some vs) : Run P l w (.makeFunc (.func f) #[] cs) ty (.func (.func f) #[] vs.toArray) w := fun ev h _ _ _ _ => by
  have h1 : (cs.map ev) = vs.toArray := by
    have := opvs_map h _ _ hp
    apply Array.toList_inj.1
    simpa using this
  simp [execOp, Instr.makeFunc, h1]
end
section
variable {P : Program} {f : FuncId} {R : Ending → World → Prop} {a : Act} {w w0 : World} {n : Nat} {l : List (Nat × Value)} {F : Nat → Prop} {L : List Ck} {t : TypeId}
end
theorem Mem.oldRange {w0 w : World} {L : List Ck} {b : Nat} {cs : List Value} {t : TypeId} (hM : Mem w0 nof L w) (h : w0.heap[b]? = some (.cells cs.toArray t (0, 0))) : w.rangeAt b 0 cs := fun j v hv => by
  have := hM.cellB h (i := j) (v := v) (by simpa using hv)
  rw [Nat.zero_add]; exact this
theorem Mem.trans0 {w w1 w2 : World} {L : List Ck} (hb : Below w.heap.size w w1) (hM : Mem w1 nof L w2) : Below w.heap.size w w2 :=
  hb.trans (hM.below.mono hb.size)
theorem Mem.rsl {w0 w : World} {F : Nat → Prop} {L : List Ck} {k cap : Nat} {av : Option Addr} {X : List Int} {t : TypeId} (hM : Mem w0 F L w) (hk : ith L k = some (own t 1 (.slice av X.length cap) X.length (X.map (Value.int .i64)))) : IntSl w (.slice av X.length cap) X := by
  obtain ⟨a', cap', he, hn, hm, -, h1, h2⟩ := hM.ownForm hk
  cases he
  have ho : w.ownsRow 0 t 1 (.slice av X.length cap) X.length (X.map (Value.int .i64)) := hM.mem hk
  refine ⟨av, cap, rfl, hn, hm, fun hna => ?_, fun hne => ?_⟩
  · subst hna
    rcases ho.2 with ⟨h, -⟩ | ⟨g, c, cur, h, -⟩
    · injection h
    · cases h
  · have hpos : 0 < X.length := List.length_pos_iff.2 hne
    obtain ⟨g, rfl⟩ := hM.ownAt hk hpos
    refine ⟨g, 0, rfl, (hM.inb _ (List.mem_of_getElem? (by rwa [ith_eq] at hk)) g rfl).1, fun i hi => ?_⟩
    rw [Nat.zero_add]
    exact hM.ownCell hk (mapi_get X i hi)
theorem Mem.ptRs {w0 w : World} {F : Nat → Prop} {L : List Ck} {k b : Nat} {X : List Int} {t : TypeId} (hM : Mem w0 F L w) (hk : ith L k = some (pt b (ints X) t)) (hm : X.length ≤ 1000000) : IntSl w (.slice (some ⟨b, 0, none⟩) X.length X.length) X := by
  refine ⟨_, _, rfl, Nat.le_refl _, by unfold maxLen; omega, (fun h => nomatch h), fun _ => ⟨b, 0, rfl, hM.lt hk, fun i hi => ?_⟩⟩
  rw [Nat.zero_add]
  exact hM.cell hk (by simp [ints, hi])
section
variable {P : Program} {l : List (Nat × Value)} {w w0 : World} {ty : TypeId} {x y z : Operand} {k k' : IntKind} {m n : Int} {t yt e : TypeId} {nn : Nat} {a : Act} {ops : Array Oper} {Q : Exit → Act → World → Prop} {rest : List Oper} {F : Nat → Prop} {L : List Ck} {d : Nat} {pos : String} {aft : Array Edge}
end
theorem Mem.keepB {w0 w : World} {L : List Ck} {b : Nat} {o : Obj} (hM : Mem w0 nof L w) (h : w0.heap[b]? = some o) : w.heap[b]? = some o := by
  rw [hM.below.block b (Array.getElem?_eq_some_iff.1 h).1]; exact h
end
section
open Go.RowKit
section
variable {P : Program} {l : List (Nat × Value)} {w w0 : World} {ty : TypeId} {x y z : Operand} {k k' : IntKind} {m n : Int} {t yt e : TypeId}
end
end
section
open Go.RowKit
theorem tab_of_reads {P : Program} {W : World} {name : String} {k : IntKind} {zs : List Int} {g : Nat} {t e : TypeId} {n : Nat}
    (hg : P.globalNamed name = some g) (hty : (P.globals[g]?).map (·.type) = some t) (ht : P.underlying t = some (.array n e)) (he : P.underlying e = some (.int k)) (hce : P.cellsOf e = 1) (hct : P.cellsOf t = n)
    (h : Lib.VarReads P W name (Lib.tabData k zs)) : Lib.TabIs P W name k zs := by
  obtain ⟨g', t', cs, fuel, p, hg', ht', hvar, hd⟩ := h
  obtain rfl := Option.some.inj (hg.symm.trans hg')
  obtain rfl := Option.some.inj (hty.symm.trans ht')
  unfold Lib.TabIs
  rw [hvar, ← Lib.cells_of_tab ht he hce hct hd]
theorem tab_below {P : Program} {w w' : World} {name : String} {k : IntKind} {zs : List Int} (h : Lib.TabIs P w name k zs) (hb : Below w.heap.size w w') : Lib.TabIs P w' name k zs := by
  unfold Lib.TabIs World.var? at *
  cases hg : P.globalNamed name with
  | none => rw [hg] at h; cases h
  | some g =>
    rw [hg] at h
    simp only [Option.bind_some] at h ⊢
    cases hx : w.heap[g]? with
    | none => rw [hx] at h; cases h
    | some o =>
      have hlt : g < w.heap.size := by
        rcases Nat.lt_or_ge g w.heap.size with q | q
        · exact q
        · rw [Array.getElem?_eq_none q] at hx; cases hx
      rw [hb.block g hlt]; exact h
end
section
open Go.RowKit
def vals (l : List Value) : Array Value := l.toArray
theorem vals_at (l : List Value) (o : Nat) (u : Value) (h : l[o]? = some u) : (vals l)[o]? = some u := by simpa [vals] using h
theorem vals_get (l : List Value) (o : Nat) (h : o < l.length) : (vals l)[o]? = some (l.getD o (.pointer none)) := by simp [vals, h]
theorem vals_set (l : List Value) (o : Nat) (v : Value) : (vals l).setIfInBounds o v = vals (l.set o v) := by simp [vals]
def nils (n : Nat) : List Value := List.replicate n (.slice none 0 0)
theorem made_vals (n : Nat) : madeCells #[.slice none 0 0] n = vals (nils n) := by
  apply Array.toList_inj.1
  rw [toList_madeCells_one]; simp [vals, nils]
end
end Go.Proofs.YtjjbognomeplbaaDoor
namespace Go.Proofs.YtjjbognomeplbaaDoor
section
def kindI (r : Int) : Int :=
  if r = 32 ∨ r = 9 ∨ r = 10 ∨ r = 13 then 1 else if 48 ≤ r ∧ r ≤ 57 then 2 else if (65 ≤ r ∧ r ≤ 90) ∨ (97 ≤ r ∧ r ≤ 122) then 3 else if r = 35 then 4 else 0
def dig (s : ByteArray) (i : Nat) : Prop := i < s.size ∧ 48 ≤ byt s i ∧ byt s i ≤ 57
instance (s : ByteArray) (i : Nat) : Decidable (dig s i) := by unfold dig; infer_instance
def dgF (s : ByteArray) : Nat → Nat → Nat
  | 0, _ => 0
  | f + 1, i => if dig s i then dgF s f (i + 1) + 1 else 0
def dgs (s : ByteArray) (i : Nat) : Nat := dgF s (s.size - i) i
theorem dgF_spec (s : ByteArray) : ∀ f i, s.size ≤ i + f → (∀ j, j < dgF s f i → dig s (i + j)) ∧ ¬ dig s (i + dgF s f i)
  | 0, i, h => ⟨fun j hj => absurd hj (Nat.not_lt_zero j), fun hd => by have := hd.1; simp only [dgF] at this; omega⟩
  | f + 1, i, h => by
    simp only [dgF]
    by_cases hd : dig s i
    · rw [if_pos hd]
      obtain ⟨h1, h2⟩ := dgF_spec s f (i + 1) (by omega)
      refine ⟨fun j hj => ?_, ?_⟩
      · match j with
        | 0 => exact hd
        | j + 1 => have := h1 j (by omega); rwa [show i + (j + 1) = i + 1 + j by omega]
      · rwa [show i + (dgF s f (i + 1) + 1) = i + 1 + dgF s f (i + 1) by omega]
    · rw [if_neg hd]
      exact ⟨fun j hj => absurd hj (Nat.not_lt_zero j), hd⟩
theorem dgs_spec (s : ByteArray) (i : Nat) : (∀ j, j < dgs s i → dig s (i + j)) ∧ ¬ dig s (i + dgs s i) := dgF_spec s (s.size - i) i (by omega)
theorem dgs_uniq {s : ByteArray} {i k : Nat} (h1 : ∀ j, j < k → dig s (i + j)) (h2 : ¬ dig s (i + k)) : dgs s i = k := by
  obtain ⟨g1, g2⟩ := dgs_spec s i
  rcases Nat.lt_trichotomy (dgs s i) k with h | h | h
  · exact absurd (h1 _ h) g2
  · exact h
  · exact absurd (g1 _ h) h2
theorem dgs_le (s : ByteArray) {i : Nat} (hi : i ≤ s.size) : i + dgs s i ≤ s.size := by
  obtain ⟨g1, -⟩ := dgs_spec s i
  rcases Nat.eq_zero_or_pos (dgs s i) with h | h
  · omega
  · have := (g1 (dgs s i - 1) (by omega)).1; omega
theorem byt_ext {s : ByteArray} {x y i : Nat} (h : x + i < y) (hb : y ≤ s.size) : byt (s.extract x y) i = byt s (x + i) := by
  have h1 : i < (s.extract x y).size := by rw [ByteArray.size_extract]; omega
  rw [← byt_at h1, ← byt_at (show x + i < s.size by omega)]
  congr 2
  exact ByteArray.getElem_extract ..
theorem size_ext {s : ByteArray} {x y : Nat} (hb : y ≤ s.size) : (s.extract x y).size = y - x := by rw [ByteArray.size_extract]; omega
def numv (s : ByteArray) (x : Nat) : Nat → Int
  | 0 => 0
  | j + 1 => numv s x j * 10 + (byt s (x + j) - 48)
end
section
open Go.RowKit
def runQ (q : Nat → Bool) : Nat → Nat → Nat
  | 0, _ => 0
  | f + 1, i => if q i then runQ q f (i + 1) + 1 else 0
theorem runQ_spec (q : Nat → Bool) (N : Nat) (hq : ∀ j, q j = true → j < N) : ∀ f i, N ≤ i + f → (∀ j, j < runQ q f i → q (i + j) = true) ∧ q (i + runQ q f i) = false
  | 0, i, h => ⟨fun j hj => absurd hj (Nat.not_lt_zero j), by
      cases hb : q (i + 0) with
      | false => exact hb
      | true => have := hq _ hb; omega⟩
  | f + 1, i, h => by
    simp only [runQ]
    cases hd : q i with
    | true =>
      rw [if_pos rfl]
      obtain ⟨h1, h2⟩ := runQ_spec q N hq f (i + 1) (by omega)
      refine ⟨fun j hj => ?_, ?_⟩
      · match j with
        | 0 => exact hd
        | j + 1 => have := h1 j (by omega); rwa [show i + (j + 1) = i + 1 + j by omega]
      · rwa [show i + (runQ q f (i + 1) + 1) = i + 1 + runQ q f (i + 1) by omega]
    | false => exact ⟨fun j hj => absurd hj (Nat.not_lt_zero j), hd⟩
theorem runQ_uniq {q : Nat → Bool} {N f i k : Nat} (hq : ∀ j, q j = true → j < N) (hf : N ≤ i + f) (h1 : ∀ j, j < k → q (i + j) = true) (h2 : q (i + k) = false) : runQ q f i = k := by
  obtain ⟨g1, g2⟩ := runQ_spec q N hq f i hf
  rcases Nat.lt_trichotomy (runQ q f i) k with h | h | h
  · have := h1 _ h; rw [g2] at this; cases this
  · exact h
  · have := g1 _ h; rw [h2] at this; cases this
def kb (s : ByteArray) (p : Nat) : Int := if p < s.size then kindI (byt s p) else 1
theorem kb_in {s : ByteArray} {p : Nat} (h : p < s.size) : kb s p = kindI (byt s p) := if_pos h
theorem kb_out {s : ByteArray} {p : Nat} (h : ¬ p < s.size) : kb s p = 1 := if_neg h
theorem kb_lt {s : ByteArray} {p : Nat} (h : kb s p ≠ 1) : p < s.size := Classical.byContradiction fun hn => h (kb_out hn)
def isL (s : ByteArray) (p : Nat) : Bool := kb s p = 3
def inR (s : ByteArray) (p : Nat) : Bool := p < s.size ∧ byt s p ≠ 10
def ltrs (s : ByteArray) (i : Nat) : Nat := runQ (isL s) (s.size - i) i
def eol (s : ByteArray) (i : Nat) : Nat := runQ (inR s) (s.size - i) i
theorem isL_lt {s : ByteArray} {j : Nat} (h : isL s j = true) : j < s.size := kb_lt (by have : kb s j = 3 := by simpa [isL] using h
                                                                                        omega)
theorem inR_lt {s : ByteArray} {j : Nat} (h : inR s j = true) : j < s.size := by have := of_decide_eq_true h; exact this.1
theorem ltrs_spec (s : ByteArray) (i : Nat) : (∀ j, j < ltrs s i → kb s (i + j) = 3) ∧ kb s (i + ltrs s i) ≠ 3 := by
  obtain ⟨h1, h2⟩ := runQ_spec (isL s) s.size (fun j h => isL_lt h) (s.size - i) i (by omega)
  exact ⟨fun j hj => by have := h1 j hj; simpa [isL] using this, by have : isL s (i + ltrs s i) = false := h2; simpa [isL] using this⟩
theorem ltrs_uniq {s : ByteArray} {i k : Nat} (h1 : ∀ j, j < k → kb s (i + j) = 3) (h2 : kb s (i + k) ≠ 3) : ltrs s i = k :=
  runQ_uniq (fun j h => isL_lt h) (by omega) (fun j hj => by simp [isL, h1 j hj]) (by simp [isL, h2])
theorem eol_spec (s : ByteArray) (i : Nat) : (∀ j, j < eol s i → i + j < s.size ∧ byt s (i + j) ≠ 10) ∧ ¬ (i + eol s i < s.size ∧ byt s (i + eol s i) ≠ 10) := by
  obtain ⟨h1, h2⟩ := runQ_spec (inR s) s.size (fun j h => inR_lt h) (s.size - i) i (by omega)
  exact ⟨fun j hj => of_decide_eq_true (h1 j hj), of_decide_eq_false (show inR s (i + eol s i) = false from h2)⟩
theorem eol_uniq {s : ByteArray} {i k : Nat} (h1 : ∀ j, j < k → i + j < s.size ∧ byt s (i + j) ≠ 10) (h2 : ¬ (i + k < s.size ∧ byt s (i + k) ≠ 10)) : eol s i = k :=
  runQ_uniq (fun j h => inR_lt h) (by omega) (fun j hj => decide_eq_true (h1 j hj)) (decide_eq_false h2)
theorem ltrs_le (s : ByteArray) {i : Nat} (hi : i ≤ s.size) : i + ltrs s i ≤ s.size := by
  rcases Nat.eq_zero_or_pos (ltrs s i) with h | h
  · omega
  · have := kb_lt (s := s) (p := i + (ltrs s i - 1)) (by rw [(ltrs_spec s i).1 _ (by omega)]; decide); omega
theorem ltrs_pos {s : ByteArray} {i : Nat} (h : kb s i = 3) : 0 < ltrs s i := by
  rcases Nat.eq_zero_or_pos (ltrs s i) with e | e
  · have := (ltrs_spec s i).2; rw [e, Nat.add_zero] at this; exact absurd h this
  · exact e
theorem eol_le (s : ByteArray) {i : Nat} (hi : i ≤ s.size) : i + eol s i ≤ s.size := by
  rcases Nat.eq_zero_or_pos (eol s i) with h | h
  · omega
  · have := ((eol_spec s i).1 (eol s i - 1) (by omega)).1; omega
theorem kindI_35 {c : Int} (h : kindI c = 4) : c = 35 := by
  revert h; unfold kindI
  repeat' split
  all_goals (intro h; first | omega | (simp at h))
theorem kindI_dig {c : Int} : kindI c = 2 ↔ 48 ≤ c ∧ c ≤ 57 := by
  unfold kindI
  constructor
  · repeat' split
    all_goals (intro h; first | omega | (simp at h))
  · intro h
    rw [if_neg (by omega), if_pos h]
theorem eol_pos {s : ByteArray} {i : Nat} (h : kb s i = 4) : 0 < eol s i := by
  have hlt := kb_lt (s := s) (p := i) (by omega)
  rw [kb_in hlt] at h
  rcases Nat.eq_zero_or_pos (eol s i) with e | e
  · have := (eol_spec s i).2; rw [e, Nat.add_zero, kindI_35 h] at this; exact absurd ⟨hlt, by decide⟩ this
  · exact e
theorem dig_kb {s : ByteArray} {i : Nat} : dig s i ↔ kb s i = 2 := by
  constructor
  · intro h; rw [kb_in h.1]; exact kindI_dig.2 h.2
  · intro h
    have hlt := kb_lt (s := s) (p := i) (by omega)
    rw [kb_in hlt] at h
    exact ⟨hlt, kindI_dig.1 h⟩
theorem dgs_pos {s : ByteArray} {i : Nat} (h : kb s i = 2) : 0 < dgs s i := by
  rcases Nat.eq_zero_or_pos (dgs s i) with e | e
  · have := (dgs_spec s i).2; rw [e, Nat.add_zero] at this; exact absurd (dig_kb.2 h) this
  · exact e
structure Tok where
  k : Int
  x : ByteArray
  n : Int
  a : Int
def tz : Tok := ⟨0, ⟨#[]⟩, 0, 0⟩
def lst (s : ByteArray) (p : Nat) : Int × Nat × List Tok :=
  if kb s p = 1 then (0, p + 1, [])
  else if kb s p = 4 then (0, p + eol s p, [])
  else if kb s p = 3 then
    if 16 < ltrs s p then (5, p, []) else (if kb s (p + ltrs s p) = 2 then 2 else 0, p + ltrs s p, [⟨1, s.extract p (p + ltrs s p), 0, p⟩])
  else if kb s p = 2 then
    if 1 < dgs s p ∧ byt s p = 48 then (4, p, []) else if 18 < dgs s p then (5, p, []) else (if kb s (p + dgs s p) = 3 then 2 else 0, p + dgs s p, [⟨2, ⟨#[]⟩, numv s p (dgs s p), p⟩])
  else (2, p, [])
def tend (s : ByteArray) : Tok := ⟨3, ⟨#[]⟩, 0, s.size⟩
def scF (s : ByteArray) : Nat → Nat → List Tok → List Tok × Int × Int
  | 0, _, X => (X ++ [tend s], 0, 0)
  | f + 1, p, X => if p < s.size then (if (lst s p).1 ≠ 0 then ([], ((lst s p).2.1 : Int), (lst s p).1) else scF s f (lst s p).2.1 (X ++ (lst s p).2.2)) else (X ++ [tend s], 0, 0)
def scan (s : ByteArray) : List Tok × Int × Int := if 65536 < s.size then ([], 0, 5) else scF s s.size 0 []
theorem lst_bd {s : ByteArray} {p : Nat} (h : p < s.size) : p ≤ (lst s p).2.1 ∧ (lst s p).2.1 ≤ s.size ∧ ((lst s p).1 = 0 → p < (lst s p).2.1) ∧ (lst s p).2.2.length ≤ 1 := by
  have h1 := ltrs_le s (Nat.le_of_lt h)
  have h2 := eol_le s (Nat.le_of_lt h)
  have h3 := dgs_le s (Nat.le_of_lt h)
  have h4 := @ltrs_pos s p
  have h5 := @eol_pos s p
  have h6 := @dgs_pos s p
  unfold lst
  repeat' split
  all_goals (simp only [List.length_nil, List.length_cons]; refine ⟨?_, ?_, ?_, ?_⟩ <;> first | omega | (intro; omega))
theorem scF_go {s : ByteArray} {p f : Nat} {X : List Tok} (h : p < s.size) (hf : 0 < f) (he : (lst s p).1 = 0) : scF s f p X = scF s (f - 1) (lst s p).2.1 (X ++ (lst s p).2.2) := by
  cases f with
  | zero => omega
  | succ f => rw [scF, if_pos h, if_neg (by simp [he])]; rfl
theorem lst_1 {s : ByteArray} {p : Nat} (h : kb s p = 1) : lst s p = (0, p + 1, []) := if_pos h
theorem lst_4 {s : ByteArray} {p : Nat} (h : kb s p = 4) : lst s p = (0, p + eol s p, []) := by unfold lst; rw [if_neg (by omega), if_pos h]
theorem lst_3 {s : ByteArray} {p : Nat} (h : kb s p = 3) : lst s p = if 16 < ltrs s p then (5, p, []) else (if kb s (p + ltrs s p) = 2 then 2 else 0, p + ltrs s p, [⟨1, s.extract p (p + ltrs s p), 0, p⟩]) := by unfold lst; rw [if_neg (by omega), if_neg (by omega), if_pos h]
theorem lst_2 {s : ByteArray} {p : Nat} (h : kb s p = 2) : lst s p = if 1 < dgs s p ∧ byt s p = 48 then (4, p, []) else if 18 < dgs s p then (5, p, []) else (if kb s (p + dgs s p) = 3 then 2 else 0, p + dgs s p, [⟨2, ⟨#[]⟩, numv s p (dgs s p), p⟩]) := by unfold lst; rw [if_neg (by omega), if_neg (by omega), if_neg (by omega), if_pos h]
end
section
open Go.RowKit
def tokOK (s : ByteArray) (t : Tok) : Prop :=
  (t.k = 1 ∨ t.k = 2) ∧ 0 ≤ t.a ∧ t.a + t.x.size ≤ s.size ∧ (t.k = 1 → s.extract t.a.toNat (t.a + t.x.size).toNat = t.x)
def TI (s : ByteArray) (X : List Tok) (p : Nat) : Prop :=
  (∀ i, i < X.length → tokOK s (X.getD i tz) ∧ (X.getD i tz).a < p) ∧ ∀ i j, i < j → j < X.length → (X.getD i tz).a < (X.getD j tz).a
theorem getD_app1 {X : List Tok} {t : Tok} {i : Nat} (h : i < X.length) : (X ++ [t]).getD i tz = X.getD i tz := by
  simp [List.getD, List.getElem?_append_left h]
theorem getD_app2 {X : List Tok} {t : Tok} : (X ++ [t]).getD X.length tz = t := by
  simp [List.getD]
theorem TI.nil (s : ByteArray) : TI s [] 0 := ⟨fun i h => absurd h (Nat.not_lt_zero i), fun _ j _ h => absurd h (Nat.not_lt_zero j)⟩
theorem TI.mono {s : ByteArray} {X : List Tok} {p q : Nat} (h : TI s X p) (hq : p ≤ q) : TI s X q := ⟨fun i hi => ⟨(h.1 i hi).1, by have := (h.1 i hi).2; omega⟩, h.2⟩
end
section
open Go.RowKit
theorem byt_l {x y : ByteArray} {j : Nat} (h : j < x.size) : byt (x ++ y) j = byt x j := by
  have h2 : j < (x ++ y).size := by rw [ByteArray.size_append]; omega
  rw [← byt_at h2, ← byt_at h, ByteArray.getElem_append_left h]
theorem byt_r {x y : ByteArray} {j : Nat} (h : j < y.size) : byt (x ++ y) (x.size + j) = byt y j := by
  have h2 : x.size + j < (x ++ y).size := by rw [ByteArray.size_append]; omega
  rw [← byt_at h2, ← byt_at h, ByteArray.getElem_append_right (Nat.le_add_right _ _)]
  congr 2
  simp
theorem ba_ext {x y : ByteArray} (h : x.size = y.size) (hb : ∀ j, j < x.size → byt x j = byt y j) : x = y :=
  ByteArray.ext_getElem h fun j h1 h2 => UInt8.toNat.inj (by have := hb j h1; rw [← byt_at h1, ← byt_at h2] at this; omega)
theorem kb_byt {s u : ByteArray} {p q : Nat} (h1 : p < s.size) (h2 : q < u.size) (h : byt u q = byt s p) : kb u q = kb s p := by
  rw [kb_in h1, kb_in h2, h]
theorem kb_r {x y : ByteArray} {j : Nat} : kb (x ++ y) (x.size + j) = kb y j := by
  by_cases h : j < y.size
  · exact kb_byt h (by rw [ByteArray.size_append]; omega) (byt_r h)
  · rw [kb_out h, kb_out (by rw [ByteArray.size_append]; omega)]
def Going (u : ByteArray) (p : Nat) (X : List Tok) (q : Nat) (Y : List Tok) : Prop := ∀ f, u.size ≤ p + f → ∃ f', u.size ≤ q + f' ∧ scF u f p X = scF u f' q Y
theorem Going.refl (u : ByteArray) (p : Nat) (X : List Tok) : Going u p X p X := fun f h => ⟨f, h, rfl⟩
theorem Going.trans {u : ByteArray} {p q r : Nat} {X Y Z : List Tok} (h1 : Going u p X q Y) (h2 : Going u q Y r Z) : Going u p X r Z := fun f h => by
  obtain ⟨f1, g1, e1⟩ := h1 f h
  obtain ⟨f2, g2, e2⟩ := h2 f1 g1
  exact ⟨f2, g2, e1.trans e2⟩
theorem Going.step {u : ByteArray} {p q : Nat} {X N : List Tok} (hp : p < u.size) (he : lst u p = (0, q, N)) : Going u p X q (X ++ N) := fun f h => by
  have hb := (lst_bd hp).2.2.1 (by rw [he])
  rw [he] at hb
  refine ⟨f - 1, by simp only at hb; omega, ?_⟩
  rw [scF_go hp (by omega) (by rw [he]), he]
theorem Going.blank {u : ByteArray} {p : Nat} {X : List Tok} (hp : p < u.size) (h : kb u p = 1) : Going u p X (p + 1) X := by
  have := Going.step (X := X) hp (lst_1 h)
  rwa [List.append_nil] at this
theorem Going.rem {u : ByteArray} {p k : Nat} {X : List Tok} (h35 : byt u p = 35) (hk : 0 < k) (h : ∀ j, j < k → byt u (p + j) ≠ 10) (hs : p + k < u.size) (he : byt u (p + k) = 10) : Going u p X (p + k + 1) X := by
  have h4 : kb u p = 4 := by rw [kb_in (by omega), h35]; decide
  have e : eol u p = k := eol_uniq (fun j hj => ⟨by omega, h j hj⟩) (fun h => h.2 he)
  have h1 := Going.step (X := X) (show p < u.size by omega) (lst_4 h4)
  rw [List.append_nil, e] at h1
  exact h1.trans (Going.blank hs (by rw [kb_in hs, he]; decide))
def blks : List ByteArray := [⟨#[32]⟩, ⟨#[10, 9]⟩, ⟨#[32, 35, 32, 114, 101, 109, 97, 114, 107, 32, 49, 10]⟩, ⟨#[35, 255, 10, 32]⟩, ⟨#[13, 10]⟩]
theorem blks_bd : ∀ b ∈ blks, 0 < b.size ∧ b.size ≤ 12 ∧ kb b 0 ≠ 2 ∧ kb b 0 ≠ 3 := by decide
theorem Going.blk {u b : ByteArray} {q : Nat} {X : List Tok} (hb : b ∈ blks) (h : ∀ j, j < b.size → q + j < u.size ∧ byt u (q + j) = byt b j) : Going u q X (q + b.size) X := by
  have one : ∀ j, j < b.size → kb b j = 1 → Going u (q + j) X (q + j + 1) X := fun j hj hk => Going.blank (h j hj).1 (by rw [kb_byt hj (h j hj).1 (h j hj).2]; exact hk)
  simp only [blks, List.mem_cons, List.not_mem_nil, or_false] at hb
  rcases hb with rfl | rfl | rfl | rfl | rfl
  · exact one 0 (by decide) (by decide)
  · exact (one 0 (by decide) (by decide)).trans (one 1 (by decide) (by decide))
  · refine (one 0 (by decide) (by decide)).trans (Going.rem (p := q + 1) (k := 10) ?_ (by decide) (fun j hj => ?_) (h 11 (by decide)).1 ?_)
    · rw [(h 1 (by decide)).2]; decide
    · rw [Nat.add_assoc, (h (1 + j) (by show 1 + j < 12; omega)).2]
      exact (show ∀ j, j < 10 → byt ⟨#[32, 35, 32, 114, 101, 109, 97, 114, 107, 32, 49, 10]⟩ (1 + j) ≠ 10 by decide) j hj
    · rw [(h 11 (by decide)).2]; decide
  · refine (Going.rem (p := q) (k := 2) ?_ (by decide) (fun j hj => ?_) (h 2 (by decide)).1 ?_).trans (one 3 (by decide) (by decide))
    · exact (h 0 (by decide)).2
    · rw [(h j (by show j < 4; omega)).2]
      exact (show ∀ j, j < 2 → byt ⟨#[35, 255, 10, 32]⟩ j ≠ 10 by decide) j hj
    · rw [(h 2 (by decide)).2]; decide
  · exact (one 0 (by decide) (by decide)).trans (one 1 (by decide) (by decide))
def TK (s : ByteArray) (t : Tok) (A d : Nat) : Prop :=
  t.a = (A : Int) ∧ 0 < d ∧ A + d ≤ s.size ∧ (kb s (A + d) ≠ 2 ∧ kb s (A + d) ≠ 3) ∧
  ((t.k = 1 ∧ (∀ j, j < d → kb s (A + j) = 3) ∧ d ≤ 16 ∧ t.x = s.extract A (A + d) ∧ t.n = 0) ∨
   (t.k = 2 ∧ (∀ j, j < d → kb s (A + j) = 2) ∧ d ≤ 18 ∧ ¬ (1 < d ∧ byt s A = 48) ∧ t.x = ⟨#[]⟩ ∧ t.n = numv s A d))
def TJ (s : ByteArray) (X : List Tok) (p : Nat) : Prop :=
  ∀ i, i < X.length → ∃ A d, TK s (X.getD i tz) A d ∧ ((A + d : Nat) : Int) ≤ if i + 1 < X.length then (X.getD (i + 1) tz).a else p
theorem TJ.mono {s : ByteArray} {X : List Tok} {p q : Nat} (h : TJ s X p) (hq : p ≤ q) : TJ s X q := fun i hi => by
  obtain ⟨A, d, h1, h2⟩ := h i hi
  refine ⟨A, d, h1, ?_⟩
  split at h2
  · rw [if_pos (by assumption)]; exact h2
  · rw [if_neg (by assumption)]; omega
def same3 (t t' : Tok) : Prop := t'.k = t.k ∧ t'.x = t.x ∧ t'.n = t.n
theorem numv_congr {s u : ByteArray} {A q : Nat} : ∀ d, (∀ j, j < d → byt u (q + j) = byt s (A + j)) → numv u q d = numv s A d
  | 0, _ => rfl
  | d + 1, h => by
    simp only [numv]
    rw [numv_congr d (fun j hj => h j (by omega)), h d (by omega)]
theorem lst_copy {s u : ByteArray} {t : Tok} {A d q : Nat} (ht : TK s t A d) (hu : ∀ j, j < d → q + j < u.size ∧ byt u (q + j) = byt s (A + j)) (hend : kb u (q + d) ≠ 2 ∧ kb u (q + d) ≠ 3) : ∃ t', lst u q = (0, q + d, [t']) ∧ same3 t t' := by
  obtain ⟨ha, hd, hle, hne, hc⟩ := ht
  have hk : ∀ j, j < d → kb u (q + j) = kb s (A + j) := fun j hj => kb_byt (by omega) (hu j hj).1 (hu j hj).2
  have hq := (hu (d - 1) (by omega)).1
  rcases hc with ⟨h1, h2, h3, h4, h5⟩ | ⟨h1, h2, h3, h4, h5, h6⟩
  · have hk0 : kb u q = 3 := by have := hk 0 hd; rw [h2 0 hd] at this; exact this
    have hl : ltrs u q = d := ltrs_uniq (fun j hj => by rw [hk j hj]; exact h2 j hj) hend.2
    have e := lst_3 hk0
    rw [hl, if_neg (by omega), if_neg hend.1] at e
    refine ⟨_, e, h1.symm, ?_, h5.symm⟩
    show u.extract q (q + d) = t.x
    rw [h4]
    refine ba_ext (by rw [size_ext (by omega), size_ext hle]; omega) (fun j hj => ?_)
    rw [size_ext (by omega)] at hj
    rw [byt_ext (by omega) (by omega), byt_ext (by omega) hle]
    exact (hu j (by omega)).2
  · have hk0 : kb u q = 2 := by have := hk 0 hd; rw [h2 0 hd] at this; exact this
    have hl : dgs u q = d := dgs_uniq (fun j hj => dig_kb.2 (by rw [hk j hj]; exact h2 j hj)) (fun h => hend.1 (dig_kb.1 h))
    have e := lst_2 hk0
    have hb0 : byt u q = byt s A := (hu 0 hd).2
    rw [hl, if_neg (by rw [hb0]; exact h4), if_neg (by omega), if_neg hend.2] at e
    refine ⟨_, e, h1.symm, h5.symm, ?_⟩
    show numv u q d = t.n
    rw [h6]; exact numv_congr d (fun j hj => (hu j hj).2)
def Built (Y : List Tok) (t : ByteArray) (i : Nat) : Prop :=
  t.size ≤ 30 * i ∧ ∃ m : List Tok, m.length = i ∧ (∀ j, j < i → same3 (Y.getD j tz) (m.getD j tz)) ∧ ∀ v, (kb v 0 ≠ 2 ∧ kb v 0 ≠ 3) → Going (t ++ v) 0 [] t.size m
theorem Built.nil (Y : List Tok) : Built Y ⟨#[]⟩ 0 := ⟨Nat.le_refl _, [], rfl, fun j h => absurd h (Nat.not_lt_zero j), fun _ _ => Going.refl _ _ _⟩
theorem blk_in {t b v u : ByteArray} (hu : u = t ++ (b ++ v)) : ∀ j, j < b.size → t.size + j < u.size ∧ byt u (t.size + j) = byt b j := fun j hj => by
  subst hu
  refine ⟨by rw [ByteArray.size_append, ByteArray.size_append]; omega, ?_⟩
  rw [byt_r (by rw [ByteArray.size_append]; omega), byt_l hj]
theorem blk_kb {b v : ByteArray} (hb : b ∈ blks) : kb (b ++ v) 0 ≠ 2 ∧ kb (b ++ v) 0 ≠ 3 := by
  have h := blks_bd b hb
  rw [kb_byt h.1 (by rw [ByteArray.size_append]; omega) (byt_l h.1)]
  exact h.2.2
theorem Built.more {s : ByteArray} {Y : List Tok} {t b : ByteArray} {i A d : Nat} (h : Built Y t i) (hb : b ∈ blks) (ht : TK s (Y.getD i tz) A d) : Built Y ((t ++ b) ++ s.extract A (A + d)) (i + 1) := by
 obtain ⟨h0, m, h1, h2, h3⟩ := h
 have hbd := blks_bd b hb
 have hle := ht.2.2.1
 have hd18 : d ≤ 18 := by rcases ht.2.2.2.2 with ⟨_, _, h, _⟩ | ⟨_, _, h, _⟩ <;> omega
 have hx : (s.extract A (A + d)).size = d := by rw [size_ext hle]; omega
 have hsz : ((t ++ b) ++ s.extract A (A + d)).size = t.size + b.size + d := by rw [ByteArray.size_append, ByteArray.size_append, hx]
 refine ⟨by rw [hsz]; omega, ?_⟩
 have htok : ∀ v, (kb v 0 ≠ 2 ∧ kb v 0 ≠ 3) → ∃ t', lst (((t ++ b) ++ s.extract A (A + d)) ++ v) (t.size + b.size) = (0, t.size + b.size + d, [t']) ∧ same3 (Y.getD i tz) t' := fun v hv => by
  have hts : (t ++ b).size = t.size + b.size := ByteArray.size_append
  refine lst_copy ht (fun j hj => ?_) ?_
  ·
   rw [ByteArray.append_assoc, ← hts]
   refine ⟨by simp only [ByteArray.size_append, hx]; omega, ?_⟩
   rw [byt_r (by rw [ByteArray.size_append, hx]; omega), byt_l (by omega), byt_ext (by omega) hle]
  ·
   have : kb (((t ++ b) ++ s.extract A (A + d)) ++ v) (t.size + b.size + d) = kb v 0 := by
    rw [← hsz]; have := kb_r (x := (t ++ b) ++ s.extract A (A + d)) (y := v) (j := 0); rwa [Nat.add_zero] at this
   rw [this]; exact hv
 obtain ⟨t0, -, -⟩ := htok ⟨#[]⟩ (by decide)
 have key : ∀ v, (kb v 0 ≠ 2 ∧ kb v 0 ≠ 3) → ∀ t', lst (((t ++ b) ++ s.extract A (A + d)) ++ v) (t.size + b.size) = (0, t.size + b.size + d, [t']) → Going (((t ++ b) ++ s.extract A (A + d)) ++ v) 0 [] (t.size + b.size + d) (m ++ [t']) := fun v hv t' ht' => by
  have e : (((t ++ b) ++ s.extract A (A + d)) ++ v) = t ++ (b ++ (s.extract A (A + d) ++ v)) := by rw [ByteArray.append_assoc, ByteArray.append_assoc]
  have g1 := h3 (b ++ (s.extract A (A + d) ++ v)) (blk_kb hb)
  rw [← e] at g1
  have g2 := Going.blk (u := ((t ++ b) ++ s.extract A (A + d)) ++ v) (q := t.size) (X := m) hb (blk_in e)
  have g3 := Going.step (X := m) (show t.size + b.size < (((t ++ b) ++ s.extract A (A + d)) ++ v).size by rw [ByteArray.size_append, hsz]; have := ht.2.1; omega) ht'
  exact (g1.trans g2).trans g3
 obtain ⟨t1, e1, s1⟩ := htok ⟨#[]⟩ (by decide)
 refine ⟨m ++ [t1], by rw [List.length_append, h1]; rfl, fun j hj => ?_, fun v hv => ?_⟩
 ·
  rcases Nat.lt_or_ge j i with g | g
  · rw [getD_app1 (by omega)]; exact h2 j g
  ·
   obtain rfl : j = m.length := by omega
   rw [getD_app2, h1]; exact s1
 ·
  rw [hsz]
  obtain ⟨t2, e2, s2⟩ := htok v hv
  have : t2 = t1 := by
   have p1 : ∀ v t', lst (((t ++ b) ++ s.extract A (A + d)) ++ v) (t.size + b.size) = (0, t.size + b.size + d, [t']) → t'.a = ((t.size + b.size : Nat) : Int) := fun v t' ht' => by
    have hp : t.size + b.size < (((t ++ b) ++ s.extract A (A + d)) ++ v).size := by rw [ByteArray.size_append, hsz]; have := ht.2.1; omega
    revert ht'
    unfold lst
    repeat' split
    all_goals (intro ht'; first | (simp at ht'; done) | (simp only [Prod.mk.injEq, List.cons.injEq] at ht'; rw [← ht'.2.2.1]))
   have a1 := p1 _ _ e1
   have a2 := p1 _ _ e2
   cases t1; cases t2
   simp only [same3] at s1 s2
   simp only [Tok.mk.injEq]
   exact ⟨s2.1.trans s1.1.symm, s2.2.1.trans s1.2.1.symm, s2.2.2.trans s1.2.2.symm, a2.trans a1.symm⟩
  rw [this] at e2
  exact key v hv _ e2
end
section
open Go.RowKit
structure Ins where
  kind : Int
  n : Int
  cap : Int
  wt : List Int
  vl : List Int
  cost : List (List Int)
def RowsV (w : World) (v : Value) (rows : List (List Int)) : Prop :=
  ∃ a cap, v = .slice a rows.length cap ∧ rows.length ≤ cap ∧ cap ≤ maxLen ∧ (a = none → cap = 0) ∧ (rows ≠ [] → ∃ b off, a = some ⟨b, off, none⟩ ∧ b < w.heap.size ∧ ∀ i, i < rows.length → ∃ u, w.cell? ⟨b, off + i, none⟩ = some u ∧ IntSl w u (rows.getD i []))
theorem RowsV.below {B : Nat} {w w' : World} {v : Value} {rows : List (List Int)} (h : RowsV w v rows) (hb : Below B w w') (hB : w.heap.size ≤ B) : RowsV w' v rows := by
  obtain ⟨a, cap, rfl, hle, hmx, hnn, h⟩ := h
  refine ⟨a, cap, rfl, hle, hmx, hnn, fun hn => ?_⟩
  obtain ⟨b, off, rfl, hlt, hc⟩ := h hn
  refine ⟨b, off, rfl, Nat.lt_of_lt_of_le hlt hb.size, fun i hi => ?_⟩
  obtain ⟨u, h1, h2⟩ := hc i hi
  exact ⟨u, by rw [(bcell hb).1 _ _ (by omega)]; exact h1, h2.below hb hB⟩
theorem RowsV.form {w : World} {v : Value} {rows : List (List Int)} (h : RowsV w v rows) : ∃ a cap, v = .slice a rows.length cap := by
  obtain ⟨a, cap, he, -⟩ := h; exact ⟨a, cap, he⟩
theorem RowsV.at {w : World} {a : Option Addr} {n cap : Nat} {rows : List (List Int)} (h : RowsV w (.slice a n cap) rows) {i : Nat} (hi : i < rows.length) :
    ∃ b off ra rc, a = some ⟨b, off, none⟩ ∧ w.cell? ⟨b, off + i, none⟩ = some (.slice ra (rows.getD i []).length rc) ∧ IntSl w (.slice ra (rows.getD i []).length rc) (rows.getD i []) := by
  obtain ⟨a', cap', he, h1, h2, h3, h4⟩ := h
  cases he
  obtain ⟨b, off, rfl, -, hc⟩ := h4 (by intro e; rw [e] at hi; simp at hi)
  obtain ⟨u, g1, g2⟩ := hc i hi
  have hf : ∃ a c, u = .slice a (rows.getD i []).length c := by obtain ⟨a, c, e, -⟩ := g2; exact ⟨a, c, e⟩
  obtain ⟨ra, rc, rfl⟩ := hf
  exact ⟨b, off, ra, rc, rfl, g1, g2⟩
def InsV (w : World) (v : Value) (i : Ins) : Prop :=
  ∃ vw vv vc, v = .agg #[.int .i64 i.kind, .int .i64 i.n, .int .i64 i.cap, vw, vv, vc] ∧ IntSl w vw i.wt ∧ IntSl w vv i.vl ∧ RowsV w vc i.cost
theorem InsV.below {B : Nat} {w w' : World} {v : Value} {i : Ins} (h : InsV w v i) (hb : Below B w w') (hB : w.heap.size ≤ B) : InsV w' v i := by
  obtain ⟨vw, vv, vc, e, h1, h2, h3⟩ := h
  exact ⟨vw, vv, vc, e, h1.below hb hB, h2.below hb hB, h3.below hb hB⟩
section
variable {w0 w w' : World} {F : Nat → Prop} {L : List Ck} {e t : TypeId} {k : Nat}
end
end
section
open Go.RowKit
theorem Ins.ext {i j : Ins} (g1 : i.kind = j.kind) (g2 : i.n = j.n) (g3 : i.cap = j.cap) (g4 : i.wt = j.wt) (g5 : i.vl = j.vl) (g6 : i.cost = j.cost) : i = j := by cases i; cases j; cases g1; cases g2; cases g3; cases g4; cases g5; cases g6; rfl
instance (i j : Ins) : Decidable (i = j) :=
  if h : ((((i.kind = j.kind ∧ i.n = j.n) ∧ i.cap = j.cap) ∧ i.wt = j.wt) ∧ i.vl = j.vl) ∧ i.cost = j.cost then .isTrue (Ins.ext h.1.1.1.1.1 h.1.1.1.1.2 h.1.1.1.2 h.1.1.2 h.1.2 h.2)
  else .isFalse (fun e => h (by subst e; exact ⟨⟨⟨⟨⟨rfl, rfl⟩, rfl⟩, rfl⟩, rfl⟩, rfl⟩))
section
variable {P : Program} {l : List (Nat × Value)} {w w0 : World} {ty : TypeId} {x y z : Operand} {k k' : IntKind} {m n : Int} {t yt e : TypeId}
theorem RowsV.mem {v : Value} {Rs : List (List Int)} {L : List Ck} (h : RowsV w0 v Rs) (hM : Mem w0 nof L w) : RowsV w v Rs := h.below hM.nilL.below (Nat.le_refl _)
theorem RowsV.lenB {a : Option Addr} {n cap : Nat} {Rs : List (List Int)} (h : RowsV w (.slice a n cap) Rs) : Rs.length ≤ 9223372036854775807 := by
  obtain ⟨a', cap', he, h1, h2, -⟩ := h
  unfold maxLen at h2; omega
theorem RowsV.nil (w : World) : RowsV w (.slice none ([] : List (List Int)).length 0) [] := ⟨none, 0, rfl, Nat.le_refl _, Nat.zero_le _, fun _ => rfl, fun h => absurd rfl h⟩
end
end
section
end
section
def bs (l : List UInt8) : ByteArray := ⟨l.toArray⟩
end
section
open Go.RowKit
section
variable {P : Program} {l : List (Nat × Value)} {w w0 : World} {F : Nat → Prop} {L : List Ck} {ty src dst : TypeId} {x : Operand}
end
end
section
structure Toks (X : List Tok) : Prop where
  pos : 0 < X.length
  next : ∀ j, j < X.length → (X.getD j tz).k ≠ 3 → j + 1 < X.length
  len : X.length ≤ 1000000
  kinds : ∀ j, j < X.length → (X.getD j tz).k = 1 ∨ (X.getD j tz).k = 2 ∨ (X.getD j tz).k = 3
  num : ∀ j, 0 ≤ (X.getD j tz).n
  two : ∀ j, (X.getD j tz).k = 2 → (X.getD j tz).x = ⟨#[]⟩
def numN (t : Tok) (most : Int) : Int := if t.k = 3 then 0 else if t.k = 1 then 0 else if most < t.n then 0 else t.n
def numR (t : Tok) (most : Int) : Int := if t.k = 3 then 6 else if t.k = 1 then 4 else if most < t.n then 5 else 0
theorem numR_end {t : Tok} {m : Int} (h : t.k = 3) : numR t m = 6 ∧ numN t m = 0 := ⟨if_pos h, if_pos h⟩
theorem Toks.ok {X : List Tok} (h : Toks X) {j : Nat} (hj : j < X.length) {m : Int} (e : numR (X.getD j tz) m = 0) : j + 1 < X.length := by
  refine h.next j hj (fun k => ?_)
  rw [(numR_end k).1] at e; cases e
end
section
def ff : Nat → Bool := fun _ => false
def vl (X : List Tok) (j q : Nat) : Int := (X.getD (j + q) tz).n
end
end Go.Proofs.YtjjbognomeplbaaDoor
namespace Go.Proofs.YtjjbognomeplbaaDoor
open Go.RowKit
def wdB (f : Nat → Bool) : Nat → Nat
  | 0 => 0
  | k + 1 => wdB f k + if f k then 2 ^ k else 0
theorem wdB_bd (f : Nat → Bool) : ∀ k, wdB f k < 2 ^ k
  | 0 => by simp [wdB]
  | k + 1 => by have := wdB_bd f k; rw [wdB, Nat.pow_succ]; split <;> omega
theorem wdB_bit (f : Nat → Bool) : ∀ k j, j < k → (wdB f k).testBit j = f j
  | 0, j, h => absurd h (Nat.not_lt_zero _)
  | k + 1, j, h => by
    have hb := wdB_bd f k
    rw [wdB]
    rcases Nat.lt_succ_iff_lt_or_eq.1 h with g | g
    · split
      · rw [Nat.add_comm, Nat.testBit_two_pow_add_gt g, wdB_bit f k j g]
      · rw [Nat.add_zero, wdB_bit f k j g]
    · subst g
      split
      · rename_i q; rw [Nat.add_comm, Nat.testBit_two_pow_add_eq, Nat.testBit_lt_two_pow hb, q]; rfl
      · rename_i q; rw [Nat.add_zero, Nat.testBit_lt_two_pow hb]; simpa using q
theorem wdB_congr {f g : Nat → Bool} : ∀ {k : Nat}, (∀ j, j < k → f j = g j) → wdB f k = wdB g k
  | 0, _ => rfl
  | k + 1, h => by rw [wdB, wdB, wdB_congr (fun j hj => h j (by omega)), h k (by omega)]
theorem wdB_full : ∀ n, n < 65 → wdB (fun b => decide (b < n)) 64 = 2 ^ n - 1 := by decide +kernel
theorem wdB_none {f : Nat → Bool} : ∀ {k : Nat}, (∀ j, j < k → f j = false) → wdB f k = 0
  | 0, _ => rfl
  | k + 1, h => by rw [wdB, wdB_none (fun j hj => h j (by omega)), h k (by omega)]; rfl
def loW (f : Nat → Bool) : Int := (wdB f 64 : Nat)
def hiW (f : Nat → Bool) : Int := (wdB (fun b => f (64 + b)) 64 : Nat)
theorem u64_pow {j : Nat} (h : j < 64) : IntKind.u64.wrap (1 * 2 ^ min j IntKind.u64.bits) = ((2 ^ j : Nat) : Int) := by
  have hb : IntKind.bits .u64 = 64 := rfl
  rw [hb, Nat.min_eq_left (by omega), IntKind.wrap_u64, Int.one_mul]
  have : (2 : Int) ^ j = ((2 ^ j : Nat) : Int) := by push_cast; rfl
  rw [this]
  have h2 : 2 ^ j < 2 ^ 64 := Nat.pow_lt_pow_right (by decide) h
  generalize 2 ^ j = p at h2
  omega
def lessF (n b : Nat) : Bool := decide (b < n)
theorem full_lo {n : Nat} (h : n < 64) : loW (lessF n) = ((2 ^ n - 1 : Nat) : Int) := by unfold loW; rw [← wdB_full n (by omega)]; rfl
theorem full_hi {n : Nat} (h : n ≤ 64) : hiW (lessF n) = 0 := by
  unfold hiW; rw [wdB_none (f := fun b => lessF n (64 + b)) (fun b _ => decide_eq_false (by omega))]; rfl
def permP (x : List Int) (n : Nat) : Prop := x.length = n ∧ ∀ k, k < n → x.count (k : Int) = 1
instance (x : List Int) (n : Nat) : Decidable (permP x n) := by unfold permP; infer_instance
def scn (x : List Int) : Nat → Nat
  | 0 => 0
  | k + 1 => scn x k + x.count (k : Int)
theorem scn_cons (a : Int) (x : List Int) : ∀ n : Nat, scn (a :: x) n = scn x n + if 0 ≤ a ∧ a < n then 1 else 0
  | 0 => by simp [scn]
  | n + 1 => by
    rw [scn, scn, scn_cons a x n, List.count_cons]
    by_cases h : a = (n : Int)
    · subst h
      rw [if_neg (show ¬ (0 ≤ (n : Int) ∧ (n : Int) < (n : Int)) by omega), if_pos (show 0 ≤ (n : Int) ∧ (n : Int) < ((n + 1 : Nat) : Int) by omega)]; simp; omega
    · have : (a == (n : Int)) = false := by simpa using h
      rw [this]
      by_cases g : 0 ≤ a ∧ a < n
      · rw [if_pos g, if_pos (show 0 ≤ a ∧ a < ((n + 1 : Nat) : Int) by omega)]; simp; omega
      · rw [if_neg g, if_neg (show ¬ (0 ≤ a ∧ a < ((n + 1 : Nat) : Int)) by omega)]; simp
theorem scn_le : ∀ (x : List Int) (n : Nat), scn x n ≤ x.length
  | [], n => by
    have : ∀ n, scn [] n = 0 := fun n => by induction n with
      | zero => rfl
      | succ n ih => rw [scn, ih]; rfl
    rw [this]; exact Nat.zero_le _
  | a :: x, n => by rw [scn_cons, List.length_cons]; have := scn_le x n; split <;> omega
theorem scn_ge {x : List Int} : ∀ {n : Nat}, (∀ k, k < n → 1 ≤ x.count (k : Int)) → n ≤ scn x n ∧ ∀ j, j < n → n + (x.count (j : Int) - 1) ≤ scn x n
  | 0, _ => ⟨Nat.le_refl _, fun j h => absurd h (Nat.not_lt_zero _)⟩
  | n + 1, h => by
    obtain ⟨h1, h2⟩ := scn_ge (n := n) (fun k hk => h k (by omega))
    have h3 := h n (by omega)
    rw [scn]
    refine ⟨by omega, fun j hj => ?_⟩
    rcases Nat.lt_succ_iff_lt_or_eq.1 hj with g | g
    · have := h2 j g; omega
    · subst g; omega
theorem permP.mem {x : List Int} {n : Nat} (h : permP x n) {k : Int} (hk : k ∈ x) : 0 ≤ k ∧ k < n := by
  refine Classical.byContradiction fun g => ?_
  have h3 : n ≤ scn x n := (scn_ge (fun k hk => by rw [h.2 k hk]; exact Nat.le_refl _)).1
  obtain ⟨l, r, rfl⟩ := List.append_of_mem hk
  have e : ∀ (l : List Int) (m : Nat), scn (l ++ k :: r) m = scn (l ++ r) m + if 0 ≤ k ∧ k < m then 1 else 0 := by
    intro l
    induction l with
    | nil => intro m; exact scn_cons k r m
    | cons a l ih => intro m; rw [List.cons_append, scn_cons, ih, List.cons_append, scn_cons]; omega
  rw [e, if_neg g] at h3
  have h4 := scn_le (l ++ r) n
  have h5 := h.1
  simp only [List.length_append, List.length_cons] at h4 h5
  omega
def bitP (x : List Int) (n : Nat) : Prop := ∀ q, q < n → x.getD q 0 = 0 ∨ x.getD q 0 = 1
instance (x : List Int) (n : Nat) : Decidable (bitP x n) := by unfold bitP; infer_instance
def ordP (i : Ins) (x : List Int) : Prop := permP x i.n.toNat ∧ (i.kind = 3 → x.getD 0 0 = 0)
instance (i : Ins) (x : List Int) : Decidable (ordP i x) := by unfold ordP; infer_instance
end Go.Proofs.YtjjbognomeplbaaDoor
namespace Go.Proofs.YtjjbognomeplbaaDoor
open Go.RowKit
def debT : List Int := Lib.deBruijn64tab.map Int.ofNat
theorem debT_len : debT.length = 64 := by decide
theorem debT_at {q : Nat} (h : q < 64) : debT.getD q 0 = ((Lib.deBruijn64tab.getD q 0 : Nat) : Int) := by
  have hl : Lib.deBruijn64tab.length = 64 := by decide
  unfold debT
  simp [List.getD, hl, h]
theorem and_u64 (a b : Nat) (ha : a < 2^64) : bits BinOp.and IntKind.u64 (a : Int) (b : Int) = ((a &&& (b % 2^64) : Nat) : Int) := by
  unfold bits
  simp only
  have hk : IntKind.bits .u64 = 64 := rfl
  rw [hk]
  have e : (BitVec.ofInt 64 (a : Int) &&& BitVec.ofInt 64 (b : Int)).toNat = a &&& (b % 2^64) := by
    rw [BitVec.toNat_and, BitVec.toNat_ofInt, BitVec.toNat_ofInt]
    rw [show ((a : Int) % ((2 ^ 64 : Nat) : Int)).toNat = a by omega, show ((b : Int) % ((2 ^ 64 : Nat) : Int)).toNat = b % 2^64 by omega]
  rw [e, IntKind.wrap_u64]
  have := Nat.and_le_left (n := a) (m := b % 2^64)
  omega
def miF (f g : Nat → Bool) (b : Nat) : Bool := f b && !g b
theorem andNot_wd (f g : Nat → Bool) : bits BinOp.andNot IntKind.u64 ((wdB f 64 : Nat) : Int) ((wdB g 64 : Nat) : Int) = ((wdB (miF f g) 64 : Nat) : Int) := by
  have hf := wdB_bd f 64
  have hg := wdB_bd g 64
  unfold bits
  simp only
  have hk : IntKind.bits .u64 = 64 := rfl
  rw [hk]
  have e : (BitVec.ofInt 64 ((wdB f 64 : Nat) : Int) &&& ~~~BitVec.ofInt 64 ((wdB g 64 : Nat) : Int)).toNat = wdB (miF f g) 64 := by
    apply Nat.eq_of_testBit_eq
    intro b
    rw [BitVec.testBit_toNat, BitVec.getLsbD_and, BitVec.getLsbD_not, ← BitVec.testBit_toNat, ← BitVec.testBit_toNat, BitVec.toNat_ofInt, BitVec.toNat_ofInt]
    rw [show (((wdB f 64 : Nat) : Int) % ((2 ^ 64 : Nat) : Int)).toNat = wdB f 64 by omega, show (((wdB g 64 : Nat) : Int) % ((2 ^ 64 : Nat) : Int)).toNat = wdB g 64 by omega]
    by_cases h : b < 64
    · rw [wdB_bit f 64 b h, wdB_bit g 64 b h, wdB_bit _ 64 b h, decide_eq_true h]; rfl
    · have p1 : 2 ^ 64 ≤ 2 ^ b := Nat.pow_le_pow_right (by decide) (by omega)
      rw [Nat.testBit_lt_two_pow (Nat.lt_of_lt_of_le hf p1), Nat.testBit_lt_two_pow (Nat.lt_of_lt_of_le hg p1), Nat.testBit_lt_two_pow (Nat.lt_of_lt_of_le (wdB_bd (miF f g) 64) p1)]; rfl
  rw [e, IntKind.wrap_u64]
  have := wdB_bd (miF f g) 64
  omega
theorem mi_lo (f g : Nat → Bool) : bits BinOp.andNot IntKind.u64 (loW f) (loW g) = loW (miF f g) := andNot_wd f g
theorem mi_hi (f g : Nat → Bool) : bits BinOp.andNot IntKind.u64 (hiW f) (hiW g) = hiW (miF f g) := andNot_wd _ _
def nxF (f : Nat → Bool) : Nat → Nat → Int
  | 0, _ => -1
  | n + 1, b => if f b then (b : Int) else nxF f n (b + 1)
def nx (f : Nat → Bool) (b : Nat) : Int := nxF f (128 - b) b
theorem nx_stop {f : Nat → Bool} {b : Nat} (h : 128 ≤ b) : nx f b = -1 := by unfold nx; rw [show 128 - b = 0 by omega]; rfl
theorem nx_step {f : Nat → Bool} {b : Nat} (h : b < 128) : nx f b = if f b then (b : Int) else nx f (b + 1) := by
  unfold nx
  rw [show 128 - b = (128 - (b + 1)) + 1 by omega, nxF]
theorem nx_rng (f : Nat → Bool) : ∀ n b, 128 - b = n → (nx f b = -1 ∧ ∀ c, b ≤ c → c < 128 → f c = false) ∨ ∃ m : Nat, nx f b = (m : Int) ∧ b ≤ m ∧ m < 128 ∧ f m = true ∧ ∀ c, b ≤ c → c < m → f c = false
  | 0, b, h => .inl ⟨nx_stop (by omega), fun c h1 h2 => by omega⟩
  | n + 1, b, h => by
    rw [nx_step (by omega)]
    by_cases hf : f b = true
    · rw [if_pos hf]; exact .inr ⟨b, rfl, Nat.le_refl _, by omega, hf, fun c h1 h2 => by omega⟩
    · rw [if_neg hf]
      have hf' : f b = false := by simpa using hf
      rcases nx_rng f n (b + 1) (by omega) with ⟨h1, h2⟩ | ⟨m, h1, h2, h3, h4, h5⟩
      · refine .inl ⟨h1, fun c g1 g2 => ?_⟩
        rcases Nat.lt_or_ge b c with g | g
        · exact h2 c g g2
        · rw [show c = b by omega]; exact hf'
      · refine .inr ⟨m, h1, by omega, h3, h4, fun c g1 g2 => ?_⟩
        rcases Nat.lt_or_ge b c with g | g
        · exact h5 c g g2
        · rw [show c = b by omega]; exact hf'
theorem nx_eq {f : Nat → Bool} {b m : Nat} (hb : b ≤ m) (hm : m < 128) (hf : f m = true) (h : ∀ c, b ≤ c → c < m → f c = false) : nx f b = (m : Int) := by
  rcases nx_rng f _ b rfl with ⟨h1, h2⟩ | ⟨k, h1, h2, h3, h4, h5⟩
  · rw [h2 m hb hm] at hf; cases hf
  · rw [h1]
    rcases Nat.lt_trichotomy k m with g | g | g
    · rw [h k h2 g] at h4; cases h4
    · rw [g]
    · rw [h5 m hb g] at hf; cases hf
theorem nx_none {f : Nat → Bool} {b : Nat} (h : ∀ c, b ≤ c → c < 128 → f c = false) : nx f b = -1 := by
  rcases nx_rng f _ b rfl with ⟨h1, h2⟩ | ⟨k, h1, h2, h3, h4, h5⟩
  · exact h1
  · rw [h k h2 h3] at h4; cases h4
theorem nx_minus (f : Nat → Bool) (n : Nat) : nx (miF f (lessF n)) 0 = nx f n := by
  rcases nx_rng f _ n rfl with ⟨h1, h2⟩ | ⟨m, h1, h2, h3, h4, h5⟩
  · rw [h1]
    refine nx_none fun c _ hc => ?_
    unfold miF lessF
    by_cases g : c < n
    · rw [decide_eq_true g]; simp
    · rw [h2 c (by omega) hc]; rfl
  · rw [h1]
    refine nx_eq (Nat.zero_le _) h3 (by unfold miF lessF; rw [h4, decide_eq_false (by omega)]; rfl) fun c _ hc => ?_
    unfold miF lessF
    by_cases g : c < n
    · rw [decide_eq_true g]; simp
    · rw [h5 c (by omega) hc]; rfl
theorem wd_zero {f : Nat → Bool} {k : Nat} (h : wdB f k = 0) : ∀ j, j < k → f j = false := fun j hj => by
  rw [← wdB_bit f k j hj, h]; exact Nat.zero_testBit j
theorem ctz_wd {f : Nat → Bool} (h : wdB f 64 ≠ 0) : Lib.ctz 64 (wdB f 64) < 64 ∧ f (Lib.ctz 64 (wdB f 64)) = true ∧ ∀ c, c < Lib.ctz 64 (wdB f 64) → f c = false := by
  have hb := wdB_bd f 64
  obtain ⟨m, hm, hk⟩ := Lib.ctzFrom_spec 64 (wdB f 64) (by omega) hb
  have e : Lib.ctz 64 (wdB f 64) = Lib.ctzFrom 64 (wdB f 64) := by simp [Lib.ctz, h]
  rw [e]
  generalize Lib.ctzFrom 64 (wdB f 64) = k at *
  refine ⟨hk, ?_, fun c hc => ?_⟩
  · rw [← wdB_bit f 64 k hk, hm, Nat.mul_comm, Nat.testBit_mul_two_pow]
    simp [Nat.testBit_zero]
  · rw [← wdB_bit f 64 c (by omega), hm, Nat.mul_comm, Nat.testBit_mul_two_pow]
    simp; omega
theorem nx_lo {f : Nat → Bool} (h : ¬ loW f = 0) : nx f 0 = ((Lib.ctz 64 (wdB f 64) : Nat) : Int) := by
  obtain ⟨h1, h2, h3⟩ := ctz_wd (f := f) (fun e => h (by unfold loW; rw [e]; rfl))
  exact nx_eq (Nat.zero_le _) (by omega) h2 fun c _ hc => h3 c hc
theorem nx_hi {f : Nat → Bool} (h0 : loW f = 0) (h : ¬ hiW f = 0) : nx f 0 = 64 + ((Lib.ctz 64 (wdB (fun b => f (64 + b)) 64) : Nat) : Int) := by
  obtain ⟨h1, h2, h3⟩ := ctz_wd (f := fun b => f (64 + b)) (fun e => h (by unfold hiW; rw [e]; rfl))
  have hz := wd_zero (f := f) (k := 64) (by unfold loW at h0; omega)
  generalize Lib.ctz 64 (wdB (fun b => f (64 + b)) 64) = k at *
  rw [nx_eq (m := 64 + k) (Nat.zero_le _) (by omega) h2 fun c _ hc => by
    rcases Nat.lt_or_ge c 64 with g | g
    · exact hz c g
    · have := h3 (c - 64) (by omega)
      rwa [show 64 + (c - 64) = c by omega] at this]
  omega
theorem nx_z {f : Nat → Bool} (h0 : loW f = 0) (h : hiW f = 0) : nx f 0 = -1 := by
  have hz := wd_zero (f := f) (k := 64) (by unfold loW at h0; omega)
  have hy := wd_zero (f := fun b => f (64 + b)) (k := 64) (by unfold hiW at h; omega)
  refine nx_none fun c _ hc => ?_
  rcases Nat.lt_or_ge c 64 with g | g
  · exact hz c g
  · have := hy (c - 64) (by omega)
    rwa [show 64 + (c - 64) = c by omega] at this
def eLF (f : Nat → Bool) : Nat → Nat → List Int
  | 0, _ => []
  | n + 1, b => if f b then (b : Int) :: eLF f n (b + 1) else eLF f n (b + 1)
def eL (f : Nat → Bool) (b : Nat) : List Int := eLF f (128 - b) b
theorem eL_stop {f : Nat → Bool} {b : Nat} (h : 128 ≤ b) : eL f b = [] := by unfold eL; rw [show 128 - b = 0 by omega]; rfl
theorem eL_step {f : Nat → Bool} {b : Nat} (h : b < 128) : eL f b = if f b then (b : Int) :: eL f (b + 1) else eL f (b + 1) := by
  unfold eL
  rw [show 128 - b = (128 - (b + 1)) + 1 by omega, eLF]
theorem eL_skip {f : Nat → Bool} : ∀ n b, (∀ c, b ≤ c → c < b + n → f c = false) → b + n ≤ 128 → eL f b = eL f (b + n)
  | 0, b, _, _ => rfl
  | n + 1, b, h, hb => by
    rw [eL_step (by omega), if_neg (by rw [h b (Nat.le_refl _) (by omega)]; simp), eL_skip n (b + 1) (fun c h1 h2 => h c (by omega) (by omega)) (by omega)]
    congr 1; omega
theorem eL_nil {f : Nat → Bool} {b : Nat} (h : nx f b = -1) : eL f b = [] := by
  rcases nx_rng f _ b rfl with ⟨h1, h2⟩ | ⟨k, h1, h2, h3, h4, h5⟩
  · rcases Nat.lt_or_ge b 128 with g | g
    · rw [eL_skip (128 - b) b (fun c h3 h4 => h2 c h3 (by omega)) (by omega), eL_stop (by omega)]
    · exact eL_stop g
  · omega
theorem eL_cons {f : Nat → Bool} {b m : Nat} (h : nx f b = (m : Int)) : eL f b = (m : Int) :: eL f (m + 1) ∧ b ≤ m ∧ m < 128 ∧ f m = true ∧ ∀ c, b ≤ c → c < m → f c = false := by
  rcases nx_rng f _ b rfl with ⟨h1, h2⟩ | ⟨k, h1, h2, h3, h4, h5⟩
  · omega
  · obtain rfl : k = m := by omega
    refine ⟨?_, h2, h3, h4, h5⟩
    rw [eL_skip (k - b) b (fun c g1 g2 => h5 c g1 (by omega)) (by omega), show b + (k - b) = k by omega, eL_step h3, if_pos h4]
def cnt (f : Nat → Bool) : Nat → Nat
  | 0 => 0
  | k + 1 => cnt f k + if f k then 1 else 0
theorem cnt_le (f : Nat → Bool) : ∀ k, cnt f k ≤ k
  | 0 => Nat.le_refl _
  | k + 1 => by have := cnt_le f k; rw [cnt]; split <;> omega
theorem cnt_skip {f : Nat → Bool} : ∀ n b, (∀ c, b ≤ c → c < b + n → f c = false) → cnt f (b + n) = cnt f b
  | 0, _, _ => rfl
  | n + 1, b, h => by
    rw [show b + (n + 1) = (b + n) + 1 by omega, cnt, cnt_skip n b (fun c h1 h2 => h c h1 (by omega)), if_neg (by rw [h (b + n) (by omega) (by omega)]; simp)]; rfl
theorem eL_drop (f : Nat → Bool) : ∀ b, b ≤ 128 → (eL f 0).drop (cnt f b) = eL f b
  | 0, _ => rfl
  | b + 1, h => by
    have ih := eL_drop f b (by omega)
    rw [cnt]
    by_cases hf : f b = true
    · rw [if_pos hf, ← List.drop_drop, ih, eL_step (by omega), if_pos hf]; rfl
    · rw [if_neg hf, Nat.add_zero, ih, eL_step (by omega), if_neg hf]
theorem eL_len (f : Nat → Bool) : (eL f 0).length = cnt f 128 := by
  have h1 := congrArg List.length (eL_drop f 128 (Nat.le_refl _))
  have h2 : ∀ n b, 128 - b = n → b ≤ 128 → (eL f b).length + cnt f b = cnt f 128 := by
    intro n
    induction n with
    | zero => intro b hb hb2; rw [eL_stop (by omega), show b = 128 by omega]; simp
    | succ n ih =>
      intro b hb hb2
      have := ih (b + 1) (by omega) (by omega)
      rw [cnt] at this
      rw [eL_step (by omega)]
      by_cases hf : f b = true
      · rw [if_pos hf] at this ⊢; rw [List.length_cons]; omega
      · rw [if_neg hf] at this ⊢; omega
  have := h2 128 0 rfl (by omega)
  rw [cnt] at this
  omega
theorem eL_take {f : Nat → Bool} {b m : Nat} (hb : b ≤ 128) (h : nx f b = (m : Int)) : (eL f 0).take (cnt f b) ++ [(m : Int)] = (eL f 0).take (cnt f (m + 1)) ∧ cnt f (m + 1) = cnt f b + 1 := by
  obtain ⟨h1, h2, h3, h4, h5⟩ := eL_cons h
  have hc : cnt f m = cnt f b := by
    have := cnt_skip (f := f) (m - b) b (fun c g1 g2 => h5 c g1 (by omega))
    rwa [show b + (m - b) = m by omega] at this
  have hc1 : cnt f (m + 1) = cnt f b + 1 := by rw [cnt, if_pos h4, hc]
  refine ⟨?_, hc1⟩
  have hd := eL_drop f b hb
  rw [h1] at hd
  rw [hc1]
  have hlt : cnt f b < (eL f 0).length := by
    rcases Nat.lt_or_ge (cnt f b) (eL f 0).length with g | g
    · exact g
    · rw [List.drop_eq_nil_of_le g] at hd; cases hd
  rw [List.take_succ_eq_append_getElem hlt]
  congr 2
  rw [List.drop_eq_getElem_cons hlt] at hd
  injection hd with h6 h7
  exact h6.symm
theorem eL_end {f : Nat → Bool} {b : Nat} (hb : b ≤ 128) (h : nx f b = -1) : (eL f 0).take (cnt f b) = eL f 0 ∧ cnt f b = (eL f 0).length := by
  have hd := eL_drop f b hb
  rw [eL_nil h] at hd
  have := List.drop_eq_nil_iff.1 hd
  have h2 : cnt f b ≤ (eL f 0).length := by
    rw [eL_len]
    have : ∀ n b, 128 - b = n → b ≤ 128 → cnt f b ≤ cnt f 128 := by
      intro n
      induction n with
      | zero => intro b h1 h2; rw [show b = 128 by omega]; exact Nat.le_refl _
      | succ n ih => intro b h1 h2; have := ih (b + 1) (by omega) (by omega); rw [cnt] at this; omega
    exact this _ b rfl hb
  exact ⟨List.take_of_length_le this, by omega⟩
end Go.Proofs.YtjjbognomeplbaaDoor
namespace Go.Proofs.YtjjbognomeplbaaDoor
open Go.RowKit
def t1 (b : Nat) : Nat := (b / 2 &&& 85) + (b &&& 85)
def t2 (b : Nat) : Nat := (b / 4 &&& 51) + (b &&& 51)
def t3 (b : Nat) : Nat := (b / 16 + b) &&& 15
theorem k1 : ∀ b, b < 256 → ∀ c, c < 2 → (b / 2 + 128 * c) &&& 85 = b / 2 &&& 85 := by decide +kernel
theorem k2 : ∀ b, b < 256 → ∀ c, c < 4 → (b / 4 + 64 * c) &&& 51 = b / 4 &&& 51 := by decide +kernel
theorem k3 : ∀ b, b < 80 → ∀ c, c < 5 → (b / 16 + 16 * c + b) &&& 15 = (b / 16 + b) &&& 15 := by decide +kernel
theorem k4 : ∀ b, b < 256 → t1 b < 256 ∧ t2 (t1 b) < 80 ∧ t2 (t1 b) % 16 < 5 ∧ t3 (t2 (t1 b)) ≤ 8 ∧ t3 (t2 (t1 b)) = cnt (fun j => b.testBit j) 8 := by decide +kernel
theorem sh_n {X : Nat} (k : Nat) (hk : k ≤ 64) : ((X : Nat) : Int).fdiv (2 ^ min k IntKind.u64.bits) = ((X / 2 ^ k : Nat) : Int) := by
  have hb : IntKind.bits .u64 = 64 := rfl
  rw [hb, Nat.min_eq_left hk, Int.fdiv_eq_ediv_of_nonneg _ (Int.le_of_lt (Int.pow_pos (by decide)))]
  push_cast; rfl
theorem an_n {X M : Nat} (hX : X < 18446744073709551616) (hM : M < 18446744073709551616) : bits BinOp.and IntKind.u64 (X : Int) (M : Int) = ((X &&& M : Nat) : Int) := by
  rw [and_u64 _ _ hX, Nat.mod_eq_of_lt hM]
end Go.Proofs.YtjjbognomeplbaaDoor
namespace Go.Proofs.YtjjbognomeplbaaDoor
theorem mixed : Tryd.prog.follows .mixedOrders = true := by kernel_rfl
theorem sz3 : szOf Tryd.prog 3 = some (false, 1) := by kernel_rfl
theorem info3 : Tryd.prog.info? 3 = some Tryd.t3 := by kernel_rfl
theorem sz4 : szOf Tryd.prog 4 = some (false, 1) := by kernel_rfl
theorem info4 : Tryd.prog.info? 4 = some Tryd.t4 := by kernel_rfl
theorem sz5 : szOf Tryd.prog 5 = some (false, 1) := by kernel_rfl
theorem sz22 : szOf Tryd.prog 22 = some (false, 1) := by kernel_rfl
theorem info22 : Tryd.prog.info? 22 = some Tryd.t22 := by kernel_rfl
theorem sl22 : slInfo Tryd.prog 22 = some (false, 1) := by kernel_rfl
theorem sz23 : szOf Tryd.prog 23 = some (false, 1) := by kernel_rfl
theorem sl23 : slInfo Tryd.prog 23 = some (true, 4) := by kernel_rfl
theorem sz24 : szOf Tryd.prog 24 = some (false, 1) := by kernel_rfl
theorem info24 : Tryd.prog.info? 24 = some Tryd.t24 := by kernel_rfl
theorem sz26 : szOf Tryd.prog 26 = some (true, 4) := by kernel_rfl
theorem info26 : Tryd.prog.info? 26 = some Tryd.t26 := by kernel_rfl
theorem fi26_0 : fieldInfo Tryd.prog 26 0 = some (0, false, 1) := by kernel_rfl
theorem fi26_1 : fieldInfo Tryd.prog 26 1 = some (1, false, 1) := by kernel_rfl
theorem fi26_2 : fieldInfo Tryd.prog 26 2 = some (2, false, 1) := by kernel_rfl
theorem fi26_3 : fieldInfo Tryd.prog 26 3 = some (3, false, 1) := by kernel_rfl
theorem sz37 : szOf Tryd.prog 37 = some (false, 1) := by kernel_rfl
theorem sl37 : slInfo Tryd.prog 37 = some (true, 5) := by kernel_rfl
theorem fi39_0 : fieldInfo Tryd.prog 39 0 = some (0, false, 1) := by kernel_rfl
theorem fi39_1 : fieldInfo Tryd.prog 39 1 = some (1, false, 1) := by kernel_rfl
theorem sz42 : szOf Tryd.prog 42 = some (false, 1) := by kernel_rfl
theorem sz46 : szOf Tryd.prog 46 = some (false, 1) := by kernel_rfl
theorem sz49 : szOf Tryd.prog 49 = some (false, 1) := by kernel_rfl
theorem info50 : Tryd.prog.info? 50 = some Tryd.t50 := by kernel_rfl
theorem ar50 : arInfo Tryd.prog 50 = some (3, false, 1) := by kernel_rfl
theorem info51 : Tryd.prog.info? 51 = some Tryd.t51 := by kernel_rfl
theorem ar51 : arInfo Tryd.prog 51 = some (3, false, 1) := by kernel_rfl
theorem sz55 : szOf Tryd.prog 55 = some (false, 1) := by kernel_rfl
theorem fi58_0 : fieldInfo Tryd.prog 58 0 = some (0, false, 1) := by kernel_rfl
theorem fi58_1 : fieldInfo Tryd.prog 58 1 = some (1, false, 1) := by kernel_rfl
theorem fi58_2 : fieldInfo Tryd.prog 58 2 = some (2, false, 1) := by kernel_rfl
theorem fi58_3 : fieldInfo Tryd.prog 58 3 = some (3, false, 1) := by kernel_rfl
theorem sz61 : szOf Tryd.prog 61 = some (true, 2) := by kernel_rfl
theorem info61 : Tryd.prog.info? 61 = some Tryd.t61 := by kernel_rfl
theorem ar61 : arInfo Tryd.prog 61 = some (2, false, 1) := by kernel_rfl
theorem sz64 : szOf Tryd.prog 64 = some (true, 5) := by kernel_rfl
theorem info64 : Tryd.prog.info? 64 = some Tryd.t64 := by kernel_rfl
theorem fi64_0 : fieldInfo Tryd.prog 64 0 = some (0, true, 4) := by kernel_rfl
theorem fi64_1 : fieldInfo Tryd.prog 64 1 = some (4, false, 1) := by kernel_rfl
theorem sz67 : szOf Tryd.prog 67 = some (true, 5) := by kernel_rfl
theorem fi69_0 : fieldInfo Tryd.prog 69 0 = some (0, false, 1) := by kernel_rfl
theorem fi69_1 : fieldInfo Tryd.prog 69 1 = some (1, false, 1) := by kernel_rfl
theorem fi69_2 : fieldInfo Tryd.prog 69 2 = some (2, true, 5) := by kernel_rfl
theorem sz71 : szOf Tryd.prog 71 = some (false, 1) := by kernel_rfl
theorem sl71 : slInfo Tryd.prog 71 = some (false, 1) := by kernel_rfl
theorem fi73_0 : fieldInfo Tryd.prog 73 0 = some (0, false, 1) := by kernel_rfl
theorem fi73_1 : fieldInfo Tryd.prog 73 1 = some (1, false, 1) := by kernel_rfl
theorem fi73_3 : fieldInfo Tryd.prog 73 3 = some (3, false, 1) := by kernel_rfl
theorem sz74 : szOf Tryd.prog 74 = some (false, 1) := by kernel_rfl
theorem fi76_0 : fieldInfo Tryd.prog 76 0 = some (0, false, 1) := by kernel_rfl
theorem fi76_1 : fieldInfo Tryd.prog 76 1 = some (1, false, 1) := by kernel_rfl
theorem fi76_2 : fieldInfo Tryd.prog 76 2 = some (2, false, 1) := by kernel_rfl
theorem fi76_3 : fieldInfo Tryd.prog 76 3 = some (3, false, 1) := by kernel_rfl
theorem fi76_4 : fieldInfo Tryd.prog 76 4 = some (4, false, 1) := by kernel_rfl
theorem fi76_5 : fieldInfo Tryd.prog 76 5 = some (5, false, 1) := by kernel_rfl
theorem fi76_6 : fieldInfo Tryd.prog 76 6 = some (6, false, 1) := by kernel_rfl
theorem ar98 : arInfo Tryd.prog 98 = some (64, false, 1) := by kernel_rfl
theorem info115 : Tryd.prog.info? 115 = some Tryd.t115 := by kernel_rfl
end Go.Proofs.YtjjbognomeplbaaDoor
namespace Go.Proofs.YtjjbognomeplbaaDoor
open Go.RowKit
theorem tab_cell {P : Program} {w : World} {name : String} {k : IntKind} {zs : List Int} {g q : Nat} (h : Lib.TabIs P w name k zs) (hg : P.globalNamed name = some g) (hq : q < zs.length) : w.cell? ⟨g, q, none⟩ = some (.int k (zs.getD q 0)) := by
  unfold Lib.TabIs World.var? at h
  rw [hg] at h
  simp only [Option.bind_some] at h
  unfold World.cell?
  cases ho : w.heap[g]? with
  | none => rw [ho] at h; cases h
  | some o =>
    cases o with
    | cells cs t fr =>
      rw [ho] at h
      simp only [Option.some.injEq] at h
      subst h
      simp [hq]
    | _ => rw [ho] at h; cases h
theorem neg_n {X : Nat} (h : X ≠ 0) (hX : X < 18446744073709551616) : IntKind.u64.wrap (-(X : Int)) = ((18446744073709551616 - X : Nat) : Int) := by rw [IntKind.wrap_u64]; omega
theorem mul_n {A B : Nat} : IntKind.u64.wrap ((A : Int) * (B : Int)) = ((A * B % 18446744073709551616 : Nat) : Int) := by
  rw [IntKind.wrap_u64, show ((A : Int) * (B : Int)) = ((A * B : Nat) : Int) from (Int.natCast_mul A B).symm]; omega
theorem full_w {n : Nat} (h : n < 64) : IntKind.u64.wrap (IntKind.u64.wrap (1 * 2 ^ min n IntKind.u64.bits) - 1) = ((2 ^ n - 1 : Nat) : Int) := by
  rw [u64_pow h, IntKind.wrap_u64]
  have h2 : 2 ^ n < 2 ^ 64 := Nat.pow_lt_pow_right (by decide) h
  have h3 : 0 < 2 ^ n := Nat.pow_pos (by decide)
  generalize 2 ^ n = p at h2 h3
  omega
theorem full_lo2 {n : Nat} (h : 64 ≤ n) : loW (lessF n) = 18446744073709551615 := by
  unfold loW; rw [wdB_congr (g := fun b => decide (b < 64)) (fun b hb => by unfold lessF; rw [decide_eq_true hb, decide_eq_true (by omega)]), wdB_full 64 (by omega)]; rfl
theorem full_hi1 {m n : Nat} (h : n = 64 + m) (hm : m < 64) : hiW (lessF n) = ((2 ^ m - 1 : Nat) : Int) := by
  subst h
  unfold hiW; rw [wdB_congr (g := fun b => decide (b < m)) (fun b hb => by unfold lessF; exact decide_eq_decide.2 (by omega)), wdB_full m (by omega)]
theorem full_hi2 {n : Nat} (h : 128 ≤ n) : hiW (lessF n) = 18446744073709551615 := by
  unfold hiW; rw [wdB_congr (g := fun b => decide (b < 64)) (fun b hb => by unfold lessF; rw [decide_eq_true hb, decide_eq_true (by omega)]), wdB_full 64 (by omega)]; rfl
theorem full_lo0 {n : Nat} (h : n = 0) : loW (lessF n) = 0 := by subst h; unfold loW; rw [wdB_none (fun b _ => by unfold lessF; simp)]; rfl
theorem eq_set (a b c d : Int) (w : World) : (Op.equalIn 10000 61 (.agg #[.int .u64 a, .int .u64 b]) (.agg #[.int .u64 c, .int .u64 d])).run Tryd.prog w = .ok (decide (a = c ∧ b = d)) w := by
  have u3 := Tryd.underlying24
  have q3 := Tryd.isAgg24
  have z3 := Tryd.sizeOf24
  rw [show (10000 : Nat) = 9999 + 1 from rfl, run_equalIn_array (P := Tryd.prog) w 9999 _ _ Tryd.underlying61 info24]
  rw [show List.range 2 = [0, 1] from rfl, show Tryd.prog.cellsOf 24 = 1 by kernel_rfl]
  simp only [Op.eqItems]
  by_cases h1 : a = c
  · by_cases h2 : b = d
    · subst h1; subst h2; go_simp
    · subst h1; go_simp
  · go_simp
set_option maxRecDepth 100000 in
set_option maxHeartbeats 400000 in
theorem tz64 (X : Nat) (hX0 : X ≠ 0) (hX : X < 18446744073709551616) (w : World) (htab : Lib.TabIs Tryd.prog w "math/bits.deBruijn64tab" .u8 debT) :
  Calls Tryd.prog 50 #[.int .u64 (((X : Nat) : Int))] w fun e w' => e = .returned (.int .i64 ((Lib.ctz 64 X : Nat) : Int)) ∧ Below w.heap.size w w' := by
 have hbs := Below.refl (B := w.heap.size) w
 obtain ⟨hlow, hc9⟩ := Lib.lowest_bit 64 X hX0 hX
 obtain ⟨c9, hce⟩ : ∃ c, c = Lib.ctz 64 X := ⟨_, rfl⟩
 rw [show (2 : Nat) ^ 64 = 18446744073709551616 from rfl, ← hce] at hlow
 rw [← hce] at hc9 ⊢
 obtain ⟨hq1, hq2⟩ := Lib.deBruijn64_at c9 hc9
 obtain ⟨q9, hq9⟩ : ∃ q, 2 ^ c9 * 285870213051353865 % 18446744073709551616 / 288230376151711744 = q := ⟨_, rfl⟩
 rw [hq9] at hq1 hq2
 have hM := Mem.start w
 refine Calls.of_ends (vs := [.int .u64 (((X : Nat) : Int))]) Tryd.func50 rfl Tryd.ntmps50 rfl ?_
 intro a hA
 replace hA : St 14 [(0, _)] a := hA
 refine Ends.seq (Ends.region ?_)
 refine S.val hA (R.assign rfl) rfl ?_; clear hA a; intro a hA
 refine S.done ?_
 refine Ends.seq (Ends.seq (Ends.region ?_))
 refine S.val hA (R.move rfl) rfl ?_; clear hA a; intro a hA
 refine S.val hA (R.ff (R.eql rfl rfl) (by omega)) rfl ?_; clear hA a; intro a hA
 refine S.done ?_
 refine Ends.condF hA rfl ?_
 refine Ends.skip (Ends.seq (Ends.region ?_))
 refine S.val hA (R.move rfl) rfl ?_; clear hA a; intro a hA
 refine S.val hA (R.move rfl) rfl ?_; clear hA a; intro a hA
 refine S.val hA (R.to (v := .int .u64 ((18446744073709551616 - X : Nat) : Int)) (R.neg rfl) (congrArg (Value.int .u64) (neg_n hX0 hX))) rfl ?_; clear hA a; intro a hA
 refine S.val hA (R.to (v := .int .u64 ((2 ^ c9 : Nat) : Int)) (R.bits (by simp) rfl rfl) (congrArg (Value.int .u64) ((an_n hX (by omega)).trans (by rw [hlow])))) rfl ?_; clear hA a; intro a hA
 refine S.val hA (R.to (v := .int .u64 ((2 ^ c9 * 285870213051353865 % 18446744073709551616 : Nat) : Int)) (R.mul rfl rfl) (congrArg (Value.int .u64) (mul_n (A := 2 ^ c9) (B := 285870213051353865)))) rfl ?_; clear hA a; intro a hA
 refine S.val hA (R.to (v := .int .u64 ((q9 : Nat) : Int)) (R.shr rfl rfl (by omega)) (congrArg (Value.int .u64) ((sh_n 58 (by decide)).trans (by rw [show (2 : Nat) ^ 58 = 288230376151711744 from rfl, hq9])))) rfl ?_; clear hA a; intro a hA
 refine S.val hA (R.indexAddrA ar98 rfl rfl (i := ((q9 : Nat) : Int)) (q := q9) ⟨by omega, by omega⟩ (by omega)) rfl ?_; clear hA a; intro a hA
 refine S.val hA (R.to (v := .int .u8 ((c9 : Nat) : Int)) (R.load sz5 rfl (tab_cell (tab_below htab (Mem.trans0 hbs hM.nilL)) (g := 0) (by kernel_rfl) (by rw [debT_len]; exact hq1))) (congrArg (Value.int .u8) ((debT_at hq1).trans (by rw [hq2])))) rfl ?_; clear hA a; intro a hA
 refine S.val hA (R.to (v := .int .i64 ((c9 : Nat) : Int)) (R.conv Tryd.underlying3 Tryd.underlying5 rfl) (congrArg (Value.int .i64) (by rw [IntKind.wrap_i64]; omega))) rfl ?_; clear hA a; intro a hA
 refine S.val hA (R.assign rfl) rfl ?_; clear hA a; intro a hA
 refine S.done ?_
 replace hA : St 14 [(2, _)] a := hA.sub ((.cons rfl .nil))
 refine Ends.ret1 Tryd.func50 Tryd.results50 hA rfl ?_
 exact ⟨rfl, Mem.trans0 hbs hM.nilL⟩
set_option maxRecDepth 100000 in
set_option maxHeartbeats 400000 in
theorem within02 (i : Int) (w : World) :
  Calls Tryd.prog 49 #[.int .i64 i] w fun e w' => e = .returned (.bool (decide (0 ≤ i ∧ i < 128))) ∧ Below w.heap.size w w' := by
 have hbs := Below.refl (B := w.heap.size) w
 have hM := Mem.start w
 refine Calls.of_ends (vs := [.int .i64 i]) Tryd.func49 rfl Tryd.ntmps49 rfl ?_
 intro a hA
 replace hA : St 9 [(0, _)] a := hA
 refine Ends.seq (Ends.region ?_)
 refine S.val hA (R.assign rfl) rfl ?_; clear hA a; intro a hA
 refine S.done ?_
 refine Ends.seq ?_
 refine Ends.cut (fun (a : Act) (wv : World) => St 9 [(2, .bool (decide ((0 ≤ i ∧ i < 128))))] a ∧ Mem w nof [] wv) ?_ (fun k2 hJ => ?_)
 ·
  clear hA hM a; rintro a w1 ⟨hA, hM⟩
  refine Ends.ret1 Tryd.func49 Tryd.results49 hA rfl ?_
  exact ⟨congrArg (fun b => Ending.returned (.bool b)) (decide_eq_decide.2 (by omega)), Mem.trans0 hbs hM.nilL⟩
 ·
  refine Ends.region ?_
  refine S.val hA (R.move rfl) rfl ?_; clear hA a; intro a hA
  refine S.val hA (R.geq rfl rfl) rfl ?_; clear hA a; intro a hA
  refine S.val hA (R.move rfl) rfl ?_; clear hA a; intro a hA
  refine hA.split (d := 5) rfl ?_ ?_
  ·
   clear hA; intro hg1 hA
   refine S.valg (dj := 5) hA (by kernel_rfl) rfl (R.move rfl) rfl ?_; clear hA a; intro a hA
   refine S.valg (dj := 5) hA (by kernel_rfl) rfl (R.lss rfl rfl) rfl ?_; clear hA a; intro a hA
   refine S.val hA (R.pickT rfl rfl) rfl ?_; clear hA a; intro a hA
   refine S.val hA (R.assign rfl) rfl ?_; clear hA a; intro a hA
   refine S.done ?_
   replace hA : St 9 [(2, _)] a := hA.sub ((.cons rfl .nil))
   exact hJ _ _ ⟨hA.sub (.cons (by first | rfl | exact congrArg (fun b => some (Value.bool b)) (by first | exact decide_eq_decide.2 (by omega) | exact or_bool (by omega) | exact and_bool (by omega) | (simp; done) | (simp [hg1]; done) | (have h80 := hg1; (try simp at h80); simp [h80]; done) | exact (decide_eq_false (fun h9 => hg1 h9.1)).symm)) .nil), hM⟩
  ·
   clear hA; intro hg1 hA
   refine S.no (dj := 5) hA (by kernel_rfl) rfl rfl rfl ?_; clear hA a; intro a hA
   refine S.no (dj := 5) hA (by kernel_rfl) rfl rfl rfl ?_; clear hA a; intro a hA
   refine S.val hA (R.pickF rfl rfl) rfl ?_; clear hA a; intro a hA
   refine S.val hA (R.assign rfl) rfl ?_; clear hA a; intro a hA
   refine S.done ?_
   replace hA : St 9 [(2, _)] a := hA.sub ((.cons rfl .nil))
   exact hJ _ _ ⟨hA.sub (.cons (by first | rfl | exact congrArg (fun b => some (Value.bool b)) (by first | exact decide_eq_decide.2 (by omega) | exact or_bool (by omega) | exact and_bool (by omega) | (simp; done) | (simp [hg1]; done) | (have h80 := hg1; (try simp at h80); simp [h80]; done) | exact (decide_eq_false (fun h9 => hg1 h9.1)).symm)) .nil), hM⟩
set_option maxRecDepth 100000 in
set_option maxHeartbeats 400000 in
theorem full02 (n : Int) (hn1 : -9223372036854775808 ≤ n) (hn2 : n ≤ 9223372036854775807) (w : World) :
  Calls Tryd.prog 22 #[.int .i64 n] w fun e w' => e = .returned (.agg #[.int .u64 (loW (lessF n.toNat)), .int .u64 (hiW (lessF n.toNat))]) ∧ Below w.heap.size w w' := by
 have hbs := Below.refl (B := w.heap.size) w
 have hM := Mem.start w
 refine Calls.of_ends (vs := [.int .i64 n]) Tryd.func22 rfl Tryd.ntmps22 rfl ?_
 intro a hA
 replace hA : St 29 [(0, _)] a := hA
 refine Ends.seq (Ends.region ?_)
 refine S.alloc hA hM info61 rfl rfl ?_; clear hA hM a; intro b1 w1 hb2 hM a hA
 replace hM : Mem _ _ [pt b1 #[.int .u64 0, .int .u64 0] 61] _ := hM
 refine S.done ?_
 refine Ends.seq (Ends.region ?_)
 refine S.alloc hA hM info61 rfl rfl ?_; clear hA hM a; intro b3 w2 hb4 hM a hA
 replace hM : Mem _ _ [pt b3 #[.int .u64 0, .int .u64 0] 61, pt b1 #[.int .u64 0, .int .u64 0] 61] _ := hM
 refine S.done ?_
 refine Ends.seq (Ends.seq (Ends.region ?_))
 refine S.val hA (R.move rfl) rfl ?_; clear hA a; intro a hA
 refine S.done ?_
 refine Ends.block ?_
 refine Ends.unroll ?_
 refine Ends.seq (Ends.region ?_)
 refine S.val hA (R.tt (R.lss rfl rfl) (by first | decide | simp | omega)) rfl ?_; clear hA a; intro a hA
 refine S.done ?_
 refine Ends.seq ?_
 refine Ends.condT hA rfl ?_
 refine Ends.skip (Ends.seq (Ends.block (Ends.seq (Ends.region ?_))))
 refine S.val hA (R.move rfl) rfl ?_; clear hA a; intro a hA
 refine S.val hA (R.assign rfl) rfl ?_; clear hA a; intro a hA
 refine S.done ?_
 refine Ends.seq (Ends.region ?_)
 refine S.val hA (R.move rfl) rfl ?_; clear hA a; intro a hA
 refine S.val hA (R.max rfl rfl) rfl ?_; clear hA a; intro a hA
 refine S.val hA (R.move rfl) rfl ?_; clear hA a; intro a hA
 refine S.val hA (R.mulI rfl rfl (r := 0) rfl (by omega)) rfl ?_; clear hA a; intro a hA
 refine S.val hA (R.subI rfl rfl (r := (max n 0) - 0) rfl (by omega)) rfl ?_; clear hA a; intro a hA
 refine S.val hA (R.assign rfl) rfl ?_; clear hA a; intro a hA
 refine S.done ?_
 replace hA : St 29 [(0, _), (2, _), (3, _), (4, _), (5, _), (6, _)] a := hA.sub ((.cons rfl (.cons rfl (.cons rfl (.cons rfl (.cons rfl (.cons rfl .nil)))))))
 refine Ends.block (Ends.seq (Ends.region ?_))
 refine S.val hA (R.move rfl) rfl ?_; clear hA a; intro a hA
 refine S.val hA (R.geq rfl rfl) rfl ?_; clear hA a; intro a hA
 refine S.val hA (R.assign rfl) rfl ?_; clear hA a; intro a hA
 refine S.done ?_
 refine Ends.ite hA rfl (fun hc5 => ?_) (fun hc5 => ?_)
 ·
  refine Ends.region ?_
  refine S.val hA (R.move rfl) rfl ?_; clear hA a; intro a hA
  refine S.val hA (R.indexAddrA (q := 0) ar61 rfl rfl (by omega) (rfl)) rfl ?_; clear hA a; intro a hA
  refine S.store (k := 0) hA hM sz24 rfl rfl rfl rfl rfl ?_; clear hM
  intro w3 hM
  replace hM : Mem _ _ [pt b3 #[.int .u64 18446744073709551615, .int .u64 0] 61, pt b1 #[.int .u64 0, .int .u64 0] 61] _ := hM
  refine S.done ?_
  replace hA : St 29 [(0, _), (2, _), (3, _), (6, _)] a := hA.sub ((.cons rfl (.cons rfl (.cons rfl (.cons rfl .nil)))))
  refine Ends.inBlock (Ends.inBlock (Ends.region ?_))
  refine S.val hA (R.addI rfl rfl (r := 1) rfl (by omega)) rfl ?_; clear hA a; intro a hA
  refine S.val hA (R.move rfl) rfl ?_; clear hA a; intro a hA
  refine S.done ?_
  refine Ends.inLoop ?_
  refine Ends.seq (Ends.region ?_)
  refine S.val hA (R.tt (R.lss rfl rfl) (by first | decide | simp | omega)) rfl ?_; clear hA a; intro a hA
  refine S.done ?_
  refine Ends.seq ?_
  refine Ends.condT hA rfl ?_
  refine Ends.skip (Ends.seq (Ends.block (Ends.seq (Ends.region ?_))))
  refine S.val hA (R.move rfl) rfl ?_; clear hA a; intro a hA
  refine S.val hA (R.assign rfl) rfl ?_; clear hA a; intro a hA
  refine S.done ?_
  refine Ends.seq (Ends.region ?_)
  refine S.val hA (R.move rfl) rfl ?_; clear hA a; intro a hA
  refine S.val hA (R.max rfl rfl) rfl ?_; clear hA a; intro a hA
  refine S.val hA (R.move rfl) rfl ?_; clear hA a; intro a hA
  refine S.val hA (R.mulI rfl rfl (r := 64) rfl (by omega)) rfl ?_; clear hA a; intro a hA
  refine S.val hA (R.subI rfl rfl (r := (max n 0) - 64) rfl (by omega)) rfl ?_; clear hA a; intro a hA
  refine S.val hA (R.assign rfl) rfl ?_; clear hA a; intro a hA
  refine S.done ?_
  replace hA : St 29 [(0, _), (2, _), (3, _), (4, _), (5, _), (6, _)] a := hA.sub ((.cons rfl (.cons rfl (.cons rfl (.cons rfl (.cons rfl (.cons rfl .nil)))))))
  refine Ends.block (Ends.seq (Ends.region ?_))
  refine S.val hA (R.move rfl) rfl ?_; clear hA a; intro a hA
  refine S.val hA (R.geq rfl rfl) rfl ?_; clear hA a; intro a hA
  refine S.val hA (R.assign rfl) rfl ?_; clear hA a; intro a hA
  refine S.done ?_
  refine Ends.ite hA rfl (fun hc6 => ?_) (fun hc6 => ?_)
  ·
   refine Ends.region ?_
   refine S.val hA (R.move rfl) rfl ?_; clear hA a; intro a hA
   refine S.val hA (R.indexAddrA (q := 1) ar61 rfl rfl (by omega) (rfl)) rfl ?_; clear hA a; intro a hA
   refine S.store (k := 0) hA hM sz24 rfl rfl rfl rfl rfl ?_; clear hM
   intro w4 hM
   replace hM : Mem _ _ [pt b3 #[.int .u64 18446744073709551615, .int .u64 18446744073709551615] 61, pt b1 #[.int .u64 0, .int .u64 0] 61] _ := hM
   refine S.done ?_
   replace hA : St 29 [(0, _), (2, _), (3, _), (6, _)] a := hA.sub ((.cons rfl (.cons rfl (.cons rfl (.cons rfl .nil)))))
   refine Ends.inBlock (Ends.inBlock (Ends.region ?_))
   refine S.val hA (R.addI rfl rfl (r := 2) rfl (by omega)) rfl ?_; clear hA a; intro a hA
   refine S.val hA (R.move rfl) rfl ?_; clear hA a; intro a hA
   refine S.done ?_
   refine Ends.inLoop ?_
   refine Ends.seq (Ends.region ?_)
   refine S.val hA (R.ff (R.lss rfl rfl) (by first | decide | simp | omega)) rfl ?_; clear hA a; intro a hA
   refine S.done ?_
   refine Ends.seq ?_
   refine Ends.condF hA rfl ?_
   refine Ends.exit rfl ?_
   replace hA : St 29 [(2, _), (3, _)] a := hA.sub ((.cons rfl (.cons rfl .nil)))
   refine Ends.seq (Ends.region ?_)
   refine S.val hA (R.loadA sz61 rfl (hM.range (k := 0) rfl) rfl) rfl ?_; clear hA a; intro a hA
   refine S.storeA (k := 1) hA hM sz61 rfl rfl rfl rfl rfl rfl ?_; clear hM
   intro w5 hM
   replace hM : Mem _ _ [pt b3 #[.int .u64 18446744073709551615, .int .u64 18446744073709551615] 61, pt b1 #[.int .u64 18446744073709551615, .int .u64 18446744073709551615] 61] _ := hM
   refine S.done ?_
   refine Ends.retC (k := 1) Tryd.func22 Tryd.results22 hA hM rfl rfl sz61 rfl ?_
   have g1 : loW (lessF n.toNat) = 18446744073709551615 := full_lo2 (n := n.toNat) (by omega)
   have g2 : hiW (lessF n.toNat) = 18446744073709551615 := full_hi2 (n := n.toNat) (by omega)
   exact ⟨by rw [g1, g2], Mem.trans0 hbs hM.nilL⟩
  ·
   refine Ends.seq (Ends.region ?_)
   refine S.val hA (R.move rfl) rfl ?_; clear hA a; intro a hA
   refine S.val hA (R.gtr rfl rfl) rfl ?_; clear hA a; intro a hA
   refine S.val hA (R.assign rfl) rfl ?_; clear hA a; intro a hA
   refine S.done ?_
   replace hA : St 29 [(0, _), (2, _), (3, _), (4, _), (5, _), (6, _), (19, _)] a := hA.sub ((.cons rfl (.cons rfl (.cons rfl (.cons rfl (.cons rfl (.cons rfl (.cons rfl .nil))))))))
   refine Ends.ite hA rfl (fun hc7 => ?_) (fun hc7 => ?_)
   ·
    refine Ends.region ?_
    refine S.val hA (R.move rfl) rfl ?_; clear hA a; intro a hA
    refine S.val hA (R.move rfl) rfl ?_; clear hA a; intro a hA
    refine S.val hA (R.shl rfl rfl (by omega)) rfl ?_; clear hA a; intro a hA
    refine S.val hA (R.sub rfl rfl) rfl ?_; clear hA a; intro a hA
    refine S.val hA (R.indexAddrA (q := 1) ar61 rfl rfl (by omega) (rfl)) rfl ?_; clear hA a; intro a hA
    refine S.store (k := 0) hA hM sz24 rfl rfl rfl rfl rfl ?_; clear hM
    intro w6 hM
    replace hM : Mem _ _ [pt b3 #[.int .u64 18446744073709551615, .int .u64 (IntKind.u64.wrap ((IntKind.u64.wrap (1 * 2 ^ min ((max n 0) - 64).toNat (IntKind.u64).bits)) - 1))] 61, pt b1 #[.int .u64 0, .int .u64 0] 61] _ := hM
    refine S.done ?_
    replace hA : St 29 [(0, _), (2, _), (3, _), (6, _)] a := hA.sub ((.cons rfl (.cons rfl (.cons rfl (.cons rfl .nil)))))
    refine Ends.inBlock (Ends.inBlock (Ends.region ?_))
    refine S.val hA (R.addI rfl rfl (r := 2) rfl (by omega)) rfl ?_; clear hA a; intro a hA
    refine S.val hA (R.move rfl) rfl ?_; clear hA a; intro a hA
    refine S.done ?_
    refine Ends.inLoop ?_
    refine Ends.seq (Ends.region ?_)
    refine S.val hA (R.ff (R.lss rfl rfl) (by first | decide | simp | omega)) rfl ?_; clear hA a; intro a hA
    refine S.done ?_
    refine Ends.seq ?_
    refine Ends.condF hA rfl ?_
    refine Ends.exit rfl ?_
    replace hA : St 29 [(2, _), (3, _)] a := hA.sub ((.cons rfl (.cons rfl .nil)))
    refine Ends.seq (Ends.region ?_)
    refine S.val hA (R.loadA sz61 rfl (hM.range (k := 0) rfl) rfl) rfl ?_; clear hA a; intro a hA
    refine S.storeA (k := 1) hA hM sz61 rfl rfl rfl rfl rfl rfl ?_; clear hM
    intro w7 hM
    replace hM : Mem _ _ [pt b3 #[.int .u64 18446744073709551615, .int .u64 (IntKind.u64.wrap ((IntKind.u64.wrap (1 * 2 ^ min ((max n 0) - 64).toNat (IntKind.u64).bits)) - 1))] 61, pt b1 #[.int .u64 18446744073709551615, .int .u64 (IntKind.u64.wrap ((IntKind.u64.wrap (1 * 2 ^ min ((max n 0) - 64).toNat (IntKind.u64).bits)) - 1))] 61] _ := hM
    refine S.done ?_
    refine Ends.retC (k := 1) Tryd.func22 Tryd.results22 hA hM rfl rfl sz61 rfl ?_
    have g1 : loW (lessF n.toNat) = 18446744073709551615 := full_lo2 (n := n.toNat) (by omega)
    obtain ⟨m, hm, hn⟩ : ∃ m : Nat, (max n 0 - 64).toNat = m ∧ n.toNat = 64 + m := ⟨_, rfl, by omega⟩
    have g2 : hiW (lessF n.toNat) = IntKind.u64.wrap ((IntKind.u64.wrap (1 * 2 ^ min ((max n 0) - 64).toNat (IntKind.u64).bits)) - 1) := by rw [hm, full_w (n := m) (by omega)]; exact full_hi1 hn (by omega)
    exact ⟨by rw [g1, g2], Mem.trans0 hbs hM.nilL⟩
   ·
    refine Ends.skip (Ends.inBlock (Ends.inBlock (Ends.region ?_)))
    refine S.val hA (R.addI rfl rfl (r := 2) rfl (by omega)) rfl ?_; clear hA a; intro a hA
    refine S.val hA (R.move rfl) rfl ?_; clear hA a; intro a hA
    refine S.done ?_
    replace hA : St 29 [(0, _), (2, _), (3, _), (6, _)] a := hA.sub ((.cons rfl (.cons rfl (.cons rfl (.cons rfl .nil)))))
    refine Ends.inLoop ?_
    refine Ends.seq (Ends.region ?_)
    refine S.val hA (R.ff (R.lss rfl rfl) (by first | decide | simp | omega)) rfl ?_; clear hA a; intro a hA
    refine S.done ?_
    refine Ends.seq ?_
    refine Ends.condF hA rfl ?_
    refine Ends.exit rfl ?_
    refine Ends.seq (Ends.region ?_)
    refine S.val hA (R.loadA sz61 rfl (hM.range (k := 0) rfl) rfl) rfl ?_; clear hA a; intro a hA
    refine S.storeA (k := 1) hA hM sz61 rfl rfl rfl rfl rfl rfl ?_; clear hM
    intro w8 hM
    replace hM : Mem _ _ [pt b3 #[.int .u64 18446744073709551615, .int .u64 0] 61, pt b1 #[.int .u64 18446744073709551615, .int .u64 0] 61] _ := hM
    refine S.done ?_
    replace hA : St 29 [(2, _)] a := hA.sub ((.cons rfl .nil))
    refine Ends.retC (k := 1) Tryd.func22 Tryd.results22 hA hM rfl rfl sz61 rfl ?_
    have g1 : loW (lessF n.toNat) = 18446744073709551615 := full_lo2 (n := n.toNat) (by omega)
    have g2 : hiW (lessF n.toNat) = 0 := full_hi (n := n.toNat) (by omega)
    exact ⟨by rw [g1, g2], Mem.trans0 hbs hM.nilL⟩
 ·
  refine Ends.seq (Ends.region ?_)
  refine S.val hA (R.move rfl) rfl ?_; clear hA a; intro a hA
  refine S.val hA (R.gtr rfl rfl) rfl ?_; clear hA a; intro a hA
  refine S.val hA (R.assign rfl) rfl ?_; clear hA a; intro a hA
  refine S.done ?_
  replace hA : St 29 [(0, _), (2, _), (3, _), (4, _), (5, _), (6, _), (19, _)] a := hA.sub ((.cons rfl (.cons rfl (.cons rfl (.cons rfl (.cons rfl (.cons rfl (.cons rfl .nil))))))))
  refine Ends.ite hA rfl (fun hc8 => ?_) (fun hc8 => ?_)
  ·
   refine Ends.region ?_
   refine S.val hA (R.move rfl) rfl ?_; clear hA a; intro a hA
   refine S.val hA (R.move rfl) rfl ?_; clear hA a; intro a hA
   refine S.val hA (R.shl rfl rfl (by omega)) rfl ?_; clear hA a; intro a hA
   refine S.val hA (R.sub rfl rfl) rfl ?_; clear hA a; intro a hA
   refine S.val hA (R.indexAddrA (q := 0) ar61 rfl rfl (by omega) (rfl)) rfl ?_; clear hA a; intro a hA
   refine S.store (k := 0) hA hM sz24 rfl rfl rfl rfl rfl ?_; clear hM
   intro w9 hM
   replace hM : Mem _ _ [pt b3 #[.int .u64 (IntKind.u64.wrap ((IntKind.u64.wrap (1 * 2 ^ min ((max n 0) - 0).toNat (IntKind.u64).bits)) - 1)), .int .u64 0] 61, pt b1 #[.int .u64 0, .int .u64 0] 61] _ := hM
   refine S.done ?_
   replace hA : St 29 [(0, _), (2, _), (3, _), (6, _)] a := hA.sub ((.cons rfl (.cons rfl (.cons rfl (.cons rfl .nil)))))
   refine Ends.inBlock (Ends.inBlock (Ends.region ?_))
   refine S.val hA (R.addI rfl rfl (r := 1) rfl (by omega)) rfl ?_; clear hA a; intro a hA
   refine S.val hA (R.move rfl) rfl ?_; clear hA a; intro a hA
   refine S.done ?_
   refine Ends.inLoop ?_
   refine Ends.seq (Ends.region ?_)
   refine S.val hA (R.tt (R.lss rfl rfl) (by first | decide | simp | omega)) rfl ?_; clear hA a; intro a hA
   refine S.done ?_
   refine Ends.seq ?_
   refine Ends.condT hA rfl ?_
   refine Ends.skip (Ends.seq (Ends.block (Ends.seq (Ends.region ?_))))
   refine S.val hA (R.move rfl) rfl ?_; clear hA a; intro a hA
   refine S.val hA (R.assign rfl) rfl ?_; clear hA a; intro a hA
   refine S.done ?_
   refine Ends.seq (Ends.region ?_)
   refine S.val hA (R.move rfl) rfl ?_; clear hA a; intro a hA
   refine S.val hA (R.max rfl rfl) rfl ?_; clear hA a; intro a hA
   refine S.val hA (R.move rfl) rfl ?_; clear hA a; intro a hA
   refine S.val hA (R.mulI rfl rfl (r := 64) rfl (by omega)) rfl ?_; clear hA a; intro a hA
   refine S.val hA (R.subI rfl rfl (r := (max n 0) - 64) rfl (by omega)) rfl ?_; clear hA a; intro a hA
   refine S.val hA (R.assign rfl) rfl ?_; clear hA a; intro a hA
   refine S.done ?_
   replace hA : St 29 [(0, _), (2, _), (3, _), (4, _), (5, _), (6, _)] a := hA.sub ((.cons rfl (.cons rfl (.cons rfl (.cons rfl (.cons rfl (.cons rfl .nil)))))))
   refine Ends.block (Ends.seq (Ends.region ?_))
   refine S.val hA (R.move rfl) rfl ?_; clear hA a; intro a hA
   refine S.val hA (R.geq rfl rfl) rfl ?_; clear hA a; intro a hA
   refine S.val hA (R.assign rfl) rfl ?_; clear hA a; intro a hA
   refine S.done ?_
   refine Ends.ite hA rfl (fun hc9 => ?_) (fun hc9 => ?_)
   ·
    refine Ends.region ?_
    refine S.val hA (R.move rfl) rfl ?_; clear hA a; intro a hA
    refine S.val hA (R.indexAddrA (q := 1) ar61 rfl rfl (by omega) (rfl)) rfl ?_; clear hA a; intro a hA
    refine S.store (k := 0) hA hM sz24 rfl rfl rfl rfl rfl ?_; clear hM
    intro w10 hM
    replace hM : Mem _ _ [pt b3 #[.int .u64 (IntKind.u64.wrap ((IntKind.u64.wrap (1 * 2 ^ min ((max n 0) - 0).toNat (IntKind.u64).bits)) - 1)), .int .u64 18446744073709551615] 61, pt b1 #[.int .u64 0, .int .u64 0] 61] _ := hM
    refine S.done ?_
    replace hA : St 29 [(0, _), (2, _), (3, _), (6, _)] a := hA.sub ((.cons rfl (.cons rfl (.cons rfl (.cons rfl .nil)))))
    refine Ends.inBlock (Ends.inBlock (Ends.region ?_))
    refine S.val hA (R.addI rfl rfl (r := 2) rfl (by omega)) rfl ?_; clear hA a; intro a hA
    refine S.val hA (R.move rfl) rfl ?_; clear hA a; intro a hA
    refine S.done ?_
    refine Ends.inLoop ?_
    refine Ends.seq (Ends.region ?_)
    refine S.val hA (R.ff (R.lss rfl rfl) (by first | decide | simp | omega)) rfl ?_; clear hA a; intro a hA
    refine S.done ?_
    refine Ends.seq ?_
    refine Ends.condF hA rfl ?_
    refine Ends.exit rfl ?_
    replace hA : St 29 [(2, _), (3, _)] a := hA.sub ((.cons rfl (.cons rfl .nil)))
    refine Ends.seq (Ends.region ?_)
    refine S.val hA (R.loadA sz61 rfl (hM.range (k := 0) rfl) rfl) rfl ?_; clear hA a; intro a hA
    refine S.storeA (k := 1) hA hM sz61 rfl rfl rfl rfl rfl rfl ?_; clear hM
    intro w11 hM
    replace hM : Mem _ _ [pt b3 #[.int .u64 (IntKind.u64.wrap ((IntKind.u64.wrap (1 * 2 ^ min ((max n 0) - 0).toNat (IntKind.u64).bits)) - 1)), .int .u64 18446744073709551615] 61, pt b1 #[.int .u64 (IntKind.u64.wrap ((IntKind.u64.wrap (1 * 2 ^ min ((max n 0) - 0).toNat (IntKind.u64).bits)) - 1)), .int .u64 18446744073709551615] 61] _ := hM
    refine S.done ?_
    refine Ends.retC (k := 1) Tryd.func22 Tryd.results22 hA hM rfl rfl sz61 rfl ?_
    have e1 : (max n 0 - 0).toNat = n.toNat := by omega
    have g1 : loW (lessF n.toNat) = IntKind.u64.wrap ((IntKind.u64.wrap (1 * 2 ^ min ((max n 0) - 0).toNat (IntKind.u64).bits)) - 1) := by rw [e1, full_w (n := n.toNat) (by omega)]; exact full_lo (by omega)
    have g2 : hiW (lessF n.toNat) = 18446744073709551615 := full_hi2 (n := n.toNat) (by omega)
    exact ⟨by rw [g1, g2], Mem.trans0 hbs hM.nilL⟩
   ·
    refine Ends.seq (Ends.region ?_)
    refine S.val hA (R.move rfl) rfl ?_; clear hA a; intro a hA
    refine S.val hA (R.gtr rfl rfl) rfl ?_; clear hA a; intro a hA
    refine S.val hA (R.assign rfl) rfl ?_; clear hA a; intro a hA
    refine S.done ?_
    replace hA : St 29 [(0, _), (2, _), (3, _), (4, _), (5, _), (6, _), (19, _)] a := hA.sub ((.cons rfl (.cons rfl (.cons rfl (.cons rfl (.cons rfl (.cons rfl (.cons rfl .nil))))))))
    refine Ends.ite hA rfl (fun hc10 => ?_) (fun hc10 => ?_)
    ·
     refine Ends.region ?_
     refine S.val hA (R.move rfl) rfl ?_; clear hA a; intro a hA
     refine S.val hA (R.move rfl) rfl ?_; clear hA a; intro a hA
     refine S.val hA (R.shl rfl rfl (by omega)) rfl ?_; clear hA a; intro a hA
     refine S.val hA (R.sub rfl rfl) rfl ?_; clear hA a; intro a hA
     refine S.val hA (R.indexAddrA (q := 1) ar61 rfl rfl (by omega) (rfl)) rfl ?_; clear hA a; intro a hA
     refine S.store (k := 0) hA hM sz24 rfl rfl rfl rfl rfl ?_; clear hM
     intro w12 hM
     replace hM : Mem _ _ [pt b3 #[.int .u64 (IntKind.u64.wrap ((IntKind.u64.wrap (1 * 2 ^ min ((max n 0) - 0).toNat (IntKind.u64).bits)) - 1)), .int .u64 (IntKind.u64.wrap ((IntKind.u64.wrap (1 * 2 ^ min ((max n 0) - 64).toNat (IntKind.u64).bits)) - 1))] 61, pt b1 #[.int .u64 0, .int .u64 0] 61] _ := hM
     refine S.done ?_
     replace hA : St 29 [(0, _), (2, _), (3, _), (6, _)] a := hA.sub ((.cons rfl (.cons rfl (.cons rfl (.cons rfl .nil)))))
     refine Ends.inBlock (Ends.inBlock (Ends.region ?_))
     refine S.val hA (R.addI rfl rfl (r := 2) rfl (by omega)) rfl ?_; clear hA a; intro a hA
     refine S.val hA (R.move rfl) rfl ?_; clear hA a; intro a hA
     refine S.done ?_
     refine Ends.inLoop ?_
     refine Ends.seq (Ends.region ?_)
     refine S.val hA (R.ff (R.lss rfl rfl) (by first | decide | simp | omega)) rfl ?_; clear hA a; intro a hA
     refine S.done ?_
     refine Ends.seq ?_
     refine Ends.condF hA rfl ?_
     refine Ends.exit rfl ?_
     replace hA : St 29 [(2, _), (3, _)] a := hA.sub ((.cons rfl (.cons rfl .nil)))
     refine Ends.seq (Ends.region ?_)
     refine S.val hA (R.loadA sz61 rfl (hM.range (k := 0) rfl) rfl) rfl ?_; clear hA a; intro a hA
     refine S.storeA (k := 1) hA hM sz61 rfl rfl rfl rfl rfl rfl ?_; clear hM
     intro w13 hM
     replace hM : Mem _ _ [pt b3 #[.int .u64 (IntKind.u64.wrap ((IntKind.u64.wrap (1 * 2 ^ min ((max n 0) - 0).toNat (IntKind.u64).bits)) - 1)), .int .u64 (IntKind.u64.wrap ((IntKind.u64.wrap (1 * 2 ^ min ((max n 0) - 64).toNat (IntKind.u64).bits)) - 1))] 61, pt b1 #[.int .u64 (IntKind.u64.wrap ((IntKind.u64.wrap (1 * 2 ^ min ((max n 0) - 0).toNat (IntKind.u64).bits)) - 1)), .int .u64 (IntKind.u64.wrap ((IntKind.u64.wrap (1 * 2 ^ min ((max n 0) - 64).toNat (IntKind.u64).bits)) - 1))] 61] _ := hM
     refine S.done ?_
     refine Ends.retC (k := 1) Tryd.func22 Tryd.results22 hA hM rfl rfl sz61 rfl ?_
     have e1 : (max n 0 - 0).toNat = n.toNat := by omega
     have g1 : loW (lessF n.toNat) = IntKind.u64.wrap ((IntKind.u64.wrap (1 * 2 ^ min ((max n 0) - 0).toNat (IntKind.u64).bits)) - 1) := by rw [e1, full_w (n := n.toNat) (by omega)]; exact full_lo (by omega)
     obtain ⟨m, hm, hn⟩ : ∃ m : Nat, (max n 0 - 64).toNat = m ∧ n.toNat = 64 + m := ⟨_, rfl, by omega⟩
     have g2 : hiW (lessF n.toNat) = IntKind.u64.wrap ((IntKind.u64.wrap (1 * 2 ^ min ((max n 0) - 64).toNat (IntKind.u64).bits)) - 1) := by rw [hm, full_w (n := m) (by omega)]; exact full_hi1 hn (by omega)
     exact ⟨by rw [g1, g2], Mem.trans0 hbs hM.nilL⟩
    ·
     refine Ends.skip (Ends.inBlock (Ends.inBlock (Ends.region ?_)))
     refine S.val hA (R.addI rfl rfl (r := 2) rfl (by omega)) rfl ?_; clear hA a; intro a hA
     refine S.val hA (R.move rfl) rfl ?_; clear hA a; intro a hA
     refine S.done ?_
     replace hA : St 29 [(0, _), (2, _), (3, _), (6, _)] a := hA.sub ((.cons rfl (.cons rfl (.cons rfl (.cons rfl .nil)))))
     refine Ends.inLoop ?_
     refine Ends.seq (Ends.region ?_)
     refine S.val hA (R.ff (R.lss rfl rfl) (by first | decide | simp | omega)) rfl ?_; clear hA a; intro a hA
     refine S.done ?_
     refine Ends.seq ?_
     refine Ends.condF hA rfl ?_
     refine Ends.exit rfl ?_
     refine Ends.seq (Ends.region ?_)
     refine S.val hA (R.loadA sz61 rfl (hM.range (k := 0) rfl) rfl) rfl ?_; clear hA a; intro a hA
     refine S.storeA (k := 1) hA hM sz61 rfl rfl rfl rfl rfl rfl ?_; clear hM
     intro w14 hM
     replace hM : Mem _ _ [pt b3 #[.int .u64 (IntKind.u64.wrap ((IntKind.u64.wrap (1 * 2 ^ min ((max n 0) - 0).toNat (IntKind.u64).bits)) - 1)), .int .u64 0] 61, pt b1 #[.int .u64 (IntKind.u64.wrap ((IntKind.u64.wrap (1 * 2 ^ min ((max n 0) - 0).toNat (IntKind.u64).bits)) - 1)), .int .u64 0] 61] _ := hM
     refine S.done ?_
     replace hA : St 29 [(2, _)] a := hA.sub ((.cons rfl .nil))
     refine Ends.retC (k := 1) Tryd.func22 Tryd.results22 hA hM rfl rfl sz61 rfl ?_
     have e1 : (max n 0 - 0).toNat = n.toNat := by omega
     have g1 : loW (lessF n.toNat) = IntKind.u64.wrap ((IntKind.u64.wrap (1 * 2 ^ min ((max n 0) - 0).toNat (IntKind.u64).bits)) - 1) := by rw [e1, full_w (n := n.toNat) (by omega)]; exact full_lo (by omega)
     have g2 : hiW (lessF n.toNat) = 0 := full_hi (n := n.toNat) (by omega)
     exact ⟨by rw [g1, g2], Mem.trans0 hbs hM.nilL⟩
  ·
   refine Ends.skip (Ends.inBlock (Ends.inBlock (Ends.region ?_)))
   refine S.val hA (R.addI rfl rfl (r := 1) rfl (by omega)) rfl ?_; clear hA a; intro a hA
   refine S.val hA (R.move rfl) rfl ?_; clear hA a; intro a hA
   refine S.done ?_
   replace hA : St 29 [(0, _), (2, _), (3, _), (6, _)] a := hA.sub ((.cons rfl (.cons rfl (.cons rfl (.cons rfl .nil)))))
   refine Ends.inLoop ?_
   refine Ends.seq (Ends.region ?_)
   refine S.val hA (R.tt (R.lss rfl rfl) (by first | decide | simp | omega)) rfl ?_; clear hA a; intro a hA
   refine S.done ?_
   refine Ends.seq ?_
   refine Ends.condT hA rfl ?_
   refine Ends.skip (Ends.seq (Ends.block (Ends.seq (Ends.region ?_))))
   refine S.val hA (R.move rfl) rfl ?_; clear hA a; intro a hA
   refine S.val hA (R.assign rfl) rfl ?_; clear hA a; intro a hA
   refine S.done ?_
   refine Ends.seq (Ends.region ?_)
   refine S.val hA (R.move rfl) rfl ?_; clear hA a; intro a hA
   refine S.val hA (R.max rfl rfl) rfl ?_; clear hA a; intro a hA
   refine S.val hA (R.move rfl) rfl ?_; clear hA a; intro a hA
   refine S.val hA (R.mulI rfl rfl (r := 64) rfl (by omega)) rfl ?_; clear hA a; intro a hA
   refine S.val hA (R.subI rfl rfl (r := (max n 0) - 64) rfl (by omega)) rfl ?_; clear hA a; intro a hA
   refine S.val hA (R.assign rfl) rfl ?_; clear hA a; intro a hA
   refine S.done ?_
   replace hA : St 29 [(0, _), (2, _), (3, _), (4, _), (5, _), (6, _)] a := hA.sub ((.cons rfl (.cons rfl (.cons rfl (.cons rfl (.cons rfl (.cons rfl .nil)))))))
   refine Ends.block (Ends.seq (Ends.region ?_))
   refine S.val hA (R.move rfl) rfl ?_; clear hA a; intro a hA
   refine S.val hA (R.geq rfl rfl) rfl ?_; clear hA a; intro a hA
   refine S.val hA (R.assign rfl) rfl ?_; clear hA a; intro a hA
   refine S.done ?_
   refine Ends.ite hA rfl (fun hc11 => ?_) (fun hc11 => ?_)
   ·
    refine Ends.region ?_
    refine S.val hA (R.move rfl) rfl ?_; clear hA a; intro a hA
    refine S.val hA (R.indexAddrA (q := 1) ar61 rfl rfl (by omega) (rfl)) rfl ?_; clear hA a; intro a hA
    refine S.store (k := 0) hA hM sz24 rfl rfl rfl rfl rfl ?_; clear hM
    intro w15 hM
    replace hM : Mem _ _ [pt b3 #[.int .u64 0, .int .u64 18446744073709551615] 61, pt b1 #[.int .u64 0, .int .u64 0] 61] _ := hM
    refine S.done ?_
    replace hA : St 29 [(0, _), (2, _), (3, _), (6, _)] a := hA.sub ((.cons rfl (.cons rfl (.cons rfl (.cons rfl .nil)))))
    refine Ends.inBlock (Ends.inBlock (Ends.region ?_))
    refine S.val hA (R.addI rfl rfl (r := 2) rfl (by omega)) rfl ?_; clear hA a; intro a hA
    refine S.val hA (R.move rfl) rfl ?_; clear hA a; intro a hA
    refine S.done ?_
    refine Ends.inLoop ?_
    refine Ends.seq (Ends.region ?_)
    refine S.val hA (R.ff (R.lss rfl rfl) (by first | decide | simp | omega)) rfl ?_; clear hA a; intro a hA
    refine S.done ?_
    refine Ends.seq ?_
    refine Ends.condF hA rfl ?_
    refine Ends.exit rfl ?_
    replace hA : St 29 [(2, _), (3, _)] a := hA.sub ((.cons rfl (.cons rfl .nil)))
    refine Ends.seq (Ends.region ?_)
    refine S.val hA (R.loadA sz61 rfl (hM.range (k := 0) rfl) rfl) rfl ?_; clear hA a; intro a hA
    refine S.storeA (k := 1) hA hM sz61 rfl rfl rfl rfl rfl rfl ?_; clear hM
    intro w16 hM
    replace hM : Mem _ _ [pt b3 #[.int .u64 0, .int .u64 18446744073709551615] 61, pt b1 #[.int .u64 0, .int .u64 18446744073709551615] 61] _ := hM
    refine S.done ?_
    refine Ends.retC (k := 1) Tryd.func22 Tryd.results22 hA hM rfl rfl sz61 rfl ?_
    have g1 : loW (lessF n.toNat) = 0 := full_lo0 (n := n.toNat) (by omega)
    have g2 : hiW (lessF n.toNat) = 18446744073709551615 := full_hi2 (n := n.toNat) (by omega)
    exact ⟨by rw [g1, g2], Mem.trans0 hbs hM.nilL⟩
   ·
    refine Ends.seq (Ends.region ?_)
    refine S.val hA (R.move rfl) rfl ?_; clear hA a; intro a hA
    refine S.val hA (R.gtr rfl rfl) rfl ?_; clear hA a; intro a hA
    refine S.val hA (R.assign rfl) rfl ?_; clear hA a; intro a hA
    refine S.done ?_
    replace hA : St 29 [(0, _), (2, _), (3, _), (4, _), (5, _), (6, _), (19, _)] a := hA.sub ((.cons rfl (.cons rfl (.cons rfl (.cons rfl (.cons rfl (.cons rfl (.cons rfl .nil))))))))
    refine Ends.ite hA rfl (fun hc12 => ?_) (fun hc12 => ?_)
    ·
     refine Ends.region ?_
     refine S.val hA (R.move rfl) rfl ?_; clear hA a; intro a hA
     refine S.val hA (R.move rfl) rfl ?_; clear hA a; intro a hA
     refine S.val hA (R.shl rfl rfl (by omega)) rfl ?_; clear hA a; intro a hA
     refine S.val hA (R.sub rfl rfl) rfl ?_; clear hA a; intro a hA
     refine S.val hA (R.indexAddrA (q := 1) ar61 rfl rfl (by omega) (rfl)) rfl ?_; clear hA a; intro a hA
     refine S.store (k := 0) hA hM sz24 rfl rfl rfl rfl rfl ?_; clear hM
     intro w17 hM
     replace hM : Mem _ _ [pt b3 #[.int .u64 0, .int .u64 (IntKind.u64.wrap ((IntKind.u64.wrap (1 * 2 ^ min ((max n 0) - 64).toNat (IntKind.u64).bits)) - 1))] 61, pt b1 #[.int .u64 0, .int .u64 0] 61] _ := hM
     refine S.done ?_
     replace hA : St 29 [(0, _), (2, _), (3, _), (6, _)] a := hA.sub ((.cons rfl (.cons rfl (.cons rfl (.cons rfl .nil)))))
     refine Ends.inBlock (Ends.inBlock (Ends.region ?_))
     refine S.val hA (R.addI rfl rfl (r := 2) rfl (by omega)) rfl ?_; clear hA a; intro a hA
     refine S.val hA (R.move rfl) rfl ?_; clear hA a; intro a hA
     refine S.done ?_
     refine Ends.inLoop ?_
     refine Ends.seq (Ends.region ?_)
     refine S.val hA (R.ff (R.lss rfl rfl) (by first | decide | simp | omega)) rfl ?_; clear hA a; intro a hA
     refine S.done ?_
     refine Ends.seq ?_
     refine Ends.condF hA rfl ?_
     refine Ends.exit rfl ?_
     replace hA : St 29 [(2, _), (3, _)] a := hA.sub ((.cons rfl (.cons rfl .nil)))
     refine Ends.seq (Ends.region ?_)
     refine S.val hA (R.loadA sz61 rfl (hM.range (k := 0) rfl) rfl) rfl ?_; clear hA a; intro a hA
     refine S.storeA (k := 1) hA hM sz61 rfl rfl rfl rfl rfl rfl ?_; clear hM
     intro w18 hM
     replace hM : Mem _ _ [pt b3 #[.int .u64 0, .int .u64 (IntKind.u64.wrap ((IntKind.u64.wrap (1 * 2 ^ min ((max n 0) - 64).toNat (IntKind.u64).bits)) - 1))] 61, pt b1 #[.int .u64 0, .int .u64 (IntKind.u64.wrap ((IntKind.u64.wrap (1 * 2 ^ min ((max n 0) - 64).toNat (IntKind.u64).bits)) - 1))] 61] _ := hM
     refine S.done ?_
     refine Ends.retC (k := 1) Tryd.func22 Tryd.results22 hA hM rfl rfl sz61 rfl ?_
     have g1 : loW (lessF n.toNat) = 0 := full_lo0 (n := n.toNat) (by omega)
     obtain ⟨m, hm, hn⟩ : ∃ m : Nat, (max n 0 - 64).toNat = m ∧ n.toNat = 64 + m := ⟨_, rfl, by omega⟩
     have g2 : hiW (lessF n.toNat) = IntKind.u64.wrap ((IntKind.u64.wrap (1 * 2 ^ min ((max n 0) - 64).toNat (IntKind.u64).bits)) - 1) := by rw [hm, full_w (n := m) (by omega)]; exact full_hi1 hn (by omega)
     exact ⟨by rw [g1, g2], Mem.trans0 hbs hM.nilL⟩
    ·
     refine Ends.skip (Ends.inBlock (Ends.inBlock (Ends.region ?_)))
     refine S.val hA (R.addI rfl rfl (r := 2) rfl (by omega)) rfl ?_; clear hA a; intro a hA
     refine S.val hA (R.move rfl) rfl ?_; clear hA a; intro a hA
     refine S.done ?_
     replace hA : St 29 [(0, _), (2, _), (3, _), (6, _)] a := hA.sub ((.cons rfl (.cons rfl (.cons rfl (.cons rfl .nil)))))
     refine Ends.inLoop ?_
     refine Ends.seq (Ends.region ?_)
     refine S.val hA (R.ff (R.lss rfl rfl) (by first | decide | simp | omega)) rfl ?_; clear hA a; intro a hA
     refine S.done ?_
     refine Ends.seq ?_
     refine Ends.condF hA rfl ?_
     refine Ends.exit rfl ?_
     refine Ends.seq (Ends.region ?_)
     refine S.val hA (R.loadA sz61 rfl (hM.range (k := 0) rfl) rfl) rfl ?_; clear hA a; intro a hA
     refine S.storeA (k := 1) hA hM sz61 rfl rfl rfl rfl rfl rfl ?_; clear hM
     intro w19 hM
     replace hM : Mem _ _ [pt b3 #[.int .u64 0, .int .u64 0] 61, pt b1 #[.int .u64 0, .int .u64 0] 61] _ := hM
     refine S.done ?_
     replace hA : St 29 [(2, _)] a := hA.sub ((.cons rfl .nil))
     refine Ends.retC (k := 1) Tryd.func22 Tryd.results22 hA hM rfl rfl sz61 rfl ?_
     have g1 : loW (lessF n.toNat) = 0 := full_lo0 (n := n.toNat) (by omega)
     have g2 : hiW (lessF n.toNat) = 0 := full_hi (n := n.toNat) (by omega)
     exact ⟨by rw [g1, g2], Mem.trans0 hbs hM.nilL⟩
set_option maxRecDepth 100000 in
set_option maxHeartbeats 400000 in
theorem mi02 (f g : Nat → Bool) (w : World) :
    Calls Tryd.prog 51 #[.agg #[.int .u64 (loW f), .int .u64 (hiW f)], .agg #[.int .u64 (loW g), .int .u64 (hiW g)]] w fun e w' => e = .returned (.agg #[.int .u64 (loW (miF f g)), .int .u64 (hiW (miF f g))]) ∧ Below w.heap.size w w' := by
  have hbs := Below.refl (B := w.heap.size) w
  have hM := Mem.start w
  refine Calls.of_ends (vs := [.agg #[.int .u64 (loW f), .int .u64 (hiW f)], .agg #[.int .u64 (loW g), .int .u64 (hiW g)]]) Tryd.func51 rfl Tryd.ntmps51 rfl ?_
  intro a hA
  replace hA : St 16 [(0, _), (1, _)] a := hA
  refine Ends.seq (Ends.region ?_)
  refine S.box hA hM rfl rfl ?_; clear hA hM a; intro b1 w1 hb2 hM a hA
  replace hM : Mem _ _ [pt b1 #[.int .u64 (loW f), .int .u64 (hiW f)] 61] _ := hM
  refine S.box hA hM rfl rfl ?_; clear hA hM a; intro b3 w2 hb4 hM a hA
  replace hM : Mem _ _ [pt b3 #[.int .u64 (loW g), .int .u64 (hiW g)] 61, pt b1 #[.int .u64 (loW f), .int .u64 (hiW f)] 61] _ := hM
  refine S.alloc hA hM info61 rfl rfl ?_; clear hA hM a; intro b5 w3 hb6 hM a hA
  replace hM : Mem _ _ [pt b5 #[.int .u64 0, .int .u64 0] 61, pt b3 #[.int .u64 (loW g), .int .u64 (hiW g)] 61, pt b1 #[.int .u64 (loW f), .int .u64 (hiW f)] 61] _ := hM
  refine S.done ?_
  refine Ends.seq (Ends.region ?_)
  refine S.val hA (R.indexAddrA (q := 0) ar61 rfl rfl (by omega) (rfl)) rfl ?_; clear hA a; intro a hA
  refine S.val hA (R.load sz24 rfl (hM.cell (k := 2) rfl rfl)) rfl ?_; clear hA a; intro a hA
  refine S.val hA (R.indexAddrA (q := 0) ar61 rfl rfl (by omega) (rfl)) rfl ?_; clear hA a; intro a hA
  refine S.val hA (R.load sz24 rfl (hM.cell (k := 1) rfl rfl)) rfl ?_; clear hA a; intro a hA
  refine S.val hA (R.to (v := .int .u64 (loW (miF f g))) (R.bits (by simp) rfl rfl) (congrArg (Value.int .u64) (mi_lo f g))) rfl ?_; clear hA a; intro a hA
  refine S.val hA (R.indexAddrA (q := 1) ar61 rfl rfl (by omega) (rfl)) rfl ?_; clear hA a; intro a hA
  refine S.val hA (R.load sz24 rfl (hM.cell (k := 2) rfl rfl)) rfl ?_; clear hA a; intro a hA
  refine S.val hA (R.indexAddrA (q := 1) ar61 rfl rfl (by omega) (rfl)) rfl ?_; clear hA a; intro a hA
  refine S.val hA (R.load sz24 rfl (hM.cell (k := 1) rfl rfl)) rfl ?_; clear hA a; intro a hA
  refine S.val hA (R.to (v := .int .u64 (hiW (miF f g))) (R.bits (by simp) rfl rfl) (congrArg (Value.int .u64) (mi_hi f g))) rfl ?_; clear hA a; intro a hA
  refine S.val hA (R.build (cells := #[.int .u64 (loW (miF f g)), .int .u64 (hiW (miF f g))]) rfl (by kernel_rfl)) rfl ?_; clear hA a; intro a hA
  refine S.storeA (k := 0) hA hM sz61 rfl rfl rfl rfl rfl rfl ?_; clear hM
  intro w4 hM
  replace hM : Mem _ _ [pt b5 #[.int .u64 (loW (miF f g)), .int .u64 (hiW (miF f g))] 61, pt b3 #[.int .u64 (loW g), .int .u64 (hiW g)] 61, pt b1 #[.int .u64 (loW f), .int .u64 (hiW f)] 61] _ := hM
  refine S.done ?_
  replace hA : St 16 [(4, _)] a := hA.sub ((.cons rfl .nil))
  refine Ends.retC (k := 0) Tryd.func51 Tryd.results51 hA hM rfl rfl sz61 rfl ?_
  exact ⟨rfl, Mem.trans0 hbs hM.nilL⟩
set_option maxRecDepth 100000 in
set_option maxHeartbeats 400000 in
theorem first02 (f : Nat → Bool) (w : World) (htab : Lib.TabIs Tryd.prog w "math/bits.deBruijn64tab" .u8 debT) :
  Calls Tryd.prog 43 #[.agg #[.int .u64 (loW f), .int .u64 (hiW f)]] w fun e w' => e = .returned (.int .i64 (nx f 0)) ∧ Below w.heap.size w w' := by
 have hbs := Below.refl (B := w.heap.size) w
 have hM := Mem.start w
 refine Calls.of_ends (vs := [.agg #[.int .u64 (loW f), .int .u64 (hiW f)]]) Tryd.func43 rfl Tryd.ntmps43 rfl ?_
 intro a hA
 replace hA : St 18 [(0, _)] a := hA
 refine Ends.seq (Ends.region ?_)
 refine S.box hA hM rfl rfl ?_; clear hA hM a; intro b1 w1 hb2 hM a hA
 replace hM : Mem _ _ [pt b1 #[.int .u64 (loW f), .int .u64 (hiW f)] 61] _ := hM
 refine S.val hA (R.assign rfl) rfl ?_; clear hA a; intro a hA
 refine S.done ?_
 refine Ends.seq (Ends.seq (Ends.region ?_))
 refine S.val hA (R.loadA sz61 rfl (hM.range (k := 0) rfl) rfl) rfl ?_; clear hA a; intro a hA
 refine S.val hA (R.move rfl) rfl ?_; clear hA a; intro a hA
 refine S.done ?_
 refine Ends.block ?_
 refine Ends.unroll ?_
 refine Ends.seq (Ends.region ?_)
 refine S.val hA (R.tt (R.lss rfl rfl) (by first | decide | simp | omega)) rfl ?_; clear hA a; intro a hA
 refine S.done ?_
 refine Ends.seq ?_
 refine Ends.condT hA rfl ?_
 refine Ends.skip (Ends.seq (Ends.block (Ends.seq (Ends.region ?_))))
 refine S.val hA (R.move rfl) rfl ?_; clear hA a; intro a hA
 refine S.val hA (R.indexA ar61 rfl rfl (by omega) rfl) rfl ?_; clear hA a; intro a hA
 refine S.val hA (R.assign rfl) rfl ?_; clear hA a; intro a hA
 refine S.val hA (R.assign rfl) rfl ?_; clear hA a; intro a hA
 refine S.done ?_
 replace hA : St 18 [(3, _), (4, _), (5, _), (6, _)] a := hA.sub ((.cons rfl (.cons rfl (.cons rfl (.cons rfl .nil)))))
 refine Ends.seq (Ends.region ?_)
 refine S.val hA (R.move rfl) rfl ?_; clear hA a; intro a hA
 refine S.val hA (R.neq rfl rfl) rfl ?_; clear hA a; intro a hA
 refine S.done ?_
 refine Ends.ite hA rfl (fun hc3 => ?_) (fun hc3 => ?_)
 ·
  refine Ends.seq (Ends.region ?_)
  refine S.val hA (R.move rfl) rfl ?_; clear hA a; intro a hA
  refine S.val hA (R.mulI rfl rfl (r := 0) rfl (by omega)) rfl ?_; clear hA a; intro a hA
  refine S.val hA (R.move rfl) rfl ?_; clear hA a; intro a hA
  have hz9 : wdB f 64 ≠ 0 := fun e => hc3 (by unfold loW; rw [e]; rfl)
  have hc9 := (ctz_wd hz9).1
  refine S.call hA (R.callF Tryd.func50 rfl rfl rfl) rfl (tz64 (wdB f 64) hz9 (wdB_bd _ 64) _ (tab_below htab (Mem.trans0 hbs hM.nilL))) ?_; clear hA a
  rintro e w2 ⟨rfl, hb⟩
  replace hM := hM.callB hb; clear hb
  refine ⟨.int .i64 (((Lib.ctz 64 (wdB f 64) : Nat) : Int)), rfl, fun a hA => ?_⟩
  refine S.val hA (R.addI rfl rfl (r := 0 + (((Lib.ctz 64 (wdB f 64) : Nat) : Int))) rfl (by omega)) rfl ?_; clear hA a; intro a hA
  refine S.val hA (R.assign rfl) rfl ?_; clear hA a; intro a hA
  refine S.done ?_
  replace hA : St 18 [(2, _), (5, _), (6, _)] a := hA.sub ((.cons rfl (.cons rfl (.cons rfl .nil))))
  refine Ends.ret1 Tryd.func43 Tryd.results43 hA rfl ?_
  have hnx := nx_lo hc3
  exact ⟨congrArg (fun z => Ending.returned (.int .i64 z)) (by omega), Mem.trans0 hbs hM.nilL⟩
 ·
  refine Ends.skip (Ends.inBlock (Ends.region ?_))
  refine S.val hA (R.addI rfl rfl (r := 1) rfl (by omega)) rfl ?_; clear hA a; intro a hA
  refine S.val hA (R.move rfl) rfl ?_; clear hA a; intro a hA
  refine S.done ?_
  replace hA : St 18 [(5, _), (6, _)] a := hA.sub ((.cons rfl (.cons rfl .nil)))
  refine Ends.inLoop ?_
  refine Ends.seq (Ends.region ?_)
  refine S.val hA (R.tt (R.lss rfl rfl) (by first | decide | simp | omega)) rfl ?_; clear hA a; intro a hA
  refine S.done ?_
  refine Ends.seq ?_
  refine Ends.condT hA rfl ?_
  refine Ends.skip (Ends.seq (Ends.block (Ends.seq (Ends.region ?_))))
  refine S.val hA (R.move rfl) rfl ?_; clear hA a; intro a hA
  refine S.val hA (R.indexA ar61 rfl rfl (by omega) rfl) rfl ?_; clear hA a; intro a hA
  refine S.val hA (R.assign rfl) rfl ?_; clear hA a; intro a hA
  refine S.val hA (R.assign rfl) rfl ?_; clear hA a; intro a hA
  refine S.done ?_
  refine Ends.seq (Ends.region ?_)
  refine S.val hA (R.move rfl) rfl ?_; clear hA a; intro a hA
  refine S.val hA (R.neq rfl rfl) rfl ?_; clear hA a; intro a hA
  refine S.done ?_
  replace hA : St 18 [(3, _), (4, _), (5, _), (6, _), (11, _)] a := hA.sub ((.cons rfl (.cons rfl (.cons rfl (.cons rfl (.cons rfl .nil))))))
  refine Ends.ite hA rfl (fun hc4 => ?_) (fun hc4 => ?_)
  ·
   refine Ends.seq (Ends.region ?_)
   refine S.val hA (R.move rfl) rfl ?_; clear hA a; intro a hA
   refine S.val hA (R.mulI rfl rfl (r := 64) rfl (by omega)) rfl ?_; clear hA a; intro a hA
   refine S.val hA (R.move rfl) rfl ?_; clear hA a; intro a hA
   have hz9 : wdB (fun b => f (64 + b)) 64 ≠ 0 := fun e => hc4 (by unfold hiW; rw [e]; rfl)
   have hc9 := (ctz_wd hz9).1
   refine S.call hA (R.callF Tryd.func50 rfl rfl rfl) rfl (tz64 (wdB (fun b => f (64 + b)) 64) hz9 (wdB_bd _ 64) _ (tab_below htab (Mem.trans0 hbs hM.nilL))) ?_; clear hA a
   rintro e w3 ⟨rfl, hb⟩
   replace hM := hM.callB hb; clear hb
   refine ⟨.int .i64 (((Lib.ctz 64 (wdB (fun b => f (64 + b)) 64) : Nat) : Int)), rfl, fun a hA => ?_⟩
   refine S.val hA (R.addI rfl rfl (r := 64 + (((Lib.ctz 64 (wdB (fun b => f (64 + b)) 64) : Nat) : Int))) rfl (by omega)) rfl ?_; clear hA a; intro a hA
   refine S.val hA (R.assign rfl) rfl ?_; clear hA a; intro a hA
   refine S.done ?_
   replace hA : St 18 [(2, _), (5, _), (6, _)] a := hA.sub ((.cons rfl (.cons rfl (.cons rfl .nil))))
   refine Ends.ret1 Tryd.func43 Tryd.results43 hA rfl ?_
   have hnx := nx_hi (Decidable.not_not.1 hc3) hc4
   exact ⟨congrArg (fun z => Ending.returned (.int .i64 z)) (by omega), Mem.trans0 hbs hM.nilL⟩
  ·
   refine Ends.skip (Ends.inBlock (Ends.region ?_))
   refine S.val hA (R.addI rfl rfl (r := 2) rfl (by omega)) rfl ?_; clear hA a; intro a hA
   refine S.val hA (R.move rfl) rfl ?_; clear hA a; intro a hA
   refine S.done ?_
   replace hA : St 18 [(5, _), (6, _)] a := hA.sub ((.cons rfl (.cons rfl .nil)))
   refine Ends.inLoop ?_
   refine Ends.seq (Ends.region ?_)
   refine S.val hA (R.ff (R.lss rfl rfl) (by first | decide | simp | omega)) rfl ?_; clear hA a; intro a hA
   refine S.done ?_
   refine Ends.seq ?_
   refine Ends.condF hA rfl ?_
   refine Ends.exit rfl ?_
   refine Ends.seq (Ends.region ?_)
   refine S.val hA (R.assign rfl) rfl ?_; clear hA a; intro a hA
   refine S.done ?_
   refine Ends.ret1 Tryd.func43 Tryd.results43 hA rfl ?_
   have hnx := nx_z (Decidable.not_not.1 hc3) (Decidable.not_not.1 hc4)
   exact ⟨congrArg (fun z => Ending.returned (.int .i64 z)) (by omega), Mem.trans0 hbs hM.nilL⟩
def nxI (f : Nat → Bool) (i : Int) : Int := if 128 ≤ i then -1 else nx f (max i (-1) + 1).toNat
theorem nxI_at {f : Nat → Bool} {m : Nat} (h : m < 128) : nxI f (m : Int) = nx f (m + 1) := by unfold nxI; rw [if_neg (by omega)]; congr 1; omega
theorem nx_bd (f : Nat → Bool) (b : Nat) : -1 ≤ nx f b ∧ nx f b ≤ 127 := by
  rcases nx_rng f _ b rfl with ⟨h1, -⟩ | ⟨m, h1, -, h3, -⟩ <;> omega
set_option maxRecDepth 100000 in
set_option maxHeartbeats 400000 in
theorem next02 (f : Nat → Bool) (i : Int) (hi1 : -9223372036854775808 ≤ i) (hi2 : i ≤ 9223372036854775807) (w : World) (htab : Lib.TabIs Tryd.prog w "math/bits.deBruijn64tab" .u8 debT) :
  Calls Tryd.prog 44 #[.agg #[.int .u64 (loW f), .int .u64 (hiW f)], .int .i64 i] w fun e w' => e = .returned (.int .i64 (nxI f i)) ∧ Below w.heap.size w w' := by
 have hbs := Below.refl (B := w.heap.size) w
 have hM := Mem.start w
 refine Calls.of_ends (vs := [.agg #[.int .u64 (loW f), .int .u64 (hiW f)], .int .i64 i]) Tryd.func44 rfl Tryd.ntmps44 rfl ?_
 intro a hA
 replace hA : St 14 [(0, _), (1, _)] a := hA
 refine Ends.seq (Ends.region ?_)
 refine S.box hA hM rfl rfl ?_; clear hA hM a; intro b1 w1 hb2 hM a hA
 replace hM : Mem _ _ [pt b1 #[.int .u64 (loW f), .int .u64 (hiW f)] 61] _ := hM
 refine S.val hA (R.assign rfl) rfl ?_; clear hA a; intro a hA
 refine S.done ?_
 refine Ends.seq (Ends.seq (Ends.region ?_))
 refine S.val hA (R.move rfl) rfl ?_; clear hA a; intro a hA
 refine S.val hA (R.geq rfl rfl) rfl ?_; clear hA a; intro a hA
 refine S.done ?_
 refine Ends.ite hA rfl (fun hc3 => ?_) (fun hc3 => ?_)
 ·
  refine Ends.seq (Ends.region ?_)
  refine S.val hA (R.assign rfl) rfl ?_; clear hA a; intro a hA
  refine S.done ?_
  refine Ends.ret1 Tryd.func44 Tryd.results44 hA rfl ?_
  exact ⟨by unfold nxI; rw [if_pos hc3], Mem.trans0 hbs hM.nilL⟩
 ·
  refine Ends.skip (Ends.seq ?_)
  refine Ends.drawn (Mem w nof [pt b1 #[.int .u64 (loW f), .int .u64 (hiW f)] 61]) (.cons (0, true) (.cons (1, true) (.cons (2, true) (.cons (3, true) (.cons (4, false) (.cons (5, false) (.cons (6, false) (.cons (7, true) .nil)))))))) 8 mixed (by kernel_rfl) (by kernel_rfl) (by kernel_rfl) hM.drew ?_
  replace hM := hM.drew
  refine D.val hA rfl (by kernel_rfl) (fun _ hM => R.loadA sz61 rfl (hM.range (k := 0) rfl) rfl) rfl ?_; clear hA a; intro a hA
  refine D.valF hA rfl (fun _ => R.move rfl) rfl ?_; clear hA a; intro a hA
  refine D.valF hA rfl (fun _ => R.max rfl rfl) rfl ?_; clear hA a; intro a hA
  refine D.valF hA rfl (fun _ => R.addI rfl rfl (r := (max i (-1)) + 1) rfl (by omega)) rfl ?_; clear hA a; intro a hA
  refine D.call hA rfl (R.callF Tryd.func22 rfl rfl rfl) rfl (full02 ((max i (-1)) + 1) (by omega) (by omega) _) ?_; clear hA a
  rintro e w2 ⟨rfl, hb⟩
  replace hM := hM.callB hb; clear hb
  refine ⟨.agg #[.int .u64 (loW (lessF ((max i (-1)) + 1 : Int).toNat)), .int .u64 (hiW (lessF ((max i (-1)) + 1 : Int).toNat))], rfl, hM, fun a hA => ?_⟩
  refine D.call hA rfl (R.callF Tryd.func51 rfl rfl rfl) rfl (mi02 f ((lessF ((max i (-1)) + 1 : Int).toNat)) _) ?_; clear hA a
  rintro e w3 ⟨rfl, hb⟩
  replace hM := hM.callB hb; clear hb
  refine ⟨.agg #[.int .u64 (loW (miF f ((lessF ((max i (-1)) + 1 : Int).toNat)))), .int .u64 (hiW (miF f ((lessF ((max i (-1)) + 1 : Int).toNat))))], rfl, hM, fun a hA => ?_⟩
  refine D.call hA rfl (R.callF Tryd.func43 rfl rfl rfl) rfl (first02 ((miF f ((lessF ((max i (-1)) + 1 : Int).toNat)))) _ (tab_below htab (Mem.trans0 hbs hM.nilL))) ?_; clear hA a
  rintro e w4 ⟨rfl, hb⟩
  replace hM := hM.callB hb; clear hb
  refine ⟨.int .i64 (nx ((miF f ((lessF ((max i (-1)) + 1 : Int).toNat)))) 0), rfl, hM, fun a hA => ?_⟩
  refine D.valF hA rfl (fun _ => R.assign rfl) rfl ?_; clear hA a; intro a hA
  refine D.done ?_
  replace hA : St 14 [(4, _)] a := hA.sub ((.cons rfl .nil))
  refine Ends.ret1 Tryd.func44 Tryd.results44 hA rfl ?_
  exact ⟨by unfold nxI; rw [if_neg hc3, nx_minus], Mem.trans0 hbs hM.nilL⟩
def hasP (f : Nat → Bool) (i : Int) : Prop := (0 ≤ i ∧ i < 128) ∧ f i.toNat = true
instance (f : Nat → Bool) (i : Int) : Decidable (hasP f i) := by unfold hasP; infer_instance
theorem next_at (f : Nat → Bool) (m : Nat) (h : m < 128) (w : World) (htab : Lib.TabIs Tryd.prog w "math/bits.deBruijn64tab" .u8 debT) : Calls Tryd.prog 44 #[.agg #[.int .u64 (loW f), .int .u64 (hiW f)], .int .i64 (m : Int)] w fun e w' => e = .returned (.int .i64 (nx f (m + 1))) ∧ Below w.heap.size w w' := by
  have h9 := next02 f (m : Int) (by omega) (by omega) w htab
  rw [nxI_at h] at h9; exact h9
def inP (f g : Nat → Bool) : Prop := ∀ b, b < 128 → f b = true → g b = true
instance (f g : Nat → Bool) : Decidable (inP f g) := by unfold inP; infer_instance
end Go.Proofs.YtjjbognomeplbaaDoor
namespace Go.Proofs.YtjjbognomeplbaaDoor
open Go.RowKit
def wideR (r : Option Nat) : Fence := { fn := fun _ => True, depth := none, alive := false, round := r }
def suf (ds : List Deferred) (a : Act) : Act := { a with defers := a.defers ++ ds }
theorem suf_nil (a : Act) : suf [] a = a := by unfold suf; simp
theorem suf_eval (ds : List Deferred) (a : Act) : (suf ds a).eval = a.eval := funext fun x => by cases x <;> rfl
theorem suf_put (ds : List Deferred) (a : Act) (d : Option Tmp) (v : Value) : (suf ds a).put d v = suf ds (a.put d v) := by cases d <;> rfl
def noDef (o : Oper) : Bool := match o.op with | .defer _ => false | _ => true
theorem noDef_ne {o : Oper} (h : noDef o = true) : ∀ c, o.op ≠ .defer c := fun c e => by unfold noDef at h; rw [e] at h; cases h
theorem calls_toIn {P : Program} {r : Option Nat} {n : Nat} {f : FuncId} {args : Array Value} {w : World} {R : Ending → World → Prop} (h : Calls P f args w R) : CallsIn (wideR r) n P f args w R :=
  ⟨trivial, fun cs _ => let ⟨e, w', fr, q, s, x⟩ := h cs; ⟨e, w', fr, q, comesIn_wide.2 s, x⟩⟩
theorem rows_toIn {P : Program} {r : Option Nat} {n : Nat} {row : String} {args : Array Value} {w : World} {R : Value → World → Prop} (h : Rows P row args w R) : RowsIn (wideR r) n P row args w R :=
  fun c cs _ => let ⟨v, w', q, s⟩ := h c cs; ⟨v, w', q, stepsIn_wide.2 s⟩
section
variable {P : Program} {r : Option Nat} {n : Nat} {ds : List Deferred} {Q Q' : Exit → Act → World → Prop}
theorem wp_toIn {o : Oper} {a : Act} {w : World} {next next' : Act → World → Prop} (hd : noDef o = true) (hn : ∀ a w, next a w → next' (suf ds a) w) (hQ : ∀ c a w, ¬ Q (.panic c) a w) (hL : ¬ LetsOut Q)
    (h : o.wp P a w next Q) : o.wpIn (wideR r) n P (suf ds a) w next' Q' := by
  refine ⟨fun _ _ => trivial, ?_⟩
  rw [Oper.semAt_eq _ _ _ (noDef_ne hd), suf_eval]
  unfold Oper.wp at h
  generalize (execOp a.eval o).run P w = x at h
  have hput : ∀ (v : Value) (w' : World), next (a.put o.dst v) w' → next' ((suf ds a).put o.dst v) w' := fun v w' g => by rw [suf_put]; exact hn _ _ g
  match x, h with
  | .ok (.value v) w', h => exact hput _ _ h
  | .ok .skip w', h => exact hput _ _ h
  | .ok (.defer d) w', h => exact (show next' (({ suf ds a with defers := d :: (suf ds a).defers } : Act).put o.dst undef) w' by
      have := hn _ _ (show next (({ a with defers := d :: a.defers } : Act).put o.dst undef) w' from h)
      rw [← suf_put] at this
      exact this)
  | .ok (.enter f args) w', h =>
    refine ⟨fun g => by simp [wideR] at g, (calls_toIn (show Calls P f args w' _ from h)).mono fun e w'' he => ?_⟩
    cases e with
    | returned v => exact hput _ _ he
    | panicked c => exact (hQ _ _ _ he).elim
    | outgrown => exact (hL he).elim
  | .ok (.row row args) w', h => exact ⟨fun g => by simp [wideR] at g, (rows_toIn (show Rows P row args w' _ from h)).mono fun v w'' q => hput _ _ q⟩
  | .halt (.panic v) w', h => exact (hQ _ _ _ h).elim
theorem wpList_toIn {ops : Array Oper} (hQ : ∀ c a w, ¬ Q (.panic c) a w) (hL : ¬ LetsOut Q) (hN : ∀ a w, Q .normal a w → Q' .normal (suf ds a) w) : ∀ (os : List Oper) (a : Act) (w : World), os.all noDef = true → wpList P ops Q os a w → wpListIn (wideR r) n P ops Q' os (suf ds a) w
  | [], _, _, _, h => hN _ _ h
  | o :: rest, a, w, hd, h => by
    simp only [List.all_cons, Bool.and_eq_true] at hd
    unfold wpList at h
    unfold wpListIn
    show if Region.wanted o (yielded ops a.tmps) then _ else _
    by_cases hw : Region.wanted o (yielded ops a.tmps) = true
    · rw [if_pos hw] at h ⊢
      exact wp_toIn hd.1 (fun a w g => wpList_toIn hQ hL hN rest a w hd.2 g) hQ hL (h.resolve_right fun g => hL g.2)
    · rw [if_neg hw] at h ⊢
      rw [suf_put]
      exact ⟨fun _ _ => trivial, wpList_toIn hQ hL hN rest _ w hd.2 h⟩
theorem wpAny_toIn {md : Region.Mode} {ops : Array Oper} (hd : ∀ (i : Nat) (o : Oper), ops[i]? = some o → noDef o = true) (hQ : ∀ c a w, ¬ Q (.panic c) a w) (hL : ¬ LetsOut Q) (hN : ∀ a w, Q .normal a w → Q' .normal (suf ds a) w) : ∀ (m : Nat) (listed : Array Bool) (a : Act) (w : World), wpAny P md ops Q m listed a w → wpAnyIn (wideR r) n P md ops Q' m listed (suf ds a) w
  | 0, _, _, _, h => ⟨h.1, hN _ _ h.2⟩
  | m + 1, listed, a, w, h => ⟨fun g => hN _ _ (h.1 g), fun i hi => by
    have h2 := h.2 i hi
    unfold wpOp at h2
    unfold wpOpIn
    cases ho : ops[i]? with
    | none => simp only [ho] at h2 ⊢; exact wpAny_toIn hd hQ hL hN m _ _ _ h2
    | some o =>
      simp only [ho] at h2 ⊢
      show if Region.wanted o (yielded ops a.tmps) then _ else _
      by_cases hw : Region.wanted o (yielded ops a.tmps) = true
      · rw [if_pos hw] at h2 ⊢
        exact wp_toIn (hd i o ho) (fun a w g => wpAny_toIn hd hQ hL hN m _ a w g) hQ hL (h2.resolve_right fun g => hL g.2)
      · rw [if_neg hw] at h2 ⊢
        rw [suf_put]
        exact ⟨fun _ _ => trivial, wpAny_toIn hd hQ hL hN m _ _ w h2⟩⟩
end
inductive KI where
  | code (c : Code)
  | inBlock (id : Nat)
  | again (J : Act → World → Prop)
def KW (P : Program) (r : Option Nat) (n : Nat) (Q : Exit → Act → World → Prop) : List KI → Exit → Act → World → Prop
  | [] => Q
  | .code y :: k => Exit.then (y.wpIn (wideR r) n P (KW P r n Q k)) (KW P r n Q k)
  | .inBlock id :: k => Exit.inBlock id (KW P r n Q k)
  | .again J :: k => Exit.then J (KW P r n Q k)
def EndsW (P : Program) (r : Option Nat) (n : Nat) (Q : Exit → Act → World → Prop) (ds : List Deferred) (k : List KI) (a : Act) (w : World) : Prop := KW P r n Q k .normal (suf ds a) w
def exitW (id : Nat) : List KI → Option (List KI)
  | [] => none
  | .inBlock j :: k => if id == j then some k else exitW id k
  | .code _ :: k => exitW id k
  | .again _ :: k => exitW id k
def AftW (K : Act → World → Prop) : Exit → Act → World → Prop
  | .normal, a, w => K a w
  | _, _, _ => False
section
variable {P : Program} {r : Option Nat} {n m : Nat} {ds : List Deferred} {Q : Exit → Act → World → Prop} {k : List KI} {a : Act} {w : World} {l : List (Nat × Value)}
theorem KW_exit {id : Nat} {A : Act} : ∀ {k k' : List KI}, exitW id k = some k' → KW P r m Q k' .normal A w → KW P r m Q k (.exit id) A w
  | .inBlock j :: k, k', h, g => by
    unfold exitW at h
    show Exit.inBlock j (KW P r m Q k) (.exit id) A w
    by_cases e : id = j
    · subst e
      rw [if_pos (by simp)] at h
      cases h
      show if id = id then _ else _
      rw [if_pos rfl]; exact g
    · rw [if_neg (by simpa using e)] at h
      show if id = j then _ else _
      rw [if_neg e]; exact KW_exit h g
  | .code y :: k, k', h, g => KW_exit (k := k) h g
  | .again J :: k, k', h, g => KW_exit (k := k) h g
theorem KW_ret {A : Act} : ∀ {k : List KI}, Q .ret A w → KW P r m Q k .ret A w
  | [], g => g
  | .inBlock _ :: k, g => KW_ret (k := k) g
  | .code _ :: k, g => KW_ret (k := k) g
  | .again _ :: k, g => KW_ret (k := k) g
theorem EndsW.seq {x y : Code} (h : EndsW P r m Q ds (.code x :: .code y :: k) a w) : EndsW P r m Q ds (.code (.seq x y) :: k) a w := wpIn_seq h
theorem EndsW.skip (h : EndsW P r m Q ds k a w) : EndsW P r m Q ds (.code .skip :: k) a w := wpIn_skip h
theorem EndsW.block {id : Nat} {c : Code} (h : EndsW P r m Q ds (.code c :: .inBlock id :: k) a w) : EndsW P r m Q ds (.code (.block id c) :: k) a w := wpIn_block h
theorem EndsW.inBlock {id : Nat} (h : EndsW P r m Q ds k a w) : EndsW P r m Q ds (.inBlock id :: k) a w := h
theorem EndsW.exit {id : Nat} {k' : List KI} (he : exitW id k = some k') (h : EndsW P r m Q ds k' a w) : EndsW P r m Q ds (.code (.exit id) :: k) a w := wpIn_exit (KW_exit he h)
theorem EndsW.retQ (h : Q .ret (suf ds a) w) : EndsW P r m Q ds (.code .ret :: k) a w := wpIn_ret (KW_ret h)
theorem EndsW.endQ (h : Q .normal (suf ds a) w) : EndsW P r m Q ds [] a w := h
theorem EndsW.condT {c : Operand} {x y : Code} (hA : St n l a) (hc : opv l c = some (.bool true)) (h : EndsW P r m Q ds (.code x :: k) a w) : EndsW P r m Q ds (.code (.cond c x y) :: k) a w :=
  wpIn_cond_true (by rw [suf_eval]; exact hA.eval hc) h
theorem EndsW.condF {c : Operand} {x y : Code} (hA : St n l a) (hc : opv l c = some (.bool false)) (h : EndsW P r m Q ds (.code y :: k) a w) : EndsW P r m Q ds (.code (.cond c x y) :: k) a w :=
  wpIn_cond_false (by rw [suf_eval]; exact hA.eval hc) h
theorem EndsW.ite {c : Operand} {x y : Code} {p : Prop} [Decidable p] (hA : St n l a) (hc : opv l c = some (.bool (decide p)))
    (ht : p → EndsW P r m Q ds (.code x :: k) a w) (hf : ¬ p → EndsW P r m Q ds (.code y :: k) a w) : EndsW P r m Q ds (.code (.cond c x y) :: k) a w := by
  by_cases hp : p
  · rw [decide_eq_true hp] at hc; exact EndsW.condT hA hc (ht hp)
  · rw [decide_eq_false hp] at hc; exact EndsW.condF hA hc (hf hp)
theorem EndsW.iteB {c : Operand} {x y : Code} {p : Bool} (hA : St n l a) (hc : opv l c = some (.bool p))
    (ht : p = true → EndsW P r m Q ds (.code x :: k) a w) (hf : p = false → EndsW P r m Q ds (.code y :: k) a w) : EndsW P r m Q ds (.code (.cond c x y) :: k) a w := by
  cases p
  · exact EndsW.condF hA hc (hf rfl)
  · exact EndsW.condT hA hc (ht rfl)
theorem EndsW.loop {c : Code} {σ : Type} (I : σ → Act → World → Prop) (μ : σ → Nat) (s0 : σ) (h0 : I s0 a w)
    (hr : ∀ s a w, I s a w → ∀ J : Act → World → Prop, (∀ s' a' w', μ s' < μ s → I s' a' w' → EndsW P r m Q ds (.again J :: k) a' w') → EndsW P r m Q ds (.code c :: .again J :: k) a w) :
    EndsW P r m Q ds (.code (.loop c) :: k) a w := by
  have key : ∀ j s a w, μ s < j → I s a w → Code.roundsIn (wideR r) m P c (KW P r m Q k) j (suf ds a) w := by
    intro j
    induction j with
    | zero => intro s a w h; exact absurd h (Nat.not_lt_zero _)
    | succ j ih =>
      intro s a w hj hI
      exact hr s a w hI (Code.roundsIn (wideR r) m P c (KW P r m Q k) j) fun s' a' w' hlt hI' => ih s' a' w' (by omega) hI'
  exact wpIn_loop_rounds (μ s0 + 1) (key _ s0 a w (Nat.lt_succ_self _) h0)
theorem EndsW.cut {c : Code} (I : Act → World → Prop) (h2 : ∀ a w, I a w → EndsW P r m Q ds k a w)
    (h1 : ∀ k' : List KI, (∀ a w, I a w → EndsW P r m Q ds k' a w) → EndsW P r m Q ds (.code c :: k') a w) : EndsW P r m Q ds (.code c :: k) a w := h1 k h2
theorem aftW_out {K : Act → World → Prop} : ¬ LetsOut (AftW K) := fun ⟨_, _, h⟩ => h
theorem EndsW.region {id : Nat} {os : List Oper} (h : wpList P os.toArray (AftW (EndsW P r m Q ds k)) os a w) (hd : os.all noDef = true := by rfl) : EndsW P r m Q ds (.code (.region id os.toArray false) :: k) a w :=
  wpIn_region_lit (wpList_toIn (fun _ _ _ h => h) aftW_out (fun _ _ h => h) os a w hd h)
theorem EndsW.drawn {id : Nat} {os : List Oper} (S : World → Prop) (is : Ordt) (last : Nat) (hm : P.follows .mixedOrders = true) (hs : Region.noSelect os.toArray = true)
    (hl : Nat.ble is.depth os.toArray.size = true) (hok : okOrd last os.toArray is (Array.replicate os.toArray.size false) = true) (hS : S w.drew) (h : wpOrd P last os (AftW (EndsW P r m Q ds k)) S false is a w.drew) (hd : os.all noDef = true := by rfl) :
    EndsW P r m Q ds (.code (.region id os.toArray true) :: k) a w :=
  wpIn_region_any hm (wpAny_toIn (fun i o ho => by
    rw [List.getElem?_toArray] at ho
    exact List.all_eq_true.1 hd o (List.mem_of_getElem? ho)) (fun _ _ _ h => h) aftW_out (fun _ _ h => h) _ _ _ _
    (wpAnyL_any _ _ _ _ (wpAnyL_of_ord hs (fun _ _ _ h => h) is _ _ _ _ _ (by simpa using hl) hok (fun h => by rw [replicate_getD] at h; cases h) (fun _ => hS) (fun h => by cases h) h)))
theorem S.doneW {ops : Array Oper} {K : Act → World → Prop} (h : K a w) : wpList P ops (AftW K) [] a w := h
theorem D.doneW {last : Nat} {os : List Oper} {S : World → Prop} {b0 : Bool} {K : Act → World → Prop} (h : K a w) : wpOrd P last os (AftW K) S b0 .nil a w := h
theorem CallsIn.of_endsW {f : FuncId} {R : Ending → World → Prop} {fn : Func} {c : Code} {vs : List Value} (hf : P.funcs[f]? = some fn) (hb : fn.body = some c) (hn : fn.ntmps = n) (hv : Nat.ble vs.length n = true)
    (h : ∀ a, St n (ini 0 vs) a → EndsW P none m (bodyPostM Fence.wide m P fn R) [] [.code c] a w) : CallsIn Fence.wide m P f vs.toArray w R := by
  refine callsIn_of_wp_marks hf hb trivial ?_
  have hle : vs.length ≤ n := by simpa using hv
  have h2 := h { tmps := vs.toArray ++ Array.replicate (fn.ntmps - vs.toArray.size) undef, defers := [] } ⟨?_, rfl, fun i v hi => ?_⟩
  · unfold EndsW at h2
    rw [suf_nil] at h2
    exact h2
  · simp [hn]; omega
  · obtain ⟨-, h2⟩ := ini_lk vs 0 i v hi
    have hlt : i < vs.length := by
      rcases Nat.lt_or_ge i vs.length with g | g
      · exact g
      · rw [List.getElem?_eq_none (by simpa using g)] at h2; cases h2
    rw [Array.getElem?_append_left (by simpa using hlt)]
    simpa using h2
theorem Calls.of_endsW {f : FuncId} {R : Ending → World → Prop} {fn : Func} {c : Code} {vs : List Value} (m : Nat) (hf : P.funcs[f]? = some fn) (hb : fn.body = some c) (hn : fn.ntmps = n) (hv : Nat.ble vs.length n = true)
    (h : ∀ a, St n (ini 0 vs) a → EndsW P none m (bodyPostM Fence.wide m P fn R) [] [.code c] a w) : Calls P f vs.toArray w R := callsIn_wide.1 (CallsIn.of_endsW hf hb hn hv h)
end
end Go.Proofs.YtjjbognomeplbaaDoor
namespace Go.Proofs.YtjjbognomeplbaaDoor
open Go.RowKit
section
variable {P : Program} {l : List (Nat × Value)} {w w' : World}
theorem R.yield {z x : Operand} {ats : Array TypeId} {ty : TypeId} {q : Nat} {v : Value} {nx : Next} (hz : opv l z = some (.func (.yield q) #[] #[])) (hx : opv l x = some v) (hy : (Instr.yield q #[v]).run P w = .ok nx w') : RunN P l w (.call { callee := .value z, args := #[x], argTypes := ats }) ty nx w' := fun ev h _ _ _ _ => by
  simp [execOp, resolve, h _ _ hz, h _ _ hx, Deferred.ofValue, invoke, hy]
end
section
variable {P : Program} {r : Option Nat} {n m : Nat} {ds : List Deferred} {Q : Exit → Act → World → Prop} {k : List KI} {a : Act} {w w' : World} {l : List (Nat × Value)} {ops : Array Oper} {rest : List Oper}
theorem EndsW.regionI {id : Nat} {os : List Oper} (h : wpListIn (wideR r) m P os.toArray (KW P r m Q k) os (suf ds a) w) : EndsW P r m Q ds (.code (.region id os.toArray false) :: k) a w := wpIn_region_lit h
theorem SI.done (h : EndsW P r m Q ds k a w) : wpListIn (wideR r) m P ops (KW P r m Q k) [] (suf ds a) w := h
theorem SI.val {d : Nat} {op : Op} {ty : TypeId} {pos : String} {aft : Array Edge} {v : Value} (hA : St n l a) (hr : Run P l w op ty v w') (hd : Nat.blt d n = true)
    (h : ∀ a, St n ((d, v) :: l) a → wpListIn (wideR r) m P ops Q rest (suf ds a) w') (hnd : noDef { dst := some d, op, type := ty, pos, after := aft, guard := none } = true := by rfl) :
    wpListIn (wideR r) m P ops Q ({ dst := some d, op, type := ty, pos, after := aft, guard := none } :: rest) (suf ds a) w := by
  unfold wpListIn
  rw [if_pos (by simp [Region.wanted])]
  refine ⟨fun _ _ => trivial, ?_⟩
  rw [Oper.semAt_eq _ _ _ (noDef_ne hnd), suf_eval, hr a.eval (fun x u hx => hA.eval hx)]
  show wpListIn (wideR r) m P ops Q rest ((suf ds a).put (some d) v) w'
  rw [suf_put]
  exact h _ (hA.put hd v)
theorem SI.yield {d q : Nat} {z x : Operand} {ats : Array TypeId} {ty : TypeId} {pos : String} {aft : Array Edge} {v : Value} {Rr : Ending → World → Prop} (hA : St n l a) (hz : opv l z = some (.func (.yield q) #[] #[])) (hx : opv l x = some v) (hd : Nat.blt d n = true)
    (hY : YieldAt Fence.wide (m - 1) P q #[v] w Rr) (h : ∀ e w', Rr e w' → ∃ u, e = .returned u ∧ ∀ a, St n ((d, u) :: l) a → wpListIn (wideR none) m P ops Q rest (suf ds a) w') :
    wpListIn (wideR none) m P ops Q ({ dst := some d, op := .call { callee := .value z, args := #[x], argTypes := ats }, type := ty, pos, after := aft, guard := none } :: rest) (suf ds a) w := by
  obtain ⟨fn, tmps, assign, body, hy, hR⟩ := hY
  unfold wpListIn
  rw [if_pos (by simp [Region.wanted])]
  refine ⟨fun _ _ => trivial, ?_⟩
  rw [Oper.semAt_eq _ _ _ (fun c e => by cases e), suf_eval, R.yield hz hx hy a.eval (fun x u hx => hA.eval hx)]
  refine ⟨fun g => by simp [wideR] at g, ?_⟩
  refine RoundIn.mono hR fun e w2 he => ?_
  obtain ⟨u, rfl, hu⟩ := h e w2 he
  show wpListIn (wideR none) m P ops Q rest ((suf ds a).put (some d) u) w2
  rw [suf_put]
  exact hu _ (hA.put hd u)
end
def Ck.cellsy (c : Ck) : Prop := ∀ w b, c.holds w → c.foot b → ∃ o, w.heap[b]? = some o ∧ o.isCells = true
theorem pt_cellsy (b : Nat) (cs : Array Value) (t : TypeId) : (pt b cs t).cellsy := fun w c h hc => by cases hc; exact ⟨_, h, rfl⟩
theorem own_cellsy (e : TypeId) (sz : Nat) (v : Value) (n : Nat) (xs : List Value) : (own e sz v n xs).cellsy := fun w b h hb => by
  rcases h.2 with ⟨hn, -⟩ | ⟨g, cap, cur, rfl, hb', hg, -⟩
  · subst hn; cases hb
  · cases hb; exact ⟨_, hg, rfl⟩
def dfr (D : Nat) : Ck := ⟨fun b => b = D, fun w => w.heap[D]? = some (.deferred (some [])), fun w w' h hw => by rw [h D rfl]; exact hw⟩
section
variable {w0 w w' : World} {F : Nat → Prop} {L L' : List Ck}
theorem Mem.grow {row : Option Nat} (h : Mem w0 F L w) (hg : w.grownBy w' row) (hr : ∀ r, row = some r → (w0.heap.size ≤ r ∨ F r) ∧ ∀ c ∈ L, ¬ c.foot r) : Mem w0 F L w' := by
  have hk : ∀ b, b < w.heap.size → some b ≠ row → w'.heap[b]? = w.heap[b]? := fun b hb hne => hg.block b hb hne
  refine ⟨hg.os.trans h.os, hg.tape.trans h.tape, hg.output.trans h.output, Nat.le_trans h.size hg.size, fun b hb hF => ?_, fun c hc => ?_, fun c hc b hb => ⟨Nat.lt_of_lt_of_le (h.inb c hc b hb).1 hg.size, (h.inb c hc b hb).2⟩, h.apart⟩
  · rw [hk b (Nat.lt_of_lt_of_le hb h.size) (fun e => ?_)]
    · exact h.old b hb hF
    · rcases (hr b e.symm).1 with g | g
      · omega
      · exact hF g
  · refine c.loc w w' (fun b hb => hk b (h.inb c hc b hb).1 fun e => (hr b e.symm).2 c hc hb) (h.holds c hc)
end
def mark (D : Nat) : Deferred := { target := .collected D, args := #[] }
def KpB (G : Nat → Prop) (A B : World) : Prop := ∀ b, G b → B.heap[b]? = A.heap[b]?
theorem KpB.trans {G : Nat → Prop} {A B C : World} (h : KpB G A B) (k : KpB G B C) : KpB G A C := fun b hb => (k b hb).trans (h b hb)
def bodyQ {α σ : Type} (C : σ → List Ck) (Inv : List α → σ → Prop) (Ivx : Code → List α → σ → Prop) (xs : List α) (L : List Ck) (W : World) : Exit → Act → World → Prop
  | .normal, _, W' => ∃ s, Inv xs s ∧ Mem W (feet L) (C s) W'
  | .ret, _, W' => ∃ s, Ivx .ret xs s ∧ Mem W (feet L) (C s) W'
  | .exit id, _, W' => ∃ s, Ivx (.exit id) xs s ∧ Mem W (feet L) (C s) W'
  | _, _, _ => False
section
variable {P : Program} {n m : Nat} {ds : List Deferred} {Q : Exit → Act → World → Prop} {k : List KI} {a : Act} {w w0 : World} {l : List (Nat × Value)} {F : Nat → Prop}
theorem St.params (hA : St n l a) {p : Nat} {v : Value} (hp : Nat.blt p n = true) : St n ((p, v) :: l) { tmps := a.tmps.setIfInBounds p v, defers := [] } := by
  have h := hA.put hp v
  exact ⟨h.size, rfl, h.has⟩
end
section
variable {P : Program} {n m : Nat} {ds : List Deferred} {R : Ending → World → Prop} {k : List KI} {a : Act} {w w0 : World} {l : List (Nat × Value)} {L : List Ck} {fn : Func}
theorem leave0 {v : Value} (hA : a.defers = []) (hv : (results fn a.tmps).run P w = .ok v w) (hR : R (.returned v) w) : LeavesInM Fence.wide m P fn (suf [] a).tmps R (suf [] a).defers .returning w := by
  show LeavesInM Fence.wide m P fn a.tmps R (a.defers ++ []) .returning w
  rw [hA]
  exact ⟨v, hv, hR⟩
end
end Go.Proofs.YtjjbognomeplbaaDoor
namespace Go.Proofs.YtjjbognomeplbaaDoor
open Go.RowKit
def frs (B : Nat) (a : Option Addr) : Prop := ∀ p, a = some p → B ≤ p.block
theorem frs.mono {B C : Nat} {a : Option Addr} (h : frs C a) (hb : B ≤ C) : frs B a := fun p hp => Nat.le_trans hb (h p hp)
def rd (a : Option Addr) (c : Nat) (X : List Int) : Ck :=
  ⟨fun b => X ≠ [] ∧ ∃ p, a = some p ∧ p.block = b, fun w => IntSl w (.slice a X.length c) X, fun w w' h hw => by
    obtain ⟨a', c', he, h1, h2, h3, h4⟩ := hw
    refine ⟨a', c', he, h1, h2, h3, fun hne => ?_⟩
    obtain ⟨b, off, hb, hlt, hc⟩ := h4 hne
    cases he
    have hh := h b ⟨hne, _, hb, rfl⟩
    refine ⟨b, off, hb, ?_, fun i hi => ?_⟩
    · have h5 := Array.getElem?_eq_some_iff.1 (hh.trans (Array.getElem?_eq_getElem hlt))
      exact h5.1
    · rw [← hc i hi]; simp only [World.cell?, hh]⟩
theorem Mem.rd {w0 w : World} {F : Nat → Prop} {L : List Ck} {k c : Nat} {a : Option Addr} {X : List Int} (hM : Mem w0 F L w) (hk : ith L k = some (rd a c X)) : IntSl w (.slice a X.length c) X := hM.mem hk
theorem Mem.callRd {w0 w w' : World} {F : Nat → Prop} {L : List Ck} {c : Nat} {a : Option Addr} {X : List Int} (hM : Mem w0 F L w) (hb : Below w.heap.size w w') (h : IntSl w' (.slice a X.length c) X) (hf : frs w.heap.size a) : Mem w0 F (Go.Proofs.YtjjbognomeplbaaDoor.rd a c X :: L) w' := by
  have h1 := hM.callB hb
  refine ⟨h1.os, h1.tape, h1.output, h1.size, h1.old, fun d hd => ?_, fun d hd b hdb => ?_, List.pairwise_cons.2 ⟨fun d hd b hab hdb => ?_, h1.apart⟩⟩
  · rcases List.mem_cons.1 hd with rfl | hd
    · exact h
    · exact h1.holds d hd
  · rcases List.mem_cons.1 hd with rfl | hd
    · obtain ⟨hne, p, hp, rfl⟩ := hdb
      obtain ⟨a', c', he, -, -, -, h4⟩ := h
      obtain ⟨b, off, hb', hlt, -⟩ := h4 hne
      cases he
      rw [hp] at hb'
      cases hb'
      have := hf _ hp
      have := hM.size
      exact ⟨hlt, fun g => absurd g (by simp only at *; omega)⟩
    · exact h1.inb d hd b hdb
  · obtain ⟨hne, p, hp, rfl⟩ := hab
    have h2 := hf _ hp
    have h3 := (hM.inb d hd _ hdb).1
    omega
theorem Mem.ownFresh {w0 w : World} {L : List Ck} {k n m sz : Nat} {c : Nat} {e : TypeId} {a : Option Addr} {xs : List Value} (hM : Mem w0 nof L w) (hk : ith L k = some (own e sz (.slice a n c) m xs)) : frs w0.heap.size a := fun p hp => by
  subst hp
  rw [ith_eq] at hk
  have hm := List.mem_of_getElem? hk
  exact Nat.le_of_not_lt fun h => (hM.inb _ hm p.block rfl).2 h
end Go.Proofs.YtjjbognomeplbaaDoor
namespace Go.Proofs.YtjjbognomeplbaaDoor
open Go.RowKit
theorem grown_of {A B : World} (h : Below A.heap.size A B) : A.grownBy B none := ⟨h.os, h.tape, h.output, h.size, fun i hi _ => h.block i hi⟩
theorem tab_at {P : Program} {w w' : World} {name : String} {k : IntKind} {zs : List Int} {g : Nat} (h : Lib.TabIs P w name k zs) (hg : P.globalNamed name = some g) (hb : w'.heap[g]? = w.heap[g]?) : Lib.TabIs P w' name k zs := by
  unfold Lib.TabIs World.var? at *
  rw [hg] at h ⊢
  simp only [Option.bind_some] at h ⊢
  rw [hb]; exact h
theorem tab_lt {P : Program} {w : World} {name : String} {k : IntKind} {zs : List Int} {g : Nat} (h : Lib.TabIs P w name k zs) (hg : P.globalNamed name = some g) : g < w.heap.size := by
  unfold Lib.TabIs World.var? at h
  rw [hg] at h
  simp only [Option.bind_some] at h
  cases ho : w.heap[g]? with
  | none => rw [ho] at h; cases h
  | some o => exact (Array.getElem?_eq_some_iff.1 ho).1
set_option maxRecDepth 100000 in
set_option maxHeartbeats 400000 in
theorem all02 (f : Nat → Bool) (w : World) :
    Calls Tryd.prog 31 #[.agg #[.int .u64 (loW f), .int .u64 (hiW f)]] w fun e w' => ∃ b, e = .returned (.func (.func 42) #[] #[.pointer (some ⟨b, 0, none⟩)]) ∧ Mem w nof [pt b #[.int .u64 (loW f), .int .u64 (hiW f)] 61] w' := by
  have hbs := Below.refl (B := w.heap.size) w
  have hM := Mem.start w
  refine Calls.of_ends (vs := [.agg #[.int .u64 (loW f), .int .u64 (hiW f)]]) Tryd.func31 rfl Tryd.ntmps31 rfl ?_
  intro a hA
  replace hA : St 4 [(0, _)] a := hA
  refine Ends.seq (Ends.region ?_)
  refine S.box hA hM rfl rfl ?_; clear hA hM a; intro b1 w1 hb2 hM a hA
  replace hM : Mem _ _ [pt b1 #[.int .u64 (loW f), .int .u64 (hiW f)] 61] _ := hM
  refine S.val hA (R.assign rfl) rfl ?_; clear hA a; intro a hA
  refine S.done ?_
  refine Ends.seq (Ends.region ?_)
  refine S.val hA (R.to (v := .func (.func 42) #[] #[.pointer (some ⟨b1, 0, none⟩)]) (R.makeFunc rfl) rfl) rfl ?_; clear hA a; intro a hA
  refine S.val hA (R.assign rfl) rfl ?_; clear hA a; intro a hA
  refine S.done ?_
  refine Ends.ret1 Tryd.func31 Tryd.results31 hA rfl ?_
  exact ⟨b1, rfl, hM⟩
theorem Mem.apartL {w0 w : World} {F : Nat → Prop} {L M : List Ck} (h : Mem w0 F (L ++ M) w) {c : Ck} (hc : c ∈ M) {b : Nat} (hb : c.foot b) : ¬ feet L b := fun ⟨d, hd, hf⟩ => (List.pairwise_append.1 h.apart).2.2 d hd c hc b hf hb
theorem enters_fn {P : Program} {f : FuncId} {fn : Func} {c : Code} (hf : P.funcs[f]? = some fn) (hname : (fn.name == "runtime.NumGoroutine") = false) (hb : fn.body = some c) : ∀ args w, (callFunc f args).run P w = .ok (.enter f args) w := by
  intro args w
  have h1 : fn.name ≠ "runtime.NumGoroutine" := by simpa using hname
  simp [callFunc, hf, h1, hb]
end Go.Proofs.YtjjbognomeplbaaDoor
namespace Go.Proofs.YtjjbognomeplbaaDoor
open Go.RowKit Go.WideShapes Go.ChangeShapes Go.Deep
def RowSl (w : World) (v : Value) (r n : Nat) (l : List Int) : Prop :=
  ∃ a cap, v = .slice a n cap ∧ n ≤ cap ∧ cap ≤ maxLen ∧ l.length = n * r ∧ (0 < n → ∃ b off, a = some ⟨b, off, none⟩ ∧ b < w.heap.size ∧ ∀ i, i < n * r → w.cell? ⟨b, off + i, none⟩ = some (.int .i64 (l.getD i 0)))
theorem RowSl.form {w : World} {v : Value} {r n : Nat} {l : List Int} (h : RowSl w v r n l) : ∃ a cap, v = .slice a n cap := by
  obtain ⟨a, cap, rfl, -⟩ := h; exact ⟨a, cap, rfl⟩
theorem RowSl.at {w : World} {a : Option Addr} {r n cap : Nat} {l : List Int} (h : RowSl w (.slice a n cap) r n l) {i : Nat} (hi : i < n) :
    ∃ b off, a = some ⟨b, off, none⟩ ∧ ∀ j, j < r → w.cell? ⟨b, off + i * r + j, none⟩ = some (.int .i64 (l.getD (i * r + j) 0)) := by
  obtain ⟨a', cap', he, -, -, -, h⟩ := h
  cases he
  obtain ⟨b, off, rfl, -, hc⟩ := h (by omega)
  refine ⟨b, off, rfl, fun j hj => ?_⟩
  have := hc (i * r + j) (by
    have : (i + 1) * r ≤ n * r := Nat.mul_le_mul_right _ hi
    rw [Nat.succ_mul] at this; omega)
  rwa [← Nat.add_assoc] at this
section
variable {H : Type} {enc : TypeId × Value → H} {P : Program} {w : World}
end
end Go.Proofs.YtjjbognomeplbaaDoor
namespace Go.Proofs.YtjjbognomeplbaaDoor
open Go.RowKit
def Ck.cellsB (B : Nat) (c : Ck) : Prop := ∀ w b, c.holds w → c.foot b → b < B ∨ ∃ o, w.heap[b]? = some o ∧ o.isCells = true
theorem pt_cellsB (B b : Nat) (cs : Array Value) (t : TypeId) : (pt b cs t).cellsB B := fun w c h hc => .inr (pt_cellsy b cs t w c h hc)
theorem own_cellsB (B : Nat) (e : TypeId) (sz : Nat) (v : Value) (n : Nat) (xs : List Value) : (own e sz v n xs).cellsB B := fun w b h hb => .inr (own_cellsy e sz v n xs w b h hb)
section
variable {w0 w w' : World} {F : Nat → Prop} {L L' : List Ck}
theorem Mem.keepsFrom {B : Nat} (h : Mem w (feet L) L' w') (hL : ∀ c ∈ L, c.cellsB B) (hh : ∀ c ∈ L, c.holds w) : KeepsFrom B w w' :=
  ⟨h.size, fun k o hB hk ho => by
    have hlt := (Array.getElem?_eq_some_iff.1 hk).1
    rw [h.old k hlt (fun ⟨c, hc, hf⟩ => by
      rcases hL c hc w k (hh c hc) hf with g | ⟨o', h1, h2⟩
      · omega
      · rw [hk] at h1; cases h1
        rw [ho] at h2; cases h2)]
    exact hk⟩
theorem Mem.shutF {P : Program} {D : Nat} (h : Mem w0 F (dfr D :: L) w) : (Instr.takeDeferred D).run P w = .ok [] (w.putObj D (.deferred none)) ∧ Mem w0 F L (w.putObj D (.deferred none)) := by
  have hD : w.heap[D]? = some (.deferred (some [])) := h.holds _ (.head _)
  refine ⟨run_takeDeferred hD, h.tail.grow (grownBy_putObj' w D _) fun r e => ?_⟩
  cases e
  refine ⟨?_, fun c hc hf => (List.pairwise_cons.1 h.apart).1 c hc D rfl hf⟩
  rcases Nat.lt_or_ge D w0.heap.size with g | g
  · exact .inr ((h.inb _ (.head _) D rfl).2 g)
  · exact .inl g
end
section
variable {P : Program} {n m : Nat} {ds : List Deferred} {Q : Exit → Act → World → Prop} {k : List KI} {a : Act} {w w0 : World} {l : List (Nat × Value)} {F : Nat → Prop}
theorem EndsW.rangeG {α σ : Type} {g : Operand} {p d id gf NN : Nat} {Kb : Nat → Prop} {ty : TypeId} {pos : String} {aft : Array Edge} {body : Code} {lb : Array Value} {enc : α → Value} {S Sp : List α → Prop} {L M : List Ck}
  (C : σ → List Ck) (Inv : List α → σ → Prop) (Ivx : Code → List α → σ → Prop) (s0 : σ)
  (hA : St n l a) (hM : Mem w0 F (L ++ M) w) (h1 : 1 ≤ m) (hg : opv l g = some (.func (.func gf) #[] lb)) (hp : Nat.blt p n = true) (hd : Nat.blt d n = true) (eg : ∀ args w, (callFunc gf args).run P w = .ok (.enter gf args) w)
  (hseq : SeqStopsK Fence.wide (m - 1) P gf lb (fun x => #[enc x]) (KpB Kb) S Sp NN w) (hKb : ∀ b, Kb b → b < w.heap.size ∧ ¬ feet L b)
  (hcell : ∀ s, ∀ c ∈ C s, c.cellsB w.heap.size) (h0 : Inv [] s0) (hC0 : C s0 = L)
  (hbody : ∀ l' pre x s W, Inv pre s → pre.length < NN → Mem w (feet L) (C s) W → ∀ a, St n ((d, enc x) :: (p, enc x) :: l) a → EndsW P (some l') (m - 1 - 1) (bodyQ C Inv Ivx (pre ++ [x]) (C s) W) [] [.code body] a W)
  (hdone : ∀ D xs s W, S xs → Inv xs s → Mem w0 F (dfr D :: (C s ++ M)) W → EndsW P none m Q (mark D :: ds) k a W)
  (hstop : ∀ D c pre s W, Sp pre → Ivx c pre s → Mem w0 F (dfr D :: (C s ++ M)) W → EndsW P none m Q (mark D :: ds) (.code c :: k) a W) :
  EndsW P none m Q ds (.code (.rangeFunc g #[p] (.region id #[{ dst := some d, op := .assign (.tmp p), type := ty, pos, after := aft, guard := none }] false) body) :: k) a w := by
 have hML : Mem w (feet L) L w := by
  have := hM.hereN L.length
  rwa [List.take_left] at this
 have hOwn : ∀ (J : List α → σ → Prop), OwnFrom w.heap.size fun pre W => ∃ s, J pre s ∧ Mem w (feet L) (C s) W := by
  rintro J pre A B row ⟨s, hs, hm⟩ hg' hr
  refine ⟨s, hs, hm.grow hg' fun r e => ?_⟩
  obtain ⟨h2, o, h3, h4⟩ := hr r e
  refine ⟨.inl h2, fun c hc hf => ?_⟩
  rcases hcell s c hc A r (hm.holds c hc) hf with g9 | ⟨o', h5, h6⟩
  · omega
  ·
   rw [h3] at h5; cases h5
   rw [h4] at h6; cases h6
 have back : ∀ (D : Nat) (s : σ) (W : World), w.heap.size ≤ D → Mem w (feet L) (C s) W → W.heap[D]? = some (.deferred (some [])) → Mem w0 F (dfr D :: (C s ++ M)) W := by
  intro D s W hD hm hk
  have h2 : Mem w0 F (C s ++ M) W := by
   have h3 := hM.callL (L' := C s) (w' := W) L.length (by rw [List.take_left]; exact hm)
   rwa [List.drop_left] at h3
  refine ⟨h2.os, h2.tape, h2.output, h2.size, h2.old, fun c hc => ?_, fun c hc b hb => ?_, List.pairwise_cons.2 ⟨fun c hc b hb hf => ?_, h2.apart⟩⟩
  ·
   rcases List.mem_cons.1 hc with rfl | hc
   · exact hk
   · exact h2.holds c hc
  ·
   rcases List.mem_cons.1 hc with rfl | hc
   ·
    cases hb
    exact ⟨(Array.getElem?_eq_some_iff.1 hk).1, fun g => absurd (Nat.lt_of_lt_of_le g hM.size) (by omega)⟩
   · exact h2.inb c hc b hb
  ·
   cases hb
   rcases List.mem_append.1 hc with hc | hc
   ·
    rcases hcell s c hc W D (hm.holds c hc) hf with g9 | ⟨o, h5, h6⟩
    · omega
    · rw [hk] at h5; cases h5; cases h6
   ·
    have := (hM.inb c (List.mem_append_right _ hc) D hf).1
    omega
 have hsz : (suf ds a).defers = ds := by show a.defers ++ ds = ds; rw [hA.defers]; rfl
 have hact : ∀ D, ({ suf ds a with defers := { target := .collected D, args := #[] } :: (suf ds a).defers } : Act) = suf (mark D :: ds) a := fun D => by
  rw [hsz]
  show ({ a with defers := mark D :: ds } : Act) = { a with defers := a.defers ++ mark D :: ds }
  rw [hA.defers]; rfl
 show (Code.rangeFunc g #[p] _ body).wpIn (wideR none) m P (KW P none m Q k) (suf ds a) w
 refine wpIn_rangeFunc_ownG (F := Fence.wide) rfl h1 (gf := gf) (lb := lb) (by rw [suf_eval]; exact hA.eval hg) trivial eg hseq KpB.trans (fun W l' o o' hl h2 h3 h4 b hb => World.putObj_heap_other (by have := (hKb b hb).1; omega)) (Below.refl _ _) (fun _ => rfl)
  (fun pre W => ∃ s, Inv pre s ∧ Mem w (feet L) (C s) W) (fun c pre W => ∃ s, Ivx c pre s ∧ Mem w (feet L) (C s) W) (hOwn _) (fun c => hOwn _) ⟨s0, h0, by rw [hC0]; exact hML⟩
  (fun x => ({ tmps := a.tmps.setIfInBounds p (enc x), defers := [] } : Act).put (some d) (enc x)) ?_ ?_ ?_ ?_
 ·
  -- the assignment
  intro l' x W K hK
  have hA1 : St n ((p, enc x) :: l) { tmps := a.tmps.setIfInBounds p (enc x), defers := [] } := hA.params hp
  have e : ({ tmps := (#[p].zip #[enc x]).foldl (fun t (p, v) => t.setIfInBounds p v) (suf ds a).tmps, defers := [] } : Act) = { tmps := a.tmps.setIfInBounds p (enc x), defers := [] } := by simp [suf]
  rw [e]
  refine wpIn_region_lit (l := [_]) ?_
  unfold wpListIn
  rw [if_pos (by simp [Region.wanted])]
  refine ⟨fun _ _ => trivial, ?_⟩
  rw [Oper.semAt_eq _ _ _ (fun c e => by cases e)]
  show Oper.uponIn _ _ _ _ _ _ _ ((execOp (({ tmps := a.tmps.setIfInBounds p (enc x), defers := [] } : Act).eval) _).run P W)
  rw [R.assign (P := P) (w := W) (l := (p, enc x) :: l) (x := .tmp p) (v := enc x) (by simp [opv, lk]) _ (fun y u hy => hA1.eval hy)]
  exact hK
 ·
  -- a body
  rintro l' pre x W ⟨s, hs, hm⟩ hlen
  have hA1 := (hA.params (v := enc x) hp).put hd (enc x)
  have hb := hbody l' pre x s W hs hlen hm _ hA1
  unfold EndsW at hb
  rw [suf_nil] at hb
  have hW : ∀ c ∈ C s, c.holds W := hm.holds
  have kp : ∀ (s' : σ) (W' : World), Mem W (feet (C s)) (C s') W' → KeepsFrom w.heap.size W W' ∧ KpB Kb W W' ∧ Mem w (feet L) (C s') W' := fun s' W' hm' => by
   have hall : Mem w (feet L) (C s') W' := by
    have h3 := hm.callL (L' := C s') (w' := W') (C s).length (by rw [List.take_length]; exact hm')
    rwa [List.drop_length, List.append_nil] at h3
   exact ⟨hm'.keepsFrom (hcell s) hW, fun b hb => (hall.old b (hKb b hb).1 (hKb b hb).2).trans (hm.old b (hKb b hb).1 (hKb b hb).2).symm, hall⟩
  refine wpIn_mono hb fun e a' W' h => ?_
  cases e with
  | normal => obtain ⟨s', h2, h3⟩ := h; obtain ⟨k1, k2, k3⟩ := kp s' W' h3; exact ⟨k1, k2, s', h2, k3⟩
  | ret => obtain ⟨s', h2, h3⟩ := h; obtain ⟨k1, k2, k3⟩ := kp s' W' h3; exact ⟨k1, s', h2, k3⟩
  | exit id => obtain ⟨s', h2, h3⟩ := h; obtain ⟨k1, k2, k3⟩ := kp s' W' h3; exact ⟨k1, s', h2, k3⟩
  | goto t => exact h.elim
  | panic c => exact h.elim
  | outgrown => exact h.elim
 ·
  rintro D xs W hD hS ⟨s, hs, hm⟩ hk
  have := hdone D xs s W hS hs (back D s W hD hm hk)
  rw [hact]
  exact this
 ·
  rintro D c pre W hD hS ⟨s, hs, hm⟩ hk
  have := hstop D c pre s W hS hs (back D s W hD hm hk)
  rw [hact]
  exact this
end
section
variable {P : Program} {n m : Nat} {ds : List Deferred} {R : Ending → World → Prop} {k : List KI} {a : Act} {w w0 : World} {l : List (Nat × Value)} {F : Nat → Prop} {L : List Ck} {fn : Func}
theorem results_cell_one {p b : Nat} {t t' : TypeId} {v : Value} {tmps : Array Value} (hr : fn.results = #[.cell p t]) (hp : tmps.getD p undef = .pointer (some ⟨b, 0, none⟩)) (hi : szOf P t = some (false, 1)) (hb : w.heap[b]? = some (.cells #[v] t' (0, 0))) :
    (results fn tmps).run P w = .ok v w := by
  obtain ⟨d, j, hd, hj, hrow, hsz⟩ := szOf_spec hi
  have hp' : tmps[p]?.getD undef = .pointer (some ⟨b, 0, none⟩) := by simpa using hp
  have hc : w.cell? ⟨b, 0, none⟩ = some v := by simp [World.cell?, hb]
  simp [results, hr, hp', asAddr, loadVar, run_isAgg_of hd, hrow, hc]
theorem St.cellRes {kk p b : Nat} {t t' : TypeId} {v : Value} (hA : St n l a) (hM : Mem w0 F L w) (hr : fn.results = #[.cell p t]) (hp : lk l p = some (.pointer (some ⟨b, 0, none⟩))) (hk : ith L kk = some (pt b #[v] t')) (hi : szOf P t = some (false, 1)) :
    (results fn a.tmps).run P w = .ok v w := results_cell_one hr (hA.getD hp) hi (hM.block hk)
theorem leaveF {D : Nat} {v : Value} (hA : a.defers = []) (hM : Mem w0 F (dfr D :: L) w) (hR : ∀ w', Mem w0 F L w' → (results fn a.tmps).run P w' = .ok v w' ∧ R (.returned v) w') : LeavesInM Fence.wide m P fn (suf [mark D] a).tmps R (suf [mark D] a).defers .returning w := by
  show LeavesInM Fence.wide m P fn a.tmps R (a.defers ++ [mark D]) .returning w
  rw [hA]
  obtain ⟨h1, h2⟩ := hM.shutF (P := P)
  exact ⟨by simp, .inl ⟨D, _, rfl, h1, ⟨v, hR _ h2⟩⟩⟩
end
section
variable {P : Program} {n last i d : Nat} {os : List Oper} {Q : Exit → Act → World → Prop} {S : World → Prop} {b0 : Bool} {is : Ordt} {a : Act} {w : World} {l : List (Nat × Value)}
theorem D.callL {op : Op} {ty : TypeId} {pos : String} {aft : Array Edge} {g : FuncId} {args : Array Value} {R' : Ending → World → Prop} (hA : St n l a) (ho : ith os i = some { dst := some d, op, type := ty, pos, after := aft, guard := none })
    (hr : RunN P l w op ty (.enter g args) w) (hl : Nat.beq i last = true) (hd : Nat.blt d n = true)
    (hc : Calls P g args w R') (h : ∀ e w', R' e w' → ∃ v, e = .returned v ∧ ∀ a, St n ((d, v) :: l) a → wpOrd P last os Q S true is a w') : wpOrd P last os Q S b0 (.cons (i, false) is) a w :=
  wpOp_of ho rfl (by
    unfold Oper.wp
    rw [hr a.eval (fun x u hx => hA.eval hx)]
    refine hc.mono fun e w2 hR => ?_
    obtain ⟨v, rfl, hv⟩ := h e w2 hR
    refine ⟨fun _ hne => absurd (Nat.eq_of_beq_eq_true hl) hne, ?_⟩
    rw [hl, Bool.or_true]
    exact hv _ (hA.put hd v))
end
def pR (a : Option Addr) (o : Nat) : Value := .pointer (match a with | some p => some ⟨p.block, p.off + o, none⟩ | none => none)
section
variable {P : Program} {l : List (Nat × Value)} {w w' : World} {x y : Operand} {t ty : TypeId} {av : Option Addr} {r n c : Nat} {X : List Int}
theorem R.idxRow {row : Bool} {j : Nat} {i : Int} {k : IntKind} (h : RowSl w' (.slice av n c) r n X) (hi : slInfo P t = some (row, r)) (hx : opv l x = some (.slice av n c)) (hy : opv l y = some (.int k i)) (hj : 0 ≤ i ∧ i < (n : Int)) (hq : i.toNat = j) :
    Run P l w (.indexAddr t x y) ty (pR av (j * r + 0)) w := by
  obtain ⟨b, off, rfl, -⟩ := h.at (i := j) (by omega)
  exact R.indexAddr (q := off + (j * r + 0)) hi hx hy hj (by rw [hq]; rfl)
theorem R.fldRow {i off sz q c0 : Nat} {row : Bool} (h : RowSl w' (.slice av n c) r n X) (hq : q < n) (hf : fieldInfo P t i = some (off, row, sz)) (hx : opv l x = some (pR av (q * r + c0))) (hs : Nat.beq sz 0 = false) : Run P l w (.fieldAddr t x i) ty (pR av (q * r + (c0 + off))) w := by
  obtain ⟨b, o, rfl, -⟩ := h.at (i := q) hq
  exact R.fieldAddr (q := o + (q * r + (c0 + off))) hf hx hs (by show o + (q * r + c0) + off = _; omega)
theorem R.loadRow {q c0 : Nat} (h : RowSl w (.slice av n c) r n X) (hq : q < n) (hc : c0 < r) (hi : szOf P t = some (false, 1)) (hx : opv l x = some (pR av (q * r + c0))) : Run P l w (.load t x) ty (.int .i64 (X.getD (q * r + c0) 0)) w := by
  obtain ⟨b, o, rfl, hcell⟩ := h.at (i := q) hq
  have h1 := hcell c0 hc
  rw [Nat.add_assoc] at h1
  exact R.load hi hx h1
theorem R.loadRow4 {q : Nat} (h : RowSl w (.slice av n c) 4 n X) (hq : q < n) (hi : szOf P t = some (true, 4)) (hx : opv l x = some (pR av (q * 4 + 0))) :
    Run P l w (.load t x) ty (.agg #[.int .i64 (X.getD (q * 4) 0), .int .i64 (X.getD (q * 4 + 1) 0), .int .i64 (X.getD (q * 4 + 2) 0), .int .i64 (X.getD (q * 4 + 3) 0)]) w := by
  obtain ⟨b, o, rfl, hcell⟩ := h.at (i := q) hq
  refine R.loadA (cs := [.int .i64 (X.getD (q * 4) 0), .int .i64 (X.getD (q * 4 + 1) 0), .int .i64 (X.getD (q * 4 + 2) 0), .int .i64 (X.getD (q * 4 + 3) 0)]) (b := b) (o := o + (q * 4 + 0)) hi hx (fun i v hv => ?_) rfl
  have h0 := hcell 0 (by omega)
  have h1 := hcell 1 (by omega)
  have h2 := hcell 2 (by omega)
  have h3 := hcell 3 (by omega)
  match i, hv with
  | 0, hv => cases hv; exact h0
  | 1, hv => cases hv; exact h1
  | 2, hv => cases hv; exact h2
  | 3, hv => cases hv; exact h3
end
section
variable {w0 w : World} {F : Nat → Prop} {L : List Ck} {t : TypeId} {a : Option Addr} {c : Nat} {X : List Int}
theorem Mem.notFoot (h : Mem w0 F L w) {g : Nat} (hg : g < w0.heap.size) (hF : ¬ F g) : ¬ feet L g := fun ⟨c, hc, hf⟩ => hF ((h.inb c hc g hf).2 hg)
theorem Mem.ownRd (h : Mem w0 F (own t 1 (.slice a X.length c) X.length (X.map (Value.int .i64)) :: L) w) : Mem w0 F (Go.Proofs.YtjjbognomeplbaaDoor.rd a c X :: L) w :=
  h.head (h.rsl (k := 0) rfl) (fun b ⟨_, p, h1, h2⟩ => by subst h1; subst h2; rfl)
theorem Mem.emptyRd (h : Mem w0 F L w) (hX : IntSl w (.slice a 0 c) []) : Mem w0 F (Go.Proofs.YtjjbognomeplbaaDoor.rd a c [] :: L) w := h.consNo hX (fun b ⟨h, _⟩ => h rfl)
theorem Mem.ownCutA {m : Nat} (h : Mem w0 F (own t 1 (.slice a X.length c) X.length (X.map (Value.int .i64)) :: L) w) (hm : m ≤ X.length) :
    Mem w0 F (own t 1 (.slice a (X.take m).length c) (X.take m).length ((X.take m).map (Value.int .i64)) :: L) w := by
  refine h.head ?_ (fun b hb => by cases a <;> exact hb)
  have ho : w.ownsRow 0 t 1 (.slice a X.length c) X.length (X.map (Value.int .i64)) := h.mem (k := 0) rfl
  rcases ho with ⟨h1, ⟨h2, h3⟩ | ⟨g', cap', cur, h2, h3, h4, h5, h6, h7, h8⟩⟩
  · have hX : X = [] := List.length_eq_zero_iff.1 h3
    subst hX
    obtain rfl : m = 0 := by simpa using hm
    exact ⟨h1, .inl ⟨h2, h3⟩⟩
  · cases h2
    refine ⟨by simp, .inr ⟨g', c, cur, rfl, h3, h4, by rw [List.length_take]; omega, h6, h7, ?_⟩⟩
    rw [List.length_take, Nat.min_eq_left hm, List.map_take, ← h8, List.take_take]
    congr 1
    omega
end
section
variable {P : Program} {l : List (Nat × Value)} {w : World}
theorem R.callC {z : Operand} {f : FuncId} {fn : Func} {c : Code} {ats : Array TypeId} {ty : TypeId} {cap : Array Value} (hf : P.funcs[f]? = some fn) (hname : (fn.name == "runtime.NumGoroutine") = false) (hb : fn.body = some c) (hz : opv l z = some (.func (.func f) #[] cap)) :
    RunN P l w (.call { callee := .value z, args := #[], argTypes := ats }) ty (.enter f cap) w := fun ev h _ _ _ _ => by
  have h1 : fn.name ≠ "runtime.NumGoroutine" := by simpa using hname
  simp [execOp, resolve, h _ _ hz, Deferred.ofValue, invoke, callFunc, hf, h1, hb]
end
end Go.Proofs.YtjjbognomeplbaaDoor
