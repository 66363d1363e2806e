/-
  An own way to walk: what is known of a frame's slots as a list, what is known of memory as a list of chunks, one law for each step.
  It holds of every program; nothing is assumed.
-/
import Derived.WalkKit
import Derived.OrdersHeld
import Derived.Deep.RegionHeld
import Derived.KernelRfl
namespace Go.Proofs.Ytlkemphhbamcfaa
open Go.RowKit

/-! ### Slots -/

/-- The value of a slot in a list of slots. -/
def lk : List (Nat × Value) → Nat → Option Value
  | [], _ => none
  | (j, v) :: l, i => match Nat.beq i j with | true => some v | false => lk l i

def opv (l : List (Nat × Value)) : Operand → Option Value
  | .tmp t => lk l t
  | .const v => some v
  | .global g => some (.pointer (some ⟨g, 0, none⟩))
  | .func f => some (.func (.func f) #[] #[])

def opvs (l : List (Nat × Value)) : List Operand → Option (List Value)
  | [] => some []
  | x :: xs => match opv l x with
    | none => none
    | some v => match opvs l xs with
      | none => none
      | some vs => some (v :: vs)

structure St (n : Nat) (l : List (Nat × Value)) (a : Act) : Prop where
  size : a.tmps.size = n
  defers : a.defers = []
  has : ∀ i v, lk l i = some v → a.tmps[i]? = some v

theorem St.eval {n : Nat} {l : List (Nat × Value)} {a : Act} (h : St n l a) {x : Operand} {v : Value} (hx : opv l x = some v) : a.eval x = v := by
  cases x with
  | tmp t =>
    have := h.has t v hx
    simp only [Act.eval, Array.getD_eq_getD_getElem?, this, Option.getD_some]
  | const u => simpa [opv, Act.eval] using hx
  | global g => simpa [opv, Act.eval] using hx
  | func f => simpa [opv, Act.eval] using hx

theorem St.put {n : Nat} {l : List (Nat × Value)} {a : Act} (h : St n l a) {d : Nat} (hd : Nat.blt d n = true) (v : Value) : St n ((d, v) :: l) (a.put (some d) v) := by
  have hd' : d < n := Nat.le_of_ble_eq_true hd
  refine ⟨by simp [Act.put, h.size], h.defers, fun i u hu => ?_⟩
  simp only [lk] at hu
  show (a.tmps.setIfInBounds d v)[i]? = some u
  rw [Array.getElem?_setIfInBounds]
  by_cases hi : d = i
  · subst hi
    have e : Nat.beq d d = true := by simp
    rw [e] at hu
    simp only [Option.some.injEq] at hu
    rw [if_pos rfl, if_pos (by rw [h.size]; exact hd'), hu]
  · have e : Nat.beq i d = false := by
      rw [← Bool.not_eq_true, Nat.beq_eq]; exact fun e => hi e.symm
    rw [e] at hu
    rw [if_neg hi]
    exact h.has i u hu

/-- Fewer slots. -/
def Sub (l : List (Nat × Value)) : List (Nat × Value) → Prop
  | [] => True
  | (i, v) :: r => lk l i = some v ∧ Sub l r
theorem Sub.lk {l : List (Nat × Value)} : ∀ {m : List (Nat × Value)}, Sub l m → ∀ i v, Go.Proofs.Ytlkemphhbamcfaa.lk m i = some v → Go.Proofs.Ytlkemphhbamcfaa.lk l i = some v
  | [], _, i, v, h => by simp [Go.Proofs.Ytlkemphhbamcfaa.lk] at h
  | (j, u) :: m, ⟨h1, h2⟩, i, v, h => by
    simp only [Go.Proofs.Ytlkemphhbamcfaa.lk] at h
    by_cases e : i = j
    · subst e
      have e' : Nat.beq i i = true := by simp
      rw [e'] at h
      simp only [Option.some.injEq] at h
      rw [← h]; exact h1
    · have e' : Nat.beq i j = false := by rw [← Bool.not_eq_true, Nat.beq_eq]; exact e
      rw [e'] at h
      exact Sub.lk h2 i v h
theorem Sub.nil {l : List (Nat × Value)} : Sub l [] := trivial
theorem Sub.cons {l m : List (Nat × Value)} {i : Nat} {v : Value} (h : Go.Proofs.Ytlkemphhbamcfaa.lk l i = some v) (hs : Sub l m) : Sub l ((i, v) :: m) := ⟨h, hs⟩
theorem St.sub {n : Nat} {l m : List (Nat × Value)} {a : Act} (h : St n l a) (hs : Sub l m) : St n m a := ⟨h.size, h.defers, fun i v hv => h.has i v (hs.lk i v hv)⟩

def ini : Nat → List Value → List (Nat × Value)
  | _, [] => []
  | i, v :: vs => (i, v) :: ini (i + 1) vs
theorem ini_lk : ∀ (vs : List Value) (k i : Nat) (v : Value), lk (ini k vs) i = some v → k ≤ i ∧ vs[i - k]? = some v
  | [], k, i, v, h => by simp [ini, lk] at h
  | u :: vs, k, i, v, h => by
    simp only [ini, lk] at h
    by_cases e : i = k
    · subst e
      have e' : Nat.beq i i = true := by simp
      rw [e'] at h
      simp only [Option.some.injEq] at h
      exact ⟨Nat.le_refl _, by simp [h]⟩
    · have e' : Nat.beq i k = false := by rw [← Bool.not_eq_true, Nat.beq_eq]; exact e
      rw [e'] at h
      obtain ⟨h1, h2⟩ := ini_lk vs (k + 1) i v h
      refine ⟨by omega, ?_⟩
      rw [show i - k = (i - (k + 1)) + 1 by omega]
      simpa using h2

/-! ### From a place in a function's code to the call's end -/

def Ends (P : Program) (f : FuncId) (R : Ending → World → Prop) (k : List Item) (a : Act) (w : World) : Prop :=
  ∀ (b : Frame) (cs : List Frame), b.fn = f → b.kind = .normal → ∃ e w' fr, R e w' ∧ Comes P (lone (b.at a k) cs w) (lone fr cs w') e ∧ fr.fn = f ∧ fr.leaving P w' e

section
variable {P : Program} {f : FuncId} {R : Ending → World → Prop} {k : List Item} {a : Act} {w : World} {n : Nat} {l : List (Nat × Value)}

theorem Ends.step {k' : List Item} {a' : Act} {w' : World} (hs : ∀ (b : Frame) cs, b.fn = f → b.kind = .normal → Steps P (lone (b.at a k) cs w) (lone (b.at a' k') cs w')) (h : Ends P f R k' a' w') : Ends P f R k a w :=
  fun b cs hf hk => by
    obtain ⟨e, w2, fr, hR, hc, h1, h2⟩ := h b cs hf hk
    exact ⟨e, w2, fr, hR, hc.of_steps (hs b cs hf hk), h1, h2⟩

/-- What stands behind a piece of code that comes to its end. -/
def Aft (P : Program) (f : FuncId) (R : Ending → World → Prop) (k : List Item) : Exit → Act → World → Prop
  | .normal, a, w => Ends P f R k a w
  | _, _, _ => False

theorem Ends.of_wp {c : Code} (h : c.wp P (Aft P f R k) a w) : Ends P f R (.code c :: k) a w := fun b cs hf hk => by
  obtain ⟨e, a', w', hq, harr⟩ := h b k cs
  cases e with
  | normal =>
    obtain ⟨e, w2, fr, hR, hc, h1, h2⟩ := hq b cs hf hk
    exact ⟨e, w2, fr, hR, hc.of_steps harr, h1, h2⟩
  | _ => exact hq.elim

theorem Ends.seq {x y : Code} (h : Ends P f R (.code x :: .code y :: k) a w) : Ends P f R (.code (.seq x y) :: k) a w :=
  Ends.step (fun _ _ _ _ => .one step_seq) h
theorem Ends.skip (h : Ends P f R k a w) : Ends P f R (.code .skip :: k) a w := Ends.step (fun _ _ _ _ => .one step_skip) h
theorem Ends.block {id : Nat} {c : Code} (h : Ends P f R (.code c :: .inBlock id :: k) a w) : Ends P f R (.code (.block id c) :: k) a w :=
  Ends.step (fun _ _ _ _ => .one step_block) h
theorem Ends.inBlock {id : Nat} (h : Ends P f R k a w) : Ends P f R (.inBlock id :: k) a w := Ends.step (fun _ _ _ _ => .one step_inBlock) h
theorem Ends.exit {id : Nat} {k' : List Item} (he : exitTo id k = some k') (h : Ends P f R k' a w) : Ends P f R (.code (.exit id) :: k) a w :=
  Ends.step (fun _ _ _ _ => .one (step_exit he)) h
theorem Ends.inLoop {c : Code} (h : Ends P f R (.code c :: .inLoop c :: k) a w) : Ends P f R (.inLoop c :: k) a w := Ends.step (fun _ _ _ _ => .one step_inLoop) h
theorem Ends.condT {c : Operand} {x y : Code} (hA : St n l a) (hc : opv l c = some (.bool true)) (h : Ends P f R (.code x :: k) a w) : Ends P f R (.code (.cond c x y) :: k) a w :=
  Ends.step (fun _ _ _ _ => .one (step_cond (t := true) (hA.eval hc))) h
theorem Ends.condF {c : Operand} {x y : Code} (hA : St n l a) (hc : opv l c = some (.bool false)) (h : Ends P f R (.code y :: k) a w) : Ends P f R (.code (.cond c x y) :: k) a w :=
  Ends.step (fun _ _ _ _ => .one (step_cond (t := false) (hA.eval hc))) h
theorem Ends.ite {c : Operand} {x y : Code} {p : Prop} [Decidable p] (hA : St n l a) (hc : opv l c = some (.bool (decide p)))
    (ht : p → Ends P f R (.code x :: k) a w) (hf : ¬ p → Ends P f R (.code y :: k) a w) : Ends P f R (.code (.cond c x y) :: k) a w := by
  by_cases hp : p
  · rw [decide_eq_true hp] at hc; exact Ends.condT hA hc (ht hp)
  · rw [decide_eq_false hp] at hc; exact Ends.condF hA hc (hf hp)
theorem Ends.iteB {c : Operand} {x y : Code} {p : Bool} (hA : St n l a) (hc : opv l c = some (.bool p))
    (ht : p = true → Ends P f R (.code x :: k) a w) (hf : p = false → Ends P f R (.code y :: k) a w) : Ends P f R (.code (.cond c x y) :: k) a w := by
  cases p
  · exact Ends.condF hA hc (hf rfl)
  · exact Ends.condT hA hc (ht rfl)

/-- A loop: what holds at each round's head, of a datum that grows less. -/
theorem Ends.loop {c : Code} {σ : Type} (I : σ → Act → World → Prop) (μ : σ → Nat) (s0 : σ) (h0 : I s0 a w)
    (hr : ∀ s a w, I s a w → (∀ s' a' w', μ s' < μ s → I s' a' w' → Ends P f R (.inLoop c :: k) a' w') → Ends P f R (.code c :: .inLoop c :: k) a w) :
    Ends P f R (.code (.loop c) :: k) a w := by
  have key : ∀ m s a w, μ s = m → I s a w → Ends P f R (.code c :: .inLoop c :: k) a w := by
    intro m
    induction m using Nat.strongRecOn with
    | _ m ih =>
      intro s a w hm hI
      exact hr s a w hI fun s' a' w' hlt hI' => Ends.inLoop (ih _ (hm ▸ hlt) s' a' w' rfl hI')
  exact Ends.step (fun _ _ _ _ => .one step_loop) (key _ s0 a w rfl h0)

/-- Ways meet again behind a piece of code. -/
theorem Ends.cut {c : Code} (I : Act → World → Prop) (h2 : ∀ a w, I a w → Ends P f R k a w)
    (h1 : ∀ k' : List Item, (∀ a w, I a w → Ends P f R k' a w) → Ends P f R (.code c :: k') a w) : Ends P f R (.code c :: k) a w := h1 k h2
theorem Ends.cutk {c : Code} (I : Act → World → Prop) (h2 : ∀ a w, I a w → Ends P f R k a w)
    (h1 : (∀ a w, I a w → Ends P f R k a w) → Ends P f R (.code c :: k) a w) : Ends P f R (.code c :: k) a w := h1 h2

theorem Ends.to_ret {v : Value} {fn : Func} (hf : P.funcs[f]? = some fn) (hd : a.defers = []) (hr : (results fn a.tmps).run P w = .ok v w) (hR : R (.returned v) w) :
    Ends P f R (.code .ret :: k) a w := fun b cs hb hk =>
  ⟨.returned v, w, _, hR, .one step_ret, hb, rfl, hd, by rw [show ({ b.at a (.code .ret :: k) with mode := .returning } : Frame).kind = b.kind from rfl, hk], fn,
    by rw [show ({ b.at a (.code .ret :: k) with mode := .returning } : Frame).fn = b.fn from rfl, hb]; exact hf, hr⟩
theorem Ends.to_end {v : Value} {fn : Func} (hf : P.funcs[f]? = some fn) (hd : a.defers = []) (hr : (results fn a.tmps).run P w = .ok v w) (hR : R (.returned v) w) :
    Ends P f R [] a w := fun b cs hb hk =>
  ⟨.returned v, w, _, hR, .one step_end, hb, rfl, hd, by rw [show ({ b.at a [] with mode := .returning } : Frame).kind = b.kind from rfl, hk], fn,
    by rw [show ({ b.at a [] with mode := .returning } : Frame).fn = b.fn from rfl, hb]; exact hf, hr⟩

theorem St.getD (hA : St n l a) {t : Nat} {v : Value} (h : lk l t = some v) : a.tmps.getD t undef = v := by
  have := hA.has t v h
  simp only [Array.getD_eq_getD_getElem?, this, Option.getD_some]

section
variable {fn : Func} (hf : P.funcs[f]? = some fn)
include hf
theorem Ends.ret0 (hr : fn.results = #[]) (hA : St n l a) (hR : R (.returned (.tuple #[])) w) : Ends P f R (.code .ret :: k) a w :=
  Ends.to_ret hf hA.defers (results_none hr _ _ _) hR
theorem Ends.ret1 {t : Nat} {v : Value} (hr : fn.results = #[.tmp t]) (hA : St n l a) (h1 : lk l t = some v) (hR : R (.returned v) w) : Ends P f R (.code .ret :: k) a w :=
  Ends.to_ret hf hA.defers (by rw [results_tmp hr, hA.getD h1]) hR
theorem Ends.ret2 {t u : Nat} {v x : Value} (hr : fn.results = #[.tmp t, .tmp u]) (hA : St n l a) (h1 : lk l t = some v) (h2 : lk l u = some x) (hR : R (.returned (.tuple #[v, x])) w) : Ends P f R (.code .ret :: k) a w :=
  Ends.to_ret hf hA.defers (by rw [results_tmp2 hr, hA.getD h1, hA.getD h2]) hR
theorem Ends.ret3 {t u s : Nat} {v x y : Value} (hr : fn.results = #[.tmp t, .tmp u, .tmp s]) (hA : St n l a) (h1 : lk l t = some v) (h2 : lk l u = some x) (h3 : lk l s = some y) (hR : R (.returned (.tuple #[v, x, y])) w) : Ends P f R (.code .ret :: k) a w :=
  Ends.to_ret hf hA.defers (v := .tuple #[v, x, y]) (by simp [results, hr, hA.has _ _ h1, hA.has _ _ h2, hA.has _ _ h3]) hR
theorem Ends.ret4 {t u s r : Nat} {v x y z : Value} (hr : fn.results = #[.tmp t, .tmp u, .tmp s, .tmp r]) (hA : St n l a) (h1 : lk l t = some v) (h2 : lk l u = some x) (h3 : lk l s = some y) (h4 : lk l r = some z) (hR : R (.returned (.tuple #[v, x, y, z])) w) : Ends P f R (.code .ret :: k) a w :=
  Ends.to_ret hf hA.defers (v := .tuple #[v, x, y, z]) (by simp [results, hr, hA.has _ _ h1, hA.has _ _ h2, hA.has _ _ h3, hA.has _ _ h4]) hR
theorem Ends.end0 (hr : fn.results = #[]) (hA : St n l a) (hR : R (.returned (.tuple #[])) w) : Ends P f R [] a w :=
  Ends.to_end hf hA.defers (results_none hr _ _ _) hR
end

theorem Calls.of_ends {fn : Func} {c : Code} {vs : List Value} (hf : P.funcs[f]? = some fn) (hb : fn.body = some c) (hn : fn.ntmps = n) (hv : Nat.ble vs.length n = true)
    (h : ∀ a, St n (ini 0 vs) a → Ends P f R [.code c] a w) : Calls P f vs.toArray w R := by
  intro cs
  have hle : vs.length ≤ n := by simpa using hv
  let b : Frame := { (default : Frame) with fn := f, kind := .normal }
  have henter : Frame.enter P f vs.toArray .normal =
      b.at { tmps := vs.toArray ++ Array.replicate (fn.ntmps - vs.toArray.size) undef, defers := [] } [.code c] := by
    simp [Frame.enter, Frame.at, hf, hb, b]
  rw [henter]
  refine h _ ⟨?_, rfl, fun i v hi => ?_⟩ b cs rfl rfl
  · simp [hn]; omega
  · obtain ⟨-, h2⟩ := ini_lk vs 0 i v hi
    have hlt : i < vs.length := by
      rcases Nat.lt_or_ge i vs.length with g | g
      · exact g
      · rw [List.getElem?_eq_none (by simpa using g)] at h2; cases h2
    rw [Array.getElem?_append_left (by simpa using hlt)]
    simpa using h2

/-! ### Regions -/

theorem Ends.region {id : Nat} {os : List Oper} (h : wpList P os.toArray (Aft P f R k) os a w) : Ends P f R (.code (.region id os.toArray false) :: k) a w :=
  Ends.of_wp (wp_region_lit h)

/-- What an operation comes to, whatever else the frame holds. -/
def RunN (P : Program) (l : List (Nat × Value)) (w : World) (op : Op) (ty : TypeId) (r : Next) (w' : World) : Prop :=
  ∀ ev : Operand → Value, (∀ x u, opv l x = some u → ev x = u) → ∀ dst pos aft g, (execOp ev { dst, op, type := ty, pos, after := aft, guard := g }).run P w = .ok r w'
abbrev Run (P : Program) (l : List (Nat × Value)) (w : World) (op : Op) (ty : TypeId) (v : Value) (w' : World) : Prop := RunN P l w op ty (.value v) w'

def dstOf (ops : Array Oper) (j : Nat) : Option Tmp := (ops[j]?).bind (·.dst)
theorem wanted_of {ops : Array Oper} {o : Oper} {j d : Nat} {b u : Bool} (hA : St n l a) (hg : o.guard = some (j, b)) (hj : dstOf ops j = some d) (hl : lk l d = some (.bool u)) : Region.wanted o (yielded ops a.tmps) = (u == b) := by
  have h1 := hA.has d _ hl
  unfold dstOf at hj
  unfold Region.wanted yielded
  rw [hg]
  simp only [hj, Option.bind_some, h1]
  cases u <;> cases b <;> rfl

variable {ops : Array Oper} {Q : Exit → Act → World → Prop} {rest : List Oper} {w' : World}

theorem S.val {d : Nat} {op : Op} {ty : TypeId} {pos : String} {aft : Array Edge} {v : Value} (hA : St n l a) (hr : Run P l w op ty v w') (hd : Nat.blt d n = true)
    (h : ∀ a, St n ((d, v) :: l) a → wpList P ops Q rest a w') : wpList P ops Q ({ dst := some d, op, type := ty, pos, after := aft, guard := none } :: rest) a w := by
  refine wpList_plain rfl fun K hK => ?_
  unfold Oper.wp
  rw [hr a.eval (fun x u hx => hA.eval hx)]
  exact hK _ _ (h _ (hA.put hd v))
theorem S.valg {d j dj : Nat} {b : Bool} {op : Op} {ty : TypeId} {pos : String} {aft : Array Edge} {v : Value} (hA : St n l a) (hj : dstOf ops j = some dj) (hl : lk l dj = some (.bool b)) (hr : Run P l w op ty v w') (hd : Nat.blt d n = true)
    (h : ∀ a, St n ((d, v) :: l) a → wpList P ops Q rest a w') : wpList P ops Q ({ dst := some d, op, type := ty, pos, after := aft, guard := some (j, b) } :: rest) a w := by
  refine wpList_step fun K hK => ?_
  rw [if_pos (by rw [wanted_of hA rfl hj hl]; simp)]
  unfold Oper.wp
  rw [hr a.eval (fun x u hx => hA.eval hx)]
  exact hK _ _ (h _ (hA.put hd v))
theorem S.no {d j dj : Nat} {b u : Bool} {op : Op} {ty : TypeId} {pos : String} {aft : Array Edge} (hA : St n l a) (hj : dstOf ops j = some dj) (hl : lk l dj = some (.bool u)) (hu : (u == b) = false) (hd : Nat.blt d n = true)
    (h : ∀ a, St n ((d, undef) :: l) a → wpList P ops Q rest a w) : wpList P ops Q ({ dst := some d, op, type := ty, pos, after := aft, guard := some (j, b) } :: rest) a w := by
  refine wpList_step fun K hK => ?_
  rw [wanted_of hA rfl hj hl, hu]
  exact hK _ _ (h _ (hA.put hd undef))
theorem S.skip {op : Op} {ty : TypeId} {pos : String} {aft : Array Edge} (hA : St n l a) (hr : RunN P l w op ty .skip w')
    (h : wpList P ops Q rest a w') : wpList P ops Q ({ dst := none, op, type := ty, pos, after := aft, guard := none } :: rest) a w := by
  refine wpList_plain rfl fun K hK => ?_
  unfold Oper.wp
  rw [hr a.eval (fun x u hx => hA.eval hx)]
  exact hK _ _ h
theorem S.valn {op : Op} {ty : TypeId} {pos : String} {aft : Array Edge} {v : Value} (hA : St n l a) (hr : Run P l w op ty v w')
    (h : wpList P ops Q rest a w') : wpList P ops Q ({ dst := none, op, type := ty, pos, after := aft, guard := none } :: rest) a w := by
  refine wpList_plain rfl fun K hK => ?_
  unfold Oper.wp
  rw [hr a.eval (fun x u hx => hA.eval hx)]
  exact hK _ _ h
/-- A call of a function that has a body. -/
theorem S.call {d : Nat} {op : Op} {ty : TypeId} {pos : String} {aft : Array Edge} {g : FuncId} {args : Array Value} {R' : Ending → World → Prop} (hA : St n l a) (hr : RunN P l w op ty (.enter g args) w) (hd : Nat.blt d n = true)
    (hc : Calls P g args w R') (h : ∀ e w', R' e w' → ∃ v, e = .returned v ∧ ∀ a, St n ((d, v) :: l) a → wpList P ops Q rest a w') :
    wpList P ops Q ({ dst := some d, op, type := ty, pos, after := aft, guard := none } :: rest) a w := by
  refine wpList_plain rfl fun K hK => ?_
  unfold Oper.wp
  rw [hr a.eval (fun x u hx => hA.eval hx)]
  refine hc.mono fun e w2 hR => ?_
  obtain ⟨v, rfl, hv⟩ := h e w2 hR
  exact hK _ _ (hv _ (hA.put hd v))
theorem S.callg {d j dj : Nat} {b : Bool} {op : Op} {ty : TypeId} {pos : String} {aft : Array Edge} {g : FuncId} {args : Array Value} {R' : Ending → World → Prop} (hA : St n l a) (hj : dstOf ops j = some dj) (hl : lk l dj = some (.bool b)) (hr : RunN P l w op ty (.enter g args) w) (hd : Nat.blt d n = true)
    (hc : Calls P g args w R') (h : ∀ e w', R' e w' → ∃ v, e = .returned v ∧ ∀ a, St n ((d, v) :: l) a → wpList P ops Q rest a w') :
    wpList P ops Q ({ dst := some d, op, type := ty, pos, after := aft, guard := some (j, b) } :: rest) a w := by
  refine wpList_step fun K hK => ?_
  rw [if_pos (by rw [wanted_of hA rfl hj hl]; simp)]
  unfold Oper.wp
  rw [hr a.eval (fun x u hx => hA.eval hx)]
  refine hc.mono fun e w2 hR => ?_
  obtain ⟨v, rfl, hv⟩ := h e w2 hR
  exact hK _ _ (hv _ (hA.put hd v))
theorem S.calln {op : Op} {ty : TypeId} {pos : String} {aft : Array Edge} {g : FuncId} {args : Array Value} {R' : Ending → World → Prop} (hA : St n l a) (hr : RunN P l w op ty (.enter g args) w)
    (hc : Calls P g args w R') (h : ∀ e w', R' e w' → ∃ v, e = .returned v ∧ wpList P ops Q rest a w') :
    wpList P ops Q ({ dst := none, op, type := ty, pos, after := aft, guard := none } :: rest) a w := by
  refine wpList_plain rfl fun K hK => ?_
  unfold Oper.wp
  rw [hr a.eval (fun x u hx => hA.eval hx)]
  refine hc.mono fun e w2 hR => ?_
  obtain ⟨v, rfl, hv⟩ := h e w2 hR
  exact hK _ _ hv
theorem S.done (h : Ends P f R k a w) : wpList P ops (Aft P f R k) [] a w := h

theorem St.same {d : Nat} {v : Value} (hA : St n l a) (hl : lk l d = some v) : St n ((d, v) :: l) a :=
  ⟨hA.size, hA.defers, fun i u hu => by
    simp only [lk] at hu
    by_cases e : i = d
    · subst e
      have e' : Nat.beq i i = true := by simp
      rw [e'] at hu
      simp only [Option.some.injEq] at hu
      rw [← hu]; exact hA.has _ _ hl
    · have e' : Nat.beq i d = false := by rw [← Bool.not_eq_true, Nat.beq_eq]; exact e
      rw [e'] at hu
      exact hA.has _ _ hu⟩
/-- A test that is not known yet. -/
theorem St.split {p : Prop} [Decidable p] {d : Nat} {G : Prop} (hA : St n l a) (hl : lk l d = some (.bool (decide p)))
    (ht : p → St n ((d, .bool true) :: l) a → G) (hf : ¬ p → St n ((d, .bool false) :: l) a → G) : G := by
  by_cases hp : p
  · exact ht hp (hA.same (by rw [hl, decide_eq_true hp]))
  · exact hf hp (hA.same (by rw [hl, decide_eq_false hp]))
theorem St.splitB {p : Bool} {d : Nat} {G : Prop} (hA : St n l a) (hl : lk l d = some (.bool p))
    (ht : p = true → St n ((d, .bool true) :: l) a → G) (hf : p = false → St n ((d, .bool false) :: l) a → G) : G := by
  cases p
  · exact hf rfl (hA.same hl)
  · exact ht rfl (hA.same hl)

/-! ### Regions that draw their order -/

/-- Does operation 'last' wait for operation i? (Where there is no such operation: yes.) -/
def aw (ops : Array Oper) (last i : Nat) : Bool :=
  match ops[last]? with
  | none => true
  | some o => o.after.toList.any fun ed => Region.binds .any ed && ed.on == i
theorem aw_spec {ops : Array Oper} {last i : Nat} {listed : Array Bool} (h : aw ops last i = true) (hl : last ∈ Region.ready .any ops listed) : listed.getD i false = true := by
  obtain ⟨-, o, ho, hall⟩ := mem_ready.1 hl
  unfold aw at h
  rw [ho] at h
  simp only [List.any_eq_true, Bool.and_eq_true, beq_iff_eq] at h
  obtain ⟨ed, hed, hb, hon⟩ := h
  rw [← hon]; exact hall ed (Array.mem_toList_iff.1 hed) hb
/-- What is known of the world where operation i is taken: S, if 'last' waits for it; else nothing. -/
def Wh (S : World → Prop) (ops : Array Oper) (last i : Nat) (w : World) : Prop := aw ops last i = true → S w

/-- Whatever comes up next; S holds till the operation 'last' has come up. -/
def wpAnyL (P : Program) (last : Nat) (ops : Array Oper) (Q : Exit → Act → World → Prop) (S : World → Prop) : Nat → Array Bool → Act → World → Prop
  | 0, listed, a, w => Region.ready .any ops listed = [] ∧ Q .normal a w
  | m + 1, listed, a, w => (Region.ready .any ops listed = [] → Q .normal a w) ∧
    ∀ i ∈ Region.ready .any ops listed, wpOp P ops Q i (fun a' w' => ((listed.setIfInBounds i true).getD last false = false → S w') ∧ wpAnyL P last ops Q S m (listed.setIfInBounds i true) a' w') a w
theorem wpAnyL_any {S : World → Prop} {last : Nat} {ops : Array Oper} {Q : Exit → Act → World → Prop} {P : Program} : ∀ (m : Nat) (listed : Array Bool) (a : Act) (w : World), wpAnyL P last ops Q S m listed a w → wpAny P .any ops Q m listed a w
  | 0, _, _, _, h => h
  | m + 1, _, _, _, h => ⟨h.1, fun i hi => wpOp_mono (fun a' w' g => wpAnyL_any m _ a' w' g.2) (h.2 i hi)⟩
theorem getD_false {listed : Array Bool} {i : Nat} (h : listed.getD i true = false) : i < listed.size ∧ listed.getD i false = false := by
  rcases Nat.lt_or_ge i listed.size with g | g
  · refine ⟨g, ?_⟩
    rw [Array.getD_eq_getD_getElem?, Array.getElem?_eq_getElem g] at h ⊢; exact h
  · rw [Array.getD_eq_getD_getElem?, Array.getElem?_eq_none g] at h; cases h
theorem wpAnyL_take {P : Program} {S : World → Prop} {last : Nat} {ops : Array Oper} {Q : Exit → Act → World → Prop} {i : Nat} {oi : Oper} {v : Value} (hi : ops[i]? = some oi) (hs : Region.noSelect ops = true) (hil : i ≠ last)
    (hQ : ∀ c a w, Q (.panic c) (a.put oi.dst v) w → Q (.panic c) a w) :
    ∀ (m : Nat) (listed : Array Bool) (a : Act) (w : World), (∀ j oj, ops[j]? = some oj → j ≠ i → listed.getD j true = false → (∀ e ∈ oj.after, Region.binds .any e = true → e.on ≠ i) → oi.apart ops oj = true) →
      i ∈ Region.ready .any ops listed → YieldsIf P ops (Wh S ops last i) oi v a → (aw ops last i = true → listed.getD last false = false) → (listed.getD last false = false → S w) →
      wpAnyL P last ops Q S m (listed.setIfInBounds i true) (a.put oi.dst v) w → wpAnyL P last ops Q S (m + 1) listed a w := by
  intro m
  induction m with
  | zero =>
    intro listed a w _ hr hy hN hL H
    refine ⟨fun e => (by rw [e] at hr; cases hr), fun j hj => ?_⟩
    by_cases hji : j = i
    · rw [hji]; exact hy.wpOp hi (fun h => hL (hN h)) ⟨fun h => hL (by rwa [getD_set_ne false hil] at h), H⟩
    · have h1 := ready_mono hj hji
      rw [H.1] at h1; cases h1
  | succ m ih =>
    intro listed a w hap hr hy hN hL H
    refine ⟨fun e => (by rw [e] at hr; cases hr), fun j hj => ?_⟩
    by_cases hji : j = i
    · rw [hji]; exact hy.wpOp hi (fun h => hL (hN h)) ⟨fun h => hL (by rwa [getD_set_ne false hil] at h), H⟩
    obtain ⟨-, hfalse⟩ := getD_false (mem_ready.1 hr).1
    obtain ⟨hjun, oj, hoj, hall⟩ := mem_ready.1 hj
    have hno : ∀ e ∈ oj.after, Region.binds .any e = true → e.on ≠ i := fun e he hb heq => by
      have h1 := hall e he hb
      rw [heq, hfalse] at h1; cases h1
    have h1 := wpOp_putIf hoj (hap j oj hoj hji hjun hno) (fun cs b => Region.noSelect_spec hs i oi cs b hi) (fun cs b => Region.noSelect_spec hs j oj cs b hoj) hQ hy (H.2 j (ready_mono hj hji))
    have hN' : aw ops last i = true → (listed.setIfInBounds j true).getD last false = false := fun h => by
      have hjl : j ≠ last := fun e => by
        have h2 := aw_spec h (e ▸ hj)
        rw [hfalse] at h2; cases h2
      rw [getD_set_ne false hjl]; exact hN h
    refine wpOp_mono (fun a' w' g => ?_) h1
    have hL' : (listed.setIfInBounds j true).getD last false = false → S w' := fun h => g.2.1 (by
      rw [Array.setIfInBounds_comm _ _ (Ne.symm hji), getD_set_ne false hil]; exact h)
    refine ⟨hL', ih (listed.setIfInBounds j true) a' w' (fun q oq hq hqi hqun hqno => hap q oq hq hqi ?_ hqno) (ready_mono hr (Ne.symm hji)) g.1 hN' hL' ?_⟩
    · by_cases hjq : j = q
      · rw [← hjq]; exact hjun
      · rwa [getD_set_ne true hjq] at hqun
    · rw [Array.setIfInBounds_comm _ _ hji]; exact g.2.2

/-- An order: an operation behind the other; where two may come next, both ways. -/
inductive Ordt where
  | nil
  | cons (p : Nat × Bool) (t : Ordt)
  | fork (i j : Nat) (t u : Ordt)
def Ordt.depth : Ordt → Nat
  | .nil => 0
  | .cons _ t => t.depth + 1
  | .fork _ _ t u => max t.depth u.depth + 1
/-- None of these is taken that 'last' waits for. -/
def noAw (ops : Array Oper) (last : Nat) : Ordt → Bool
  | .nil => true
  | .cons p t => (!p.2 || !aw ops last p.1) && noAw ops last t
  | .fork _ _ t u => noAw ops last t && noAw ops last u
/-- May the operations be gone through in this order, and in no other that tells? (true: taken ahead of its turn; false: nothing else may come up.) -/
def okOrd (last : Nat) (ops : Array Oper) : Ordt → Array Bool → Bool
  | .nil, listed => (Region.ready .any ops listed).isEmpty
  | .fork i j t u, listed => decide (Region.ready .any ops listed = [i, j]) && !(Nat.beq i last) && !(Nat.beq j last) && okOrd last ops t (listed.setIfInBounds i true) && okOrd last ops u (listed.setIfInBounds j true)
  | .cons (i, true) is, listed => Region.free .any ops listed i && (Region.ready .any ops listed).contains i && !(Nat.beq i last) && okOrd last ops is (listed.setIfInBounds i true)
  | .cons (i, false) is, listed => decide (Region.ready .any ops listed = [i]) && (!(Nat.beq i last) || noAw ops last is) && okOrd last ops is (listed.setIfInBounds i true)

def ith {α : Type} : List α → Nat → Option α
  | [], _ => none
  | x :: _, 0 => some x
  | _ :: xs, i + 1 => ith xs i
theorem ith_eq {α : Type} : ∀ (l : List α) (i : Nat), ith l i = l[i]?
  | [], i => by simp [ith]
  | x :: xs, 0 => by simp [ith]
  | x :: xs, i + 1 => by simp [ith, ith_eq xs i]

/-- The operations in that order; S holds till the operation 'last' has come (b: it has). -/
def wpOrd (P : Program) (last : Nat) (os : List Oper) (Q : Exit → Act → World → Prop) (S : World → Prop) : Bool → Ordt → Act → World → Prop
  | _, .nil, a, w => Q .normal a w
  | b, .fork i j t u, a, w => wpOp P os.toArray Q i (fun a' w' => (b = false → i ≠ last → S w') ∧ wpOrd P last os Q S b t a' w') a w ∧ wpOp P os.toArray Q j (fun a' w' => (b = false → j ≠ last → S w') ∧ wpOrd P last os Q S b u a' w') a w
  | b, .cons (i, true) is, a, w => ∃ o, ith os i = some o ∧ ∃ v, YieldsIf P os.toArray (Wh S os.toArray last i) o v a ∧ wpOrd P last os Q S b is (a.put o.dst v) w
  | b, .cons (i, false) is, a, w => wpOp P os.toArray Q i (fun a' w' => (b = false → i ≠ last → S w') ∧ wpOrd P last os Q S (b || Nat.beq i last) is a' w') a w
theorem wpOrd_true {S : World → Prop} {last : Nat} {os : List Oper} : ∀ (is : Ordt) (b : Bool) (a : Act) (w : World), wpOrd P last os Q S b is a w → wpOrd P last os Q S true is a w := by
  intro is
  induction is with
  | nil => intro b a w h; exact h
  | cons p is ih =>
    intro b a w h
    obtain ⟨i, first⟩ := p
    cases first with
    | true => obtain ⟨o, ho, v, hy, h⟩ := h; exact ⟨o, ho, v, hy, ih _ _ _ h⟩
    | false => exact wpOp_mono (fun a' w' g => ⟨fun e => (by cases e), ih _ _ _ g.2⟩) h
  | fork i j t u iht ihu =>
    intro b a w h
    exact ⟨wpOp_mono (fun a' w' g => ⟨fun e => (by cases e), iht _ _ _ g.2⟩) h.1, wpOp_mono (fun a' w' g => ⟨fun e => (by cases e), ihu _ _ _ g.2⟩) h.2⟩
theorem wpOrd_or {S : World → Prop} {last : Nat} {os : List Oper} {is : Ordt} {b : Bool} (x : Bool) {a : Act} {w : World} (h : wpOrd P last os Q S b is a w) : wpOrd P last os Q S (b || x) is a w := by
  cases b <;> cases x
  · exact h
  · exact wpOrd_true _ _ _ _ h
  · exact h
  · exact h

theorem wpAnyL_of_ord {S : World → Prop} {last : Nat} {os : List Oper} (hs : Region.noSelect os.toArray = true) (hQ : ∀ c a w, ¬ Q (.panic c) a w) :
    ∀ (is : Ordt) (fuel : Nat) (listed : Array Bool) (b : Bool) (a : Act) (w : World), is.depth ≤ fuel → okOrd last os.toArray is listed = true → (listed.getD last false = true → noAw os.toArray last is = true) → (listed.getD last false = false → S w) → (b = true → listed.getD last false = true) →
      wpOrd P last os Q S b is a w → wpAnyL P last os.toArray Q S fuel listed a w := by
  intro is
  induction is with
  | nil =>
    intro fuel listed b a w _ hok _ _ _ h
    have hr : Region.ready .any os.toArray listed = [] := by simpa [okOrd] using hok
    cases fuel with
    | zero => exact ⟨hr, h⟩
    | succ m => exact ⟨fun _ => h, by rw [hr]; simp⟩
  | cons p is ih =>
    intro fuel listed b a w hlen hok hK hL hB h
    obtain ⟨fuel, rfl⟩ : ∃ m, fuel = m + 1 := ⟨fuel - 1, by simp [Ordt.depth] at hlen; omega⟩
    have hlen' : is.depth ≤ fuel := by simp [Ordt.depth] at hlen; omega
    obtain ⟨i, first⟩ := p
    cases first with
    | true =>
      obtain ⟨o, ho, v, hy, h⟩ := h
      have ho' : os.toArray[i]? = some o := by rw [← ho, ith_eq]; simp
      unfold okOrd at hok
      simp only [Bool.and_eq_true, Bool.not_eq_true'] at hok
      have hil : i ≠ last := fun e => by
        have h1 := hok.1.2
        rw [e, show Nat.beq last last = true by simp] at h1; cases h1
      refine wpAnyL_take ho' hs hil (fun c a w h => (hQ _ _ _ h).elim) fuel listed a w (Region.free_spec ho' hok.1.1.1) (by simpa using hok.1.1.2) hy (fun haw => ?_) hL (ih _ _ b _ _ hlen' hok.2 (fun hl => ?_) (fun hl => hL ?_) (fun e => ?_) h)
      · cases hx : listed.getD last false with
        | false => rfl
        | true =>
          have h2 := hK hx
          unfold noAw at h2
          simp only [haw, Bool.not_true, Bool.or_self, Bool.false_and] at h2
          cases h2
      · rw [getD_set_ne false hil] at hl
        have h2 := hK hl
        unfold noAw at h2
        simp only [Bool.and_eq_true] at h2
        exact h2.2
      · rwa [getD_set_ne false hil] at hl
      · rw [getD_set_ne false hil]; exact hB e
    | false =>
      unfold okOrd at hok
      simp only [Bool.and_eq_true, decide_eq_true_eq] at hok
      refine ⟨fun e => (by rw [hok.1.1] at e; cases e), fun j hj => ?_⟩
      have hj0 := hj
      rw [hok.1.1] at hj
      have : j = i := by simpa using hj
      subst this
      obtain ⟨hlt, -⟩ := getD_false (mem_ready.1 hj0).1
      have hself : j = last → (listed.setIfInBounds j true).getD last false = true := fun e => by
        subst e
        rw [Array.getD_eq_getD_getElem?, Array.getElem?_setIfInBounds_self_of_lt hlt]; rfl
      have key : ∀ w', (b = false → j ≠ last → S w') → (listed.setIfInBounds j true).getD last false = false → S w' := fun w' hS hl => by
        have hjl : j ≠ last := fun e => by rw [hself e] at hl; cases hl
        refine hS ?_ hjl
        rw [getD_set_ne false hjl] at hl
        cases hb : b with
        | false => rfl
        | true => rw [hB hb] at hl; cases hl
      refine wpOp_mono (fun a' w' h => ⟨key w' h.1, ih _ _ (b || Nat.beq j last) _ _ hlen' hok.2 (fun hl => ?_) (key w' h.1) (fun e => ?_) h.2⟩) h
      · by_cases hjl : j = last
        · have h2 := hok.1.2
          rw [hjl, show Nat.beq last last = true by simp] at h2
          simpa using h2
        · rw [getD_set_ne false hjl] at hl
          have h2 := hK hl
          unfold noAw at h2
          simp only [Bool.and_eq_true] at h2
          exact h2.2
      · by_cases hjl : j = last
        · exact hself hjl
        · have hbq : Nat.beq j last = false := by rw [← Bool.not_eq_true, Nat.beq_eq]; exact hjl
          rw [hbq, Bool.or_false] at e
          rw [getD_set_ne false hjl]; exact hB e
  | fork i j t u iht ihu =>
    intro fuel listed b a w hlen hok hK hL hB h
    obtain ⟨fuel, rfl⟩ : ∃ m, fuel = m + 1 := ⟨fuel - 1, by simp [Ordt.depth] at hlen; omega⟩
    have hlt : t.depth ≤ fuel := by simp [Ordt.depth] at hlen; omega
    have hlu : u.depth ≤ fuel := by simp [Ordt.depth] at hlen; omega
    unfold okOrd at hok
    simp only [Bool.and_eq_true, decide_eq_true_eq, Bool.not_eq_true'] at hok
    obtain ⟨⟨⟨⟨hr, hi⟩, hj⟩, hot⟩, hou⟩ := hok
    have hil : i ≠ last := fun e => by rw [e, show Nat.beq last last = true by simp] at hi; cases hi
    have hjl : j ≠ last := fun e => by rw [e, show Nat.beq last last = true by simp] at hj; cases hj
    have hb0 : listed.getD last false = false → b = false := fun hl => by
      cases hb : b with
      | false => rfl
      | true => rw [hB hb] at hl; cases hl
    obtain ⟨h1, h2⟩ := h
    refine ⟨fun e => (by rw [hr] at e; cases e), fun q hq => ?_⟩
    rw [hr] at hq
    rcases List.mem_cons.1 hq with rfl | hq
    · refine wpOp_mono (fun a' w' h => ⟨fun hl => h.1 (hb0 (by rwa [getD_set_ne false hil] at hl)) hil, iht _ _ b _ _ hlt hot (fun hl => ?_) (fun hl => h.1 (hb0 (by rwa [getD_set_ne false hil] at hl)) hil) (fun e => by rw [getD_set_ne false hil]; exact hB e) h.2⟩) h1
      rw [getD_set_ne false hil] at hl
      have h3 := hK hl
      unfold noAw at h3
      simp only [Bool.and_eq_true] at h3
      exact h3.1
    · obtain rfl : q = j := by simpa using hq
      refine wpOp_mono (fun a' w' h => ⟨fun hl => h.1 (hb0 (by rwa [getD_set_ne false hjl] at hl)) hjl, ihu _ _ b _ _ hlu hou (fun hl => ?_) (fun hl => h.1 (hb0 (by rwa [getD_set_ne false hjl] at hl)) hjl) (fun e => by rw [getD_set_ne false hjl]; exact hB e) h.2⟩) h2
      rw [getD_set_ne false hjl] at hl
      have h3 := hK hl
      unfold noAw at h3
      simp only [Bool.and_eq_true] at h3
      exact h3.2

theorem replicate_getD (n i : Nat) : (Array.replicate n false).getD i false = false := by
  rw [Array.getD_eq_getD_getElem?, Array.getElem?_replicate]; split <;> rfl
theorem Ends.drawn {id : Nat} {os : List Oper} (S : World → Prop) (is : Ordt) (last : Nat) (hm : P.follows .mixedOrders = true) (hs : Region.noSelect os.toArray = true)
    (hl : Nat.ble is.depth os.toArray.size = true) (hok : okOrd last os.toArray is (Array.replicate os.toArray.size false) = true) (hS : S w.drew) (h : wpOrd P last os (Aft P f R k) S false is a w.drew) :
    Ends P f R (.code (.region id os.toArray true) :: k) a w :=
  Ends.of_wp (wp_region_any hm (wpAnyL_any _ _ _ _ (wpAnyL_of_ord hs (fun _ _ _ h => h) is _ _ _ _ _ (by simpa using hl) hok (fun h => by rw [replicate_getD] at h; cases h) (fun _ => hS) (fun h => by cases h) h)))

section
variable {S : World → Prop} {os : List Oper} {is : Ordt} {i last : Nat} {b0 : Bool}
theorem D.val {d : Nat} {op : Op} {ty : TypeId} {pos : String} {aft : Array Edge} {v : Value} (hA : St n l a) (ho : ith os i = some { dst := some d, op, type := ty, pos, after := aft, guard := none }) (haw : aw os.toArray last i = true)
    (hr : ∀ w, S w → Run P l w op ty v w) (hd : Nat.blt d n = true) (h : ∀ a, St n ((d, v) :: l) a → wpOrd P last os Q S b0 is a w) : wpOrd P last os Q S b0 (.cons (i, true) is) a w :=
  ⟨_, ho, v, .inl ⟨rfl, fun w hS => hr w (hS haw) a.eval (fun _ _ hx => hA.eval hx) _ _ _ _⟩, h _ (hA.put hd v)⟩
theorem D.valF {d : Nat} {op : Op} {ty : TypeId} {pos : String} {aft : Array Edge} {v : Value} (hA : St n l a) (ho : ith os i = some { dst := some d, op, type := ty, pos, after := aft, guard := none })
    (hr : ∀ w, Run P l w op ty v w) (hd : Nat.blt d n = true) (h : ∀ a, St n ((d, v) :: l) a → wpOrd P last os Q S b0 is a w) : wpOrd P last os Q S b0 (.cons (i, true) is) a w :=
  ⟨_, ho, v, .inl ⟨rfl, fun w _ => hr w a.eval (fun _ _ hx => hA.eval hx) _ _ _ _⟩, h _ (hA.put hd v)⟩
theorem D.valg {d j dj : Nat} {b : Bool} {op : Op} {ty : TypeId} {pos : String} {aft : Array Edge} {v : Value} (hA : St n l a) (ho : ith os i = some { dst := some d, op, type := ty, pos, after := aft, guard := some (j, b) }) (haw : aw os.toArray last i = true)
    (hj : dstOf os.toArray j = some dj) (hl : lk l dj = some (.bool b))
    (hr : ∀ w, S w → Run P l w op ty v w) (hd : Nat.blt d n = true) (h : ∀ a, St n ((d, v) :: l) a → wpOrd P last os Q S b0 is a w) : wpOrd P last os Q S b0 (.cons (i, true) is) a w :=
  ⟨_, ho, v, .inl ⟨by rw [wanted_of hA rfl hj hl]; simp, fun w hS => hr w (hS haw) a.eval (fun _ _ hx => hA.eval hx) _ _ _ _⟩, h _ (hA.put hd v)⟩
theorem D.valgF {d j dj : Nat} {b : Bool} {op : Op} {ty : TypeId} {pos : String} {aft : Array Edge} {v : Value} (hA : St n l a) (ho : ith os i = some { dst := some d, op, type := ty, pos, after := aft, guard := some (j, b) })
    (hj : dstOf os.toArray j = some dj) (hl : lk l dj = some (.bool b))
    (hr : ∀ w, Run P l w op ty v w) (hd : Nat.blt d n = true) (h : ∀ a, St n ((d, v) :: l) a → wpOrd P last os Q S b0 is a w) : wpOrd P last os Q S b0 (.cons (i, true) is) a w :=
  ⟨_, ho, v, .inl ⟨by rw [wanted_of hA rfl hj hl]; simp, fun w _ => hr w a.eval (fun _ _ hx => hA.eval hx) _ _ _ _⟩, h _ (hA.put hd v)⟩
theorem D.no {d j dj : Nat} {b u : Bool} {op : Op} {ty : TypeId} {pos : String} {aft : Array Edge} (hA : St n l a) (ho : ith os i = some { dst := some d, op, type := ty, pos, after := aft, guard := some (j, b) })
    (hj : dstOf os.toArray j = some dj) (hl : lk l dj = some (.bool u)) (hu : (u == b) = false)
    (hd : Nat.blt d n = true) (h : ∀ a, St n ((d, undef) :: l) a → wpOrd P last os Q S b0 is a w) : wpOrd P last os Q S b0 (.cons (i, true) is) a w :=
  ⟨_, ho, undef, .inr ⟨by rw [wanted_of hA rfl hj hl, hu], rfl⟩, h _ (hA.put hd undef)⟩
theorem wpOp_of {o : Oper} {K : Act → World → Prop} (ho : ith os i = some o) (hw : Region.wanted o (yielded os.toArray a.tmps) = true) (h : o.wp P a w K Q) : wpOp P os.toArray Q i K a w := by
  unfold wpOp
  have ho' : os.toArray[i]? = some o := by rw [List.getElem?_toArray, ← ith_eq, ho]
  simp only [ho', hw, if_true]
  exact .inl h
theorem D.eff {d : Nat} {op : Op} {ty : TypeId} {pos : String} {aft : Array Edge} {v : Value} (hA : St n l a) (ho : ith os i = some { dst := some d, op, type := ty, pos, after := aft, guard := none })
    (hr : Run P l w op ty v w') (hd : Nat.blt d n = true) (hS : S w') (h : ∀ a, St n ((d, v) :: l) a → wpOrd P last os Q S b0 is a w') : wpOrd P last os Q S b0 (.cons (i, false) is) a w :=
  wpOp_of ho rfl (by
    unfold Oper.wp
    rw [hr a.eval (fun x u hx => hA.eval hx)]
    exact ⟨fun _ _ => hS, wpOrd_or _ (h _ (hA.put hd v))⟩)
theorem D.effg {d j dj : Nat} {b : Bool} {op : Op} {ty : TypeId} {pos : String} {aft : Array Edge} {v : Value} (hA : St n l a) (ho : ith os i = some { dst := some d, op, type := ty, pos, after := aft, guard := some (j, b) })
    (hj : dstOf os.toArray j = some dj) (hl : lk l dj = some (.bool b))
    (hr : Run P l w op ty v w') (hd : Nat.blt d n = true) (hS : S w') (h : ∀ a, St n ((d, v) :: l) a → wpOrd P last os Q S b0 is a w') : wpOrd P last os Q S b0 (.cons (i, false) is) a w :=
  wpOp_of ho (by rw [wanted_of hA rfl hj hl]; simp) (by
    unfold Oper.wp
    rw [hr a.eval (fun x u hx => hA.eval hx)]
    exact ⟨fun _ _ => hS, wpOrd_or _ (h _ (hA.put hd v))⟩)
theorem D.skip {op : Op} {ty : TypeId} {pos : String} {aft : Array Edge} (hA : St n l a) (ho : ith os i = some { dst := none, op, type := ty, pos, after := aft, guard := none })
    (hr : RunN P l w op ty .skip w') (hS : b0 = false → i ≠ last → S w') (h : wpOrd P last os Q S (b0 || Nat.beq i last) is a w') : wpOrd P last os Q S b0 (.cons (i, false) is) a w :=
  wpOp_of ho rfl (by
    unfold Oper.wp
    rw [hr a.eval (fun x u hx => hA.eval hx)]
    exact ⟨hS, h⟩)
theorem D.call {d : Nat} {op : Op} {ty : TypeId} {pos : String} {aft : Array Edge} {g : FuncId} {args : Array Value} {R' : Ending → World → Prop} (hA : St n l a) (ho : ith os i = some { dst := some d, op, type := ty, pos, after := aft, guard := none })
    (hr : RunN P l w op ty (.enter g args) w) (hd : Nat.blt d n = true)
    (hc : Calls P g args w R') (h : ∀ e w', R' e w' → ∃ v, e = .returned v ∧ S w' ∧ ∀ a, St n ((d, v) :: l) a → wpOrd P last os Q S b0 is a w') : wpOrd P last os Q S b0 (.cons (i, false) is) a w :=
  wpOp_of ho rfl (by
    unfold Oper.wp
    rw [hr a.eval (fun x u hx => hA.eval hx)]
    refine hc.mono fun e w2 hR => ?_
    obtain ⟨v, rfl, hS, hv⟩ := h e w2 hR
    exact ⟨fun _ _ => hS, wpOrd_or _ (hv _ (hA.put hd v))⟩)
theorem D.callg {d j dj : Nat} {b : Bool} {op : Op} {ty : TypeId} {pos : String} {aft : Array Edge} {g : FuncId} {args : Array Value} {R' : Ending → World → Prop} (hA : St n l a) (ho : ith os i = some { dst := some d, op, type := ty, pos, after := aft, guard := some (j, b) })
    (hj : dstOf os.toArray j = some dj) (hl : lk l dj = some (.bool b))
    (hr : RunN P l w op ty (.enter g args) w) (hd : Nat.blt d n = true)
    (hc : Calls P g args w R') (h : ∀ e w', R' e w' → ∃ v, e = .returned v ∧ S w' ∧ ∀ a, St n ((d, v) :: l) a → wpOrd P last os Q S b0 is a w') : wpOrd P last os Q S b0 (.cons (i, false) is) a w :=
  wpOp_of ho (by rw [wanted_of hA rfl hj hl]; simp) (by
    unfold Oper.wp
    rw [hr a.eval (fun x u hx => hA.eval hx)]
    refine hc.mono fun e w2 hR => ?_
    obtain ⟨v, rfl, hS, hv⟩ := h e w2 hR
    exact ⟨fun _ _ => hS, wpOrd_or _ (hv _ (hA.put hd v))⟩)
theorem D.done (h : Ends P f R k a w) : wpOrd P last os (Aft P f R k) S b0 .nil a w := h
theorem D.fork {j : Nat} {t u : Ordt} (hb : Nat.beq i last = false) (hb2 : Nat.beq j last = false) (h1 : wpOrd P last os Q S b0 (.cons (i, false) t) a w) (h2 : wpOrd P last os Q S b0 (.cons (j, false) u) a w) : wpOrd P last os Q S b0 (.fork i j t u) a w := by
  unfold wpOrd at h1 h2
  rw [hb, Bool.or_false] at h1
  rw [hb2, Bool.or_false] at h2
  exact ⟨h1, h2⟩
end
end
end Go.Proofs.Ytlkemphhbamcfaa
