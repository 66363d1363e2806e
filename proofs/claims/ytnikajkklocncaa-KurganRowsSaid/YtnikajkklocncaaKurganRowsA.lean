/-
  KurganRows, part 1 of 2: what the code computes, and plain laws; no condition beside those that each theorem tells.
-/
import Derived.WalkKit
import Derived.OrdersHeld
import Derived.Deep.RegionHeld
import Derived.KernelRfl
import Derived.WalkSpells
import Derived.WalkLawsBesides
import Derived.OneCell
import Derived.Deep.QuietTactic
import Derived.BigQuiet
import Derived.Deep.MidRow
import Derived.Laws.OwnMore
import Derived.Great.BuildSlice
import Derived.Laws.RangeAny
import Derived.Lib.RuneCount
import Derived.Lib.Strings
import Derived.Laws.Strings
import Derived.Laws.Strings2
import Derived.Laws.Strings3
import Derived.Laws.Concat
import Derived.Laws.StructEq
import Derived.Lib.LaidTab
import Derived.Lib.LaidU8
import Derived.Lib.ItoaNum
import Derived.Lib.IndexLaws
import Derived.Shelf.Unicode.DecodeSlow
import Derived.Lib.Join
import Derived.Lib.ItoaLen
import Derived.Lib.ItoaMem
import Derived.Laws.BytesString
import Derived.Test.YtnikajkklocncaaRows
namespace Go.Proofs.Ytnikajkklocncaa
section
open Go.RowKit
def lk : List (Nat × Value) → Nat → Option Value
  | [], _ => none
  | (j, v) :: l, i => match Nat.beq i j with | true => some v | false => lk l i
def opv (l : List (Nat × Value)) : Operand → Option Value
  | .tmp t => lk l t
  | .const v => some v
  | .global g => some (.pointer (some ⟨g, 0, none⟩))
  | .func f => some (.func (.func f) #[] #[])
def opvs (l : List (Nat × Value)) : List Operand → Option (List Value)
  | [] => some []
  | x :: xs => match opv l x with
    | none => none
    | some v => match opvs l xs with
      | none => none
      | some vs => some (v :: vs)
structure St (n : Nat) (l : List (Nat × Value)) (a : Act) : Prop where
  size : a.tmps.size = n
  defers : a.defers = []
  has : ∀ i v, lk l i = some v → a.tmps[i]? = some v
theorem St.eval {n : Nat} {l : List (Nat × Value)} {a : Act} (h : St n l a) {x : Operand} {v : Value} (hx : opv l x = some v) : a.eval x = v := by
  cases x with
  | tmp t =>
    have := h.has t v hx
    simp only [Act.eval, Array.getD_eq_getD_getElem?, this, Option.getD_some]
  | const u => simpa [opv, Act.eval] using hx
  | global g => simpa [opv, Act.eval] using hx
  | func f => simpa [opv, Act.eval] using hx
theorem St.put {n : Nat} {l : List (Nat × Value)} {a : Act} (h : St n l a) {d : Nat} (hd : Nat.blt d n = true) (v : Value) : St n ((d, v) :: l) (a.put (some d) v) := by
  have hd' : d < n := Nat.le_of_ble_eq_true hd
  refine ⟨by simp [Act.put, h.size], h.defers, fun i u hu => ?_⟩
  simp only [lk] at hu
  show (a.tmps.setIfInBounds d v)[i]? = some u
  rw [Array.getElem?_setIfInBounds]
  by_cases hi : d = i
  · subst hi
    have e : Nat.beq d d = true := by simp
    rw [e] at hu
    simp only [Option.some.injEq] at hu
    rw [if_pos rfl, if_pos (by rw [h.size]; exact hd'), hu]
  · have e : Nat.beq i d = false := by
      rw [← Bool.not_eq_true, Nat.beq_eq]; exact fun e => hi e.symm
    rw [e] at hu
    rw [if_neg hi]
    exact h.has i u hu
def Sub (l : List (Nat × Value)) : List (Nat × Value) → Prop
  | [] => True
  | (i, v) :: r => lk l i = some v ∧ Sub l r
theorem Sub.lk {l : List (Nat × Value)} : ∀ {m : List (Nat × Value)}, Sub l m → ∀ i v, Go.Proofs.Ytnikajkklocncaa.lk m i = some v → Go.Proofs.Ytnikajkklocncaa.lk l i = some v
  | [], _, i, v, h => by simp [Go.Proofs.Ytnikajkklocncaa.lk] at h
  | (j, u) :: m, ⟨h1, h2⟩, i, v, h => by
    simp only [Go.Proofs.Ytnikajkklocncaa.lk] at h
    by_cases e : i = j
    · subst e
      have e' : Nat.beq i i = true := by simp
      rw [e'] at h
      simp only [Option.some.injEq] at h
      rw [← h]; exact h1
    · have e' : Nat.beq i j = false := by rw [← Bool.not_eq_true, Nat.beq_eq]; exact e
      rw [e'] at h
      exact Sub.lk h2 i v h
theorem Sub.nil {l : List (Nat × Value)} : Sub l [] := trivial
theorem Sub.cons {l m : List (Nat × Value)} {i : Nat} {v : Value} (h : Go.Proofs.Ytnikajkklocncaa.lk l i = some v) (hs : Sub l m) : Sub l ((i, v) :: m) := ⟨h, hs⟩
theorem St.sub {n : Nat} {l m : List (Nat × Value)} {a : Act} (h : St n l a) (hs : Sub l m) : St n m a := ⟨h.size, h.defers, fun i v hv => h.has i v (hs.lk i v hv)⟩
def ini : Nat → List Value → List (Nat × Value)
  | _, [] => []
  | i, v :: vs => (i, v) :: ini (i + 1) vs
theorem ini_lk : ∀ (vs : List Value) (k i : Nat) (v : Value), lk (ini k vs) i = some v → k ≤ i ∧ vs[i - k]? = some v
  | [], k, i, v, h => by simp [ini, lk] at h
  | u :: vs, k, i, v, h => by
    simp only [ini, lk] at h
    by_cases e : i = k
    · subst e
      have e' : Nat.beq i i = true := by simp
      rw [e'] at h
      simp only [Option.some.injEq] at h
      exact ⟨Nat.le_refl _, by simp [h]⟩
    · have e' : Nat.beq i k = false := by rw [← Bool.not_eq_true, Nat.beq_eq]; exact e
      rw [e'] at h
      obtain ⟨h1, h2⟩ := ini_lk vs (k + 1) i v h
      refine ⟨by omega, ?_⟩
      rw [show i - k = (i - (k + 1)) + 1 by omega]
      simpa using h2
def Ends (P : Program) (f : FuncId) (R : Ending → World → Prop) (k : List Item) (a : Act) (w : World) : Prop :=
  ∀ (b : Frame) (cs : List Frame), b.fn = f → b.kind = .normal → ∃ e w' fr, R e w' ∧ Comes P (lone (b.at a k) cs w) (lone fr cs w') e ∧ fr.fn = f ∧ fr.leaving P w' e
section
variable {P : Program} {f : FuncId} {R : Ending → World → Prop} {k : List Item} {a : Act} {w : World} {n : Nat} {l : List (Nat × Value)}
theorem Ends.step {k' : List Item} {a' : Act} {w' : World} (hs : ∀ (b : Frame) cs, b.fn = f → b.kind = .normal → Steps P (lone (b.at a k) cs w) (lone (b.at a' k') cs w')) (h : Ends P f R k' a' w') : Ends P f R k a w :=
  fun b cs hf hk => by
    obtain ⟨e, w2, fr, hR, hc, h1, h2⟩ := h b cs hf hk
    exact ⟨e, w2, fr, hR, hc.of_steps (hs b cs hf hk), h1, h2⟩
def Aft (P : Program) (f : FuncId) (R : Ending → World → Prop) (k : List Item) : Exit → Act → World → Prop
  | .normal, a, w => Ends P f R k a w
  | _, _, _ => False
theorem Ends.of_wp {c : Code} (h : c.wp P (Aft P f R k) a w) : Ends P f R (.code c :: k) a w := fun b cs hf hk => by
  obtain ⟨e, a', w', hq, harr⟩ := h b k cs
  cases e with
  | normal =>
    obtain ⟨e, w2, fr, hR, hc, h1, h2⟩ := hq b cs hf hk
    exact ⟨e, w2, fr, hR, hc.of_steps harr, h1, h2⟩
  | _ => exact hq.elim
theorem Ends.seq {x y : Code} (h : Ends P f R (.code x :: .code y :: k) a w) : Ends P f R (.code (.seq x y) :: k) a w :=
  Ends.step (fun _ _ _ _ => .one step_seq) h
theorem Ends.skip (h : Ends P f R k a w) : Ends P f R (.code .skip :: k) a w := Ends.step (fun _ _ _ _ => .one step_skip) h
theorem Ends.block {id : Nat} {c : Code} (h : Ends P f R (.code c :: .inBlock id :: k) a w) : Ends P f R (.code (.block id c) :: k) a w :=
  Ends.step (fun _ _ _ _ => .one step_block) h
theorem Ends.inBlock {id : Nat} (h : Ends P f R k a w) : Ends P f R (.inBlock id :: k) a w := Ends.step (fun _ _ _ _ => .one step_inBlock) h
theorem Ends.exit {id : Nat} {k' : List Item} (he : exitTo id k = some k') (h : Ends P f R k' a w) : Ends P f R (.code (.exit id) :: k) a w :=
  Ends.step (fun _ _ _ _ => .one (step_exit he)) h
theorem Ends.inLoop {c : Code} (h : Ends P f R (.code c :: .inLoop c :: k) a w) : Ends P f R (.inLoop c :: k) a w := Ends.step (fun _ _ _ _ => .one step_inLoop) h
theorem Ends.condT {c : Operand} {x y : Code} (hA : St n l a) (hc : opv l c = some (.bool true)) (h : Ends P f R (.code x :: k) a w) : Ends P f R (.code (.cond c x y) :: k) a w :=
  Ends.step (fun _ _ _ _ => .one (step_cond (t := true) (hA.eval hc))) h
theorem Ends.condF {c : Operand} {x y : Code} (hA : St n l a) (hc : opv l c = some (.bool false)) (h : Ends P f R (.code y :: k) a w) : Ends P f R (.code (.cond c x y) :: k) a w :=
  Ends.step (fun _ _ _ _ => .one (step_cond (t := false) (hA.eval hc))) h
theorem Ends.ite {c : Operand} {x y : Code} {p : Prop} [Decidable p] (hA : St n l a) (hc : opv l c = some (.bool (decide p)))
    (ht : p → Ends P f R (.code x :: k) a w) (hf : ¬ p → Ends P f R (.code y :: k) a w) : Ends P f R (.code (.cond c x y) :: k) a w := by
  by_cases hp : p
  · rw [decide_eq_true hp] at hc; exact Ends.condT hA hc (ht hp)
  · rw [decide_eq_false hp] at hc; exact Ends.condF hA hc (hf hp)
theorem Ends.iteB {c : Operand} {x y : Code} {p : Bool} (hA : St n l a) (hc : opv l c = some (.bool p))
    (ht : p = true → Ends P f R (.code x :: k) a w) (hf : p = false → Ends P f R (.code y :: k) a w) : Ends P f R (.code (.cond c x y) :: k) a w := by
  cases p
  · exact Ends.condF hA hc (hf rfl)
  · exact Ends.condT hA hc (ht rfl)
theorem Ends.loop {c : Code} {σ : Type} (I : σ → Act → World → Prop) (μ : σ → Nat) (s0 : σ) (h0 : I s0 a w)
    (hr : ∀ s a w, I s a w → (∀ s' a' w', μ s' < μ s → I s' a' w' → Ends P f R (.inLoop c :: k) a' w') → Ends P f R (.code c :: .inLoop c :: k) a w) :
    Ends P f R (.code (.loop c) :: k) a w := by
  have key : ∀ m s a w, μ s = m → I s a w → Ends P f R (.code c :: .inLoop c :: k) a w := by
    intro m
    induction m using Nat.strongRecOn with
    | _ m ih =>
      intro s a w hm hI
      exact hr s a w hI fun s' a' w' hlt hI' => Ends.inLoop (ih _ (hm ▸ hlt) s' a' w' rfl hI')
  exact Ends.step (fun _ _ _ _ => .one step_loop) (key _ s0 a w rfl h0)
theorem Ends.cut {c : Code} (I : Act → World → Prop) (h2 : ∀ a w, I a w → Ends P f R k a w)
    (h1 : ∀ k' : List Item, (∀ a w, I a w → Ends P f R k' a w) → Ends P f R (.code c :: k') a w) : Ends P f R (.code c :: k) a w := h1 k h2
theorem Ends.to_ret {v : Value} {fn : Func} (hf : P.funcs[f]? = some fn) (hd : a.defers = []) (hr : (results fn a.tmps).run P w = .ok v w) (hR : R (.returned v) w) :
    Ends P f R (.code .ret :: k) a w := fun b cs hb hk =>
  ⟨.returned v, w, _, hR, .one step_ret, hb, rfl, hd, by rw [show ({ b.at a (.code .ret :: k) with mode := .returning } : Frame).kind = b.kind from rfl, hk], fn,
    by rw [show ({ b.at a (.code .ret :: k) with mode := .returning } : Frame).fn = b.fn from rfl, hb]; exact hf, hr⟩
theorem St.getD (hA : St n l a) {t : Nat} {v : Value} (h : lk l t = some v) : a.tmps.getD t undef = v := by
  have := hA.has t v h
  simp only [Array.getD_eq_getD_getElem?, this, Option.getD_some]
section
variable {fn : Func} (hf : P.funcs[f]? = some fn)
include hf
theorem Ends.ret1 {t : Nat} {v : Value} (hr : fn.results = #[.tmp t]) (hA : St n l a) (h1 : lk l t = some v) (hR : R (.returned v) w) : Ends P f R (.code .ret :: k) a w :=
  Ends.to_ret hf hA.defers (by rw [results_tmp hr, hA.getD h1]) hR
theorem Ends.ret2 {t u : Nat} {v x : Value} (hr : fn.results = #[.tmp t, .tmp u]) (hA : St n l a) (h1 : lk l t = some v) (h2 : lk l u = some x) (hR : R (.returned (.tuple #[v, x])) w) : Ends P f R (.code .ret :: k) a w :=
  Ends.to_ret hf hA.defers (by rw [results_tmp2 hr, hA.getD h1, hA.getD h2]) hR
end
theorem Calls.of_ends {fn : Func} {c : Code} {vs : List Value} (hf : P.funcs[f]? = some fn) (hb : fn.body = some c) (hn : fn.ntmps = n) (hv : Nat.ble vs.length n = true)
    (h : ∀ a, St n (ini 0 vs) a → Ends P f R [.code c] a w) : Calls P f vs.toArray w R := by
  intro cs
  have hle : vs.length ≤ n := by simpa using hv
  let b : Frame := { (default : Frame) with fn := f, kind := .normal }
  have henter : Frame.enter P f vs.toArray .normal =
      b.at { tmps := vs.toArray ++ Array.replicate (fn.ntmps - vs.toArray.size) undef, defers := [] } [.code c] := by
    simp [Frame.enter, Frame.at, hf, hb, b]
  rw [henter]
  refine h _ ⟨?_, rfl, fun i v hi => ?_⟩ b cs rfl rfl
  · simp [hn]; omega
  · obtain ⟨-, h2⟩ := ini_lk vs 0 i v hi
    have hlt : i < vs.length := by
      rcases Nat.lt_or_ge i vs.length with g | g
      · exact g
      · rw [List.getElem?_eq_none (by simpa using g)] at h2; cases h2
    rw [Array.getElem?_append_left (by simpa using hlt)]
    simpa using h2
theorem Ends.region {id : Nat} {os : List Oper} (h : wpList P os.toArray (Aft P f R k) os a w) : Ends P f R (.code (.region id os.toArray false) :: k) a w :=
  Ends.of_wp (wp_region_lit h)
def RunN (P : Program) (l : List (Nat × Value)) (w : World) (op : Op) (ty : TypeId) (r : Next) (w' : World) : Prop :=
  ∀ ev : Operand → Value, (∀ x u, opv l x = some u → ev x = u) → ∀ dst pos aft g, (execOp ev { dst, op, type := ty, pos, after := aft, guard := g }).run P w = .ok r w'
abbrev Run (P : Program) (l : List (Nat × Value)) (w : World) (op : Op) (ty : TypeId) (v : Value) (w' : World) : Prop := RunN P l w op ty (.value v) w'
def dstOf (ops : Array Oper) (j : Nat) : Option Tmp := (ops[j]?).bind (·.dst)
theorem wanted_of {ops : Array Oper} {o : Oper} {j d : Nat} {b u : Bool} (hA : St n l a) (hg : o.guard = some (j, b)) (hj : dstOf ops j = some d) (hl : lk l d = some (.bool u)) : Region.wanted o (yielded ops a.tmps) = (u == b) := by
  have h1 := hA.has d _ hl
  unfold dstOf at hj
  unfold Region.wanted yielded
  rw [hg]
  simp only [hj, Option.bind_some, h1]
  cases u <;> cases b <;> rfl
variable {ops : Array Oper} {Q : Exit → Act → World → Prop} {rest : List Oper} {w' : World}
theorem S.val {d : Nat} {op : Op} {ty : TypeId} {pos : String} {aft : Array Edge} {v : Value} (hA : St n l a) (hr : Run P l w op ty v w') (hd : Nat.blt d n = true)
    (h : ∀ a, St n ((d, v) :: l) a → wpList P ops Q rest a w') : wpList P ops Q ({ dst := some d, op, type := ty, pos, after := aft, guard := none } :: rest) a w := by
  refine wpList_plain rfl fun K hK => ?_
  unfold Oper.wp
  rw [hr a.eval (fun x u hx => hA.eval hx)]
  exact hK _ _ (h _ (hA.put hd v))
theorem S.valg {d j dj : Nat} {b : Bool} {op : Op} {ty : TypeId} {pos : String} {aft : Array Edge} {v : Value} (hA : St n l a) (hj : dstOf ops j = some dj) (hl : lk l dj = some (.bool b)) (hr : Run P l w op ty v w') (hd : Nat.blt d n = true)
    (h : ∀ a, St n ((d, v) :: l) a → wpList P ops Q rest a w') : wpList P ops Q ({ dst := some d, op, type := ty, pos, after := aft, guard := some (j, b) } :: rest) a w := by
  refine wpList_step fun K hK => ?_
  rw [if_pos (by rw [wanted_of hA rfl hj hl]; simp)]
  unfold Oper.wp
  rw [hr a.eval (fun x u hx => hA.eval hx)]
  exact hK _ _ (h _ (hA.put hd v))
theorem S.no {d j dj : Nat} {b u : Bool} {op : Op} {ty : TypeId} {pos : String} {aft : Array Edge} (hA : St n l a) (hj : dstOf ops j = some dj) (hl : lk l dj = some (.bool u)) (hu : (u == b) = false) (hd : Nat.blt d n = true)
    (h : ∀ a, St n ((d, undef) :: l) a → wpList P ops Q rest a w) : wpList P ops Q ({ dst := some d, op, type := ty, pos, after := aft, guard := some (j, b) } :: rest) a w := by
  refine wpList_step fun K hK => ?_
  rw [wanted_of hA rfl hj hl, hu]
  exact hK _ _ (h _ (hA.put hd undef))
theorem S.skip {op : Op} {ty : TypeId} {pos : String} {aft : Array Edge} (hA : St n l a) (hr : RunN P l w op ty .skip w')
    (h : wpList P ops Q rest a w') : wpList P ops Q ({ dst := none, op, type := ty, pos, after := aft, guard := none } :: rest) a w := by
  refine wpList_plain rfl fun K hK => ?_
  unfold Oper.wp
  rw [hr a.eval (fun x u hx => hA.eval hx)]
  exact hK _ _ h
theorem S.call {d : Nat} {op : Op} {ty : TypeId} {pos : String} {aft : Array Edge} {g : FuncId} {args : Array Value} {R' : Ending → World → Prop} (hA : St n l a) (hr : RunN P l w op ty (.enter g args) w) (hd : Nat.blt d n = true)
    (hc : Calls P g args w R') (h : ∀ e w', R' e w' → ∃ v, e = .returned v ∧ ∀ a, St n ((d, v) :: l) a → wpList P ops Q rest a w') :
    wpList P ops Q ({ dst := some d, op, type := ty, pos, after := aft, guard := none } :: rest) a w := by
  refine wpList_plain rfl fun K hK => ?_
  unfold Oper.wp
  rw [hr a.eval (fun x u hx => hA.eval hx)]
  refine hc.mono fun e w2 hR => ?_
  obtain ⟨v, rfl, hv⟩ := h e w2 hR
  exact hK _ _ (hv _ (hA.put hd v))
theorem S.callg {d j dj : Nat} {b : Bool} {op : Op} {ty : TypeId} {pos : String} {aft : Array Edge} {g : FuncId} {args : Array Value} {R' : Ending → World → Prop} (hA : St n l a) (hj : dstOf ops j = some dj) (hl : lk l dj = some (.bool b)) (hr : RunN P l w op ty (.enter g args) w) (hd : Nat.blt d n = true)
    (hc : Calls P g args w R') (h : ∀ e w', R' e w' → ∃ v, e = .returned v ∧ ∀ a, St n ((d, v) :: l) a → wpList P ops Q rest a w') :
    wpList P ops Q ({ dst := some d, op, type := ty, pos, after := aft, guard := some (j, b) } :: rest) a w := by
  refine wpList_step fun K hK => ?_
  rw [if_pos (by rw [wanted_of hA rfl hj hl]; simp)]
  unfold Oper.wp
  rw [hr a.eval (fun x u hx => hA.eval hx)]
  refine hc.mono fun e w2 hR => ?_
  obtain ⟨v, rfl, hv⟩ := h e w2 hR
  exact hK _ _ (hv _ (hA.put hd v))
theorem S.done (h : Ends P f R k a w) : wpList P ops (Aft P f R k) [] a w := h
theorem St.same {d : Nat} {v : Value} (hA : St n l a) (hl : lk l d = some v) : St n ((d, v) :: l) a :=
  ⟨hA.size, hA.defers, fun i u hu => by
    simp only [lk] at hu
    by_cases e : i = d
    · subst e
      have e' : Nat.beq i i = true := by simp
      rw [e'] at hu
      simp only [Option.some.injEq] at hu
      rw [← hu]; exact hA.has _ _ hl
    · have e' : Nat.beq i d = false := by rw [← Bool.not_eq_true, Nat.beq_eq]; exact e
      rw [e'] at hu
      exact hA.has _ _ hu⟩
theorem St.split {p : Prop} [Decidable p] {d : Nat} {G : Prop} (hA : St n l a) (hl : lk l d = some (.bool (decide p)))
    (ht : p → St n ((d, .bool true) :: l) a → G) (hf : ¬ p → St n ((d, .bool false) :: l) a → G) : G := by
  by_cases hp : p
  · exact ht hp (hA.same (by rw [hl, decide_eq_true hp]))
  · exact hf hp (hA.same (by rw [hl, decide_eq_false hp]))
theorem St.splitB {p : Bool} {d : Nat} {G : Prop} (hA : St n l a) (hl : lk l d = some (.bool p))
    (ht : p = true → St n ((d, .bool true) :: l) a → G) (hf : p = false → St n ((d, .bool false) :: l) a → G) : G := by
  cases p
  · exact hf rfl (hA.same hl)
  · exact ht rfl (hA.same hl)
def aw (ops : Array Oper) (last i : Nat) : Bool :=
  match ops[last]? with
  | none => true
  | some o => o.after.toList.any fun ed => Region.binds .any ed && ed.on == i
theorem aw_spec {ops : Array Oper} {last i : Nat} {listed : Array Bool} (h : aw ops last i = true) (hl : last ∈ Region.ready .any ops listed) : listed.getD i false = true := by
  obtain ⟨-, o, ho, hall⟩ := mem_ready.1 hl
  unfold aw at h
  rw [ho] at h
  simp only [List.any_eq_true, Bool.and_eq_true, beq_iff_eq] at h
  obtain ⟨ed, hed, hb, hon⟩ := h
  rw [← hon]; exact hall ed (Array.mem_toList_iff.1 hed) hb
def Wh (S : World → Prop) (ops : Array Oper) (last i : Nat) (w : World) : Prop := aw ops last i = true → S w
def wpAnyL (P : Program) (last : Nat) (ops : Array Oper) (Q : Exit → Act → World → Prop) (S : World → Prop) : Nat → Array Bool → Act → World → Prop
  | 0, listed, a, w => Region.ready .any ops listed = [] ∧ Q .normal a w
  | m + 1, listed, a, w => (Region.ready .any ops listed = [] → Q .normal a w) ∧
    ∀ i ∈ Region.ready .any ops listed, wpOp P ops Q i (fun a' w' => ((listed.setIfInBounds i true).getD last false = false → S w') ∧ wpAnyL P last ops Q S m (listed.setIfInBounds i true) a' w') a w
theorem wpAnyL_any {S : World → Prop} {last : Nat} {ops : Array Oper} {Q : Exit → Act → World → Prop} {P : Program} : ∀ (m : Nat) (listed : Array Bool) (a : Act) (w : World), wpAnyL P last ops Q S m listed a w → wpAny P .any ops Q m listed a w
  | 0, _, _, _, h => h
  | m + 1, _, _, _, h => ⟨h.1, fun i hi => wpOp_mono (fun a' w' g => wpAnyL_any m _ a' w' g.2) (h.2 i hi)⟩
theorem getD_false {listed : Array Bool} {i : Nat} (h : listed.getD i true = false) : i < listed.size ∧ listed.getD i false = false := by
  rcases Nat.lt_or_ge i listed.size with g | g
  · refine ⟨g, ?_⟩
    rw [Array.getD_eq_getD_getElem?, Array.getElem?_eq_getElem g] at h ⊢; exact h
  · rw [Array.getD_eq_getD_getElem?, Array.getElem?_eq_none g] at h; cases h
theorem wpAnyL_take {P : Program} {S : World → Prop} {last : Nat} {ops : Array Oper} {Q : Exit → Act → World → Prop} {i : Nat} {oi : Oper} {v : Value} (hi : ops[i]? = some oi) (hs : Region.noSelect ops = true) (hil : i ≠ last)
    (hQ : ∀ c a w, Q (.panic c) (a.put oi.dst v) w → Q (.panic c) a w) :
    ∀ (m : Nat) (listed : Array Bool) (a : Act) (w : World), (∀ j oj, ops[j]? = some oj → j ≠ i → listed.getD j true = false → (∀ e ∈ oj.after, Region.binds .any e = true → e.on ≠ i) → oi.apart ops oj = true) →
      i ∈ Region.ready .any ops listed → YieldsIf P ops (Wh S ops last i) oi v a → (aw ops last i = true → listed.getD last false = false) → (listed.getD last false = false → S w) →
      wpAnyL P last ops Q S m (listed.setIfInBounds i true) (a.put oi.dst v) w → wpAnyL P last ops Q S (m + 1) listed a w := by
  intro m
  induction m with
  | zero =>
    intro listed a w _ hr hy hN hL H
    refine ⟨fun e => (by rw [e] at hr; cases hr), fun j hj => ?_⟩
    by_cases hji : j = i
    · rw [hji]; exact hy.wpOp hi (fun h => hL (hN h)) ⟨fun h => hL (by rwa [getD_set_ne false hil] at h), H⟩
    · have h1 := ready_mono hj hji
      rw [H.1] at h1; cases h1
  | succ m ih =>
    intro listed a w hap hr hy hN hL H
    refine ⟨fun e => (by rw [e] at hr; cases hr), fun j hj => ?_⟩
    by_cases hji : j = i
    · rw [hji]; exact hy.wpOp hi (fun h => hL (hN h)) ⟨fun h => hL (by rwa [getD_set_ne false hil] at h), H⟩
    obtain ⟨-, hfalse⟩ := getD_false (mem_ready.1 hr).1
    obtain ⟨hjun, oj, hoj, hall⟩ := mem_ready.1 hj
    have hno : ∀ e ∈ oj.after, Region.binds .any e = true → e.on ≠ i := fun e he hb heq => by
      have h1 := hall e he hb
      rw [heq, hfalse] at h1; cases h1
    have h1 := wpOp_putIf hoj (hap j oj hoj hji hjun hno) (fun cs b => Region.noSelect_spec hs i oi cs b hi) (fun cs b => Region.noSelect_spec hs j oj cs b hoj) hQ hy (H.2 j (ready_mono hj hji))
    have hN' : aw ops last i = true → (listed.setIfInBounds j true).getD last false = false := fun h => by
      have hjl : j ≠ last := fun e => by
        have h2 := aw_spec h (e ▸ hj)
        rw [hfalse] at h2; cases h2
      rw [getD_set_ne false hjl]; exact hN h
    refine wpOp_mono (fun a' w' g => ?_) h1
    have hL' : (listed.setIfInBounds j true).getD last false = false → S w' := fun h => g.2.1 (by
      rw [Array.setIfInBounds_comm _ _ (Ne.symm hji), getD_set_ne false hil]; exact h)
    refine ⟨hL', ih (listed.setIfInBounds j true) a' w' (fun q oq hq hqi hqun hqno => hap q oq hq hqi ?_ hqno) (ready_mono hr (Ne.symm hji)) g.1 hN' hL' ?_⟩
    · by_cases hjq : j = q
      · rw [← hjq]; exact hjun
      · rwa [getD_set_ne true hjq] at hqun
    · rw [Array.setIfInBounds_comm _ _ hji]; exact g.2.2
inductive Ordt where
  | nil
  | cons (p : Nat × Bool) (t : Ordt)
  | fork (i j : Nat) (t u : Ordt)
def Ordt.depth : Ordt → Nat
  | .nil => 0
  | .cons _ t => t.depth + 1
  | .fork _ _ t u => max t.depth u.depth + 1
def noAw (ops : Array Oper) (last : Nat) : Ordt → Bool
  | .nil => true
  | .cons p t => (!p.2 || !aw ops last p.1) && noAw ops last t
  | .fork _ _ t u => noAw ops last t && noAw ops last u
def okOrd (last : Nat) (ops : Array Oper) : Ordt → Array Bool → Bool
  | .nil, listed => (Region.ready .any ops listed).isEmpty
  | .fork i j t u, listed => decide (Region.ready .any ops listed = [i, j]) && !(Nat.beq i last) && !(Nat.beq j last) && okOrd last ops t (listed.setIfInBounds i true) && okOrd last ops u (listed.setIfInBounds j true)
  | .cons (i, true) is, listed => Region.free .any ops listed i && (Region.ready .any ops listed).contains i && !(Nat.beq i last) && okOrd last ops is (listed.setIfInBounds i true)
  | .cons (i, false) is, listed => decide (Region.ready .any ops listed = [i]) && (!(Nat.beq i last) || noAw ops last is) && okOrd last ops is (listed.setIfInBounds i true)
def ith {α : Type} : List α → Nat → Option α
  | [], _ => none
  | x :: _, 0 => some x
  | _ :: xs, i + 1 => ith xs i
theorem ith_eq {α : Type} : ∀ (l : List α) (i : Nat), ith l i = l[i]?
  | [], i => by simp [ith]
  | x :: xs, 0 => by simp [ith]
  | x :: xs, i + 1 => by simp [ith, ith_eq xs i]
def wpOrd (P : Program) (last : Nat) (os : List Oper) (Q : Exit → Act → World → Prop) (S : World → Prop) : Bool → Ordt → Act → World → Prop
  | _, .nil, a, w => Q .normal a w
  | b, .fork i j t u, a, w => wpOp P os.toArray Q i (fun a' w' => (b = false → i ≠ last → S w') ∧ wpOrd P last os Q S b t a' w') a w ∧ wpOp P os.toArray Q j (fun a' w' => (b = false → j ≠ last → S w') ∧ wpOrd P last os Q S b u a' w') a w
  | b, .cons (i, true) is, a, w => ∃ o, ith os i = some o ∧ ∃ v, YieldsIf P os.toArray (Wh S os.toArray last i) o v a ∧ wpOrd P last os Q S b is (a.put o.dst v) w
  | b, .cons (i, false) is, a, w => wpOp P os.toArray Q i (fun a' w' => (b = false → i ≠ last → S w') ∧ wpOrd P last os Q S (b || Nat.beq i last) is a' w') a w
theorem wpOrd_true {S : World → Prop} {last : Nat} {os : List Oper} : ∀ (is : Ordt) (b : Bool) (a : Act) (w : World), wpOrd P last os Q S b is a w → wpOrd P last os Q S true is a w := by
  intro is
  induction is with
  | nil => intro b a w h; exact h
  | cons p is ih =>
    intro b a w h
    obtain ⟨i, first⟩ := p
    cases first with
    | true => obtain ⟨o, ho, v, hy, h⟩ := h; exact ⟨o, ho, v, hy, ih _ _ _ h⟩
    | false => exact wpOp_mono (fun a' w' g => ⟨fun e => (by cases e), ih _ _ _ g.2⟩) h
  | fork i j t u iht ihu =>
    intro b a w h
    exact ⟨wpOp_mono (fun a' w' g => ⟨fun e => (by cases e), iht _ _ _ g.2⟩) h.1, wpOp_mono (fun a' w' g => ⟨fun e => (by cases e), ihu _ _ _ g.2⟩) h.2⟩
theorem wpOrd_or {S : World → Prop} {last : Nat} {os : List Oper} {is : Ordt} {b : Bool} (x : Bool) {a : Act} {w : World} (h : wpOrd P last os Q S b is a w) : wpOrd P last os Q S (b || x) is a w := by
  cases b <;> cases x
  · exact h
  · exact wpOrd_true _ _ _ _ h
  · exact h
  · exact h
theorem wpAnyL_of_ord {S : World → Prop} {last : Nat} {os : List Oper} (hs : Region.noSelect os.toArray = true) (hQ : ∀ c a w, ¬ Q (.panic c) a w) :
  ∀ (is : Ordt) (fuel : Nat) (listed : Array Bool) (b : Bool) (a : Act) (w : World), is.depth ≤ fuel → okOrd last os.toArray is listed = true → (listed.getD last false = true → noAw os.toArray last is = true) → (listed.getD last false = false → S w) → (b = true → listed.getD last false = true) →
   wpOrd P last os Q S b is a w → wpAnyL P last os.toArray Q S fuel listed a w := by
 intro is
 induction is with
 | nil =>
  intro fuel listed b a w _ hok _ _ _ h
  have hr : Region.ready .any os.toArray listed = [] := by simpa [okOrd] using hok
  cases fuel with
  | zero => exact ⟨hr, h⟩
  | succ m => exact ⟨fun _ => h, by rw [hr]; simp⟩
 | cons p is ih =>
  intro fuel listed b a w hlen hok hK hL hB h
  obtain ⟨fuel, rfl⟩ : ∃ m, fuel = m + 1 := ⟨fuel - 1, by simp [Ordt.depth] at hlen; omega⟩
  have hlen' : is.depth ≤ fuel := by simp [Ordt.depth] at hlen; omega
  obtain ⟨i, first⟩ := p
  cases first with
  | true =>
   obtain ⟨o, ho, v, hy, h⟩ := h
   have ho' : os.toArray[i]? = some o := by rw [← ho, ith_eq]; simp
   unfold okOrd at hok
   simp only [Bool.and_eq_true, Bool.not_eq_true'] at hok
   have hil : i ≠ last := fun e => by
    have h1 := hok.1.2
    rw [e, show Nat.beq last last = true by simp] at h1; cases h1
   refine wpAnyL_take ho' hs hil (fun c a w h => (hQ _ _ _ h).elim) fuel listed a w (Region.free_spec ho' hok.1.1.1) (by simpa using hok.1.1.2) hy (fun haw => ?_) hL (ih _ _ b _ _ hlen' hok.2 (fun hl => ?_) (fun hl => hL ?_) (fun e => ?_) h)
   ·
    cases hx : listed.getD last false with
    | false => rfl
    | true =>
     have h2 := hK hx
     unfold noAw at h2
     simp only [haw, Bool.not_true, Bool.or_self, Bool.false_and] at h2
     cases h2
   ·
    rw [getD_set_ne false hil] at hl
    have h2 := hK hl
    unfold noAw at h2
    simp only [Bool.and_eq_true] at h2
    exact h2.2
   · rwa [getD_set_ne false hil] at hl
   · rw [getD_set_ne false hil]; exact hB e
  | false =>
   unfold okOrd at hok
   simp only [Bool.and_eq_true, decide_eq_true_eq] at hok
   refine ⟨fun e => (by rw [hok.1.1] at e; cases e), fun j hj => ?_⟩
   have hj0 := hj
   rw [hok.1.1] at hj
   have : j = i := by simpa using hj
   subst this
   obtain ⟨hlt, -⟩ := getD_false (mem_ready.1 hj0).1
   have hself : j = last → (listed.setIfInBounds j true).getD last false = true := fun e => by
    subst e
    rw [Array.getD_eq_getD_getElem?, Array.getElem?_setIfInBounds_self_of_lt hlt]; rfl
   have key : ∀ w', (b = false → j ≠ last → S w') → (listed.setIfInBounds j true).getD last false = false → S w' := fun w' hS hl => by
    have hjl : j ≠ last := fun e => by rw [hself e] at hl; cases hl
    refine hS ?_ hjl
    rw [getD_set_ne false hjl] at hl
    cases hb : b with
    | false => rfl
    | true => rw [hB hb] at hl; cases hl
   refine wpOp_mono (fun a' w' h => ⟨key w' h.1, ih _ _ (b || Nat.beq j last) _ _ hlen' hok.2 (fun hl => ?_) (key w' h.1) (fun e => ?_) h.2⟩) h
   ·
    by_cases hjl : j = last
    ·
     have h2 := hok.1.2
     rw [hjl, show Nat.beq last last = true by simp] at h2
     simpa using h2
    ·
     rw [getD_set_ne false hjl] at hl
     have h2 := hK hl
     unfold noAw at h2
     simp only [Bool.and_eq_true] at h2
     exact h2.2
   ·
    by_cases hjl : j = last
    · exact hself hjl
    ·
     have hbq : Nat.beq j last = false := by rw [← Bool.not_eq_true, Nat.beq_eq]; exact hjl
     rw [hbq, Bool.or_false] at e
     rw [getD_set_ne false hjl]; exact hB e
 | fork i j t u iht ihu =>
  intro fuel listed b a w hlen hok hK hL hB h
  obtain ⟨fuel, rfl⟩ : ∃ m, fuel = m + 1 := ⟨fuel - 1, by simp [Ordt.depth] at hlen; omega⟩
  have hlt : t.depth ≤ fuel := by simp [Ordt.depth] at hlen; omega
  have hlu : u.depth ≤ fuel := by simp [Ordt.depth] at hlen; omega
  unfold okOrd at hok
  simp only [Bool.and_eq_true, decide_eq_true_eq, Bool.not_eq_true'] at hok
  obtain ⟨⟨⟨⟨hr, hi⟩, hj⟩, hot⟩, hou⟩ := hok
  have hil : i ≠ last := fun e => by rw [e, show Nat.beq last last = true by simp] at hi; cases hi
  have hjl : j ≠ last := fun e => by rw [e, show Nat.beq last last = true by simp] at hj; cases hj
  have hb0 : listed.getD last false = false → b = false := fun hl => by
   cases hb : b with
   | false => rfl
   | true => rw [hB hb] at hl; cases hl
  obtain ⟨h1, h2⟩ := h
  refine ⟨fun e => (by rw [hr] at e; cases e), fun q hq => ?_⟩
  rw [hr] at hq
  rcases List.mem_cons.1 hq with rfl | hq
  ·
   refine wpOp_mono (fun a' w' h => ⟨fun hl => h.1 (hb0 (by rwa [getD_set_ne false hil] at hl)) hil, iht _ _ b _ _ hlt hot (fun hl => ?_) (fun hl => h.1 (hb0 (by rwa [getD_set_ne false hil] at hl)) hil) (fun e => by rw [getD_set_ne false hil]; exact hB e) h.2⟩) h1
   rw [getD_set_ne false hil] at hl
   have h3 := hK hl
   unfold noAw at h3
   simp only [Bool.and_eq_true] at h3
   exact h3.1
  ·
   obtain rfl : q = j := by simpa using hq
   refine wpOp_mono (fun a' w' h => ⟨fun hl => h.1 (hb0 (by rwa [getD_set_ne false hjl] at hl)) hjl, ihu _ _ b _ _ hlu hou (fun hl => ?_) (fun hl => h.1 (hb0 (by rwa [getD_set_ne false hjl] at hl)) hjl) (fun e => by rw [getD_set_ne false hjl]; exact hB e) h.2⟩) h2
   rw [getD_set_ne false hjl] at hl
   have h3 := hK hl
   unfold noAw at h3
   simp only [Bool.and_eq_true] at h3
   exact h3.2
theorem replicate_getD (n i : Nat) : (Array.replicate n false).getD i false = false := by
  rw [Array.getD_eq_getD_getElem?, Array.getElem?_replicate]; split <;> rfl
theorem Ends.drawn {id : Nat} {os : List Oper} (S : World → Prop) (is : Ordt) (last : Nat) (hm : P.follows .mixedOrders = true) (hs : Region.noSelect os.toArray = true)
    (hl : Nat.ble is.depth os.toArray.size = true) (hok : okOrd last os.toArray is (Array.replicate os.toArray.size false) = true) (hS : S w.drew) (h : wpOrd P last os (Aft P f R k) S false is a w.drew) :
    Ends P f R (.code (.region id os.toArray true) :: k) a w :=
  Ends.of_wp (wp_region_any hm (wpAnyL_any _ _ _ _ (wpAnyL_of_ord hs (fun _ _ _ h => h) is _ _ _ _ _ (by simpa using hl) hok (fun h => by rw [replicate_getD] at h; cases h) (fun _ => hS) (fun h => by cases h) h)))
section
variable {S : World → Prop} {os : List Oper} {is : Ordt} {i last : Nat} {b0 : Bool}
theorem D.val {d : Nat} {op : Op} {ty : TypeId} {pos : String} {aft : Array Edge} {v : Value} (hA : St n l a) (ho : ith os i = some { dst := some d, op, type := ty, pos, after := aft, guard := none }) (haw : aw os.toArray last i = true)
    (hr : ∀ w, S w → Run P l w op ty v w) (hd : Nat.blt d n = true) (h : ∀ a, St n ((d, v) :: l) a → wpOrd P last os Q S b0 is a w) : wpOrd P last os Q S b0 (.cons (i, true) is) a w :=
  ⟨_, ho, v, .inl ⟨rfl, fun w hS => hr w (hS haw) a.eval (fun _ _ hx => hA.eval hx) _ _ _ _⟩, h _ (hA.put hd v)⟩
theorem D.valF {d : Nat} {op : Op} {ty : TypeId} {pos : String} {aft : Array Edge} {v : Value} (hA : St n l a) (ho : ith os i = some { dst := some d, op, type := ty, pos, after := aft, guard := none })
    (hr : ∀ w, Run P l w op ty v w) (hd : Nat.blt d n = true) (h : ∀ a, St n ((d, v) :: l) a → wpOrd P last os Q S b0 is a w) : wpOrd P last os Q S b0 (.cons (i, true) is) a w :=
  ⟨_, ho, v, .inl ⟨rfl, fun w _ => hr w a.eval (fun _ _ hx => hA.eval hx) _ _ _ _⟩, h _ (hA.put hd v)⟩
theorem D.valg {d j dj : Nat} {b : Bool} {op : Op} {ty : TypeId} {pos : String} {aft : Array Edge} {v : Value} (hA : St n l a) (ho : ith os i = some { dst := some d, op, type := ty, pos, after := aft, guard := some (j, b) }) (haw : aw os.toArray last i = true)
    (hj : dstOf os.toArray j = some dj) (hl : lk l dj = some (.bool b))
    (hr : ∀ w, S w → Run P l w op ty v w) (hd : Nat.blt d n = true) (h : ∀ a, St n ((d, v) :: l) a → wpOrd P last os Q S b0 is a w) : wpOrd P last os Q S b0 (.cons (i, true) is) a w :=
  ⟨_, ho, v, .inl ⟨by rw [wanted_of hA rfl hj hl]; simp, fun w hS => hr w (hS haw) a.eval (fun _ _ hx => hA.eval hx) _ _ _ _⟩, h _ (hA.put hd v)⟩
theorem D.no {d j dj : Nat} {b u : Bool} {op : Op} {ty : TypeId} {pos : String} {aft : Array Edge} (hA : St n l a) (ho : ith os i = some { dst := some d, op, type := ty, pos, after := aft, guard := some (j, b) })
    (hj : dstOf os.toArray j = some dj) (hl : lk l dj = some (.bool u)) (hu : (u == b) = false)
    (hd : Nat.blt d n = true) (h : ∀ a, St n ((d, undef) :: l) a → wpOrd P last os Q S b0 is a w) : wpOrd P last os Q S b0 (.cons (i, true) is) a w :=
  ⟨_, ho, undef, .inr ⟨by rw [wanted_of hA rfl hj hl, hu], rfl⟩, h _ (hA.put hd undef)⟩
theorem wpOp_of {o : Oper} {K : Act → World → Prop} (ho : ith os i = some o) (hw : Region.wanted o (yielded os.toArray a.tmps) = true) (h : o.wp P a w K Q) : wpOp P os.toArray Q i K a w := by
  unfold wpOp
  have ho' : os.toArray[i]? = some o := by rw [List.getElem?_toArray, ← ith_eq, ho]
  simp only [ho', hw, if_true]
  exact .inl h
theorem D.eff {d : Nat} {op : Op} {ty : TypeId} {pos : String} {aft : Array Edge} {v : Value} (hA : St n l a) (ho : ith os i = some { dst := some d, op, type := ty, pos, after := aft, guard := none })
    (hr : Run P l w op ty v w') (hd : Nat.blt d n = true) (hS : S w') (h : ∀ a, St n ((d, v) :: l) a → wpOrd P last os Q S b0 is a w') : wpOrd P last os Q S b0 (.cons (i, false) is) a w :=
  wpOp_of ho rfl (by
    unfold Oper.wp
    rw [hr a.eval (fun x u hx => hA.eval hx)]
    exact ⟨fun _ _ => hS, wpOrd_or _ (h _ (hA.put hd v))⟩)
theorem D.skip {op : Op} {ty : TypeId} {pos : String} {aft : Array Edge} (hA : St n l a) (ho : ith os i = some { dst := none, op, type := ty, pos, after := aft, guard := none })
    (hr : RunN P l w op ty .skip w') (hS : b0 = false → i ≠ last → S w') (h : wpOrd P last os Q S (b0 || Nat.beq i last) is a w') : wpOrd P last os Q S b0 (.cons (i, false) is) a w :=
  wpOp_of ho rfl (by
    unfold Oper.wp
    rw [hr a.eval (fun x u hx => hA.eval hx)]
    exact ⟨hS, h⟩)
theorem D.call {d : Nat} {op : Op} {ty : TypeId} {pos : String} {aft : Array Edge} {g : FuncId} {args : Array Value} {R' : Ending → World → Prop} (hA : St n l a) (ho : ith os i = some { dst := some d, op, type := ty, pos, after := aft, guard := none })
    (hr : RunN P l w op ty (.enter g args) w) (hd : Nat.blt d n = true)
    (hc : Calls P g args w R') (h : ∀ e w', R' e w' → ∃ v, e = .returned v ∧ S w' ∧ ∀ a, St n ((d, v) :: l) a → wpOrd P last os Q S b0 is a w') : wpOrd P last os Q S b0 (.cons (i, false) is) a w :=
  wpOp_of ho rfl (by
    unfold Oper.wp
    rw [hr a.eval (fun x u hx => hA.eval hx)]
    refine hc.mono fun e w2 hR => ?_
    obtain ⟨v, rfl, hS, hv⟩ := h e w2 hR
    exact ⟨fun _ _ => hS, wpOrd_or _ (hv _ (hA.put hd v))⟩)
theorem D.callg {d j dj : Nat} {b : Bool} {op : Op} {ty : TypeId} {pos : String} {aft : Array Edge} {g : FuncId} {args : Array Value} {R' : Ending → World → Prop} (hA : St n l a) (ho : ith os i = some { dst := some d, op, type := ty, pos, after := aft, guard := some (j, b) })
    (hj : dstOf os.toArray j = some dj) (hl : lk l dj = some (.bool b))
    (hr : RunN P l w op ty (.enter g args) w) (hd : Nat.blt d n = true)
    (hc : Calls P g args w R') (h : ∀ e w', R' e w' → ∃ v, e = .returned v ∧ S w' ∧ ∀ a, St n ((d, v) :: l) a → wpOrd P last os Q S b0 is a w') : wpOrd P last os Q S b0 (.cons (i, false) is) a w :=
  wpOp_of ho (by rw [wanted_of hA rfl hj hl]; simp) (by
    unfold Oper.wp
    rw [hr a.eval (fun x u hx => hA.eval hx)]
    refine hc.mono fun e w2 hR => ?_
    obtain ⟨v, rfl, hS, hv⟩ := h e w2 hR
    exact ⟨fun _ _ => hS, wpOrd_or _ (hv _ (hA.put hd v))⟩)
theorem D.done (h : Ends P f R k a w) : wpOrd P last os (Aft P f R k) S b0 .nil a w := h
theorem D.fork {j : Nat} {t u : Ordt} (hb : Nat.beq i last = false) (hb2 : Nat.beq j last = false) (h1 : wpOrd P last os Q S b0 (.cons (i, false) t) a w) (h2 : wpOrd P last os Q S b0 (.cons (j, false) u) a w) : wpOrd P last os Q S b0 (.fork i j t u) a w := by
  unfold wpOrd at h1 h2
  rw [hb, Bool.or_false] at h1
  rw [hb2, Bool.or_false] at h2
  exact ⟨h1, h2⟩
end
end
end
section
open Go.RowKit
theorem hid {p : Prop} (h : p) : Hid p := h
def blk (w : World) (b : Nat) (cs : Array Value) (t : TypeId) : Prop := w.heap[b]? = some (.cells cs t (0, 0))
theorem blk.lt {w : World} {b : Nat} {cs : Array Value} {t : TypeId} (h : blk w b cs t) : b < w.heap.size := lt_of_block h
theorem blk.cell {w : World} {b : Nat} {cs : Array Value} {t : TypeId} (h : blk w b cs t) (i : Nat) : w.cell? ⟨b, i, none⟩ = cs[i]? := by
  unfold blk at h; simp [World.cell?, h]
theorem blk.free {w : World} {b : Nat} {cs : Array Value} {t : TypeId} (h : blk w b cs t) (i : Nat) : w.frozen? ⟨b, i, none⟩ = false := by
  unfold blk at h; simp [World.frozen?, h]
theorem blk.new (w : World) (cs : Array Value) (t : TypeId) : blk (w.alloc (.cells cs t)) w.heap.size cs t := heap_alloc_new w _
theorem blk.alloc {w : World} {b : Nat} {cs : Array Value} {t : TypeId} (h : blk w b cs t) (o : Obj) : blk (w.alloc o) b cs t := by
  unfold blk at *; rw [Below.heap_alloc _ _ _ (lt_of_block h)]; exact h
theorem blk.at_ {w : World} {n : Nat} {cs cs' : Array Value} {t : TypeId} (hn : n = w.heap.size) (hc : cs = cs') : blk (w.alloc (.cells cs t)) n cs' t := by
  subst hn; subst hc; exact blk.new w _ _
theorem blk.drew {w : World} {b : Nat} {cs : Array Value} {t : TypeId} (h : blk w b cs t) : blk w.drew b cs t := h
theorem blk.other {w : World} {b : Nat} {cs : Array Value} {t : TypeId} (h : blk w b cs t) {a : Addr} (ha : b ≠ a.block) (v : Value) : blk (w.setCell a v) b cs t := by
  unfold blk at *; rw [Below.heap_setCell _ _ _ _ ha]; exact h
theorem blk.off {w : World} {b : Nat} {cs : Array Value} {t : TypeId} (h : blk w b cs t) {b' i : Nat} (ha : b ≠ b') (v : Value) : blk (w.setCell ⟨b', i, none⟩ v) b cs t := h.other ha v
theorem blk.set {w : World} {b : Nat} {cs : Array Value} {t : TypeId} (h : blk w b cs t) (i : Nat) (v : Value) : blk (w.setCell ⟨b, i, none⟩ v) b (cs.setIfInBounds i v) t := by
  have hlt := h.lt
  unfold blk at *
  have h' : w.heap[b] = .cells cs t (0, 0) := by simpa [Array.getElem?_eq_getElem hlt] using h
  show (w.heap.modify b _)[b]? = _
  rw [Array.getElem?_eq_getElem (by simpa using hlt), Array.getElem_modify_self, h']
  rfl
theorem blk.to {w : World} {b : Nat} {cs cs' : Array Value} {t : TypeId} (h : blk w b cs t) (hc : cs = cs') : blk w b cs' t := hc ▸ h
theorem blk.below {B : Nat} {w w' : World} {b : Nat} {cs : Array Value} {t : TypeId} (h : blk w b cs t) (hb : Below B w w') (hlt : b < B) : blk w' b cs t := by
  unfold blk at *; rw [hb.block b hlt]; exact h
theorem bcell {B : Nat} {W w1 : World} (hb : Below B W w1) : (∀ b o, b < B → w1.cell? ⟨b, o, none⟩ = W.cell? ⟨b, o, none⟩) ∧ (∀ b o, b < B → w1.frozen? ⟨b, o, none⟩ = W.frozen? ⟨b, o, none⟩) :=
  ⟨fun b o h => hb.cell (p := ⟨b, o, none⟩) h, fun b o h => hb.frozen (p := ⟨b, o, none⟩) h⟩
def ints (l : List Int) : Array Value := (l.map (Value.int .i64)).toArray
theorem ints_getD (l : List Int) (i : Nat) (h : i < l.length) : (ints l)[i]? = some (.int .i64 (l.getD i 0)) := by simp [ints, h]
theorem ints_set (l : List Int) (i : Nat) (v : Int) : (ints l).setIfInBounds i (.int .i64 v) = ints (l.set i v) := by
  simp [ints, List.map_set]
def row (n : Nat) (f : Nat → Int) : List Int := (List.range n).map f
end
section
open Go.RowKit
def fieldInfo (P : Program) (t : TypeId) (i : Nat) : Option (Nat × Bool × Nat) :=
  match P.underlying t with
  | some (.struct fs) => match fs[i]? with
    | some f => match P.underlying f.type, P.info? f.type with
      | some d, some j => some (f.offset, d.isRow, j.size)
      | _, _ => none
    | none => none
  | _ => none
def szOf (P : Program) (t : TypeId) : Option (Bool × Nat) :=
  match P.underlying t, P.info? t with
  | some d, some j => some (d.isRow, j.size)
  | _, _ => none
def slInfo (P : Program) (t : TypeId) : Option (Bool × Nat) :=
  match P.underlying t with
  | some (.slice e) => szOf P e
  | _ => none
def arInfo (P : Program) (t : TypeId) : Option (Nat × Bool × Nat) :=
  match P.underlying t with
  | some (.array n e) => (szOf P e).map fun x => (n, x.1, x.2)
  | _ => none
section
variable {P : Program} {l : List (Nat × Value)} {w : World} {ty : TypeId} {x y z : Operand} {k k' : IntKind} {m n : Int} {t yt : TypeId}
theorem fieldInfo_spec {i off sz : Nat} {b : Bool} (h : fieldInfo P t i = some (off, b, sz)) :
    ∃ fs f d j, P.underlying t = some (.struct fs) ∧ fs[i]? = some f ∧ P.underlying f.type = some d ∧ P.info? f.type = some j ∧ f.offset = off ∧ d.isRow = b ∧ j.size = sz := by
  unfold fieldInfo at h
  split at h
  · rename_i fs hu
    split at h
    · rename_i f hf
      split at h
      · rename_i d j hd hj
        simp only [Option.some.injEq, Prod.mk.injEq] at h
        exact ⟨fs, f, d, j, hu, hf, hd, hj, h.1, h.2.1, h.2.2⟩
      · cases h
    · cases h
  · cases h
theorem szOf_spec {sz : Nat} {b : Bool} (h : szOf P t = some (b, sz)) : ∃ d j, P.underlying t = some d ∧ P.info? t = some j ∧ d.isRow = b ∧ j.size = sz := by
  unfold szOf at h
  split at h
  · rename_i d j hd hj
    simp only [Option.some.injEq, Prod.mk.injEq] at h
    exact ⟨d, j, hd, hj, h.1, h.2⟩
  · cases h
theorem slInfo_spec {sz : Nat} {b : Bool} (h : slInfo P t = some (b, sz)) : ∃ e, P.underlying t = some (.slice e) ∧ szOf P e = some (b, sz) := by
  unfold slInfo at h
  split at h
  · rename_i e hu; exact ⟨e, hu, h⟩
  · cases h
theorem arInfo_spec {n sz : Nat} {b : Bool} (h : arInfo P t = some (n, b, sz)) : ∃ e, P.underlying t = some (.array n e) ∧ szOf P e = some (b, sz) := by
  unfold arInfo at h
  split at h
  · rename_i n' e hu
    cases hz : szOf P e with
    | none => simp [hz] at h
    | some x =>
      simp only [hz, Option.map_some, Option.some.injEq, Prod.mk.injEq] at h
      obtain ⟨rfl, h1, h2⟩ := h
      exact ⟨e, hu, by rw [← h1, ← h2] ; exact hz⟩
  · cases h
theorem run_isAgg_of {d : TypeDesc} (h : P.underlying t = some d) : (isAgg t).run P w = .ok d.isRow w := by
  unfold isAgg
  rw [Sem.run_bind, run_underlying h w]
  cases d <;> rfl
theorem run_sizeOf_of {j : TypeInfo} (h : P.info? t = some j) : (sizeOf t).run P w = .ok j.size w := by
  simp [sizeOf, typeInfo, h]
theorem beq_dec (m n : Int) : (m == n) = decide (m = n) := by rw [Bool.eq_iff_iff]; simp
theorem R.tt {p : Prop} [Decidable p] {op : Op} {w' : World} (h : Run P l w op ty (.bool (decide p)) w') (hp : p) : Run P l w op ty (.bool true) w' := by rwa [decide_eq_true hp] at h
theorem R.ff {p : Prop} [Decidable p] {op : Op} {w' : World} (h : Run P l w op ty (.bool (decide p)) w') (hp : ¬ p) : Run P l w op ty (.bool false) w' := by rwa [decide_eq_false hp] at h
theorem R.to {op : Op} {w' : World} {u v : Value} (h : Run P l w op ty u w') (e : u = v) : Run P l w op ty v w' := e ▸ h
theorem R.move {v : Value} (hx : opv l x = some v) : Run P l w (.move x) ty v w := fun ev h _ _ _ _ => by simp only [execOp, h _ _ hx]; rfl
theorem R.assign {v : Value} (hx : opv l x = some v) : Run P l w (.assign x) ty v w := fun ev h _ _ _ _ => by simp only [execOp, h _ _ hx]; rfl
theorem R.pickT {v : Value} (hc : opv l z = some (.bool true)) (hx : opv l x = some v) : Run P l w (.pick z x y) ty v w := fun ev h _ _ _ _ => by simp only [execOp, h _ _ hc, h _ _ hx]; rfl
theorem R.pickF {v : Value} (hc : opv l z = some (.bool false)) (hy : opv l y = some v) : Run P l w (.pick z x y) ty v w := fun ev h _ _ _ _ => by simp only [execOp, h _ _ hc, h _ _ hy]; rfl
theorem R.extract {vs : Array Value} {i : Nat} {v : Value} (hx : opv l x = some (.tuple vs)) (hv : vs[i]? = some v) : Run P l w (.extract x i) ty v w := fun ev h _ _ _ _ => by
  simp [execOp, h _ _ hx, Instr.extract, hv]
theorem R.add (hx : opv l x = some (.int k m)) (hy : opv l y = some (.int k n)) : Run P l w (.binOp .add t x y yt) ty (.int k (k.wrap (m + n))) w := fun ev h _ _ _ _ => by
  simp [execOp, h _ _ hx, h _ _ hy, eqGuard, binOp, Op.intArith]
theorem R.sub (hx : opv l x = some (.int k m)) (hy : opv l y = some (.int k n)) : Run P l w (.binOp .sub t x y yt) ty (.int k (k.wrap (m - n))) w := fun ev h _ _ _ _ => by
  simp [execOp, h _ _ hx, h _ _ hy, eqGuard, binOp, Op.intArith]
theorem R.mul (hx : opv l x = some (.int k m)) (hy : opv l y = some (.int k n)) : Run P l w (.binOp .mul t x y yt) ty (.int k (k.wrap (m * n))) w := fun ev h _ _ _ _ => by
  simp [execOp, h _ _ hx, h _ _ hy, eqGuard, binOp, Op.intArith]
theorem R.addI (hx : opv l x = some (.int .i64 m)) (hy : opv l y = some (.int .i64 n)) {r : Int} (hr : m + n = r) (h0 : -9223372036854775808 ≤ r ∧ r ≤ 9223372036854775807) : Run P l w (.binOp .add t x y yt) ty (.int .i64 r) w := by
  subst hr; have := R.add (P := P) (w := w) (ty := ty) (t := t) (yt := yt) hx hy; rwa [IntWalk.i64_in _ ⟨h0.1, by omega⟩] at this
theorem R.subI (hx : opv l x = some (.int .i64 m)) (hy : opv l y = some (.int .i64 n)) {r : Int} (hr : m - n = r) (h0 : -9223372036854775808 ≤ r ∧ r ≤ 9223372036854775807) : Run P l w (.binOp .sub t x y yt) ty (.int .i64 r) w := by
  subst hr; have := R.sub (P := P) (w := w) (ty := ty) (t := t) (yt := yt) hx hy; rwa [IntWalk.i64_in _ ⟨h0.1, by omega⟩] at this
theorem R.mulI (hx : opv l x = some (.int .i64 m)) (hy : opv l y = some (.int .i64 n)) {r : Int} (hr : m * n = r) (h0 : -9223372036854775808 ≤ r ∧ r ≤ 9223372036854775807) : Run P l w (.binOp .mul t x y yt) ty (.int .i64 r) w := by
  subst hr; have := R.mul (P := P) (w := w) (ty := ty) (t := t) (yt := yt) hx hy; rwa [IntWalk.i64_in _ ⟨h0.1, by omega⟩] at this
theorem R.quo (hx : opv l x = some (.int k m)) (hy : opv l y = some (.int k n)) (h0 : n ≠ 0) : Run P l w (.binOp .quo t x y yt) ty (.int k (k.wrap (m.tdiv n))) w := fun ev h _ _ _ _ => by
  simp [execOp, h _ _ hx, h _ _ hy, eqGuard, binOp, Op.intDiv, h0]
theorem R.rem (hx : opv l x = some (.int k m)) (hy : opv l y = some (.int k n)) (h0 : n ≠ 0) : Run P l w (.binOp .rem t x y yt) ty (.int k (m.tmod n)) w := fun ev h _ _ _ _ => by
  simp [execOp, h _ _ hx, h _ _ hy, eqGuard, binOp, Op.intDiv, h0]
theorem R.quoI (hx : opv l x = some (.int .i64 m)) (hy : opv l y = some (.int .i64 n)) {r : Int} (hr : m / n = r) (h0 : 0 ≤ m ∧ m ≤ 9223372036854775807 ∧ 0 < n) : Run P l w (.binOp .quo t x y yt) ty (.int .i64 r) w := by
  subst hr
  have := R.quo (P := P) (w := w) (ty := ty) (t := t) (yt := yt) hx hy (by omega)
  rw [Int.tdiv_eq_ediv_of_nonneg h0.1] at this
  have h1 : 0 ≤ m / n := Int.ediv_nonneg h0.1 (by omega)
  have h2 : m / n ≤ m := Int.ediv_le_self _ h0.1
  rwa [IntWalk.i64_in _ ⟨by omega, by omega⟩] at this
theorem R.remI (hx : opv l x = some (.int k m)) (hy : opv l y = some (.int k n)) {r : Int} (hr : m % n = r) (h0 : 0 ≤ m ∧ n ≠ 0) : Run P l w (.binOp .rem t x y yt) ty (.int k r) w := by
  subst hr
  have := R.rem (P := P) (w := w) (ty := ty) (t := t) (yt := yt) hx hy h0.2
  rwa [Int.tmod_eq_emod_of_nonneg h0.1] at this
theorem R.bits {op : BinOp} (hop : op = .and ∨ op = .or ∨ op = .xor ∨ op = .andNot) (hx : opv l x = some (.int k m)) (hy : opv l y = some (.int k n)) : Run P l w (.binOp op t x y yt) ty (.int k (bits op k m n)) w := fun ev h _ _ _ _ => by
  rcases hop with rfl | rfl | rfl | rfl <;> simp [execOp, h _ _ hx, h _ _ hy, eqGuard, binOp, Op.intBits, Go.bits]
theorem R.shl (hx : opv l x = some (.int k m)) (hy : opv l y = some (.int k' n)) (h0 : 0 ≤ n) : Run P l w (.binOp .shl t x y yt) ty (.int k (k.wrap (m * 2 ^ min n.toNat k.bits))) w := fun ev h _ _ _ _ => by
  simp [execOp, h _ _ hx, h _ _ hy, eqGuard, binOp, Op.shift, show ¬ n < 0 by omega]
theorem R.eql (hx : opv l x = some (.int k m)) (hy : opv l y = some (.int k n)) : Run P l w (.binOp .eql t x y yt) ty (.bool (decide (m = n))) w := fun ev h _ _ _ _ => by
  simp [execOp, h _ _ hx, h _ _ hy, eqGuard, binOp, Op.intCmp, beq_dec]
theorem R.neq (hx : opv l x = some (.int k m)) (hy : opv l y = some (.int k n)) : Run P l w (.binOp .neq t x y yt) ty (.bool (decide (m ≠ n))) w := fun ev h _ _ _ _ => by
  simp [execOp, h _ _ hx, h _ _ hy, eqGuard, binOp, Op.intCmp, bne, beq_dec]
theorem R.lss (hx : opv l x = some (.int k m)) (hy : opv l y = some (.int k n)) : Run P l w (.binOp .lss t x y yt) ty (.bool (decide (m < n))) w := fun ev h _ _ _ _ => by
  simp [execOp, h _ _ hx, h _ _ hy, eqGuard, binOp, Op.intCmp]
theorem R.leq (hx : opv l x = some (.int k m)) (hy : opv l y = some (.int k n)) : Run P l w (.binOp .leq t x y yt) ty (.bool (decide (m ≤ n))) w := fun ev h _ _ _ _ => by
  simp [execOp, h _ _ hx, h _ _ hy, eqGuard, binOp, Op.intCmp]
theorem R.gtr (hx : opv l x = some (.int k m)) (hy : opv l y = some (.int k n)) : Run P l w (.binOp .gtr t x y yt) ty (.bool (decide (n < m))) w := fun ev h _ _ _ _ => by
  simp [execOp, h _ _ hx, h _ _ hy, eqGuard, binOp, Op.intCmp]
theorem R.geq (hx : opv l x = some (.int k m)) (hy : opv l y = some (.int k n)) : Run P l w (.binOp .geq t x y yt) ty (.bool (decide (n ≤ m))) w := fun ev h _ _ _ _ => by
  simp [execOp, h _ _ hx, h _ _ hy, eqGuard, binOp, Op.intCmp]
theorem R.conv (hd : P.underlying yt = some (.int k')) (hs : P.underlying t = some (.int k)) (hx : opv l x = some (.int k m)) : Run P l w (.convert t yt x) ty (.int k' (k'.wrap m)) w := fun ev h _ _ _ _ => by
  simp [execOp, h _ _ hx, convert, run_underlying hd, run_underlying hs, Conv.intToInt]
theorem R.not {b : Bool} (hx : opv l x = some (.bool b)) : Run P l w (.unOp .not t x) ty (.bool (!b)) w := fun ev h _ _ _ _ => by
  simp [execOp, h _ _ hx, Op.unary]
theorem R.notD {p : Prop} [Decidable p] (hx : opv l x = some (.bool (decide p))) : Run P l w (.unOp .not t x) ty (.bool (decide (¬ p))) w := by
  have := R.not (P := P) (w := w) (ty := ty) (t := t) hx
  rwa [decide_not]
theorem R.lenS {e : TypeId} {a : Option Addr} {len cap : Nat} {ats : Array TypeId} (ht : P.underlying t = some (.slice e)) (hat : ats = #[t]) (hx : opv l x = some (.slice a len cap)) : Run P l w (.call { callee := .builtin .len, args := #[x], argTypes := ats }) ty (.int .i64 (len : Int)) w := fun ev h _ _ _ _ => by
  subst hat
  simp [execOp, resolve, invoke, builtin, h _ _ hx, Builtin.len_, run_underlying ht, goInt]
theorem R.min {ats : Array TypeId} (hx : opv l x = some (.int k m)) (hy : opv l y = some (.int k n)) : Run P l w (.call { callee := .builtin .min, args := #[x, y], argTypes := ats }) ty (.int k (min m n)) w := fun ev h _ _ _ _ => by
  simp [execOp, resolve, invoke, builtin, h _ _ hx, h _ _ hy, run_min_int2]
  split <;> omega
theorem R.max {ats : Array TypeId} (hx : opv l x = some (.int k m)) (hy : opv l y = some (.int k n)) : Run P l w (.call { callee := .builtin .max, args := #[x, y], argTypes := ats }) ty (.int k (max m n)) w := fun ev h _ _ _ _ => by
  simp [execOp, resolve, invoke, builtin, h _ _ hx, h _ _ hy, run_max_int2]
  split <;> omega
theorem R.fieldAddr {i off sz b o q : Nat} {g : Bool} (hi : fieldInfo P t i = some (off, g, sz)) (hx : opv l x = some (.pointer (some ⟨b, o, none⟩))) (hsz : Nat.beq sz 0 = false) (hq : o + off = q) : Run P l w (.fieldAddr t x i) ty (.pointer (some ⟨b, q, none⟩)) w := fun ev h _ _ _ _ => by
  obtain ⟨fs, f, d, j, hu, hf, hd, hj, rfl, hrow, rfl⟩ := fieldInfo_spec hi
  have hz : ¬ j.size = 0 := by intro e; rw [e] at hsz; cases hsz
  simp [execOp, h _ _ hx, Instr.fieldAt, run_underlying hu, hf, Instr.sureAddr, fieldPlace, run_sizeOf_of hj, hz, Addr.add_mid, hq]
theorem R.indexAddr {len cap b o sz q : Nat} {g : Bool} {i : Int} (hi : slInfo P t = some (g, sz)) (hx : opv l x = some (.slice (some ⟨b, o, none⟩) len cap)) (hy : opv l y = some (.int k i)) (h0 : 0 ≤ i ∧ i < (len : Int)) (hq : o + i.toNat * sz = q) :
    Run P l w (.indexAddr t x y) ty (.pointer (some ⟨b, q, none⟩)) w := fun ev h _ _ _ _ => by
  obtain ⟨e, hu, hs⟩ := slInfo_spec hi
  obtain ⟨d, j, hd, hj, hrow, hsz⟩ := szOf_spec hs
  simp [execOp, h _ _ hx, h _ _ hy, Instr.indexAt, asIntOf, run_underlying hu, h0, run_sizeOf_of hj, hsz, Addr.add_mid, hq]
theorem R.indexAddrA {len b o sz q : Nat} {g : Bool} {i : Int} (hi : arInfo P t = some (len, g, sz)) (hx : opv l x = some (.pointer (some ⟨b, o, none⟩))) (hy : opv l y = some (.int k i)) (h0 : 0 ≤ i ∧ i < (len : Int)) (hq : o + i.toNat * sz = q) :
    Run P l w (.indexAddr t x y) ty (.pointer (some ⟨b, q, none⟩)) w := fun ev h _ _ _ _ => by
  obtain ⟨e, hu, hs⟩ := arInfo_spec hi
  obtain ⟨d, j, hd, hj, hrow, hsz⟩ := szOf_spec hs
  simp [execOp, h _ _ hx, h _ _ hy, Instr.indexAt, asIntOf, run_underlying hu, Instr.sureAddr, h0, run_sizeOf_of hj, hsz, Addr.add_mid, hq]
theorem R.load {p : Addr} {v : Value} (hi : szOf P t = some (false, 1)) (hx : opv l x = some (.pointer (some p))) (hc : w.cell? p = some v) : Run P l w (.load t x) ty v w := fun ev h _ _ _ _ => by
  obtain ⟨d, j, hd, hj, hrow, hsz⟩ := szOf_spec hi
  simp [execOp, h _ _ hx, Instr.loadAt, Instr.sureAddr, loadVar, run_isAgg_of hd, hrow, hc]
theorem R.loadA {b o sz : Nat} {cs : List Value} (hi : szOf P t = some (true, sz)) (hx : opv l x = some (.pointer (some ⟨b, o, none⟩))) (hc : w.rangeAt b o cs) (hn : cs.length = sz) : Run P l w (.load t x) ty (.agg cs.toArray) w := fun ev h _ _ _ _ => by
  obtain ⟨d, j, hd, hj, hrow, hsz⟩ := szOf_spec hi
  have := run_loadAt_mid (P := P) w b o t cs d hc hd hrow (by simp [hj, hsz, hn])
  simp [execOp, h _ _ hx, this]
theorem R.store {p : Addr} {u v : Value} (hi : szOf P t = some (false, 1)) (hx : opv l x = some (.pointer (some p))) (hy : opv l y = some v) (hv : v.oneCell' = true) (hc : w.cell? p = some u) (hfz : w.frozen? p = false) : RunN P l w (.store t x y) ty .skip (w.setCell p v) := fun ev h _ _ _ _ => by
  obtain ⟨d, j, hd, hj, hrow, hsz⟩ := szOf_spec hi
  have hcs : v.cells = #[v] := by cases v <;> first | rfl | cases hv
  have hst := run_store P w p v .plain hv
  simp only [hc, hfz] at hst
  have ha : p.add 0 = p := by simp [Addr.add]
  simp only [execOp, h _ _ hx, h _ _ hy, Instr.storeAt, Instr.sureAddr, storeVar, Sem.run_bind, Sem.run_pure, Result.andThen_ok, run_sizeOf_of hj, hsz, hcs]
  simp [storeCells, ha, hst]
theorem R.storeA {b o sz : Nat} {cs : Array Value} (hi : szOf P t = some (true, sz)) (hx : opv l x = some (.pointer (some ⟨b, o, none⟩))) (hy : opv l y = some (.agg cs)) (hn : cs.size = sz) (h1 : cs.all (·.oneCell') = true) (ht : w.there b o cs.size) : RunN P l w (.store t x y) ty .skip (w.setCells b o cs.toList) := fun ev h _ _ _ _ => by
  obtain ⟨d, j, hd, hj, hrow, hsz⟩ := szOf_spec hi
  have := run_storeAt_mid (P := P) w b o t cs ht (by simp [hj, hsz, hn]) h1
  simp [execOp, h _ _ hx, h _ _ hy, this]
theorem R.box {v : Value} (hx : opv l x = some v) : Run P l w (.box t x) ty (.pointer (some ⟨w.heap.size, 0, none⟩)) (w.alloc (.cells v.cells t)) := fun ev h _ _ _ _ => by
  simp [execOp, h _ _ hx, Instr.box, newVar, newRow]
theorem R.alloc {j : TypeInfo} {z : Value} (hj : P.info? t = some j) (hz : j.zero = some z) : Run P l w (.alloc t) ty (.pointer (some ⟨w.heap.size, 0, none⟩)) (w.alloc (.cells z.cells t)) := fun ev h _ _ _ _ => by
  simp [execOp, Instr.alloc, zeroValue, typeInfo, hj, hz, newVar, newRow]
theorem R.callF {f : FuncId} {fn : Func} {xs : Array Operand} {ats : Array TypeId} {vs : List Value} (hf : P.funcs[f]? = some fn) (hname : (fn.name == "runtime.NumGoroutine") = false) (hb : fn.body.isNone = false) (hp : opvs l xs.toList = some vs) :
    RunN P l w (.call { callee := .value (.func f), args := xs, argTypes := ats }) ty (.enter f vs.toArray) w := fun ev h _ _ _ _ => by
  have key : ∀ (os : List Operand) (vs : List Value), opvs l os = some vs → os.map ev = vs := by
    intro os
    induction os with
    | nil => intro vs hv; simp [opvs] at hv; subst hv; rfl
    | cons o os ih =>
      intro vs hv
      simp only [opvs] at hv
      split at hv
      · cases hv
      · rename_i v hv1
        split at hv
        · cases hv
        · rename_i us hus
          simp only [Option.some.injEq] at hv
          subst hv
          simp [ih us hus, h _ _ hv1]
  have h1 : (xs.map ev) = vs.toArray := by
    have := key _ _ hp
    apply Array.toList_inj.1
    simpa using this
  have hef : ev (.func f) = .func (.func f) #[] #[] := h (.func f) _ rfl
  have hc : (callFunc f vs.toArray).run P w = .ok (.enter f vs.toArray) w := by
    simp only [callFunc, Sem.run_bind, run_program, Result.andThen_ok, hf, hname, hb, Bool.false_eq_true, if_false, Sem.run_pure]
  simp [execOp, resolve, hef, Deferred.ofValue, invoke, h1, hc]
end
end
section
open Go.RowKit
structure Ck where
  foot : Nat → Prop
  holds : World → Prop
  loc : ∀ w w' : World, (∀ b, foot b → w'.heap[b]? = w.heap[b]?) → holds w → holds w'
def pt (b : Nat) (cs : Array Value) (t : TypeId) : Ck :=
  ⟨fun c => c = b, fun w => w.heap[b]? = some (.cells cs t (0, 0)), fun w w' h hw => by rw [h b rfl]; exact hw⟩
def nof : Nat → Prop := fun _ => False
structure Mem (w0 : World) (F : Nat → Prop) (L : List Ck) (w : World) : Prop where
  os : w.os = w0.os
  tape : w.tape = w0.tape
  output : w.output = w0.output
  size : w0.heap.size ≤ w.heap.size
  old : ∀ b, b < w0.heap.size → ¬ F b → w.heap[b]? = w0.heap[b]?
  holds : ∀ c ∈ L, c.holds w
  inb : ∀ c ∈ L, ∀ b, c.foot b → b < w.heap.size ∧ (b < w0.heap.size → F b)
  apart : L.Pairwise fun c d => ∀ b, c.foot b → ¬ d.foot b
section
variable {w0 w w' : World} {F F' : Nat → Prop} {L L' : List Ck} {c d : Ck}
theorem Mem.start (w : World) : Mem w nof [] w := ⟨rfl, rfl, rfl, Nat.le_refl _, fun _ _ _ => rfl, fun _ h => (by cases h), fun _ h => (by cases h), .nil⟩
theorem Mem.below (h : Mem w0 nof L w) : Below w0.heap.size w0 w := ⟨h.os, h.tape, h.output, h.size, fun b hb => h.old b hb (fun f => f)⟩
theorem Mem.of_below (h : Below w0.heap.size w0 w) : Mem w0 nof [] w := ⟨h.os, h.tape, h.output, h.size, fun b hb _ => h.block b hb, fun _ h => (by cases h), fun _ h => (by cases h), .nil⟩
theorem Mem.drew (h : Mem w0 F L w) : Mem w0 F L w.drew := ⟨h.os, h.tape, h.output, h.size, h.old, fun c hc => c.loc w w.drew (fun _ _ => rfl) (h.holds c hc), h.inb, h.apart⟩
theorem Mem.sub (h : Mem w0 F L w) (hs : L'.Sublist L) : Mem w0 F L' w :=
  ⟨h.os, h.tape, h.output, h.size, h.old, fun c hc => h.holds c (hs.mem hc), fun c hc => h.inb c (hs.mem hc), h.apart.sublist hs⟩
theorem Mem.tail (h : Mem w0 F (c :: L) w) : Mem w0 F L w := h.sub (List.sublist_cons_self _ _)
theorem Mem.nilL (h : Mem w0 F L w) : Mem w0 F [] w := h.sub (List.nil_sublist _)
theorem Mem.perm (h : Mem w0 F L w) (hp : L.Perm L') : Mem w0 F L' w :=
  ⟨h.os, h.tape, h.output, h.size, h.old, fun c hc => h.holds c (hp.mem_iff.2 hc), fun c hc => h.inb c (hp.mem_iff.2 hc), hp.pairwise h.apart (fun h b hc hd => h b hd hc)⟩
theorem Mem.mem (h : Mem w0 F L w) {k : Nat} (hk : ith L k = some c) : c.holds w :=
  h.holds c (List.mem_of_getElem? (by rw [← ith_eq]; exact hk))
theorem Mem.block (h : Mem w0 F L w) {k b : Nat} {cs : Array Value} {t : TypeId} (hk : ith L k = some (pt b cs t)) : w.heap[b]? = some (.cells cs t (0, 0)) := h.mem hk
theorem Mem.lt (h : Mem w0 F L w) {k b : Nat} {cs : Array Value} {t : TypeId} (hk : ith L k = some (pt b cs t)) : b < w.heap.size :=
  ((h.inb _ (List.mem_of_getElem? (by rw [← ith_eq]; exact hk))) b rfl).1
theorem Mem.new (h : Mem w0 nof L w) {k b : Nat} {cs : Array Value} {t : TypeId} (hk : ith L k = some (pt b cs t)) : w0.heap.size ≤ b := by
  rcases Nat.lt_or_ge b w0.heap.size with g | g
  · exact ((h.inb _ (List.mem_of_getElem? (by rw [← ith_eq]; exact hk))) b rfl).2 g |>.elim
  · exact g
theorem Mem.cell (h : Mem w0 F L w) {k b i : Nat} {cs : Array Value} {t : TypeId} {v : Value} (hk : ith L k = some (pt b cs t)) (hv : cs[i]? = some v) : w.cell? ⟨b, i, none⟩ = some v := by
  simp [World.cell?, h.block hk, hv]
theorem Mem.free (h : Mem w0 F L w) {k b : Nat} (i : Nat) {cs : Array Value} {t : TypeId} (hk : ith L k = some (pt b cs t)) : w.frozen? ⟨b, i, none⟩ = false := by
  simp [World.frozen?, h.block hk]
theorem Mem.cell0 (h : Mem w0 F L w) {b i : Nat} {v : Value} (hc : w0.cell? ⟨b, i, none⟩ = some v) (hF : ¬ F b) : w.cell? ⟨b, i, none⟩ = some v := by
  have hlt := World.block_lt_of_cell? w0 _ hc
  rw [← hc]
  exact World.cell?_of_block (h.old b hlt hF)
theorem Mem.range (h : Mem w0 F L w) {k b : Nat} {cs : List Value} {t : TypeId} (hk : ith L k = some (pt b cs.toArray t)) : w.rangeAt b 0 cs := fun j v hv => by
  rw [Nat.zero_add]; exact h.cell hk (by simpa using hv)
theorem Mem.alloc (h : Mem w0 F L w) (cs : Array Value) (t : TypeId) : Mem w0 F (pt w.heap.size cs t :: L) (w.alloc (.cells cs t)) := by
  have hold : ∀ b, b < w.heap.size → (w.alloc (.cells cs t)).heap[b]? = w.heap[b]? := fun b hb => Below.heap_alloc w _ b hb
  refine ⟨h.os, h.tape, h.output, by have := h.size; simp; omega, fun b hb hF => by rw [hold b (Nat.lt_of_lt_of_le hb h.size)]; exact h.old b hb hF, ?_, ?_, ?_⟩
  · intro c hc
    rcases List.mem_cons.1 hc with rfl | hc
    · exact heap_alloc_new w _
    · exact c.loc w _ (fun b hb => hold b (h.inb c hc b hb).1) (h.holds c hc)
  · intro c hc b hb
    rcases List.mem_cons.1 hc with rfl | hc
    · have e : b = w.heap.size := hb
      subst e
      exact ⟨by simp, fun g => absurd h.size (by omega)⟩
    · have := h.inb c hc b hb
      exact ⟨by simp; omega, this.2⟩
  · refine List.pairwise_cons.2 ⟨fun d hd b hb hdb => ?_, h.apart⟩
    have e : b = w.heap.size := hb
    have := (h.inb d hd b hdb).1
    omega
def setAt {α : Type} : List α → Nat → α → List α
  | [], _, _ => []
  | _ :: xs, 0, y => y :: xs
  | x :: xs, i + 1, y => x :: setAt xs i y
theorem setAt_eq {α : Type} : ∀ (l : List α) (i : Nat) (y : α), setAt l i y = l.set i y
  | [], _, _ => rfl
  | _ :: _, 0, _ => rfl
  | x :: xs, i + 1, y => by simp [setAt, setAt_eq xs i y]
theorem Mem.turn (h : Mem w0 F L w) {k : Nat} (hk : ith L k = some c) (hf : ∀ b, d.foot b → c.foot b) (hd : d.holds w') (ho : w'.os = w.os) (ht : w'.tape = w.tape) (hu : w'.output = w.output) (hz : w'.heap.size = w.heap.size)
  (hb : ∀ b, b < w.heap.size → ¬ c.foot b → w'.heap[b]? = w.heap[b]?) : Mem w0 F (setAt L k d) w' := by
 rw [ith_eq] at hk
 rw [setAt_eq]
 obtain ⟨hlt, hck⟩ := List.getElem?_eq_some_iff.1 hk
 have hcm : c ∈ L := List.mem_of_getElem? hk
 have hother : ∀ j (hj : j < L.length), j ≠ k → ∀ b, L[j].foot b → ¬ c.foot b := by
  intro j hj hjk b hjb hcb
  rcases Nat.lt_or_gt_of_ne hjk with g | g
  · exact (List.pairwise_iff_getElem.1 h.apart j k hj hlt g) b hjb (hck ▸ hcb)
  · exact (List.pairwise_iff_getElem.1 h.apart k j hlt hj g) b (hck ▸ hcb) hjb
 have hmem : ∀ e ∈ L.set k d, e = d ∨ ∃ j, ∃ hj : j < L.length, j ≠ k ∧ L[j] = e := by
  intro e he
  obtain ⟨j, hj⟩ := List.getElem?_of_mem he
  rw [List.getElem?_set] at hj
  split at hj
  · left; simpa using hj.symm
  ·
   rename_i hne
   obtain ⟨hj1, hj2⟩ := List.getElem?_eq_some_iff.1 hj
   exact .inr ⟨j, hj1, fun e => hne e.symm, hj2⟩
 refine ⟨ho.trans h.os, ht.trans h.tape, hu.trans h.output, by rw [hz]; exact h.size, fun b hlt' hF => ?_, ?_, ?_, ?_⟩
 ·
  rw [hb b (Nat.lt_of_lt_of_le hlt' h.size) (fun hc => hF ((h.inb c hcm b hc).2 hlt'))]
  exact h.old b hlt' hF
 ·
  intro e he
  rcases hmem e he with rfl | ⟨j, hj, hjk, rfl⟩
  · exact hd
  · exact L[j].loc w w' (fun b hjb => hb b (h.inb _ (List.getElem_mem hj) b hjb).1 (hother j hj hjk b hjb)) (h.holds _ (List.getElem_mem hj))
 ·
  intro e he b heb
  rw [hz]
  rcases hmem e he with rfl | ⟨j, hj, hjk, rfl⟩
  · exact h.inb c hcm b (hf b heb)
  · exact h.inb _ (List.getElem_mem hj) b heb
 ·
  refine List.pairwise_iff_getElem.2 fun i j hi hj hij b hb1 hb2 => ?_
  simp only [List.length_set] at hi hj
  rw [List.getElem_set] at hb1 hb2
  split at hb1
  ·
   rename_i e; subst e
   split at hb2
   · omega
   · exact hother j hj (by omega) b hb2 (hf b hb1)
  ·
   split at hb2
   ·
    rename_i e; subst e
    exact hother i hi (by omega) b hb1 (hf b hb2)
   · exact (List.pairwise_iff_getElem.1 h.apart i j hi hj hij) b hb1 hb2
theorem heap_setCell_at {w : World} {b : Nat} {cs : Array Value} {t : TypeId} (h : w.heap[b]? = some (.cells cs t (0, 0))) (i : Nat) (v : Value) : (w.setCell ⟨b, i, none⟩ v).heap[b]? = some (.cells (cs.setIfInBounds i v) t (0, 0)) := by
  have hlt := lt_of_block h
  have h' : w.heap[b] = .cells cs t (0, 0) := by simpa [Array.getElem?_eq_getElem hlt] using h
  show (w.heap.modify b _)[b]? = _
  rw [Array.getElem?_eq_getElem (by simpa using hlt), Array.getElem_modify_self, h']
  rfl
theorem Mem.store (h : Mem w0 F L w) {k b : Nat} {cs : Array Value} {t : TypeId} (hk : ith L k = some (pt b cs t)) (i : Nat) (v : Value) : Mem w0 F (setAt L k (pt b (cs.setIfInBounds i v) t)) (w.setCell ⟨b, i, none⟩ v) :=
  h.turn (c := pt b cs t) hk (fun _ h => h) (heap_setCell_at (h.block hk) i v) rfl rfl rfl (by simp) (fun c _ hc => Below.heap_setCell w _ _ _ hc)
def spl : Array Value → Nat → List Value → Array Value
  | cs, _, [] => cs
  | cs, o, v :: vs => spl (cs.setIfInBounds o v) (o + 1) vs
theorem setAt_setAt {α : Type} : ∀ (l : List α) (k : Nat) (x y : α), setAt (setAt l k x) k y = setAt l k y
  | [], _, _, _ => rfl
  | _ :: _, 0, _, _ => rfl
  | z :: zs, k + 1, x, y => by simp [setAt, setAt_setAt zs k x y]
theorem ith_setAt {α : Type} : ∀ (l : List α) (k : Nat) (x y : α), ith l k = some y → ith (setAt l k x) k = some x
  | [], _, _, _, h => by simp [ith] at h
  | _ :: _, 0, _, _, _ => rfl
  | _ :: zs, k + 1, x, y, h => ith_setAt zs k x y h
theorem Mem.storeA : ∀ (vs : List Value) {w0 w : World} {F : Nat → Prop} {L : List Ck} {k b : Nat} {cs : Array Value} {t : TypeId} (o : Nat), Mem w0 F L w → ith L k = some (pt b cs t) → Mem w0 F (setAt L k (pt b (spl cs o vs) t)) (w.setCells b o vs)
  | [], w0, w, F, L, k, b, cs, t, o, h, hk => by
    have e : setAt L k (pt b cs t) = L := by
      rw [setAt_eq]; rw [ith_eq] at hk
      exact List.ext_getElem? fun j => by
        rw [List.getElem?_set]
        split
        · rename_i e; subst e
          obtain ⟨hlt, -⟩ := List.getElem?_eq_some_iff.1 hk
          rw [hk]; simp [hlt]
        · rfl
    show Mem w0 F (setAt L k (pt b cs t)) w
    rw [e]; exact h
  | v :: vs, w0, w, F, L, k, b, cs, t, o, h, hk => by
    have h1 := h.store hk o v
    have h2 := Mem.storeA vs (o + 1) h1 (ith_setAt _ _ _ _ hk)
    rw [setAt_setAt] at h2
    exact h2
theorem Mem.there (h : Mem w0 F L w) {k b : Nat} {cs : Array Value} {t : TypeId} (hk : ith L k = some (pt b cs t)) {o n : Nat} (hn : Nat.ble (o + n) cs.size = true) : w.there b o n := fun j hj => by
  have hle : o + n ≤ cs.size := Nat.le_of_ble_eq_true hn
  refine ⟨?_, h.free _ hk⟩
  rw [h.cell hk (v := cs[o + j]'(by omega)) (by rw [Array.getElem?_eq_getElem])]
  rfl
def allOne : List Value → Bool
  | [] => true
  | v :: vs => v.oneCell' && allOne vs
theorem allOne_spec : ∀ (vs : List Value), allOne vs = true → vs.toArray.all (·.oneCell') = true
  | [], _ => by simp
  | v :: vs, h => by
    simp only [allOne, Bool.and_eq_true] at h
    have := allOne_spec vs h.2
    simp only [List.all_toArray, List.all_cons, h.1, Bool.true_and] at this ⊢
    exact this
theorem Mem.call (h : Mem w0 F L w) (hn : Mem w nof L' w') : Mem w0 F (L' ++ L) w' := by
  have hkeep : ∀ b, b < w.heap.size → w'.heap[b]? = w.heap[b]? := fun b hb => hn.old b hb (fun f => f)
  refine ⟨hn.os.trans h.os, hn.tape.trans h.tape, hn.output.trans h.output, Nat.le_trans h.size hn.size, fun b hb hF => by rw [hkeep b (Nat.lt_of_lt_of_le hb h.size)]; exact h.old b hb hF, ?_, ?_, ?_⟩
  · intro c hc
    rcases List.mem_append.1 hc with hc | hc
    · exact hn.holds c hc
    · exact c.loc w w' (fun b hb => hkeep b (h.inb c hc b hb).1) (h.holds c hc)
  · intro c hc b hb
    rcases List.mem_append.1 hc with hc | hc
    · have := hn.inb c hc b hb
      refine ⟨this.1, fun g => ?_⟩
      exact (this.2 (Nat.lt_of_lt_of_le g h.size)).elim
    · have := h.inb c hc b hb
      exact ⟨Nat.lt_of_lt_of_le this.1 hn.size, this.2⟩
  · refine List.pairwise_append.2 ⟨hn.apart, h.apart, fun c hc d hd b hcb hdb => ?_⟩
    have h1 := hn.inb c hc b hcb
    have h2 := h.inb d hd b hdb
    exact h1.2 h2.1
theorem Mem.callB (h : Mem w0 F L w) (hn : Below w.heap.size w w') : Mem w0 F L w' := h.call (Mem.of_below hn)
end
section
variable {P : Program} {R : Ending → World → Prop} {f : FuncId} {a : Act} {w w0 : World} {n : Nat} {l : List (Nat × Value)} {ops : Array Oper} {Q : Exit → Act → World → Prop} {rest : List Oper} {F : Nat → Prop} {L : List Ck}
  {S : World → Prop} {os : List Oper} {is : Ordt} {b0 : Bool} {i last : Nat} {d : Nat} {t ty : TypeId} {x y : Operand} {pos : String} {aft : Array Edge}
theorem S.store {k b o : Nat} {cs : Array Value} {t' : TypeId} {u v : Value} (hA : St n l a) (hM : Mem w0 F L w) (hi : szOf P t = some (false, 1)) (hx : opv l x = some (.pointer (some ⟨b, o, none⟩))) (hy : opv l y = some v) (hv : v.oneCell' = true)
    (hk : ith L k = some (pt b cs t')) (hu : cs[o]? = some u) (h : ∀ w', Mem w0 F (setAt L k (pt b (cs.setIfInBounds o v) t')) w' → wpList P ops Q rest a w') :
    wpList P ops Q ({ dst := none, op := .store t x y, type := ty, pos, after := aft, guard := none } :: rest) a w :=
  S.skip hA (R.store hi hx hy hv (hM.cell hk hu) (hM.free _ hk)) (h _ (hM.store hk o v))
theorem S.storeA {k b o sz : Nat} {cs : Array Value} {t' : TypeId} {vs : List Value} (hA : St n l a) (hM : Mem w0 F L w) (hi : szOf P t = some (true, sz)) (hx : opv l x = some (.pointer (some ⟨b, o, none⟩))) (hy : opv l y = some (.agg vs.toArray)) (hn : vs.length = sz) (h1 : allOne vs = true)
    (hk : ith L k = some (pt b cs t')) (hfit : Nat.ble (o + vs.length) cs.size = true) (h : ∀ w', Mem w0 F (setAt L k (pt b (spl cs o vs) t')) w' → wpList P ops Q rest a w') :
    wpList P ops Q ({ dst := none, op := .store t x y, type := ty, pos, after := aft, guard := none } :: rest) a w :=
  S.skip hA (R.storeA hi hx hy (by simpa using hn) (allOne_spec _ h1) (hM.there hk (by simpa using hfit))) (h _ (by simpa using hM.storeA vs o hk))
theorem S.box {v : Value} (hA : St n l a) (hM : Mem w0 F L w) (hx : opv l x = some v) (hd : Nat.blt d n = true) (h : ∀ b w', w0.heap.size ≤ b → Mem w0 F (pt b v.cells t :: L) w' → ∀ a, St n ((d, .pointer (some ⟨b, 0, none⟩)) :: l) a → wpList P ops Q rest a w') :
    wpList P ops Q ({ dst := some d, op := .box t x, type := ty, pos, after := aft, guard := none } :: rest) a w :=
  S.val hA (R.box hx) hd (h _ _ hM.size (hM.alloc _ _))
theorem S.alloc {j : TypeInfo} {z : Value} (hA : St n l a) (hM : Mem w0 F L w) (hj : P.info? t = some j) (hz : j.zero = some z) (hd : Nat.blt d n = true) (h : ∀ b w', w0.heap.size ≤ b → Mem w0 F (pt b z.cells t :: L) w' → ∀ a, St n ((d, .pointer (some ⟨b, 0, none⟩)) :: l) a → wpList P ops Q rest a w') :
    wpList P ops Q ({ dst := some d, op := .alloc t, type := ty, pos, after := aft, guard := none } :: rest) a w :=
  S.val hA (R.alloc hj hz) hd (h _ _ hM.size (hM.alloc _ _))
theorem D.store {k b o : Nat} {cs : Array Value} {t' : TypeId} {u v : Value} (hA : St n l a) (hM : Mem w0 F L w) (ho : ith os i = some { dst := none, op := .store t x y, type := ty, pos, after := aft, guard := none })
    (hi : szOf P t = some (false, 1)) (hx : opv l x = some (.pointer (some ⟨b, o, none⟩))) (hy : opv l y = some v) (hv : v.oneCell' = true)
    (hk : ith L k = some (pt b cs t')) (hu : cs[o]? = some u) (h : ∀ w', Mem w0 F (setAt L k (pt b (cs.setIfInBounds o v) t')) w' → (b0 = false → i ≠ last → S w') ∧ wpOrd P last os Q S (b0 || Nat.beq i last) is a w') : wpOrd P last os Q S b0 (.cons (i, false) is) a w :=
  have g := h _ (hM.store hk o v)
  D.skip hA ho (R.store hi hx hy hv (hM.cell hk hu) (hM.free _ hk)) g.1 g.2
theorem D.storeA {k b o sz : Nat} {cs : Array Value} {t' : TypeId} {vs : List Value} (hA : St n l a) (hM : Mem w0 F L w) (ho : ith os i = some { dst := none, op := .store t x y, type := ty, pos, after := aft, guard := none })
    (hi : szOf P t = some (true, sz)) (hx : opv l x = some (.pointer (some ⟨b, o, none⟩))) (hy : opv l y = some (.agg vs.toArray)) (hn : vs.length = sz) (h1 : allOne vs = true)
    (hk : ith L k = some (pt b cs t')) (hfit : Nat.ble (o + vs.length) cs.size = true) (h : ∀ w', Mem w0 F (setAt L k (pt b (spl cs o vs) t')) w' → (b0 = false → i ≠ last → S w') ∧ wpOrd P last os Q S (b0 || Nat.beq i last) is a w') : wpOrd P last os Q S b0 (.cons (i, false) is) a w :=
  have g := h (w.setCells b o vs) (hM.storeA vs o hk)
  D.skip hA ho (by simpa using R.storeA hi hx hy (by simpa using hn) (allOne_spec _ h1) (hM.there hk (by simpa using hfit))) g.1 g.2
theorem Ends.retC {fn : Func} {k b p sz : Nat} {cs : List Value} {t' : TypeId} {kk : List Item} (hf : P.funcs[f]? = some fn) (hr : fn.results = #[.cell p t]) (hA : St n l a) (hM : Mem w0 F L w) (hp : lk l p = some (.pointer (some ⟨b, 0, none⟩)))
    (hk : ith L k = some (pt b cs.toArray t')) (hi : szOf P t = some (true, sz)) (hn : cs.length = sz) (hR : R (.returned (.agg cs.toArray)) w) : Ends P f R (.code .ret :: kk) a w := by
  obtain ⟨d, j, hd, hj, hrow, hsz⟩ := szOf_spec hi
  refine Ends.to_ret hf hA.defers ?_ hR
  exact results_cell_row hr a.tmps w b t' cs.toArray (0, 0) d (hA.getD hp) (hM.block hk) hd (by cases d <;> first | rfl | cases hrow) (by simp [hj, hsz, hn])
theorem D.box {v : Value} (hA : St n l a) (hM : Mem w0 F L w) (ho : ith os i = some { dst := some d, op := .box t x, type := ty, pos, after := aft, guard := none }) (hx : opv l x = some v) (hd : Nat.blt d n = true)
    (h : ∀ b w', w0.heap.size ≤ b → Mem w0 F (pt b v.cells t :: L) w' → S w' ∧ ∀ a, St n ((d, .pointer (some ⟨b, 0, none⟩)) :: l) a → wpOrd P last os Q S b0 is a w') : wpOrd P last os Q S b0 (.cons (i, false) is) a w :=
  have g := h _ _ hM.size (hM.alloc _ _)
  D.eff hA ho (R.box hx) hd g.1 g.2
theorem D.alloc {j : TypeInfo} {z : Value} (hA : St n l a) (hM : Mem w0 F L w) (ho : ith os i = some { dst := some d, op := .alloc t, type := ty, pos, after := aft, guard := none }) (hj : P.info? t = some j) (hz : j.zero = some z) (hd : Nat.blt d n = true)
    (h : ∀ b w', w0.heap.size ≤ b → Mem w0 F (pt b z.cells t :: L) w' → S w' ∧ ∀ a, St n ((d, .pointer (some ⟨b, 0, none⟩)) :: l) a → wpOrd P last os Q S b0 is a w') : wpOrd P last os Q S b0 (.cons (i, false) is) a w :=
  have g := h _ _ hM.size (hM.alloc _ _)
  D.eff hA ho (R.alloc hj hz) hd g.1 g.2
end
end
section
open Go.RowKit
def own (e : TypeId) (sz : Nat) (v : Value) (n : Nat) (xs : List Value) : Ck :=
  ⟨fun b => v.ownBlock = some b, fun w => w.ownsRow 0 e sz v n xs, fun w w' h hw => by
    refine ⟨hw.1, ?_⟩
    rcases hw.2 with hn | ⟨g, cap, cur, rfl, hb, hg, rest⟩
    · exact .inl hn
    · exact .inr ⟨g, cap, cur, rfl, hb, by rw [h g rfl]; exact hg, rest⟩⟩
section
variable {w0 w w' : World} {F : Nat → Prop} {L L' : List Ck} {e t : TypeId} {sz n m cap g k b : Nat} {v v' : Value} {xs news : List Value}
theorem Mem.consNo (h : Mem w0 F L w) {c : Ck} (hc : c.holds w) (hf : ∀ b, ¬ c.foot b) : Mem w0 F (c :: L) w :=
  ⟨h.os, h.tape, h.output, h.size, h.old, fun d hd => (List.mem_cons.1 hd).elim (fun e => e ▸ hc) (h.holds d),
    fun d hd b hb => (List.mem_cons.1 hd).elim (fun e => (hf b (e ▸ hb)).elim) (fun hd => h.inb d hd b hb), List.pairwise_cons.2 ⟨fun _ _ b hb => (hf b hb).elim, h.apart⟩⟩
theorem Mem.ownNil (h : Mem w0 F L w) (e : TypeId) (sz : Nat) : Mem w0 F (own e sz (.slice none 0 0) 0 [] :: L) w :=
  h.consNo (World.ownsRow_nil w 0 e sz) (fun b hb => by cases hb)
theorem Mem.head {c : Ck} (h : Mem w0 F (c :: L) w) {d : Ck} (hd : d.holds w) (hf : ∀ b, d.foot b → c.foot b) : Mem w0 F (d :: L) w := by
  have := h.turn (k := 0) (c := c) (d := d) (w' := w) rfl hf hd rfl rfl rfl rfl (fun _ _ _ => rfl)
  exact this
theorem Mem.ownPt {cs : Array Value} (h : Mem w0 F (pt b cs e :: L) w) (hs : cs.size = cap * sz) (hm : cap ≤ maxLen) (hn : n ≤ cap) (hx : cs.toList.take (n * sz) = xs) : Mem w0 F (own e sz (.slice (some ⟨b, 0, none⟩) n cap) n xs :: L) w := by
  refine h.head ⟨?_, .inr ⟨b, cap, cs, rfl, Nat.zero_le _, h.block (k := 0) rfl, hn, hm, hs, hx⟩⟩ (fun c hc => ?_)
  · rw [← hx, List.length_take, Array.length_toList, hs, Nat.min_eq_left (Nat.mul_le_mul_right _ hn)]
  · have e : some b = some c := hc
    exact (Option.some.inj e).symm
theorem own_form {w : World} (h : w.ownsRow 0 e sz v n xs) : ∃ a cap, v = .slice a n cap ∧ n ≤ cap ∧ cap ≤ maxLen ∧ xs.length = n * sz ∧ (a = none → n = 0) ∧ ∀ p, a = some p → ∃ g, p = ⟨g, 0, none⟩ := by
  obtain ⟨h1, h2⟩ := h
  rcases h2 with ⟨rfl, rfl⟩ | ⟨g, cap, cur, rfl, _, _, hn, hm, _⟩
  · exact ⟨none, 0, rfl, Nat.le_refl _, Nat.zero_le _, h1, fun _ => rfl, fun p hp => by cases hp⟩
  · exact ⟨_, cap, rfl, hn, hm, h1, fun h => (nomatch h), fun p hp => ⟨g, (Option.some.inj hp).symm⟩⟩
theorem Mem.ownForm (h : Mem w0 F L w) (hk : ith L k = some (own e sz v n xs)) : ∃ a cap, v = .slice a n cap ∧ n ≤ cap ∧ cap ≤ maxLen ∧ xs.length = n * sz ∧ (a = none → n = 0) ∧ ∀ p, a = some p → ∃ g, p = ⟨g, 0, none⟩ :=
  own_form (h.mem hk)
theorem Mem.ownAt (h : Mem w0 F L w) {a : Option Addr} (hk : ith L k = some (own e sz (.slice a n cap) n xs)) (hn : 0 < n) : ∃ g, a = some ⟨g, 0, none⟩ := by
  obtain ⟨a', cap', he, -, -, -, h1, h2⟩ := h.ownForm hk
  cases he
  cases a with
  | none => have := h1 rfl; omega
  | some p => obtain ⟨g, rfl⟩ := h2 p rfl; exact ⟨g, rfl⟩
theorem Mem.ownLe (h : Mem w0 F L w) {a : Option Addr} (hk : ith L k = some (own e sz (.slice a n cap) n xs)) : n ≤ cap ∧ cap ≤ maxLen := by
  obtain ⟨a', cap', he, h1, h2, -⟩ := h.ownForm hk
  cases he
  exact ⟨h1, h2⟩
theorem Mem.ownCell (h : Mem w0 F L w) (hk : ith L k = some (own e sz (.slice (some ⟨g, 0, none⟩) n cap) n xs)) {i : Nat} {u : Value} (hx : xs[i]? = some u) : w.cell? ⟨g, i, none⟩ = some u := by
  have h0 : w.ownsRow 0 e sz (.slice (some ⟨g, 0, none⟩) n cap) n xs := h.mem hk
  have := h0.cells (g := g) rfl i u hx
  rwa [Addr.add_lit, Nat.zero_add] at this
theorem Mem.ownFree (h : Mem w0 F L w) (hk : ith L k = some (own e sz (.slice (some ⟨g, 0, none⟩) n cap) n xs)) (i : Nat) : w.frozen? ⟨g, i, none⟩ = false := by
  have h0 : w.ownsRow 0 e sz (.slice (some ⟨g, 0, none⟩) n cap) n xs := h.mem hk
  rcases h0.2 with ⟨h1, _⟩ | ⟨g', cap', cur, h1, _, hg, _⟩
  · cases h1
  · cases h1; simp [World.frozen?, hg]
theorem Mem.ownStore (h : Mem w0 F L w) (hk : ith L k = some (own e sz (.slice (some ⟨g, 0, none⟩) n cap) n xs)) (i : Nat) (u : Value) :
    Mem w0 F (setAt L k (own e sz (.slice (some ⟨g, 0, none⟩) n cap) n (xs.set i u))) (w.setCell ⟨g, i, none⟩ u) := by
  have h0 : w.ownsRow 0 e sz (.slice (some ⟨g, 0, none⟩) n cap) n xs := h.mem hk
  exact h.turn hk (fun _ hb => hb) (h0.stored i u).1 rfl rfl rfl (by simp) (fun c _ hc => Below.heap_setCell w _ _ _ (fun e => hc (by rw [e]; rfl)))
def dropAt {α : Type} : List α → Nat → List α
  | [], _ => []
  | _ :: xs, 0 => xs
  | x :: xs, i + 1 => x :: dropAt xs i
theorem dropAt_sub {α : Type} : ∀ (l : List α) (i : Nat), (dropAt l i).Sublist l
  | [], _ => List.Sublist.refl _
  | _ :: _, 0 => List.sublist_cons_self _ _
  | _ :: xs, i + 1 => (dropAt_sub xs i).cons_cons _
theorem Mem.drop (h : Mem w0 F L w) (k : Nat) : Mem w0 F (dropAt L k) w := h.sub (dropAt_sub L k)
theorem dropAt_perm {α : Type} : ∀ (l : List α) (i : Nat) (x : α), ith l i = some x → l.Perm (x :: dropAt l i)
  | [], _, _, h => by simp [ith] at h
  | y :: ys, 0, x, h => by
    have e : y = x := by simpa [ith] using h
    subst e; exact List.Perm.refl _
  | y :: ys, i + 1, x, h => ((dropAt_perm ys i x h).cons y).trans (List.Perm.swap _ _ _)
theorem Mem.front (h : Mem w0 F L w) {k : Nat} {c : Ck} (hk : ith L k = some c) : Mem w0 F (c :: dropAt L k) w := h.perm (dropAt_perm L k c hk)
theorem append_form {P : Program} (w : World) (t ty e : TypeId) (i : TypeInfo) (z : Value) (size bytes : Nat) (ht : P.underlying t = some (.slice e)) (hi : P.info? e = some i) (hz : i.zero = some z)
    (hsize : i.size = size) (hby : i.bytes = bytes) (hzs : z.cells.size = size) (hsz : 0 < size)
    (v : Value) (n : Nat) (xs : List Value) (hown : w.ownsRow 0 e size v n xs)
    (a : Addr) (m c : Nat) (news : List Value) (hl : news.length = m * size) (hnews : ∀ j u, news[j]? = some u → w.cell? (a.add j) = some u) (h1 : ∀ u ∈ news, u.oneCell' = true)
    (h63 : n + m ≤ maxLen) (hbytes : (n + m) * bytes ≤ 140737488355328) :
    ∃ v' w', (Builtin.append_ #[t, t] ty #[v, .slice (some a) m c]).run P w = .ok v' w' ∧ w'.ownsRow 0 e size v' (n + m) (xs ++ news) ∧ w.grownBy w' v.ownBlock ∧
      (∀ b, v'.ownBlock = some b → v.ownBlock = some b ∨ w.heap.size ≤ b) := by
  obtain ⟨v', w', hr, h2, h3, -⟩ := run_append_own (P := P) w 0 t ty e i z size bytes ht hi hz hsize hby hzs hsz v n xs hown a m c news hl hnews h1 h63 hbytes (Nat.zero_le _)
  refine ⟨v', w', hr, h2, h3, fun b hb => ?_⟩
  rcases hown.2 with ⟨rfl, rfl⟩ | ⟨g, cap, cur, rfl, hbg, hg, hnc, hcm, hcs, htake⟩
  · obtain ⟨v2, w2, hr2, g2, -, -⟩ := run_append_own (P := P) w w.heap.size t ty e i z size bytes ht hi hz hsize hby hzs hsz (.slice none 0 0) 0 xs
      ⟨hown.1, .inl ⟨rfl, rfl⟩⟩ a m c news hl hnews h1 h63 hbytes (Nat.le_refl _)
    rw [hr] at hr2
    obtain ⟨rfl, rfl⟩ := (Result.ok.injEq .. ▸ hr2 : v' = v2 ∧ w' = w2)
    exact .inr (g2.lt b hb).1
  · by_cases hroom : n + m ≤ cap
    · obtain ⟨w2, hr2, -, -⟩ := run_append_fits (P := P) w 0 t ty e i size ht hi hsize g n cap xs hown a m c news hl hnews h1 hroom
      rw [hr] at hr2
      obtain ⟨rfl, rfl⟩ := (Result.ok.injEq .. ▸ hr2 : v' = _ ∧ w' = w2)
      exact .inl hb
    · have holds : ∀ j u, xs[j]? = some u → w.cell? ((⟨g, 0, none⟩ : Addr).add j) = some u := hown.cells (g := g) rfl
      have hl' := hown.1
      subst hsize
      subst hby
      have hr2 := run_append_grow (P := P) w t ty e i z ht hi hz ⟨g, 0, none⟩ n cap xs hl' holds a m c news hl hnews (by omega) (by unfold maxLen at h63; omega) (growslice_fits (by omega) hbytes)
      rw [hr] at hr2
      obtain ⟨rfl, rfl⟩ := (Result.ok.injEq .. ▸ hr2 : v' = _ ∧ w' = _)
      have e : some w.heap.size = some b := hb
      exact .inr (by rw [← Option.some.inj e]; exact Nat.le_refl _)
theorem Mem.grown (h : Mem w0 F L w) (hk : ith L k = some (own e sz v n xs)) (h2 : w'.ownsRow 0 e sz v' m news) (h3 : w.grownBy w' v.ownBlock) (h4 : ∀ b, v'.ownBlock = some b → v.ownBlock = some b ∨ w.heap.size ≤ b) :
    Mem w0 F (setAt L k (own e sz v' m news)) w' := by
  have hfr := h.front hk
  have hperm : (setAt L k (own e sz v' m news)).Perm (own e sz v' m news :: dropAt L k) := by
    have : ∀ (l : List Ck) (i : Nat) (x y : Ck), ith l i = some x → (setAt l i y).Perm (y :: dropAt l i) := by
      intro l
      induction l with
      | nil => intro i x y h; simp [ith] at h
      | cons z zs ih =>
        intro i x y h
        cases i with
        | zero => exact List.Perm.refl _
        | succ i => exact ((ih i x y h).cons z).trans (List.Perm.swap _ _ _)
    exact this L k _ _ hk
  refine Mem.perm ?_ hperm.symm
  have hap := List.pairwise_cons.1 hfr.apart
  refine ⟨h3.os.trans h.os, h3.tape.trans h.tape, h3.output.trans h.output, Nat.le_trans h.size h3.size, fun b hb hF => ?_, fun d hd => ?_, fun d hd b hb => ?_, List.pairwise_cons.2 ⟨fun d hd b hb hdb => ?_, hap.2⟩⟩
  · rw [h3.block b (Nat.lt_of_lt_of_le hb h.size) (fun e => hF ((hfr.inb _ (List.mem_cons_self ..) b e.symm).2 hb))]
    exact h.old b hb hF
  · rcases List.mem_cons.1 hd with rfl | hd
    · exact h2
    · refine d.loc w w' (fun b hb => h3.block b (hfr.inb d (by simp [hd]) b hb).1 (fun e => hap.1 d hd b e.symm hb)) (hfr.holds d (by simp [hd]))
  · rcases List.mem_cons.1 hd with rfl | hd
    · refine ⟨(h2.lt b hb).2, fun hlt => ?_⟩
      rcases h4 b hb with h4 | h4
      · exact (hfr.inb _ (List.mem_cons_self ..) b h4).2 hlt
      · have := h.size; omega
    · have := hfr.inb d (by simp [hd]) b hb
      exact ⟨Nat.lt_of_lt_of_le this.1 h3.size, this.2⟩
  · rcases h4 b hb with h4 | h4
    · exact hap.1 d hd b h4 hdb
    · have := (hfr.inb d (by simp [hd]) b hdb).1; omega
end
section
variable {P : Program} {l : List (Nat × Value)} {w : World} {ty : TypeId} {x y : Operand} {t e : TypeId}
theorem R.make {k k' : IntKind} {n : Int} {i : TypeInfo} {z : Value} (ht : P.underlying t = some (.slice e)) (hi : P.info? e = some i) (hz : i.zero = some z) (hx : opv l x = some (.int k n)) (hy : opv l y = some (.int k' n)) (h0 : 0 ≤ n) (hb : (i.bytes : Int) * n ≤ 281474976710656) (h1 : n ≤ 9223372036854775807) :
    Run P l w (.makeSlice t x y) ty (.slice (some ⟨w.heap.size, 0, none⟩) n.toNat n.toNat) (w.alloc (.cells (madeCells z.cells (n.toNat * i.size)) e)) := fun ev h _ _ _ _ => by
  have hr := run_make (P := P) w t e i z ht hi hz k k' n n h0 (Int.le_refl _) hb h1
  simp [execOp, h _ _ hx, h _ _ hy, hr]
theorem mapi_get (l : List Int) (i : Nat) (h : i < l.length) : (l.map (Value.int .i64))[i]? = some (.int .i64 (l.getD i 0)) := by simp [h]
theorem made_ints (n : Nat) : madeCells #[.int .i64 0] n = ints (List.replicate n 0) := by
  apply Array.toList_inj.1
  rw [toList_madeCells_one]; simp [ints]
theorem R.buildSl {len : Nat} {ps : Array (Nat × Operand)} {vs : List Value} {cells : Array Value} {i : TypeInfo} {z : Value} (ht : P.underlying t = some (.slice e)) (hi : P.info? e = some i) (hz : i.zero = some z) (hp : opvs l (ps.toList.map (·.2)) = some vs)
    (hsm : Nat.ble (len * i.size) 1000 = true) (hps : Nat.beq (len * i.size) 0 = false) (hf : Instr.fill (fun j => some (j * i.size, i.size)) ((Array.range (len * i.size)).map (z.cells[· % z.cells.size]!)) ((ps.toList.map (·.1)).zip vs) = some cells) :
    Run P l w (.buildSlice t len ps) ty (.slice (some ⟨w.heap.size, 0, none⟩) len len) (w.alloc (.cells cells e)) := fun ev h _ _ _ _ => by
  have key : ∀ (os : List (Nat × Operand)) (vs : List Value), opvs l (os.map (·.2)) = some vs → os.map (fun (i, x) => (i, ev x)) = (os.map (·.1)).zip vs := by
    intro os
    induction os with
    | nil => intro vs hv; simp [opvs] at hv; subst hv; rfl
    | cons o os ih =>
      intro vs hv
      simp only [List.map_cons, opvs] at hv
      split at hv
      · cases hv
      · rename_i v hv1
        split at hv
        · cases hv
        · rename_i us hus
          simp only [Option.some.injEq] at hv
          subst hv
          simp [ih us hus, h _ _ hv1]
  have h1 : (ps.map fun (i, x) => (i, ev x)).toList = (ps.toList.map (·.1)).zip vs := by simpa using key _ _ hp
  have hle : len * i.size ≤ 1000 := Nat.le_of_ble_eq_true hsm
  have hne : ¬ len * i.size = 0 := by intro e; rw [e] at hps; cases hps
  simp only [execOp]
  rw [Sem.run_bind, run_buildSlice w t e len _ cells i z ht hi hz (by omega) hne (by rw [h1]; exact hf)]
  rfl
end
section
variable {P : Program} {R : Ending → World → Prop} {f : FuncId} {a : Act} {w w0 : World} {nn : Nat} {l : List (Nat × Value)} {ops : Array Oper} {Q : Exit → Act → World → Prop} {rest : List Oper} {F : Nat → Prop} {L : List Ck}
  {S : World → Prop} {os : List Oper} {is : Ordt} {b0 : Bool} {i last : Nat} {d : Nat} {t e ty : TypeId} {x y : Operand} {pos : String} {aft : Array Edge}
theorem S.make {k k' : IntKind} {n : Int} {j : TypeInfo} {z : Value} (hA : St nn l a) (hM : Mem w0 F L w) (ht : P.underlying t = some (.slice e)) (hi : P.info? e = some j) (hz : j.zero = some z) (hx : opv l x = some (.int k n)) (hy : opv l y = some (.int k' n)) (h0 : 0 ≤ n) (hb : (j.bytes : Int) * n ≤ 281474976710656) (h1 : n ≤ 9223372036854775807) (hd : Nat.blt d nn = true)
    (h : ∀ b w', w0.heap.size ≤ b → Mem w0 F (pt b (madeCells z.cells (n.toNat * j.size)) e :: L) w' → ∀ a, St nn ((d, .slice (some ⟨b, 0, none⟩) n.toNat n.toNat) :: l) a → wpList P ops Q rest a w') :
    wpList P ops Q ({ dst := some d, op := .makeSlice t x y, type := ty, pos, after := aft, guard := none } :: rest) a w :=
  S.val hA (R.make ht hi hz hx hy h0 hb h1) hd (h _ _ hM.size (hM.alloc _ _))
theorem S.buildSl {len : Nat} {ps : Array (Nat × Operand)} {vs : List Value} {cells : Array Value} {j : TypeInfo} {z : Value} (hA : St nn l a) (hM : Mem w0 F L w) (ht : P.underlying t = some (.slice e)) (hi : P.info? e = some j) (hz : j.zero = some z) (hp : opvs l (ps.toList.map (·.2)) = some vs)
    (hsm : Nat.ble (len * j.size) 1000 = true) (hps : Nat.beq (len * j.size) 0 = false) (hf : Instr.fill (fun i => some (i * j.size, j.size)) ((Array.range (len * j.size)).map (z.cells[· % z.cells.size]!)) ((ps.toList.map (·.1)).zip vs) = some cells) (hd : Nat.blt d nn = true)
    (h : ∀ b w', w0.heap.size ≤ b → Mem w0 F (pt b cells e :: L) w' → ∀ a, St nn ((d, .slice (some ⟨b, 0, none⟩) len len) :: l) a → wpList P ops Q rest a w') :
    wpList P ops Q ({ dst := some d, op := .buildSlice t len ps, type := ty, pos, after := aft, guard := none } :: rest) a w :=
  S.val hA (R.buildSl ht hi hz hp hsm hps hf) hd (h _ _ hM.size (hM.alloc _ _))
theorem D.buildSl {len : Nat} {ps : Array (Nat × Operand)} {vs : List Value} {cells : Array Value} {j : TypeInfo} {z : Value} (hA : St nn l a) (hM : Mem w0 F L w) (ho : ith os i = some { dst := some d, op := .buildSlice t len ps, type := ty, pos, after := aft, guard := none })
    (ht : P.underlying t = some (.slice e)) (hi : P.info? e = some j) (hz : j.zero = some z) (hp : opvs l (ps.toList.map (·.2)) = some vs)
    (hsm : Nat.ble (len * j.size) 1000 = true) (hps : Nat.beq (len * j.size) 0 = false) (hf : Instr.fill (fun i => some (i * j.size, j.size)) ((Array.range (len * j.size)).map (z.cells[· % z.cells.size]!)) ((ps.toList.map (·.1)).zip vs) = some cells) (hd : Nat.blt d nn = true)
    (h : ∀ b w', w0.heap.size ≤ b → Mem w0 F (pt b cells e :: L) w' → S w' ∧ ∀ a, St nn ((d, .slice (some ⟨b, 0, none⟩) len len) :: l) a → wpOrd P last os Q S b0 is a w') : wpOrd P last os Q S b0 (.cons (i, false) is) a w :=
  have g := h _ _ hM.size (hM.alloc _ _)
  D.eff hA ho (R.buildSl ht hi hz hp hsm hps hf) hd g.1 g.2
theorem D.make {k k' : IntKind} {n : Int} {j : TypeInfo} {z : Value} (hA : St nn l a) (hM : Mem w0 F L w) (ho : ith os i = some { dst := some d, op := .makeSlice t x y, type := ty, pos, after := aft, guard := none })
    (ht : P.underlying t = some (.slice e)) (hi : P.info? e = some j) (hz : j.zero = some z) (hx : opv l x = some (.int k n)) (hy : opv l y = some (.int k' n)) (h0 : 0 ≤ n) (hb : (j.bytes : Int) * n ≤ 281474976710656) (h1 : n ≤ 9223372036854775807) (hd : Nat.blt d nn = true)
    (h : ∀ b w', w0.heap.size ≤ b → Mem w0 F (pt b (madeCells z.cells (n.toNat * j.size)) e :: L) w' → S w' ∧ ∀ a, St nn ((d, .slice (some ⟨b, 0, none⟩) n.toNat n.toNat) :: l) a → wpOrd P last os Q S b0 is a w') : wpOrd P last os Q S b0 (.cons (i, false) is) a w :=
  have g := h _ _ hM.size (hM.alloc _ _)
  D.eff hA ho (R.make ht hi hz hx hy h0 hb h1) hd g.1 g.2
theorem R.append {P : Program} {l : List (Nat × Value)} {w w0 : World} {F : Nat → Prop} {L : List Ck} {k n m c sz bytes : Nat} {v z : Value} {xs news : List Value} {p : Addr} {j : TypeInfo} (hM : Mem w0 F L w) (hk : ith L k = some (own e sz v n xs)) (ht : P.underlying t = some (.slice e)) (hi : P.info? e = some j) (hz : j.zero = some z) (hsz : j.size = sz) (hby : j.bytes = bytes) (hzs : z.cells.size = sz) (hps : Nat.blt 0 sz = true)
    (hx : opv l x = some v) (hy : opv l y = some (.slice (some p) m c)) (hl : news.length = m * sz) (hnews : ∀ j u, news[j]? = some u → w.cell? (p.add j) = some u) (h1 : allOne news = true) (hmax : n + m ≤ maxLen) (hbs : (n + m) * bytes ≤ 140737488355328) :
    ∃ a' cap' w', Run P l w (.call { callee := .builtin .append, args := #[x, y], argTypes := #[t, t] }) ty (.slice a' (n + m) cap') w' ∧ Mem w0 F (setAt L k (own e sz (.slice a' (n + m) cap') (n + m) (xs ++ news))) w' := by
  have hone : ∀ u ∈ news, u.oneCell' = true := by
    clear hl hnews
    induction news with
    | nil => intro u hu; cases hu
    | cons v vs ih =>
      simp only [allOne, Bool.and_eq_true] at h1
      intro u hu
      rcases List.mem_cons.1 hu with rfl | hu
      · exact h1.1
      · exact ih h1.2 u hu
  obtain ⟨v', w', hr, h2, h3, h4⟩ := append_form (P := P) w t ty e j z sz bytes ht hi hz hsz hby hzs (Nat.le_of_ble_eq_true hps) v n xs (hM.mem hk) p m c news hl hnews hone hmax hbs
  obtain ⟨a', cap', rfl, -⟩ := own_form h2
  exact ⟨a', cap', w', fun ev h _ _ _ _ => by simp [execOp, resolve, invoke, builtin, h _ _ hx, h _ _ hy, hr], hM.grown hk h2 h3 h4⟩
theorem S.append {k k2 n m c sz bytes b : Nat} {v z : Value} {xs news : List Value} {j : TypeInfo} (hA : St nn l a) (hM : Mem w0 F L w) (hk : ith L k = some (own e sz v n xs)) (hk2 : ith L k2 = some (pt b news.toArray e)) (ht : P.underlying t = some (.slice e)) (hi : P.info? e = some j) (hz : j.zero = some z) (hsz : j.size = sz) (hby : j.bytes = bytes) (hzs : z.cells.size = sz) (hps : Nat.blt 0 sz = true)
    (hx : opv l x = some v) (hy : opv l y = some (.slice (some ⟨b, 0, none⟩) m c)) (hl : news.length = m * sz) (h1 : allOne news = true) (hmax : n + m ≤ maxLen) (hbs : (n + m) * bytes ≤ 140737488355328) (hd : Nat.blt d nn = true)
    (h : ∀ a' cap' w', Mem w0 F (setAt L k (own e sz (.slice a' (n + m) cap') (n + m) (xs ++ news))) w' → ∀ a, St nn ((d, .slice a' (n + m) cap') :: l) a → wpList P ops Q rest a w') :
    wpList P ops Q ({ dst := some d, op := .call { callee := .builtin .append, args := #[x, y], argTypes := #[t, t] }, type := ty, pos, after := aft, guard := none } :: rest) a w := by
  obtain ⟨a', cap', w', hr, hM'⟩ := R.append (P := P) (ty := ty) (t := t) hM hk ht hi hz hsz hby hzs hps hx hy hl (fun j u hu => by rw [Addr.add_lit]; exact hM.cell hk2 (by simpa using hu)) h1 hmax hbs
  exact S.val hA hr hd (h a' cap' w' hM')
theorem D.append {k k2 n m c sz bytes b : Nat} {v z : Value} {xs news : List Value} {j : TypeInfo} (hA : St nn l a) (hM : Mem w0 F L w) (ho : ith os i = some { dst := some d, op := .call { callee := .builtin .append, args := #[x, y], argTypes := #[t, t] }, type := ty, pos, after := aft, guard := none })
    (hk : ith L k = some (own e sz v n xs)) (hk2 : ith L k2 = some (pt b news.toArray e)) (ht : P.underlying t = some (.slice e)) (hi : P.info? e = some j) (hz : j.zero = some z) (hsz : j.size = sz) (hby : j.bytes = bytes) (hzs : z.cells.size = sz) (hps : Nat.blt 0 sz = true)
    (hx : opv l x = some v) (hy : opv l y = some (.slice (some ⟨b, 0, none⟩) m c)) (hl : news.length = m * sz) (h1 : allOne news = true) (hmax : n + m ≤ maxLen) (hbs : (n + m) * bytes ≤ 140737488355328) (hd : Nat.blt d nn = true)
    (h : ∀ a' cap' w', Mem w0 F (setAt L k (own e sz (.slice a' (n + m) cap') (n + m) (xs ++ news))) w' → S w' ∧ ∀ a, St nn ((d, .slice a' (n + m) cap') :: l) a → wpOrd P last os Q S b0 is a w') : wpOrd P last os Q S b0 (.cons (i, false) is) a w := by
  obtain ⟨a', cap', w', hr, hM'⟩ := R.append (P := P) (ty := ty) (t := t) hM hk ht hi hz hsz hby hzs hps hx hy hl (fun j u hu => by rw [Addr.add_lit]; exact hM.cell hk2 (by simpa using hu)) h1 hmax hbs
  have g := h a' cap' w' hM'
  exact D.eff hA ho hr hd g.1 g.2
end
end
section
open Go.RowKit
section
variable {P : Program} {R : Ending → World → Prop} {f : FuncId} {a : Act} {w w0 : World} {n : Nat} {l : List (Nat × Value)} {ops : Array Oper} {Q : Exit → Act → World → Prop} {rest : List Oper} {F : Nat → Prop} {L : List Ck}
  {S : World → Prop} {os : List Oper} {is : Ordt} {b0 : Bool} {i last : Nat} {d : Nat} {t ty : TypeId} {x y : Operand} {pos : String} {aft : Array Edge}
end
end
section
open Go.RowKit
def feet (L : List Ck) : Nat → Prop := fun b => ∃ c ∈ L, c.foot b
section
variable {w0 w w' : World} {F : Nat → Prop} {L L' : List Ck}
theorem Mem.here (h : Mem w0 F L w) : Mem w (feet L) L w :=
  ⟨rfl, rfl, rfl, Nat.le_refl _, fun _ _ _ => rfl, h.holds, fun c hc b hb => ⟨(h.inb c hc b hb).1, fun _ => ⟨c, hc, hb⟩⟩, h.apart⟩
theorem Mem.hereN (h : Mem w0 F L w) (n : Nat) : Mem w (feet (L.take n)) (L.take n) w := (h.sub (List.take_sublist n L)).here
theorem Mem.firstN (h : Mem w0 F L w) (n : Nat) : Mem w0 F (L.take n) w := h.sub (List.take_sublist n L)
theorem Mem.callL (h : Mem w0 F L w) (n : Nat) (hn : Mem w (feet (L.take n)) L' w') : Mem w0 F (L' ++ L.drop n) w' := by
  have hsplit : L.take n ++ L.drop n = L := List.take_append_drop n L
  have hap : (L.take n ++ L.drop n).Pairwise (fun c d => ∀ b, c.foot b → ¬ d.foot b) := by rw [hsplit]; exact h.apart
  obtain ⟨hap1, hap2, hap3⟩ := List.pairwise_append.1 hap
  have hkeep : ∀ b, b < w.heap.size → ¬ feet (L.take n) b → w'.heap[b]? = w.heap[b]? := fun b hb hc => hn.old b hb hc
  have hfree : ∀ d ∈ L.drop n, ∀ b, d.foot b → ¬ feet (L.take n) b := fun d hd b hb ⟨c, hc, hcb⟩ => hap3 c hc d hd b hcb hb
  refine ⟨hn.os.trans h.os, hn.tape.trans h.tape, hn.output.trans h.output, Nat.le_trans h.size hn.size, fun b hb hF0 => ?_, fun e he => ?_, fun e he b hb => ?_, ?_⟩
  · rw [hkeep b (Nat.lt_of_lt_of_le hb h.size) (fun ⟨c, hc, hcb⟩ => hF0 ((h.inb c (List.mem_of_mem_take hc) b hcb).2 hb))]; exact h.old b hb hF0
  · rcases List.mem_append.1 he with he | he
    · exact hn.holds e he
    · have hm := List.mem_of_mem_drop he
      exact e.loc w w' (fun b hb => hkeep b (h.inb e hm b hb).1 (hfree e he b hb)) (h.holds e hm)
  · rcases List.mem_append.1 he with he | he
    · have := hn.inb e he b hb
      refine ⟨this.1, fun g => ?_⟩
      obtain ⟨c, hc, hcb⟩ := this.2 (Nat.lt_of_lt_of_le g h.size)
      exact (h.inb c (List.mem_of_mem_take hc) b hcb).2 g
    · have := h.inb e (List.mem_of_mem_drop he) b hb
      exact ⟨Nat.lt_of_lt_of_le this.1 hn.size, this.2⟩
  · refine List.pairwise_append.2 ⟨hn.apart, hap2, fun e he d hd b heb hdb => ?_⟩
    have g1 := hn.inb e he b heb
    have g2 := (h.inb d (List.mem_of_mem_drop hd) b hdb).1
    exact hfree d hd b hdb (g1.2 g2)
theorem Mem.cellB (h : Mem w0 nof L w) {b i : Nat} {cs : Array Value} {t : TypeId} {v : Value} (hb : w0.heap[b]? = some (.cells cs t (0, 0))) (hv : cs[i]? = some v) : w.cell? ⟨b, i, none⟩ = some v :=
  h.cell0 (by simp [World.cell?, hb, hv]) (fun h => h)
end
theorem Ends.unroll {P : Program} {f : FuncId} {R : Ending → World → Prop} {k : List Item} {a : Act} {w : World} {c : Code} (h : Ends P f R (.code c :: .inLoop c :: k) a w) : Ends P f R (.code (.loop c) :: k) a w :=
  Ends.step (fun _ _ _ _ => .one step_loop) h
theorem umod_ex (x k : Int) (hk : 0 < k ∧ k ≤ 4611686018427387904) : ∃ N : Nat, (N : Int) < k ∧ IntKind.i64.wrap (IntKind.u64.wrap x % k) = (N : Int) := by
  have h1 := Int.emod_nonneg (IntKind.u64.wrap x) (show k ≠ 0 by omega)
  have h2 := Int.emod_lt_of_pos (IntKind.u64.wrap x) (show 0 < k by omega)
  refine ⟨(IntKind.u64.wrap x % k).toNat, by omega, ?_⟩
  rw [IntWalk.i64_in _ ⟨by omega, by omega⟩]; omega
theorem u64_nn (x : Int) : 0 ≤ IntKind.u64.wrap x := by rw [IntKind.wrap_u64]; omega
end
section
open Go.RowKit
def intN (v : Int) : Int := if -9223372036854775808 ≤ v ∧ v ≤ 9223372036854775807 then v else 0
def intB (v : Int) : Bool := decide (-9223372036854775808 ≤ v ∧ v ≤ 9223372036854775807)
theorem int_no {v : Int} (h : ¬ (-9223372036854775808 ≤ v ∧ v ≤ 9223372036854775807)) : intN v = 0 ∧ intB v = false := ⟨by simp [intN, h], by simp only [intB, h, decide_false]⟩
theorem int_yes {v : Int} (h : -9223372036854775808 ≤ v ∧ v ≤ 9223372036854775807) : intN v = v ∧ intB v = true := ⟨by simp [intN, h], by simp only [intB, h, and_self, decide_true]⟩
theorem ret_ib {a b : Int} {p q : Bool} (h : a = b) (g : p = q) : Ending.returned (.tuple #[.int .i64 a, .bool p]) = .returned (.tuple #[.int .i64 b, .bool q]) := by rw [h, g]
end
section
open Go.RowKit
def IntSl (w : World) (v : Value) (l : List Int) : Prop :=
  ∃ a cap, v = .slice a l.length cap ∧ l.length ≤ cap ∧ cap ≤ maxLen ∧ (a = none → cap = 0) ∧ (l ≠ [] → ∃ b off, a = some ⟨b, off, none⟩ ∧ b < w.heap.size ∧ ∀ i, i < l.length → w.cell? ⟨b, off + i, none⟩ = some (.int .i64 (l.getD i 0)))
theorem IntSl.below {B : Nat} {w w' : World} {v : Value} {l : List Int} (h : IntSl w v l) (hb : Below B w w') (hB : w.heap.size ≤ B) : IntSl w' v l := by
  obtain ⟨a, cap, rfl, hle, hmx, hnn, h⟩ := h
  refine ⟨a, cap, rfl, hle, hmx, hnn, fun hn => ?_⟩
  obtain ⟨b, off, rfl, hlt, hc⟩ := h hn
  refine ⟨b, off, rfl, Nat.lt_of_lt_of_le hlt hb.size, fun i hi => ?_⟩
  rw [(bcell hb).1 _ _ (by omega)]; exact hc i hi
theorem getD_mem {l : List Int} {i : Nat} (h : i < l.length) : l.getD i 0 ∈ l := by
  rw [List.getD_eq_getElem?_getD, List.getElem?_eq_getElem h]; exact List.getElem_mem h
theorem take_succ_getD (l : List Int) (k : Nat) (h : k < l.length) : l.take (k + 1) = l.take k ++ [l.getD k 0] := by
  rw [List.take_succ_eq_append_getElem h, List.getD_eq_getElem?_getD, List.getElem?_eq_getElem h]; rfl
end
section
open Go.RowKit
section
variable {P : Program} {l : List (Nat × Value)} {w : World} {ty : TypeId} {x y z : Operand} {k k' : IntKind} {m n : Int} {t yt : TypeId}
theorem R.sliceH {e : TypeId} {a : Option Addr} {len cap h : Nat} {j : TypeInfo} (ht : P.underlying t = some (.slice e)) (hj : P.info? e = some j) (hx : opv l x = some (.slice a len cap)) (hy : opv l y = some (.int k n)) (hn : n = (h : Int)) (hc : h ≤ cap) :
    Run P l w (.slice t x none (some y) none) ty (.slice a h cap) w := fun ev hev _ _ _ _ => by
  subst hn
  have hz : Option.map (fun a : Addr => a.add 0) a = a := by cases a <;> simp [Addr.add]
  have h1 : (Instr.slice t (.slice a len cap) none (some (.int k (h : Int))) none).run P w = .ok (.slice a h cap) w := by
    simp only [Instr.slice, Sem.run_bind, run_underlying ht, Result.andThen_ok, Instr.sliceBounds, Instr.sliceBound, asIntOf, Sem.run_pure]
    simp [hc, run_sizeOf_of hj, hz]
  have h2 : (Instr.sliceAt t (.slice a len cap) none (some (.int k (h : Int))) none).run P w = .ok (.slice a h cap) w := by
    unfold Instr.sliceAt
    simp only [Sem.run_bind, run_underlying ht, Result.andThen_ok]
    exact h1
  simp [execOp, hev _ _ hx, hev _ _ hy, h2]
theorem R.eqlS {xs ys : Array Value} {b : Bool} (hg : P.eqGuardType P.depth t = false) (he : ∀ w, (Op.equalIn 10000 t (.agg xs) (.agg ys)).run P w = .ok b w) (hx : opv l x = some (.agg xs)) (hy : opv l y = some (.agg ys)) : Run P l w (.binOp .eql t x y yt) ty (.bool b) w := fun ev h _ _ _ _ => by
  have h1 := run_eqGuard_agg (P := P) w .eql t x y xs ys hg
  have h2 := run_eql_struct (P := P) w t xs ys
  simp only [execOp, h _ _ hx, h _ _ hy, Sem.run_bind, h1, Result.andThen_ok, h2, he, Sem.run_pure]
end
theorem IntSl.at {w : World} {a : Option Addr} {n cap : Nat} {l : List Int} (h : IntSl w (.slice a n cap) l) {i : Nat} (hi : i < l.length) :
    ∃ b off, a = some ⟨b, off, none⟩ ∧ w.cell? ⟨b, off + i, none⟩ = some (.int .i64 (l.getD i 0)) := by
  obtain ⟨a', cap', he, h1, h2, h3, h4⟩ := h
  cases he
  obtain ⟨b, off, rfl, -, hc⟩ := h4 (by intro e; rw [e] at hi; simp at hi)
  exact ⟨b, off, rfl, hc i hi⟩
theorem IntSl.len {w : World} {a : Option Addr} {n cap : Nat} {l : List Int} (h : IntSl w (.slice a n cap) l) : n = l.length ∧ l.length ≤ cap ∧ cap ≤ maxLen := by
  obtain ⟨a', cap', he, h1, h2, -⟩ := h
  cases he
  exact ⟨rfl, h1, h2⟩
theorem IntSl.form {w : World} {v : Value} {l : List Int} (h : IntSl w v l) : ∃ a cap, v = .slice a l.length cap := by
  obtain ⟨a, cap, he, -⟩ := h; exact ⟨a, cap, he⟩
theorem IntSl.cut {w : World} {a : Option Addr} {n cap : Nat} {l : List Int} (h : IntSl w (.slice a n cap) l) (m : Nat) (hm : m ≤ l.length) : IntSl w (.slice a m cap) (l.take m) := by
  obtain ⟨a', cap', he, h1, h2, h3, h4⟩ := h
  cases he
  refine ⟨a, cap, by rw [List.length_take, Nat.min_eq_left hm], by rw [List.length_take]; omega, h2, h3, fun hne => ?_⟩
  obtain ⟨b, off, e, hlt, hc⟩ := h4 (by intro e; subst e; simp at hne)
  refine ⟨b, off, e, hlt, fun i hi => ?_⟩
  rw [List.length_take] at hi
  rw [hc i (by omega)]
  congr 2
  simp only [List.getD_eq_getElem?_getD, List.getElem?_take]
  rw [if_pos (by omega)]
theorem IntSl.mem {w0 w : World} {v : Value} {l : List Int} {L : List Ck} (h : IntSl w0 v l) (hM : Mem w0 nof L w) : IntSl w v l := h.below hM.nilL.below (Nat.le_refl _)
end
section
open Go.RowKit
section
variable {P : Program} {R : Ending → World → Prop} {f : FuncId} {a : Act} {w w0 : World} {n : Nat} {l : List (Nat × Value)} {ops : Array Oper} {Q : Exit → Act → World → Prop} {rest : List Oper} {F : Nat → Prop} {L : List Ck}
  {S : World → Prop} {os : List Oper} {is : Ordt} {b0 : Bool} {i last : Nat} {d : Nat} {t ty : TypeId} {x y : Operand} {pos : String} {aft : Array Edge}
theorem S.storeO {k g o m cap : Nat} {e : TypeId} {xs : List Value} {u v : Value} (hA : St n l a) (hM : Mem w0 F L w) (hi : szOf P t = some (false, 1)) (hx : opv l x = some (.pointer (some ⟨g, o, none⟩))) (hy : opv l y = some v) (hv : v.oneCell' = true)
    (hk : ith L k = some (own e 1 (.slice (some ⟨g, 0, none⟩) m cap) m xs)) (hu : xs[o]? = some u) (h : ∀ w', Mem w0 F (setAt L k (own e 1 (.slice (some ⟨g, 0, none⟩) m cap) m (xs.set o v))) w' → wpList P ops Q rest a w') :
    wpList P ops Q ({ dst := none, op := .store t x y, type := ty, pos, after := aft, guard := none } :: rest) a w :=
  S.skip hA (R.store hi hx hy hv (hM.ownCell hk hu) (hM.ownFree hk o)) (h _ (hM.ownStore hk o v))
end
end
section
open Go.RowKit
theorem allOne_ints : ∀ X : List Int, allOne (X.map (Value.int .i64)) = true
  | [] => rfl
  | _ :: X => by simp only [List.map_cons, allOne, allOne_ints X, Bool.and_true]; rfl
section
variable {P : Program} {R : Ending → World → Prop} {f : FuncId} {a : Act} {w w0 : World} {nn : Nat} {l : List (Nat × Value)} {ops : Array Oper} {Q : Exit → Act → World → Prop} {rest : List Oper} {F : Nat → Prop} {L : List Ck}
  {S : World → Prop} {os : List Oper} {is : Ordt} {i last : Nat} {d : Nat} {t e ty : TypeId} {x y : Operand} {pos : String} {aft : Array Edge}
theorem R.buildSl0 {i : TypeInfo} (ht : P.underlying t = some (.slice e)) (hi : P.info? e = some i) : Run P l w (.buildSlice t 0 #[]) ty (.slice (some ⟨w.heap.size, 0, none⟩) 0 0) (w.alloc (.cells #[] e)) := fun ev h _ _ _ _ => by
  have h0 : Array.range 0 = #[] := rfl
  have h1 : (Instr.buildSlice t 0 (Array.map (fun x : Nat × Operand => (x.1, ev x.2)) #[])).run P w = .ok (.slice (some ⟨w.heap.size, 0, none⟩) 0 0) (w.alloc (.cells #[] e)) := by
    simp [Instr.buildSlice, run_underlying ht, sizeOf, typeInfo, hi, newRow, Instr.fill, h0]
  simp only [execOp]
  rw [Sem.run_bind, h1]
  rfl
theorem S.buildSl0 {j : TypeInfo} (hA : St nn l a) (hM : Mem w0 F L w) (ht : P.underlying t = some (.slice e)) (hi : P.info? e = some j) (hd : Nat.blt d nn = true)
    (h : ∀ b w', w0.heap.size ≤ b → Mem w0 F (pt b #[] e :: L) w' → ∀ a, St nn ((d, .slice (some ⟨b, 0, none⟩) 0 0) :: l) a → wpList P ops Q rest a w') :
    wpList P ops Q ({ dst := some d, op := .buildSlice t 0 #[], type := ty, pos, after := aft, guard := none } :: rest) a w :=
  S.val hA (R.buildSl0 ht hi) hd (h _ _ hM.size (hM.alloc _ _))
end
end
section
open Go.RowKit
theorem D.storeO {P : Program} {a : Act} {w w0 : World} {n : Nat} {l : List (Nat × Value)} {Q : Exit → Act → World → Prop} {F : Nat → Prop} {L : List Ck} {S : World → Prop} {os : List Oper} {is : Ordt} {b0 : Bool} {i last : Nat} {t ty : TypeId} {x y : Operand} {pos : String} {aft : Array Edge}
    {k g o m cap : Nat} {e : TypeId} {xs : List Value} {u v : Value} (hA : St n l a) (hM : Mem w0 F L w) (ho : ith os i = some { dst := none, op := .store t x y, type := ty, pos, after := aft, guard := none }) (hi : szOf P t = some (false, 1)) (hx : opv l x = some (.pointer (some ⟨g, o, none⟩))) (hy : opv l y = some v) (hv : v.oneCell' = true)
    (hk : ith L k = some (own e 1 (.slice (some ⟨g, 0, none⟩) m cap) m xs)) (hu : xs[o]? = some u) (h : ∀ w', Mem w0 F (setAt L k (own e 1 (.slice (some ⟨g, 0, none⟩) m cap) m (xs.set o v))) w' → (b0 = false → i ≠ last → S w') ∧ wpOrd P last os Q S (b0 || Nat.beq i last) is a w') : wpOrd P last os Q S b0 (.cons (i, false) is) a w :=
  have g := h _ (hM.ownStore hk o v)
  D.skip hA ho (R.store hi hx hy hv (hM.ownCell hk hu) (hM.ownFree hk o)) g.1 g.2
end
section
open Go.RowKit
section
variable {P : Program} {l : List (Nat × Value)} {w : World} {ty : TypeId} {x y z : Operand} {k k' : IntKind} {m n : Int} {t yt : TypeId}
end
section
variable {P : Program} {R : Ending → World → Prop} {f : FuncId} {a : Act} {w w0 : World} {nn : Nat} {l : List (Nat × Value)} {ops : Array Oper} {Q : Exit → Act → World → Prop} {rest : List Oper} {F : Nat → Prop} {L : List Ck}
  {S : World → Prop} {os : List Oper} {is : Ordt} {b0 : Bool} {i last : Nat} {d : Nat} {t e ty : TypeId} {x y : Operand} {pos : String} {aft : Array Edge}
theorem S.appendG {k n m c sz bytes : Nat} {v z : Value} {xs news : List Value} {p : Addr} {j : TypeInfo} (hA : St nn l a) (hM : Mem w0 F L w) (hk : ith L k = some (own e sz v n xs)) (ht : P.underlying t = some (.slice e)) (hi : P.info? e = some j) (hz : j.zero = some z) (hsz : j.size = sz) (hby : j.bytes = bytes) (hzs : z.cells.size = sz) (hps : Nat.blt 0 sz = true)
    (hx : opv l x = some v) (hy : opv l y = some (.slice (some p) m c)) (hl : news.length = m * sz) (hnews : ∀ j u, news[j]? = some u → w.cell? (p.add j) = some u) (h1 : allOne news = true) (hmax : n + m ≤ maxLen) (hbs : (n + m) * bytes ≤ 140737488355328) (hd : Nat.blt d nn = true)
    (h : ∀ a' cap' w', Mem w0 F (setAt L k (own e sz (.slice a' (n + m) cap') (n + m) (xs ++ news))) w' → ∀ a, St nn ((d, .slice a' (n + m) cap') :: l) a → wpList P ops Q rest a w') :
    wpList P ops Q ({ dst := some d, op := .call { callee := .builtin .append, args := #[x, y], argTypes := #[t, t] }, type := ty, pos, after := aft, guard := none } :: rest) a w := by
  obtain ⟨a', cap', w', hr, hM'⟩ := R.append (P := P) (ty := ty) (t := t) hM hk ht hi hz hsz hby hzs hps hx hy hl hnews h1 hmax hbs
  exact S.val hA hr hd (h a' cap' w' hM')
theorem D.appendG {k n m c sz bytes : Nat} {v z : Value} {xs news : List Value} {p : Addr} {j : TypeInfo} (hA : St nn l a) (hM : Mem w0 F L w) (ho : ith os i = some { dst := some d, op := .call { callee := .builtin .append, args := #[x, y], argTypes := #[t, t] }, type := ty, pos, after := aft, guard := none })
    (hk : ith L k = some (own e sz v n xs)) (ht : P.underlying t = some (.slice e)) (hi : P.info? e = some j) (hz : j.zero = some z) (hsz : j.size = sz) (hby : j.bytes = bytes) (hzs : z.cells.size = sz) (hps : Nat.blt 0 sz = true)
    (hx : opv l x = some v) (hy : opv l y = some (.slice (some p) m c)) (hl : news.length = m * sz) (hnews : ∀ j u, news[j]? = some u → w.cell? (p.add j) = some u) (h1 : allOne news = true) (hmax : n + m ≤ maxLen) (hbs : (n + m) * bytes ≤ 140737488355328) (hd : Nat.blt d nn = true)
    (h : ∀ a' cap' w', Mem w0 F (setAt L k (own e sz (.slice a' (n + m) cap') (n + m) (xs ++ news))) w' → S w' ∧ ∀ a, St nn ((d, .slice a' (n + m) cap') :: l) a → wpOrd P last os Q S b0 is a w') : wpOrd P last os Q S b0 (.cons (i, false) is) a w := by
  obtain ⟨a', cap', w', hr, hM'⟩ := R.append (P := P) (ty := ty) (t := t) hM hk ht hi hz hsz hby hzs hps hx hy hl hnews h1 hmax hbs
  have g := h a' cap' w' hM'
  exact D.eff hA ho hr hd g.1 g.2
theorem D.buildSl0 {j : TypeInfo} (hA : St nn l a) (hM : Mem w0 F L w) (ho : ith os i = some { dst := some d, op := .buildSlice t 0 #[], type := ty, pos, after := aft, guard := none }) (ht : P.underlying t = some (.slice e)) (hi : P.info? e = some j) (hd : Nat.blt d nn = true)
    (h : ∀ b w', w0.heap.size ≤ b → Mem w0 F (pt b #[] e :: L) w' → S w' ∧ ∀ a, St nn ((d, .slice (some ⟨b, 0, none⟩) 0 0) :: l) a → wpOrd P last os Q S b0 is a w') : wpOrd P last os Q S b0 (.cons (i, false) is) a w :=
  have g := h _ _ hM.size (hM.alloc _ _)
  D.eff hA ho (R.buildSl0 ht hi) hd g.1 g.2
theorem mapi_take (X : List Int) (j : Nat) (u : Value) (h : (X.map (Value.int .i64))[j]? = some u) : j < X.length ∧ u = .int .i64 (X.getD j 0) := by
  rw [List.getElem?_map] at h
  cases hx : X[j]? with
  | none => rw [hx] at h; cases h
  | some v =>
    rw [hx] at h
    obtain ⟨h1, h2⟩ := List.getElem?_eq_some_iff.1 hx
    refine ⟨h1, ?_⟩
    rw [List.getD_eq_getElem?_getD, hx]
    exact (Option.some.inj h).symm
theorem S.appendI {k n bytes cap : Nat} {v z : Value} {xs : List Value} {X : List Int} {ad : Option Addr} {j : TypeInfo} (hA : St nn l a) (hM : Mem w0 F L w) (hk : ith L k = some (own e 1 v n xs)) (hX : IntSl w (.slice ad X.length cap) X) (ht : P.underlying t = some (.slice e)) (hi : P.info? e = some j) (hz : j.zero = some z) (hsz : j.size = 1) (hby : j.bytes = bytes) (hzs : z.cells.size = 1)
    (hx : opv l x = some v) (hy : opv l y = some (.slice ad X.length cap)) (hmax : n + X.length ≤ maxLen) (hbs : (n + X.length) * bytes ≤ 140737488355328) (hd : Nat.blt d nn = true)
    (h : ∀ a' cap' w', Mem w0 F (setAt L k (own e 1 (.slice a' (n + X.length) cap') (n + X.length) (xs ++ X.map (Value.int .i64)))) w' → ∀ a, St nn ((d, .slice a' (n + X.length) cap') :: l) a → wpList P ops Q rest a w') :
    wpList P ops Q ({ dst := some d, op := .call { callee := .builtin .append, args := #[x, y], argTypes := #[t, t] }, type := ty, pos, after := aft, guard := none } :: rest) a w := by
  obtain ⟨ad', cap', he, hle, hmx, hnn, hc⟩ := hX
  injection he with he1 he2 he3
  subst he1 he3
  cases ad with
  | none =>
    have h0 := hnn rfl
    subst h0
    have hX0 : X = [] := List.length_eq_zero_iff.1 (by omega)
    subst hX0
    have hr := run_append_owned_none (P := P) w 0 t ty e j 1 ht hi v n xs (hM.mem hk)
    obtain ⟨a', c', rfl, -⟩ := own_form (hM.mem hk)
    refine S.val hA (v := .slice a' n c') (w' := w) (fun ev h _ _ _ _ => by simp only [List.length_nil] at hy; simp [execOp, resolve, invoke, builtin, h _ _ hx, h _ _ hy, hr]) hd ?_
    refine h a' c' w ?_
    have e1 : setAt L k (own e 1 (.slice a' (n + ([] : List Int).length) c') (n + ([] : List Int).length) (xs ++ List.map (Value.int .i64) [])) = L := by
      rw [List.map_nil, List.append_nil]
      have : ∀ (l : List Ck) (i : Nat) (x : Ck), ith l i = some x → setAt l i x = l := by
        intro l
        induction l with
        | nil => intro i x _; rfl
        | cons z zs ih =>
          intro i x hh
          cases i with
          | zero => have : z = x := by simpa [ith] using hh
                    rw [← this]; rfl
          | succ i => show z :: setAt zs i x = z :: zs; rw [ih i x hh]
      exact this L k _ hk
    rw [e1]; exact hM
  | some p =>
    refine S.appendG hA hM hk ht hi hz hsz hby hzs (by decide) hx hy (by simp) (fun j u hu => ?_) (allOne_ints X) hmax hbs hd h
    obtain ⟨hj, rfl⟩ := mapi_take X j u hu
    obtain ⟨b, off, hb, hlt, hcell⟩ := hc (by intro e0; rw [e0] at hj; simp at hj)
    cases hb
    rw [Addr.add_lit]; exact hcell j hj
end
end
section
open Go.RowKit
section
variable {P : Program} {a : Act} {w : World} {n : Nat} {l : List (Nat × Value)} {ops : Array Oper} {Q : Exit → Act → World → Prop} {rest : List Oper} {S : World → Prop} {os : List Oper} {is : Ordt} {b0 : Bool} {i last : Nat}
theorem wanted_undef {ops : Array Oper} {o : Oper} {j d : Nat} {b : Bool} (hA : St n l a) (hg : o.guard = some (j, b)) (hj : dstOf ops j = some d) (hl : lk l d = some undef) : Region.wanted o (yielded ops a.tmps) = false := by
  have h1 := hA.has d _ hl
  unfold dstOf at hj
  unfold Region.wanted yielded
  rw [hg]
  simp only [hj, Option.bind_some, h1]
  cases b <;> rfl
theorem S.noU {d j dj : Nat} {b : Bool} {op : Op} {ty : TypeId} {pos : String} {aft : Array Edge} (hA : St n l a) (hj : dstOf ops j = some dj) (hl : lk l dj = some undef) (hd : Nat.blt d n = true)
    (h : ∀ a, St n ((d, undef) :: l) a → wpList P ops Q rest a w) : wpList P ops Q ({ dst := some d, op, type := ty, pos, after := aft, guard := some (j, b) } :: rest) a w := by
  refine wpList_step fun K hK => ?_
  rw [wanted_undef hA rfl hj hl]
  exact hK _ _ (h _ (hA.put hd undef))
theorem D.noU {d j dj : Nat} {b : Bool} {op : Op} {ty : TypeId} {pos : String} {aft : Array Edge} (hA : St n l a) (ho : ith os i = some { dst := some d, op, type := ty, pos, after := aft, guard := some (j, b) })
    (hj : dstOf os.toArray j = some dj) (hl : lk l dj = some undef)
    (hd : Nat.blt d n = true) (h : ∀ a, St n ((d, undef) :: l) a → wpOrd P last os Q S b0 is a w) : wpOrd P last os Q S b0 (.cons (i, true) is) a w :=
  ⟨_, ho, undef, .inr ⟨by rw [wanted_undef hA rfl hj hl], rfl⟩, h _ (hA.put hd undef)⟩
end
theorem or_bool {p : Prop} [Decidable p] {b : Bool} (h : ¬ p) : b = decide (p ∨ b = true) := by cases b <;> simp [h]
theorem and_bool {p : Prop} [Decidable p] {b : Bool} (h : p) : b = decide (p ∧ b = true) := by cases b <;> simp [h]
end
section
open Go.RowKit
def byt (s : ByteArray) (i : Nat) : Int := ((s.get! i).toNat : Nat)
theorem byt_at {s : ByteArray} {i : Nat} (h : i < s.size) : ((s[i]'h).toNat : Int) = byt s i := by
  have e : s.get! i = s[i]'h := by simp [ByteArray.get!, getElem!_pos, h]; rfl
  unfold byt; rw [e]
section
variable {w0 w w' : World} {F : Nat → Prop} {L : List Ck}
end
section
variable {P : Program} {l : List (Nat × Value)} {w w0 : World} {F : Nat → Prop} {L : List Ck} {ty : TypeId} {x y z : Operand} {k k' : IntKind} {m n : Int} {t yt : TypeId} {s r : ByteArray}
end
section
variable {P : Program} {R : Ending → World → Prop} {f : FuncId} {a : Act} {w w0 : World} {nn : Nat} {l : List (Nat × Value)} {ops : Array Oper} {Q : Exit → Act → World → Prop} {rest : List Oper} {F : Nat → Prop} {L : List Ck}
  {d : Nat} {t e ty : TypeId} {x y : Operand} {pos : String} {aft : Array Edge} {s : ByteArray}
end
end
section
open Go.RowKit
def apartL (cs : List Ck) : Prop := cs.Pairwise (fun c d => ∀ b, c.foot b → ¬ d.foot b)
def bundle (cs : List Ck) : Ck :=
  ⟨fun b => ∃ c ∈ cs, c.foot b, fun w => (∀ c ∈ cs, c.holds w) ∧ apartL cs,
    fun w w' h hh => ⟨fun c hc => c.loc w w' (fun b hb => h b ⟨c, hc, hb⟩) (hh.1 c hc), hh.2⟩⟩
section
variable {w0 w : World} {F : Nat → Prop} {L cs : List Ck} {α : Type} {f : α → Ck} {xs : List α} {x : α} {j : Nat}
theorem Mem.pack (h : Mem w0 F (cs ++ L) w) : Mem w0 F (bundle cs :: L) w := by
  obtain ⟨h1, h2, h3⟩ := List.pairwise_append.1 h.apart
  refine ⟨h.os, h.tape, h.output, h.size, h.old, fun d hd => ?_, fun d hd b hb => ?_, List.pairwise_cons.2 ⟨fun d hd b ⟨c, hc, hcb⟩ hdb => h3 c hc d hd b hcb hdb, h2⟩⟩
  · rcases List.mem_cons.1 hd with rfl | hd
    · exact ⟨fun c hc => h.holds c (List.mem_append_left _ hc), h1⟩
    · exact h.holds d (List.mem_append_right _ hd)
  · rcases List.mem_cons.1 hd with rfl | hd
    · obtain ⟨c, hc, hcb⟩ := hb
      exact h.inb c (List.mem_append_left _ hc) b hcb
    · exact h.inb d (List.mem_append_right _ hd) b hb
theorem Mem.unpack (h : Mem w0 F (bundle cs :: L) w) : Mem w0 F (cs ++ L) w := by
  obtain ⟨h1, h2⟩ := List.pairwise_cons.1 h.apart
  have hb : (bundle cs).holds w := h.holds _ (List.mem_cons_self ..)
  refine ⟨h.os, h.tape, h.output, h.size, h.old, fun d hd => ?_, fun d hd b hdb => ?_, List.pairwise_append.2 ⟨hb.2, h2, fun c hc d hd b hcb hdb => h1 d hd b ⟨c, hc, hcb⟩ hdb⟩⟩
  · rcases List.mem_append.1 hd with hd | hd
    · exact hb.1 d hd
    · exact h.holds d (List.mem_cons_of_mem _ hd)
  · rcases List.mem_append.1 hd with hd | hd
    · exact h.inb _ (List.mem_cons_self ..) b ⟨d, hd, hdb⟩
    · exact h.inb d (List.mem_cons_of_mem _ hd) b hdb
theorem perm_at : ∀ {xs : List α} {j : Nat} {x : α}, xs[j]? = some x → xs.Perm (x :: xs.eraseIdx j)
  | y :: xs, 0, x, h => by
    have e : y = x := by simpa using h
    subst e
    exact .refl _
  | y :: xs, j + 1, x, h => by
    have := perm_at (xs := xs) (j := j) (x := x) (by simpa using h)
    rw [List.eraseIdx_cons_succ]
    exact (this.cons y).trans (.swap x y _)
theorem Mem.openB (h : Mem w0 F (bundle (xs.map f) :: L) w) (hx : xs[j]? = some x) : Mem w0 F (f x :: bundle ((xs.eraseIdx j).map f) :: L) w := by
  have h1 := h.unpack.perm (L' := (xs.eraseIdx j).map f ++ f x :: L) (((((perm_at hx).map f).append_right L)).trans (List.perm_middle (l₁ := (xs.eraseIdx j).map f)).symm)
  exact h1.pack.front (k := 1) rfl
theorem Mem.closeB {y : α} (h : Mem w0 F (f y :: bundle ((xs.eraseIdx j).map f) :: L) w) (hx : xs[j]? = some x) : Mem w0 F (bundle ((xs.set j y).map f) :: L) w := by
  obtain ⟨hj, -⟩ := List.getElem?_eq_some_iff.1 hx
  have h0 : Mem w0 F (bundle ((xs.eraseIdx j).map f) :: f y :: L) w := h.front (k := 1) rfl
  have hy : (xs.set j y)[j]? = some y := List.getElem?_set_self hj
  have he : (xs.set j y).eraseIdx j = xs.eraseIdx j := List.eraseIdx_set_eq ..
  have hp := perm_at hy
  rw [he] at hp
  exact (h0.unpack.perm (L' := (xs.set j y).map f ++ L) ((List.perm_middle (l₁ := (xs.eraseIdx j).map f)).trans (((hp.map f).append_right L)).symm)).pack
end
end
section
open Go.RowKit
def pI (a : Option Addr) (i : Nat) : Value := .pointer (match a with | some p => some ⟨p.block, p.off + i, none⟩ | none => none)
theorem IntSl.cutR {w : World} {a : Option Addr} {cap : Nat} {X : List Int} (h : IntSl w (.slice a X.length cap) X) (m : Nat) (hm : m ≤ X.length) : IntSl w (.slice a (X.take m).length cap) (X.take m) := by
  have := h.cut m hm
  rwa [show (X.take m).length = m by rw [List.length_take]; omega]
theorem IntSl.lenB {w : World} {a : Option Addr} {n cap : Nat} {X : List Int} (h : IntSl w (.slice a n cap) X) : X.length ≤ 9223372036854775807 := by
  have := h.len; unfold maxLen at this; omega
theorem IntSl.nil (w : World) : IntSl w (.slice none ([] : List Int).length 0) [] := ⟨none, 0, rfl, Nat.le_refl _, Nat.zero_le _, fun _ => rfl, fun h => absurd rfl h⟩
section
variable {P : Program} {l : List (Nat × Value)} {w w0 : World} {ty : TypeId} {x y z : Operand} {k k' : IntKind} {m n : Int} {t yt e : TypeId}
theorem R.idxI {a : Option Addr} {cap j : Nat} {g : Bool} {i : Int} {X : List Int} (hX : IntSl w0 (.slice a X.length cap) X) (hi : slInfo P t = some (g, 1)) (hx : opv l x = some (.slice a X.length cap)) (hy : opv l y = some (.int k i)) (h0 : 0 ≤ i ∧ i < (X.length : Int)) (hj : i.toNat = j) :
    Run P l w (.indexAddr t x y) ty (pI a j) w := by
  obtain ⟨b, off, rfl, -⟩ := hX.at (i := i.toNat) (by omega)
  exact R.indexAddr hi hx hy h0 (by rw [Nat.mul_one, hj])
theorem R.loadI {a : Option Addr} {cap j : Nat} {X : List Int} (hX : IntSl w (.slice a X.length cap) X) (hi : szOf P t = some (false, 1)) (hx : opv l x = some (pI a j)) (hj : j < X.length) : Run P l w (.load t x) ty (.int .i64 (X.getD j 0)) w := by
  obtain ⟨b, off, rfl, hc⟩ := hX.at hj
  exact R.load hi hx hc
theorem R.sliceHI {a : Option Addr} {cap h : Nat} {j : TypeInfo} {X : List Int} (hX : IntSl w0 (.slice a X.length cap) X) (ht : P.underlying t = some (.slice e)) (hj : P.info? e = some j) (hx : opv l x = some (.slice a X.length cap)) (hy : opv l y = some (.int k n)) (hn : n = (h : Int)) (hc : h ≤ X.length) :
    Run P l w (.slice t x none (some y) none) ty (.slice a (X.take h).length cap) w := by
  have := R.sliceH (P := P) (w := w) (ty := ty) ht hj hx hy hn (Nat.le_trans hc hX.len.2.1)
  rwa [List.length_take, Nat.min_eq_left hc]
theorem opvs_map {ev : Operand → Value} (h : ∀ x u, opv l x = some u → ev x = u) : ∀ (os : List Operand) (vs : List Value), opvs l os = some vs → os.map ev = vs := by
  intro os
  induction os with
  | nil => intro vs hv; simp [opvs] at hv; subst hv; rfl
  | cons o os ih =>
    intro vs hv
    simp only [opvs] at hv
    split at hv
    · cases hv
    · rename_i v hv1
      split at hv
      · cases hv
      · rename_i us hus
        simp only [Option.some.injEq] at hv
        subst hv
        simp [ih us hus, h _ _ hv1]
theorem R.callV {f : FuncId} {fn : Func} {xs : Array Operand} {ats : Array TypeId} {vs : List Value} {cs : Array Value} (hf : P.funcs[f]? = some fn) (hname : (fn.name == "runtime.NumGoroutine") = false) (hb : fn.body.isNone = false) (hz : opv l z = some (.func (.func f) #[] cs)) (hp : opvs l xs.toList = some vs) :
    RunN P l w (.call { callee := .value z, args := xs, argTypes := ats }) ty (.enter f (vs.toArray ++ cs)) w := fun ev h _ _ _ _ => by
  have h1 : (xs.map ev) = vs.toArray := by
    have := opvs_map h _ _ hp
    apply Array.toList_inj.1
    simpa using this
  have hc : (callFunc f (vs.toArray ++ cs)).run P w = .ok (.enter f (vs.toArray ++ cs)) w := by
    simp only [callFunc, Sem.run_bind, run_program, Result.andThen_ok, hf, hname, hb, Bool.false_eq_true, if_false, Sem.run_pure]
  simp [execOp, resolve, h _ _ hz, Deferred.ofValue, invoke, h1, hc]
theorem R.makeFunc {f : FuncId} {cs : Array Operand} {vs : List Value} (hp : opvs l cs.toList = some vs) : Run P l w (.makeFunc (.func f) #[] cs) ty (.func (.func f) #[] vs.toArray) w := fun ev h _ _ _ _ => by
  have h1 : (cs.map ev) = vs.toArray := by
    have := opvs_map h _ _ hp
    apply Array.toList_inj.1
    simpa using this
  simp [execOp, Instr.makeFunc, h1]
end
section
variable {P : Program} {f : FuncId} {R : Ending → World → Prop} {a : Act} {w w0 : World} {n : Nat} {l : List (Nat × Value)} {F : Nat → Prop} {L : List Ck} {t : TypeId}
end
theorem Mem.oldRange {w0 w : World} {L : List Ck} {b : Nat} {cs : List Value} {t : TypeId} (hM : Mem w0 nof L w) (h : w0.heap[b]? = some (.cells cs.toArray t (0, 0))) : w.rangeAt b 0 cs := fun j v hv => by
  have := hM.cellB h (i := j) (v := v) (by simpa using hv)
  rw [Nat.zero_add]; exact this
theorem Mem.trans0 {w w1 w2 : World} {L : List Ck} (hb : Below w.heap.size w w1) (hM : Mem w1 nof L w2) : Below w.heap.size w w2 :=
  hb.trans (hM.below.mono hb.size)
theorem Mem.rsl {w0 w : World} {F : Nat → Prop} {L : List Ck} {k cap : Nat} {av : Option Addr} {X : List Int} {t : TypeId} (hM : Mem w0 F L w) (hk : ith L k = some (own t 1 (.slice av X.length cap) X.length (X.map (Value.int .i64)))) : IntSl w (.slice av X.length cap) X := by
  obtain ⟨a', cap', he, hn, hm, -, h1, h2⟩ := hM.ownForm hk
  cases he
  have ho : w.ownsRow 0 t 1 (.slice av X.length cap) X.length (X.map (Value.int .i64)) := hM.mem hk
  refine ⟨av, cap, rfl, hn, hm, fun hna => ?_, fun hne => ?_⟩
  · subst hna
    rcases ho.2 with ⟨h, -⟩ | ⟨g, c, cur, h, -⟩
    · injection h
    · cases h
  · have hpos : 0 < X.length := List.length_pos_iff.2 hne
    obtain ⟨g, rfl⟩ := hM.ownAt hk hpos
    refine ⟨g, 0, rfl, (hM.inb _ (List.mem_of_getElem? (by rwa [ith_eq] at hk)) g rfl).1, fun i hi => ?_⟩
    rw [Nat.zero_add]
    exact hM.ownCell hk (mapi_get X i hi)
theorem Mem.ptOwn {w0 w : World} {F : Nat → Prop} {L : List Ck} {e : TypeId} {b n : Nat} {X : List Int} (h : Mem w0 F (pt b (ints X) e :: L) w) (hl : X.length = n) (hm : n ≤ 1000000) : Mem w0 F (own e 1 (.slice (some ⟨b, 0, none⟩) X.length n) X.length (X.map (Value.int .i64)) :: L) w := by
  subst hl
  exact h.ownPt (cap := X.length) (n := X.length) (sz := 1) (xs := X.map (Value.int .i64)) (by simp [ints]) (by unfold maxLen; omega) (Nat.le_refl _) (by rw [Nat.mul_one]; simp only [ints]; rw [List.take_of_length_le (by simp)])
theorem Mem.ptRs {w0 w : World} {F : Nat → Prop} {L : List Ck} {k b : Nat} {X : List Int} {t : TypeId} (hM : Mem w0 F L w) (hk : ith L k = some (pt b (ints X) t)) (hm : X.length ≤ 1000000) : IntSl w (.slice (some ⟨b, 0, none⟩) X.length X.length) X := by
  refine ⟨_, _, rfl, Nat.le_refl _, by unfold maxLen; omega, (fun h => nomatch h), fun _ => ⟨b, 0, rfl, hM.lt hk, fun i hi => ?_⟩⟩
  rw [Nat.zero_add]
  exact hM.cell hk (by simp [ints, hi])
def boo (l : List Bool) : Array Value := (l.map Value.bool).toArray
theorem made_boo (n : Nat) : madeCells #[.bool false] n = boo (List.replicate n false) := by
  apply Array.ext'
  simp only [madeCells, boo, List.map_replicate]
  refine List.ext_getElem (by simp) fun i h1 h2 => ?_
  simp [Nat.mod_one]
theorem boo_get (l : List Bool) (o : Nat) (h : o < l.length) : (boo l)[o]? = some (.bool (l.getD o false)) := by simp [boo, h]
theorem boo_set (l : List Bool) (o : Nat) (v : Bool) : (boo l).setIfInBounds o (.bool v) = boo (l.set o v) := by simp [boo]
section
variable {P : Program} {l : List (Nat × Value)} {w w0 : World} {ty : TypeId} {x y z : Operand} {k k' : IntKind} {m n : Int} {t yt e : TypeId} {nn : Nat} {a : Act} {ops : Array Oper} {Q : Exit → Act → World → Prop} {rest : List Oper} {F : Nat → Prop} {L : List Ck} {d : Nat} {pos : String} {aft : Array Edge}
end
theorem Mem.keepB {w0 w : World} {L : List Ck} {b : Nat} {o : Obj} (hM : Mem w0 nof L w) (h : w0.heap[b]? = some o) : w.heap[b]? = some o := by
  rw [hM.below.block b (Array.getElem?_eq_some_iff.1 h).1]; exact h
end
section
open Go.RowKit
section
variable {P : Program} {l : List (Nat × Value)} {w w0 : World} {ty : TypeId} {x y z : Operand} {k k' : IntKind} {m n : Int} {t yt e : TypeId}
theorem R.eqlNilS {a : Option Addr} {c d : Nat} (ht : P.underlying t = some (.slice e)) (hx : opv l x = some (.slice a c d)) (hy : opv l y = some (.slice none 0 0)) : Run P l w (.binOp .eql t x y yt) ty (.bool a.isNone) w := fun ev h _ _ _ _ => by
  have h1 := Lib.run_equalIn_slice_nil (P := P) w 9999 t e a c d 0 0 ht
  simp [execOp, h _ _ hx, h _ _ hy, eqGuard, binOp, Op.equal, Op.maxDepth, h1]
end
end
section
open Go.RowKit
end
section
open Go.RowKit
end
end Go.Proofs.Ytnikajkklocncaa
namespace Go.Proofs.Ytnikajkklocncaa
section
def kindI (r : Int) : Int :=
  if r = 32 ∨ r = 9 ∨ r = 10 ∨ r = 13 then 1 else if 48 ≤ r ∧ r ≤ 57 then 2 else if (65 ≤ r ∧ r ≤ 90) ∨ (97 ≤ r ∧ r ≤ 122) then 3 else if r = 35 then 4 else 0
def dig (s : ByteArray) (i : Nat) : Prop := i < s.size ∧ 48 ≤ byt s i ∧ byt s i ≤ 57
instance (s : ByteArray) (i : Nat) : Decidable (dig s i) := by unfold dig; infer_instance
def dgF (s : ByteArray) : Nat → Nat → Nat
  | 0, _ => 0
  | f + 1, i => if dig s i then dgF s f (i + 1) + 1 else 0
def dgs (s : ByteArray) (i : Nat) : Nat := dgF s (s.size - i) i
theorem dgF_spec (s : ByteArray) : ∀ f i, s.size ≤ i + f → (∀ j, j < dgF s f i → dig s (i + j)) ∧ ¬ dig s (i + dgF s f i)
  | 0, i, h => ⟨fun j hj => absurd hj (Nat.not_lt_zero j), fun hd => by have := hd.1; simp only [dgF] at this; omega⟩
  | f + 1, i, h => by
    simp only [dgF]
    by_cases hd : dig s i
    · rw [if_pos hd]
      obtain ⟨h1, h2⟩ := dgF_spec s f (i + 1) (by omega)
      refine ⟨fun j hj => ?_, ?_⟩
      · match j with
        | 0 => exact hd
        | j + 1 => have := h1 j (by omega); rwa [show i + (j + 1) = i + 1 + j by omega]
      · rwa [show i + (dgF s f (i + 1) + 1) = i + 1 + dgF s f (i + 1) by omega]
    · rw [if_neg hd]
      exact ⟨fun j hj => absurd hj (Nat.not_lt_zero j), hd⟩
theorem dgs_spec (s : ByteArray) (i : Nat) : (∀ j, j < dgs s i → dig s (i + j)) ∧ ¬ dig s (i + dgs s i) := dgF_spec s (s.size - i) i (by omega)
theorem dgs_le (s : ByteArray) {i : Nat} (hi : i ≤ s.size) : i + dgs s i ≤ s.size := by
  obtain ⟨g1, -⟩ := dgs_spec s i
  rcases Nat.eq_zero_or_pos (dgs s i) with h | h
  · omega
  · have := (g1 (dgs s i - 1) (by omega)).1; omega
def numv (s : ByteArray) (x : Nat) : Nat → Int
  | 0 => 0
  | j + 1 => numv s x j * 10 + (byt s (x + j) - 48)
end
section
open Go.RowKit
def runQ (q : Nat → Bool) : Nat → Nat → Nat
  | 0, _ => 0
  | f + 1, i => if q i then runQ q f (i + 1) + 1 else 0
theorem runQ_spec (q : Nat → Bool) (N : Nat) (hq : ∀ j, q j = true → j < N) : ∀ f i, N ≤ i + f → (∀ j, j < runQ q f i → q (i + j) = true) ∧ q (i + runQ q f i) = false
  | 0, i, h => ⟨fun j hj => absurd hj (Nat.not_lt_zero j), by
      cases hb : q (i + 0) with
      | false => exact hb
      | true => have := hq _ hb; omega⟩
  | f + 1, i, h => by
    simp only [runQ]
    cases hd : q i with
    | true =>
      rw [if_pos rfl]
      obtain ⟨h1, h2⟩ := runQ_spec q N hq f (i + 1) (by omega)
      refine ⟨fun j hj => ?_, ?_⟩
      · match j with
        | 0 => exact hd
        | j + 1 => have := h1 j (by omega); rwa [show i + (j + 1) = i + 1 + j by omega]
      · rwa [show i + (runQ q f (i + 1) + 1) = i + 1 + runQ q f (i + 1) by omega]
    | false => exact ⟨fun j hj => absurd hj (Nat.not_lt_zero j), hd⟩
theorem runQ_uniq {q : Nat → Bool} {N f i k : Nat} (hq : ∀ j, q j = true → j < N) (hf : N ≤ i + f) (h1 : ∀ j, j < k → q (i + j) = true) (h2 : q (i + k) = false) : runQ q f i = k := by
  obtain ⟨g1, g2⟩ := runQ_spec q N hq f i hf
  rcases Nat.lt_trichotomy (runQ q f i) k with h | h | h
  · have := h1 _ h; rw [g2] at this; cases this
  · exact h
  · have := g1 _ h; rw [h2] at this; cases this
def kb (s : ByteArray) (p : Nat) : Int := if p < s.size then kindI (byt s p) else 1
theorem kb_in {s : ByteArray} {p : Nat} (h : p < s.size) : kb s p = kindI (byt s p) := if_pos h
theorem kb_out {s : ByteArray} {p : Nat} (h : ¬ p < s.size) : kb s p = 1 := if_neg h
theorem kb_lt {s : ByteArray} {p : Nat} (h : kb s p ≠ 1) : p < s.size := Classical.byContradiction fun hn => h (kb_out hn)
def isL (s : ByteArray) (p : Nat) : Bool := kb s p = 3
def inR (s : ByteArray) (p : Nat) : Bool := p < s.size ∧ byt s p ≠ 10
def ltrs (s : ByteArray) (i : Nat) : Nat := runQ (isL s) (s.size - i) i
def eol (s : ByteArray) (i : Nat) : Nat := runQ (inR s) (s.size - i) i
theorem isL_lt {s : ByteArray} {j : Nat} (h : isL s j = true) : j < s.size := kb_lt (by have : kb s j = 3 := by simpa [isL] using h
                                                                                        omega)
theorem inR_lt {s : ByteArray} {j : Nat} (h : inR s j = true) : j < s.size := by have := of_decide_eq_true h; exact this.1
theorem ltrs_spec (s : ByteArray) (i : Nat) : (∀ j, j < ltrs s i → kb s (i + j) = 3) ∧ kb s (i + ltrs s i) ≠ 3 := by
  obtain ⟨h1, h2⟩ := runQ_spec (isL s) s.size (fun j h => isL_lt h) (s.size - i) i (by omega)
  exact ⟨fun j hj => by have := h1 j hj; simpa [isL] using this, by have : isL s (i + ltrs s i) = false := h2; simpa [isL] using this⟩
theorem eol_spec (s : ByteArray) (i : Nat) : (∀ j, j < eol s i → i + j < s.size ∧ byt s (i + j) ≠ 10) ∧ ¬ (i + eol s i < s.size ∧ byt s (i + eol s i) ≠ 10) := by
  obtain ⟨h1, h2⟩ := runQ_spec (inR s) s.size (fun j h => inR_lt h) (s.size - i) i (by omega)
  exact ⟨fun j hj => of_decide_eq_true (h1 j hj), of_decide_eq_false (show inR s (i + eol s i) = false from h2)⟩
theorem eol_uniq {s : ByteArray} {i k : Nat} (h1 : ∀ j, j < k → i + j < s.size ∧ byt s (i + j) ≠ 10) (h2 : ¬ (i + k < s.size ∧ byt s (i + k) ≠ 10)) : eol s i = k :=
  runQ_uniq (fun j h => inR_lt h) (by omega) (fun j hj => decide_eq_true (h1 j hj)) (decide_eq_false h2)
theorem ltrs_le (s : ByteArray) {i : Nat} (hi : i ≤ s.size) : i + ltrs s i ≤ s.size := by
  rcases Nat.eq_zero_or_pos (ltrs s i) with h | h
  · omega
  · have := kb_lt (s := s) (p := i + (ltrs s i - 1)) (by rw [(ltrs_spec s i).1 _ (by omega)]; decide); omega
theorem ltrs_pos {s : ByteArray} {i : Nat} (h : kb s i = 3) : 0 < ltrs s i := by
  rcases Nat.eq_zero_or_pos (ltrs s i) with e | e
  · have := (ltrs_spec s i).2; rw [e, Nat.add_zero] at this; exact absurd h this
  · exact e
theorem eol_le (s : ByteArray) {i : Nat} (hi : i ≤ s.size) : i + eol s i ≤ s.size := by
  rcases Nat.eq_zero_or_pos (eol s i) with h | h
  · omega
  · have := ((eol_spec s i).1 (eol s i - 1) (by omega)).1; omega
theorem kindI_35 {c : Int} (h : kindI c = 4) : c = 35 := by
  revert h; unfold kindI
  repeat' split
  all_goals (intro h; first | omega | (simp at h))
theorem kindI_dig {c : Int} : kindI c = 2 ↔ 48 ≤ c ∧ c ≤ 57 := by
  unfold kindI
  constructor
  · repeat' split
    all_goals (intro h; first | omega | (simp at h))
  · intro h
    rw [if_neg (by omega), if_pos h]
theorem eol_pos {s : ByteArray} {i : Nat} (h : kb s i = 4) : 0 < eol s i := by
  have hlt := kb_lt (s := s) (p := i) (by omega)
  rw [kb_in hlt] at h
  rcases Nat.eq_zero_or_pos (eol s i) with e | e
  · have := (eol_spec s i).2; rw [e, Nat.add_zero, kindI_35 h] at this; exact absurd ⟨hlt, by decide⟩ this
  · exact e
theorem dig_kb {s : ByteArray} {i : Nat} : dig s i ↔ kb s i = 2 := by
  constructor
  · intro h; rw [kb_in h.1]; exact kindI_dig.2 h.2
  · intro h
    have hlt := kb_lt (s := s) (p := i) (by omega)
    rw [kb_in hlt] at h
    exact ⟨hlt, kindI_dig.1 h⟩
theorem dgs_pos {s : ByteArray} {i : Nat} (h : kb s i = 2) : 0 < dgs s i := by
  rcases Nat.eq_zero_or_pos (dgs s i) with e | e
  · have := (dgs_spec s i).2; rw [e, Nat.add_zero] at this; exact absurd (dig_kb.2 h) this
  · exact e
structure Tok where
  k : Int
  x : ByteArray
  n : Int
  a : Int
def tz : Tok := ⟨0, ⟨#[]⟩, 0, 0⟩
def lst (s : ByteArray) (p : Nat) : Int × Nat × List Tok :=
  if kb s p = 1 then (0, p + 1, [])
  else if kb s p = 4 then (0, p + eol s p, [])
  else if kb s p = 3 then
    if 16 < ltrs s p then (5, p, []) else (if kb s (p + ltrs s p) = 2 then 2 else 0, p + ltrs s p, [⟨1, s.extract p (p + ltrs s p), 0, p⟩])
  else if kb s p = 2 then
    if 1 < dgs s p ∧ byt s p = 48 then (4, p, []) else if 18 < dgs s p then (5, p, []) else (if kb s (p + dgs s p) = 3 then 2 else 0, p + dgs s p, [⟨2, ⟨#[]⟩, numv s p (dgs s p), p⟩])
  else (2, p, [])
def tend (s : ByteArray) : Tok := ⟨3, ⟨#[]⟩, 0, s.size⟩
def scF (s : ByteArray) : Nat → Nat → List Tok → List Tok × Int × Int
  | 0, _, X => (X ++ [tend s], 0, 0)
  | f + 1, p, X => if p < s.size then (if (lst s p).1 ≠ 0 then ([], ((lst s p).2.1 : Int), (lst s p).1) else scF s f (lst s p).2.1 (X ++ (lst s p).2.2)) else (X ++ [tend s], 0, 0)
def scan (s : ByteArray) : List Tok × Int × Int := if 65536 < s.size then ([], 0, 5) else scF s s.size 0 []
theorem lst_bd {s : ByteArray} {p : Nat} (h : p < s.size) : p ≤ (lst s p).2.1 ∧ (lst s p).2.1 ≤ s.size ∧ ((lst s p).1 = 0 → p < (lst s p).2.1) ∧ (lst s p).2.2.length ≤ 1 := by
  have h1 := ltrs_le s (Nat.le_of_lt h)
  have h2 := eol_le s (Nat.le_of_lt h)
  have h3 := dgs_le s (Nat.le_of_lt h)
  have h4 := @ltrs_pos s p
  have h5 := @eol_pos s p
  have h6 := @dgs_pos s p
  unfold lst
  repeat' split
  all_goals (simp only [List.length_nil, List.length_cons]; refine ⟨?_, ?_, ?_, ?_⟩ <;> first | omega | (intro; omega))
theorem scF_go {s : ByteArray} {p f : Nat} {X : List Tok} (h : p < s.size) (hf : 0 < f) (he : (lst s p).1 = 0) : scF s f p X = scF s (f - 1) (lst s p).2.1 (X ++ (lst s p).2.2) := by
  cases f with
  | zero => omega
  | succ f => rw [scF, if_pos h, if_neg (by simp [he])]; rfl
theorem lst_1 {s : ByteArray} {p : Nat} (h : kb s p = 1) : lst s p = (0, p + 1, []) := if_pos h
theorem lst_4 {s : ByteArray} {p : Nat} (h : kb s p = 4) : lst s p = (0, p + eol s p, []) := by unfold lst; rw [if_neg (by omega), if_pos h]
end
section
open Go.RowKit
def tokOK (s : ByteArray) (t : Tok) : Prop :=
  (t.k = 1 ∨ t.k = 2) ∧ 0 ≤ t.a ∧ t.a + t.x.size ≤ s.size ∧ (t.k = 1 → s.extract t.a.toNat (t.a + t.x.size).toNat = t.x)
def TI (s : ByteArray) (X : List Tok) (p : Nat) : Prop :=
  (∀ i, i < X.length → tokOK s (X.getD i tz) ∧ (X.getD i tz).a < p) ∧ ∀ i j, i < j → j < X.length → (X.getD i tz).a < (X.getD j tz).a
theorem TI.nil (s : ByteArray) : TI s [] 0 := ⟨fun i h => absurd h (Nat.not_lt_zero i), fun _ j _ h => absurd h (Nat.not_lt_zero j)⟩
theorem TI.mono {s : ByteArray} {X : List Tok} {p q : Nat} (h : TI s X p) (hq : p ≤ q) : TI s X q := ⟨fun i hi => ⟨(h.1 i hi).1, by have := (h.1 i hi).2; omega⟩, h.2⟩
end
section
open Go.RowKit
theorem byt_r {x y : ByteArray} {j : Nat} (h : j < y.size) : byt (x ++ y) (x.size + j) = byt y j := by
  have h2 : x.size + j < (x ++ y).size := by rw [ByteArray.size_append]; omega
  rw [← byt_at h2, ← byt_at h, ByteArray.getElem_append_right (Nat.le_add_right _ _)]
  congr 2
  simp
theorem kb_byt {s u : ByteArray} {p q : Nat} (h1 : p < s.size) (h2 : q < u.size) (h : byt u q = byt s p) : kb u q = kb s p := by
  rw [kb_in h1, kb_in h2, h]
theorem kb_r {x y : ByteArray} {j : Nat} : kb (x ++ y) (x.size + j) = kb y j := by
  by_cases h : j < y.size
  · exact kb_byt h (by rw [ByteArray.size_append]; omega) (byt_r h)
  · rw [kb_out h, kb_out (by rw [ByteArray.size_append]; omega)]
def Going (u : ByteArray) (p : Nat) (X : List Tok) (q : Nat) (Y : List Tok) : Prop := ∀ f, u.size ≤ p + f → ∃ f', u.size ≤ q + f' ∧ scF u f p X = scF u f' q Y
theorem Going.refl (u : ByteArray) (p : Nat) (X : List Tok) : Going u p X p X := fun f h => ⟨f, h, rfl⟩
theorem Going.trans {u : ByteArray} {p q r : Nat} {X Y Z : List Tok} (h1 : Going u p X q Y) (h2 : Going u q Y r Z) : Going u p X r Z := fun f h => by
  obtain ⟨f1, g1, e1⟩ := h1 f h
  obtain ⟨f2, g2, e2⟩ := h2 f1 g1
  exact ⟨f2, g2, e1.trans e2⟩
theorem Going.step {u : ByteArray} {p q : Nat} {X N : List Tok} (hp : p < u.size) (he : lst u p = (0, q, N)) : Going u p X q (X ++ N) := fun f h => by
  have hb := (lst_bd hp).2.2.1 (by rw [he])
  rw [he] at hb
  refine ⟨f - 1, by simp only at hb; omega, ?_⟩
  rw [scF_go hp (by omega) (by rw [he]), he]
theorem Going.blank {u : ByteArray} {p : Nat} {X : List Tok} (hp : p < u.size) (h : kb u p = 1) : Going u p X (p + 1) X := by
  have := Going.step (X := X) hp (lst_1 h)
  rwa [List.append_nil] at this
theorem Going.rem {u : ByteArray} {p k : Nat} {X : List Tok} (h35 : byt u p = 35) (hk : 0 < k) (h : ∀ j, j < k → byt u (p + j) ≠ 10) (hs : p + k < u.size) (he : byt u (p + k) = 10) : Going u p X (p + k + 1) X := by
  have h4 : kb u p = 4 := by rw [kb_in (by omega), h35]; decide
  have e : eol u p = k := eol_uniq (fun j hj => ⟨by omega, h j hj⟩) (fun h => h.2 he)
  have h1 := Going.step (X := X) (show p < u.size by omega) (lst_4 h4)
  rw [List.append_nil, e] at h1
  exact h1.trans (Going.blank hs (by rw [kb_in hs, he]; decide))
def TK (s : ByteArray) (t : Tok) (A d : Nat) : Prop :=
  t.a = (A : Int) ∧ 0 < d ∧ A + d ≤ s.size ∧ (kb s (A + d) ≠ 2 ∧ kb s (A + d) ≠ 3) ∧
  ((t.k = 1 ∧ (∀ j, j < d → kb s (A + j) = 3) ∧ d ≤ 16 ∧ t.x = s.extract A (A + d) ∧ t.n = 0) ∨
   (t.k = 2 ∧ (∀ j, j < d → kb s (A + j) = 2) ∧ d ≤ 18 ∧ ¬ (1 < d ∧ byt s A = 48) ∧ t.x = ⟨#[]⟩ ∧ t.n = numv s A d))
def TJ (s : ByteArray) (X : List Tok) (p : Nat) : Prop :=
  ∀ i, i < X.length → ∃ A d, TK s (X.getD i tz) A d ∧ ((A + d : Nat) : Int) ≤ if i + 1 < X.length then (X.getD (i + 1) tz).a else p
theorem TJ.mono {s : ByteArray} {X : List Tok} {p q : Nat} (h : TJ s X p) (hq : p ≤ q) : TJ s X q := fun i hi => by
  obtain ⟨A, d, h1, h2⟩ := h i hi
  refine ⟨A, d, h1, ?_⟩
  split at h2
  · rw [if_pos (by assumption)]; exact h2
  · rw [if_neg (by assumption)]; omega
def same3 (t t' : Tok) : Prop := t'.k = t.k ∧ t'.x = t.x ∧ t'.n = t.n
def Built (Y : List Tok) (t : ByteArray) (i : Nat) : Prop :=
  t.size ≤ 30 * i ∧ ∃ m : List Tok, m.length = i ∧ (∀ j, j < i → same3 (Y.getD j tz) (m.getD j tz)) ∧ ∀ v, (kb v 0 ≠ 2 ∧ kb v 0 ≠ 3) → Going (t ++ v) 0 [] t.size m
theorem Built.nil (Y : List Tok) : Built Y ⟨#[]⟩ 0 := ⟨Nat.le_refl _, [], rfl, fun j h => absurd h (Nat.not_lt_zero j), fun _ _ => Going.refl _ _ _⟩
end
section
open Go.RowKit
structure Ins where
  kind : Int
  n : Int
  cap : Int
  wt : List Int
  vl : List Int
  cost : List (List Int)
def RowsV (w : World) (v : Value) (rows : List (List Int)) : Prop :=
  ∃ a cap, v = .slice a rows.length cap ∧ rows.length ≤ cap ∧ cap ≤ maxLen ∧ (a = none → cap = 0) ∧ (rows ≠ [] → ∃ b off, a = some ⟨b, off, none⟩ ∧ b < w.heap.size ∧ ∀ i, i < rows.length → ∃ u, w.cell? ⟨b, off + i, none⟩ = some u ∧ IntSl w u (rows.getD i []))
theorem RowsV.below {B : Nat} {w w' : World} {v : Value} {rows : List (List Int)} (h : RowsV w v rows) (hb : Below B w w') (hB : w.heap.size ≤ B) : RowsV w' v rows := by
  obtain ⟨a, cap, rfl, hle, hmx, hnn, h⟩ := h
  refine ⟨a, cap, rfl, hle, hmx, hnn, fun hn => ?_⟩
  obtain ⟨b, off, rfl, hlt, hc⟩ := h hn
  refine ⟨b, off, rfl, Nat.lt_of_lt_of_le hlt hb.size, fun i hi => ?_⟩
  obtain ⟨u, h1, h2⟩ := hc i hi
  exact ⟨u, by rw [(bcell hb).1 _ _ (by omega)]; exact h1, h2.below hb hB⟩
theorem RowsV.form {w : World} {v : Value} {rows : List (List Int)} (h : RowsV w v rows) : ∃ a cap, v = .slice a rows.length cap := by
  obtain ⟨a, cap, he, -⟩ := h; exact ⟨a, cap, he⟩
theorem RowsV.at {w : World} {a : Option Addr} {n cap : Nat} {rows : List (List Int)} (h : RowsV w (.slice a n cap) rows) {i : Nat} (hi : i < rows.length) :
    ∃ b off ra rc, a = some ⟨b, off, none⟩ ∧ w.cell? ⟨b, off + i, none⟩ = some (.slice ra (rows.getD i []).length rc) ∧ IntSl w (.slice ra (rows.getD i []).length rc) (rows.getD i []) := by
  obtain ⟨a', cap', he, h1, h2, h3, h4⟩ := h
  cases he
  obtain ⟨b, off, rfl, -, hc⟩ := h4 (by intro e; rw [e] at hi; simp at hi)
  obtain ⟨u, g1, g2⟩ := hc i hi
  have hf : ∃ a c, u = .slice a (rows.getD i []).length c := by obtain ⟨a, c, e, -⟩ := g2; exact ⟨a, c, e⟩
  obtain ⟨ra, rc, rfl⟩ := hf
  exact ⟨b, off, ra, rc, rfl, g1, g2⟩
def InsV (w : World) (v : Value) (i : Ins) : Prop :=
  ∃ vw vv vc, v = .agg #[.int .i64 i.kind, .int .i64 i.n, .int .i64 i.cap, vw, vv, vc] ∧ IntSl w vw i.wt ∧ IntSl w vv i.vl ∧ RowsV w vc i.cost
theorem InsV.below {B : Nat} {w w' : World} {v : Value} {i : Ins} (h : InsV w v i) (hb : Below B w w') (hB : w.heap.size ≤ B) : InsV w' v i := by
  obtain ⟨vw, vv, vc, e, h1, h2, h3⟩ := h
  exact ⟨vw, vv, vc, e, h1.below hb hB, h2.below hb hB, h3.below hb hB⟩
structure OwR where
  Y : List Int
  a : Option Addr
  c : Nat
def orV (o : OwR) : Value := .slice o.a o.Y.length o.c
def orC (e : TypeId) (o : OwR) : Ck := own e 1 (.slice o.a o.Y.length o.c) o.Y.length (o.Y.map (Value.int .i64))
def insA (i : Ins) (aw : Option Addr) (cw : Nat) (av : Option Addr) (cv : Nat) (ac : Option Addr) (cc : Nat) (rs : List OwR) : Value :=
  .agg #[.int .i64 i.kind, .int .i64 i.n, .int .i64 i.cap, .slice aw i.wt.length cw, .slice av i.vl.length cv, .slice ac rs.length cc]
def insL (eI eR : TypeId) (i : Ins) (aw : Option Addr) (cw : Nat) (av : Option Addr) (cv : Nat) (ac : Option Addr) (cc : Nat) (rs : List OwR) : List Ck :=
  [own eI 1 (.slice aw i.wt.length cw) i.wt.length (i.wt.map (Value.int .i64)), own eI 1 (.slice av i.vl.length cv) i.vl.length (i.vl.map (Value.int .i64)), own eR 1 (.slice ac rs.length cc) rs.length (rs.map orV), bundle (rs.map (orC eI))]
section
variable {w0 w w' : World} {F : Nat → Prop} {L : List Ck} {e t : TypeId} {k : Nat}
theorem Mem.bundleSnoc {o : OwR} {rs : List OwR} (h : Mem w0 F (orC e o :: bundle (rs.map (orC e)) :: L) w) : Mem w0 F (bundle ((rs ++ [o]).map (orC e)) :: L) w := by
  have h0 : Mem w0 F (bundle (rs.map (orC e)) :: orC e o :: L) w := h.front (k := 1) rfl
  have h1 := h0.unpack
  refine Mem.pack ?_
  rw [List.map_append, List.append_assoc]
  exact h1
theorem Mem.bundleNil (h : Mem w0 F L w) : Mem w0 F (bundle (([] : List OwR).map (orC e)) :: L) w := Mem.pack (cs := []) h
theorem own_intSl {v : Value} {X : List Int} {sz : Nat} (hs : sz = X.length) (ho : w.ownsRow 0 e 1 v sz (X.map (Value.int .i64))) (hin : ∀ b, v.ownBlock = some b → b < w.heap.size) : IntSl w v X := by
  subst hs
  have ho2 := ho
  obtain ⟨a, cap, rfl, hn, hm, -, h1, h2⟩ := own_form ho
  refine ⟨a, cap, rfl, hn, hm, fun hna => ?_, fun hne => ?_⟩
  · subst hna
    rcases ho.2 with ⟨h, -⟩ | ⟨g, c, cur, h, -⟩
    · injection h
    · cases h
  · have hpos : 0 < X.length := List.length_pos_iff.2 hne
    cases a with
    | none => have := h1 rfl; omega
    | some p =>
      obtain ⟨g, rfl⟩ := h2 p rfl
      refine ⟨g, 0, rfl, hin g rfl, fun i hi => ?_⟩
      have := ho.cells (g := g) rfl i _ (mapi_get X i hi)
      rw [Addr.add_lit, Nat.zero_add] at this
      rw [Nat.zero_add]; exact this
theorem Mem.rowsV {eR : TypeId} {ac : Option Addr} {cc : Nat} {rs : List OwR} (hM : Mem w0 F L w) (hk : ith L k = some (own eR 1 (.slice ac rs.length cc) rs.length (rs.map orV))) {k2 : Nat} (hk2 : ith L k2 = some (bundle (rs.map (orC e)))) : RowsV w (.slice ac rs.length cc) (rs.map (·.Y)) := by
  obtain ⟨a', cap', he, hn, hm, -, h1, h2⟩ := hM.ownForm hk
  cases he
  have ho : w.ownsRow 0 eR 1 (.slice ac rs.length cc) rs.length (rs.map orV) := hM.mem hk
  have hbd : (bundle (rs.map (orC e))).holds w := hM.mem hk2
  have hb2 : bundle (rs.map (orC e)) ∈ L := List.mem_of_getElem? (by rwa [ith_eq] at hk2)
  refine ⟨ac, cc, by rw [List.length_map], by rw [List.length_map]; exact hn, hm, fun hna => ?_, fun hne => ?_⟩
  · subst hna
    rcases ho.2 with ⟨h, -⟩ | ⟨g, c, cur, h, -⟩
    · injection h
    · cases h
  · have hpos : 0 < rs.length := by rcases rs with _ | ⟨r, rs⟩; simp at hne; simp
    obtain ⟨g, rfl⟩ := hM.ownAt hk hpos
    refine ⟨g, 0, rfl, (hM.inb _ (List.mem_of_getElem? (by rwa [ith_eq] at hk)) g rfl).1, fun i hi => ?_⟩
    rw [List.length_map] at hi
    refine ⟨orV rs[i], ?_, ?_⟩
    · rw [Nat.zero_add]
      exact hM.ownCell hk (by rw [List.getElem?_map, List.getElem?_eq_getElem hi]; rfl)
    · have hmem : orC e rs[i] ∈ rs.map (orC e) := List.mem_map.2 ⟨_, List.getElem_mem hi, rfl⟩
      have e1 : (rs.map (·.Y)).getD i [] = rs[i].Y := by simp [List.getD, hi]
      rw [e1]
      exact own_intSl rfl (hbd.1 _ hmem) (fun b hb => (hM.inb _ hb2 b ⟨_, hmem, hb⟩).1)
theorem Mem.insV {eI eR : TypeId} {i : Ins} {aw : Option Addr} {cw : Nat} {av : Option Addr} {cv : Nat} {ac : Option Addr} {cc : Nat} {rs : List OwR} (hM : Mem w0 F L w) (hk : ith L k = some (bundle (insL eI eR i aw cw av cv ac cc rs))) (hc : rs.map (·.Y) = i.cost) : InsV w (insA i aw cw av cv ac cc rs) i := by
  have h1 := (hM.front hk).unpack
  refine ⟨_, _, _, rfl, ?_, ?_, ?_⟩
  · exact own_intSl rfl (h1.mem (k := 0) rfl) (fun b hb => (h1.inb _ (.head _) b hb).1)
  · exact own_intSl rfl (h1.mem (k := 1) rfl) (fun b hb => (h1.inb _ (.tail _ (.head _)) b hb).1)
  · rw [← hc]; exact h1.rowsV (k := 2) (k2 := 3) rfl rfl
end
end
section
open Go.RowKit
theorem Ins.ext {i j : Ins} (g1 : i.kind = j.kind) (g2 : i.n = j.n) (g3 : i.cap = j.cap) (g4 : i.wt = j.wt) (g5 : i.vl = j.vl) (g6 : i.cost = j.cost) : i = j := by cases i; cases j; cases g1; cases g2; cases g3; cases g4; cases g5; cases g6; rfl
instance (i j : Ins) : Decidable (i = j) :=
  if h : ((((i.kind = j.kind ∧ i.n = j.n) ∧ i.cap = j.cap) ∧ i.wt = j.wt) ∧ i.vl = j.vl) ∧ i.cost = j.cost then .isTrue (Ins.ext h.1.1.1.1.1 h.1.1.1.1.2 h.1.1.1.2 h.1.1.2 h.1.2 h.2)
  else .isFalse (fun e => h (by subst e; exact ⟨⟨⟨⟨⟨rfl, rfl⟩, rfl⟩, rfl⟩, rfl⟩, rfl⟩))
section
variable {P : Program} {l : List (Nat × Value)} {w w0 : World} {ty : TypeId} {x y z : Operand} {k k' : IntKind} {m n : Int} {t yt e : TypeId}
theorem R.idxR {a : Option Addr} {cap j : Nat} {g : Bool} {i : Int} {Rs : List (List Int)} (hX : RowsV w0 (.slice a Rs.length cap) Rs) (hi : slInfo P t = some (g, 1)) (hx : opv l x = some (.slice a Rs.length cap)) (hy : opv l y = some (.int k i)) (h0 : 0 ≤ i ∧ i < (Rs.length : Int)) (hj : i.toNat = j) :
    Run P l w (.indexAddr t x y) ty (pI a j) w := by
  obtain ⟨b, off, ra, rc, rfl, -⟩ := hX.at (i := i.toNat) (by omega)
  exact R.indexAddr hi hx hy h0 (by rw [Nat.mul_one, hj])
theorem RowsV.atP {a : Option Addr} {cap : Nat} {Rs : List (List Int)} (hX : RowsV w0 (.slice a Rs.length cap) Rs) {i : Nat} (hi : i < Rs.length) :
    ∃ ra rc, IntSl w0 (.slice ra (Rs.getD i []).length rc) (Rs.getD i []) ∧ ∀ (P : Program) (l : List (Nat × Value)) (x : Operand) (ty t : TypeId) (L : List Ck) {w : World}, Mem w0 nof L w → szOf P t = some (false, 1) → opv l x = some (pI a i) → Run P l w (.load t x) ty (.slice ra (Rs.getD i []).length rc) w := by
  obtain ⟨b, off, ra, rc, rfl, hc, hr⟩ := hX.at hi
  exact ⟨ra, rc, hr, fun P l x ty t L w hM hs hx => R.load hs hx (hM.cell0 hc (fun h => h))⟩
theorem RowsV.mem {v : Value} {Rs : List (List Int)} {L : List Ck} (h : RowsV w0 v Rs) (hM : Mem w0 nof L w) : RowsV w v Rs := h.below hM.nilL.below (Nat.le_refl _)
theorem RowsV.lenB {a : Option Addr} {n cap : Nat} {Rs : List (List Int)} (h : RowsV w (.slice a n cap) Rs) : Rs.length ≤ 9223372036854775807 := by
  obtain ⟨a', cap', he, h1, h2, -⟩ := h
  unfold maxLen at h2; omega
theorem RowsV.nil (w : World) : RowsV w (.slice none ([] : List (List Int)).length 0) [] := ⟨none, 0, rfl, Nat.le_refl _, Nat.zero_le _, fun _ => rfl, fun h => absurd rfl h⟩
end
def insR (w : World) (i : Ins) (aw : Option Addr) (cw : Nat) (av : Option Addr) (cv : Nat) (ac : Option Addr) (cc : Nat) : Prop :=
  IntSl w (.slice aw i.wt.length cw) i.wt ∧ IntSl w (.slice av i.vl.length cv) i.vl ∧ RowsV w (.slice ac i.cost.length cc) i.cost
def insG (i : Ins) (aw : Option Addr) (cw : Nat) (av : Option Addr) (cv : Nat) (ac : Option Addr) (cc : Nat) : Value :=
  .agg #[.int .i64 i.kind, .int .i64 i.n, .int .i64 i.cap, .slice aw i.wt.length cw, .slice av i.vl.length cv, .slice ac i.cost.length cc]
theorem InsV.parts {w : World} {v : Value} {i : Ins} (h : InsV w v i) : ∃ aw cw av cv ac cc, v = insG i aw cw av cv ac cc ∧ insR w i aw cw av cv ac cc := by
  obtain ⟨vw, vv, vc, rfl, h1, h2, h3⟩ := h
  obtain ⟨aw, cw, rfl⟩ := h1.form
  obtain ⟨av, cv, rfl⟩ := h2.form
  obtain ⟨ac, cc, rfl⟩ := h3.form
  exact ⟨aw, cw, av, cv, ac, cc, rfl, h1, h2, h3⟩
theorem insR_of {w w' : World} {L : List Ck} {eI eR : TypeId} {i : Ins} {aw : Option Addr} {cw : Nat} {av : Option Addr} {cv : Nat} {ac : Option Addr} {cc : Nat} {rs : List OwR} (hM : Mem w nof L w') {k : Nat} (hk : ith L k = some (bundle (insL eI eR i aw cw av cv ac cc rs))) (hc : rs.map (·.Y) = i.cost) :
    insA i aw cw av cv ac cc rs = insG i aw cw av cv ac cc ∧ insR w' i aw cw av cv ac cc := by
  have h := hM.insV hk hc
  have e : insA i aw cw av cv ac cc rs = insG i aw cw av cv ac cc := by unfold insA insG; rw [← hc, List.length_map]
  obtain ⟨vw, vv, vc, e2, h1, h2, h3⟩ := h
  rw [e] at e2
  unfold insG at e2
  injection e2 with e3
  have e4 := congrArg Array.toList e3
  simp only [List.cons.injEq] at e4
  obtain ⟨-, -, -, rfl, rfl, rfl, -⟩ := e4
  exact ⟨e, h1, h2, h3⟩
end
section
def numE (n : Int) : Int := if n < 0 then 1 else if 2147483647 < n then 5 else 0
def pfx (f : Nat → Int) : Nat → Int
  | 0 => 0
  | k + 1 => if pfx f k ≠ 0 then pfx f k else f k
theorem pfx_step {f : Nat → Int} {k : Nat} (h : pfx f k = 0) : pfx f (k + 1) = f k := by rw [pfx, if_neg (by rw [h]; simp)]
theorem pfx_stay {f : Nat → Int} {k n : Nat} (hk : pfx f k ≠ 0) (h : k ≤ n) : pfx f n = pfx f k := by
  induction h with
  | refl => rfl
  | step h ih => rw [Nat.succ_eq_add_one, pfx, ih, if_pos hk]
theorem pfx_err {f : Nat → Int} {k n : Nat} (h0 : pfx f k = 0) (hf : f k ≠ 0) (h : k < n) : pfx f n = f k := by
  have e := pfx_step h0
  rw [pfx_stay (k := k + 1) (by rw [e]; exact hf) h, e]
theorem pfx_zero {f : Nat → Int} {n : Nat} (h : pfx f n = 0) : ∀ k, k < n → f k = 0 := by
  intro k hk
  have h1 : pfx f (k + 1) = 0 := by
    by_cases e : pfx f (k + 1) = 0
    · exact e
    · rw [← pfx_stay e hk]; exact h
  have h0 : pfx f k = 0 := by
    by_cases e : pfx f k = 0
    · exact e
    · rw [pfx, if_pos e] at h1; exact h1
  rw [pfx_step h0] at h1; exact h1
theorem pfx_all {f : Nat → Int} : ∀ n, (∀ k, k < n → f k = 0) → pfx f n = 0
  | 0, _ => rfl
  | n + 1, h => by rw [pfx_step (pfx_all n (fun k hk => h k (by omega)))]; exact h n (by omega)
def itF (i : Ins) (k : Nat) : Int := if numE (i.wt.getD k 0) ≠ 0 then numE (i.wt.getD k 0) else numE (i.vl.getD k 0)
def cellF (i : Ins) (r c : Nat) : Int := if numE ((i.cost.getD r []).getD c 0) ≠ 0 then numE ((i.cost.getD r []).getD c 0) else if (i.kind = 3 ∧ r = c) ∧ (i.cost.getD r []).getD c 0 ≠ 0 then 8 else 0
def sizeE (i : Ins) : Int := if i.kind < 1 ∨ 3 < i.kind then 14 else if i.n < 1 then 1 else if (i.kind = 1 ∧ 64 < i.n) ∨ (1 < i.kind ∧ 24 < i.n) then 5 else 0
def shapeOK (i : Ins) : Prop :=
  (i.kind = 1 ∧ (i.wt.length : Int) = i.n ∧ (i.vl.length : Int) = i.n ∧ i.cost.length = 0) ∨
  (i.kind ≠ 1 ∧ (i.cost.length : Int) = i.n ∧ i.cap = 0 ∧ i.wt.length = 0 ∧ i.vl.length = 0 ∧ ∀ r, r < i.cost.length → ((i.cost.getD r []).length : Int) = i.n)
def numsE (i : Ins) : Int := if i.kind = 1 then (if numE i.cap ≠ 0 then numE i.cap else pfx (itF i) i.n.toNat) else pfx (fun r => pfx (cellF i r) i.n.toNat) i.n.toNat
def smallI (i : Ins) : Prop := i.wt.length ≤ 70 ∧ i.vl.length ≤ 70 ∧ i.cost.length ≤ 30 ∧ ∀ r ∈ i.cost, r.length ≤ 70
end
section
def bs (l : List UInt8) : ByteArray := ⟨l.toArray⟩
theorem bs_app (a b : List UInt8) : bs a ++ bs b = bs (a ++ b) := by
  have h : ∀ x y : ByteArray, x.data.toList = y.data.toList → x = y := fun x y e => by cases x; cases y; simp at e; simp [e]
  apply h
  simp [bs]
theorem bs_size (l : List UInt8) : (bs l).size = l.length := by show l.toArray.size = _; simp
structure InF (i : Ins) : Prop where
  kind : 1 ≤ i.kind ∧ i.kind ≤ 3
  n1 : 1 ≤ i.n
  n64 : i.n ≤ 64
  n24 : i.kind ≠ 1 → i.n ≤ 24
  cap : 0 ≤ i.cap ∧ i.cap ≤ 2147483647
  cap0 : i.kind ≠ 1 → i.cap = 0
  wt : i.wt.length = if i.kind = 1 then i.n.toNat else 0
  vl : i.vl.length = if i.kind = 1 then i.n.toNat else 0
  cost : i.cost.length = if i.kind = 1 then 0 else i.n.toNat
  row : ∀ r, r < i.cost.length → (i.cost.getD r []).length = i.n.toNat
  wtr : ∀ k, 0 ≤ i.wt.getD k 0 ∧ i.wt.getD k 0 ≤ 2147483647
  vlr : ∀ k, 0 ≤ i.vl.getD k 0 ∧ i.vl.getD k 0 ≤ 2147483647
  cell : ∀ r c, 0 ≤ (i.cost.getD r []).getD c 0 ∧ (i.cost.getD r []).getD c 0 ≤ 2147483647
  diag : i.kind = 3 → ∀ r, (i.cost.getD r []).getD r 0 = 0
theorem numE_zero {n : Int} (h : numE n = 0) : 0 ≤ n ∧ n ≤ 2147483647 := by
  unfold numE at h
  split at h
  · cases h
  · split at h
    · cases h
    · omega
theorem getD_out {l : List Int} {k : Nat} (h : l.length ≤ k) : l.getD k 0 = 0 := by rw [List.getD_eq_getElem?_getD, List.getElem?_eq_none h]; rfl
theorem getD_outR {l : List (List Int)} {k : Nat} (h : l.length ≤ k) : l.getD k [] = [] := by rw [List.getD_eq_getElem?_getD, List.getElem?_eq_none h]; rfl
theorem inF_of {i : Ins} (h1 : sizeE i = 0) (h2 : shapeOK i) (h3 : numsE i = 0) : InF i := by
 have hk : 1 ≤ i.kind ∧ i.kind ≤ 3 ∧ 1 ≤ i.n ∧ (i.kind = 1 → i.n ≤ 64) ∧ (i.kind ≠ 1 → i.n ≤ 24) := by
  unfold sizeE at h1
  split at h1
  · cases h1
  ·
   split at h1
   · cases h1
   ·
    split at h1
    · cases h1
    · refine ⟨by omega, by omega, by omega, fun h => by omega, fun h => by omega⟩
 unfold numsE at h3
 rcases h2 with ⟨k1, k2, k3, k4⟩ | ⟨k1, k2, k3, k4, k5, k6⟩
 ·
  rw [if_pos k1] at h3
  have hc : numE i.cap = 0 := by
   by_cases e : numE i.cap = 0
   · exact e
   · rw [if_pos e] at h3; exact h3
  rw [if_neg (by rw [hc]; simp)] at h3
  have hz := pfx_zero h3
  have hw : ∀ k, 0 ≤ i.wt.getD k 0 ∧ i.wt.getD k 0 ≤ 2147483647 := fun k => by
   rcases Nat.lt_or_ge k i.wt.length with g | g
   ·
    have := hz k (by omega)
    unfold itF at this
    split at this
    · rename_i q; exact absurd this q
    · rename_i q; exact numE_zero (Decidable.not_not.1 q)
   · rw [getD_out g]; omega
  have hv : ∀ k, 0 ≤ i.vl.getD k 0 ∧ i.vl.getD k 0 ≤ 2147483647 := fun k => by
   rcases Nat.lt_or_ge k i.vl.length with g | g
   ·
    have := hz k (by omega)
    unfold itF at this
    split at this
    · rename_i q; exact absurd this q
    · exact numE_zero this
   · rw [getD_out g]; omega
  refine ⟨⟨hk.1, hk.2.1⟩, hk.2.2.1, hk.2.2.2.1 k1, hk.2.2.2.2, numE_zero hc, fun h => absurd k1 h, by rw [if_pos k1]; omega, by rw [if_pos k1]; omega, by rw [if_pos k1]; exact k4, fun r hr => by omega, hw, hv, fun r c => ?_, fun h => by omega⟩
  rw [getD_outR (by omega)]
  exact ⟨by simp, by simp⟩
 ·
  rw [if_neg k1] at h3
  have hn := hk.2.2.2.2 k1
  have hz := pfx_zero h3
  have hcell : ∀ r c, r < i.n.toNat → c < i.n.toNat → cellF i r c = 0 := fun r c hr hc => pfx_zero (hz r hr) c hc
  have hcl : ∀ r c, 0 ≤ (i.cost.getD r []).getD c 0 ∧ (i.cost.getD r []).getD c 0 ≤ 2147483647 := fun r c => by
   rcases Nat.lt_or_ge r i.cost.length with g | g
   ·
    have hl := k6 r g
    rcases Nat.lt_or_ge c (i.cost.getD r []).length with g2 | g2
    ·
     have := hcell r c (by omega) (by omega)
     unfold cellF at this
     split at this
     · rename_i q; exact absurd this q
     · rename_i q; exact numE_zero (Decidable.not_not.1 q)
    · rw [getD_out g2]; omega
   · rw [getD_outR g]; exact ⟨by simp, by simp⟩
  refine ⟨⟨hk.1, hk.2.1⟩, hk.2.2.1, by omega, hk.2.2.2.2, by omega, fun _ => k3, by rw [if_neg k1]; exact k4, by rw [if_neg k1]; exact k5, by rw [if_neg k1]; omega, fun r hr => by have := k6 r hr; omega, fun k => ?_, fun k => ?_, hcl, fun h3' r => ?_⟩
  · rw [getD_out (by omega)]; omega
  · rw [getD_out (by omega)]; omega
  ·
   rcases Nat.lt_or_ge r i.cost.length with g | g
   ·
    have := hcell r r (by omega) (by omega)
    unfold cellF at this
    split at this
    · rename_i q; exact absurd this q
    ·
     split at this
     · cases this
     ·
      rename_i q2
      by_cases e : (i.cost.getD r []).getD r 0 = 0
      · exact e
      · exact absurd ⟨⟨h3', rfl⟩, e⟩ q2
   · rw [getD_outR g]; rfl
end
section
open Go.RowKit
theorem byt_mk {l : List UInt8} {j : Nat} (h : j < l.length) : byt ⟨l.toArray⟩ j = ((l[j]).toNat : Int) := by
  have h1 : j < (⟨l.toArray⟩ : ByteArray).size := by show j < l.toArray.size; simpa using h
  rw [← byt_at h1]
  rfl
section
variable {P : Program} {l : List (Nat × Value)} {w w0 : World} {F : Nat → Prop} {L : List Ck} {ty src dst : TypeId} {x : Operand}
end
end
section
structure Toks (X : List Tok) : Prop where
  pos : 0 < X.length
  next : ∀ j, j < X.length → (X.getD j tz).k ≠ 3 → j + 1 < X.length
  len : X.length ≤ 1000000
  kinds : ∀ j, j < X.length → (X.getD j tz).k = 1 ∨ (X.getD j tz).k = 2 ∨ (X.getD j tz).k = 3
  num : ∀ j, 0 ≤ (X.getD j tz).n
  two : ∀ j, (X.getD j tz).k = 2 → (X.getD j tz).x = ⟨#[]⟩
def numN (t : Tok) (most : Int) : Int := if t.k = 3 then 0 else if t.k = 1 then 0 else if most < t.n then 0 else t.n
def numR (t : Tok) (most : Int) : Int := if t.k = 3 then 6 else if t.k = 1 then 4 else if most < t.n then 5 else 0
theorem numR_end {t : Tok} {m : Int} (h : t.k = 3) : numR t m = 6 ∧ numN t m = 0 := ⟨if_pos h, if_pos h⟩
theorem numR_ok {t : Tok} {m : Int} (h : ¬ t.k = 3) (g : ¬ t.k = 1) (l : ¬ m < t.n) : numR t m = 0 ∧ numN t m = t.n := by unfold numR numN; rw [if_neg h, if_neg h, if_neg g, if_neg g, if_neg l, if_neg l]; exact ⟨rfl, rfl⟩
theorem Toks.ok {X : List Tok} (h : Toks X) {j : Nat} (hj : j < X.length) {m : Int} (e : numR (X.getD j tz) m = 0) : j + 1 < X.length := by
  refine h.next j hj (fun k => ?_)
  rw [(numR_end k).1] at e; cases e
end
section
def nuE (d : Bool) (t : Tok) : Int := if numR t 2147483647 = 0 ∧ d = true ∧ numN t 2147483647 ≠ 0 then 8 else numR t 2147483647
theorem nuE_ok {d : Bool} {t : Tok} (h : numR t 2147483647 = 0) (g : ¬ (d = true ∧ numN t 2147483647 ≠ 0)) : nuE d t = 0 := by unfold nuE; rw [if_neg (fun q => g q.2), h]
def ff : Nat → Bool := fun _ => false
def offH (n : Nat) : Nat → Nat
  | 0 => 0
  | a + 1 => offH n a + (n - 1 - a)
def hlf (n : Nat) : Nat := offH n n
def mat (n : Nat) (g : Nat → Nat → Int) : List (List Int) := (List.range n).map fun r => (List.range n).map (g r)
theorem mat_len (n : Nat) (g : Nat → Nat → Int) : (mat n g).length = n := by simp [mat]
theorem mat_row {n : Nat} {g : Nat → Nat → Int} {r : Nat} (h : r < n) : (mat n g).getD r [] = (List.range n).map (g r) := by simp [mat, List.getD, h]
theorem mat_congr {n : Nat} {g h : Nat → Nat → Int} (e : ∀ r c, r < n → c < n → g r c = h r c) : mat n g = mat n h :=
  List.map_congr_left fun r hr => List.map_congr_left fun c hc => e r c (List.mem_range.1 hr) (List.mem_range.1 hc)
def vl (X : List Tok) (j q : Nat) : Int := (X.getD (j + q) tz).n
end
end Go.Proofs.Ytnikajkklocncaa
namespace Go.Proofs.Ytnikajkklocncaa
open Go.RowKit
theorem or_u64 (a b : Nat) (ha : a < 2^64) (hb : b < 2^64) : bits BinOp.or IntKind.u64 (a : Int) (b : Int) = ((a ||| b : Nat) : Int) := by
  unfold bits
  simp only
  have hk : IntKind.bits .u64 = 64 := rfl
  rw [hk]
  have e : (BitVec.ofInt 64 (a : Int) ||| BitVec.ofInt 64 (b : Int)).toNat = a ||| b := by
    rw [BitVec.toNat_or, BitVec.toNat_ofInt, BitVec.toNat_ofInt]
    rw [show ((a : Int) % ((2 ^ 64 : Nat) : Int)).toNat = a by omega, show ((b : Int) % ((2 ^ 64 : Nat) : Int)).toNat = b by omega]
  rw [e, IntKind.wrap_u64]
  have := Nat.or_lt_two_pow ha hb
  omega
def wdB (f : Nat → Bool) : Nat → Nat
  | 0 => 0
  | k + 1 => wdB f k + if f k then 2 ^ k else 0
theorem wdB_bd (f : Nat → Bool) : ∀ k, wdB f k < 2 ^ k
  | 0 => by simp [wdB]
  | k + 1 => by have := wdB_bd f k; rw [wdB, Nat.pow_succ]; split <;> omega
theorem wdB_bit (f : Nat → Bool) : ∀ k j, j < k → (wdB f k).testBit j = f j
  | 0, j, h => absurd h (Nat.not_lt_zero _)
  | k + 1, j, h => by
    have hb := wdB_bd f k
    rw [wdB]
    rcases Nat.lt_succ_iff_lt_or_eq.1 h with g | g
    · split
      · rw [Nat.add_comm, Nat.testBit_two_pow_add_gt g, wdB_bit f k j g]
      · rw [Nat.add_zero, wdB_bit f k j g]
    · subst g
      split
      · rename_i q; rw [Nat.add_comm, Nat.testBit_two_pow_add_eq, Nat.testBit_lt_two_pow hb, q]; rfl
      · rename_i q; rw [Nat.add_zero, Nat.testBit_lt_two_pow hb]; simpa using q
theorem wdB_ext {f g : Nat → Bool} {k : Nat} (h : wdB f k = wdB g k) : ∀ j, j < k → f j = g j := fun j hj => by rw [← wdB_bit f k j hj, ← wdB_bit g k j hj, h]
theorem wdB_congr {f g : Nat → Bool} : ∀ {k : Nat}, (∀ j, j < k → f j = g j) → wdB f k = wdB g k
  | 0, _ => rfl
  | k + 1, h => by rw [wdB, wdB, wdB_congr (fun j hj => h j (by omega)), h k (by omega)]
theorem wdB_or {f g : Nat → Bool} {k j : Nat} (hj : j < k) (hg : ∀ b, b < k → g b = (f b || decide (b = j))) : wdB f k ||| 2 ^ j = wdB g k := by
  apply Nat.eq_of_testBit_eq
  intro b
  rw [Nat.testBit_or, Nat.testBit_two_pow]
  by_cases h : b < k
  · rw [wdB_bit f k b h, wdB_bit g k b h, hg b h]
    congr 1
    by_cases e : b = j
    · subst e; simp
    · rw [decide_eq_false e, decide_eq_false (fun q => e q.symm)]
  · have p1 : 2 ^ k ≤ 2 ^ b := Nat.pow_le_pow_right (by decide) (by omega)
    rw [Nat.testBit_lt_two_pow (Nat.lt_of_lt_of_le (wdB_bd f k) p1), Nat.testBit_lt_two_pow (Nat.lt_of_lt_of_le (wdB_bd g k) p1), decide_eq_false (by omega)]; rfl
theorem wdB_full : ∀ n, n < 65 → wdB (fun b => decide (b < n)) 64 = 2 ^ n - 1 := by decide +kernel
theorem wdB_none {f : Nat → Bool} : ∀ {k : Nat}, (∀ j, j < k → f j = false) → wdB f k = 0
  | 0, _ => rfl
  | k + 1, h => by rw [wdB, wdB_none (fun j hj => h j (by omega)), h k (by omega)]; rfl
def loW (f : Nat → Bool) : Int := (wdB f 64 : Nat)
def hiW (f : Nat → Bool) : Int := (wdB (fun b => f (64 + b)) 64 : Nat)
def memF (l : List Int) (b : Nat) : Bool := decide ((b : Int) ∈ l)
def adF1 (f : Nat → Bool) (i : Int) (b : Nat) : Bool := f b || decide ((b : Int) = i)
theorem memF_snoc (l : List Int) (i : Int) : memF (l ++ [i]) = adF1 (memF l) i := by
  funext b; unfold memF adF1; simp
theorem lo_bd (f : Nat → Bool) : wdB f 64 < 2 ^ 64 := wdB_bd f 64
theorem u64_pow {j : Nat} (h : j < 64) : IntKind.u64.wrap (1 * 2 ^ min j IntKind.u64.bits) = ((2 ^ j : Nat) : Int) := by
  have hb : IntKind.bits .u64 = 64 := rfl
  rw [hb, Nat.min_eq_left (by omega), IntKind.wrap_u64, Int.one_mul]
  have : (2 : Int) ^ j = ((2 ^ j : Nat) : Int) := by push_cast; rfl
  rw [this]
  have h2 : 2 ^ j < 2 ^ 64 := Nat.pow_lt_pow_right (by decide) h
  generalize 2 ^ j = p at h2
  omega
theorem add_lo {f : Nat → Bool} {i : Nat} (h : i < 64) : bits BinOp.or IntKind.u64 (loW f) (IntKind.u64.wrap (1 * 2 ^ min i IntKind.u64.bits)) = loW (adF1 f i) ∧ hiW (adF1 f i) = hiW f := by
  refine ⟨?_, ?_⟩
  · rw [u64_pow h]
    unfold loW
    rw [or_u64 _ _ (lo_bd f) (Nat.pow_lt_pow_right (by decide) h), wdB_or h (g := adF1 f i) (fun b _ => by unfold adF1; congr 1; exact decide_eq_decide.2 (by omega))]
  · unfold hiW; rw [wdB_congr (g := fun b => f (64 + b)) (fun b _ => by unfold adF1; rw [decide_eq_false (by omega), Bool.or_false])]
theorem add_hi {f : Nat → Bool} {i : Nat} (h : i < 64) : bits BinOp.or IntKind.u64 (hiW f) (IntKind.u64.wrap (1 * 2 ^ min i IntKind.u64.bits)) = hiW (adF1 f ((64 + i : Nat) : Int)) ∧ loW (adF1 f ((64 + i : Nat) : Int)) = loW f := by
  refine ⟨?_, ?_⟩
  · rw [u64_pow h]
    unfold hiW
    rw [or_u64 _ _ (wdB_bd _ 64) (Nat.pow_lt_pow_right (by decide) h), wdB_or h (g := fun b => adF1 f ((64 + i : Nat) : Int) (64 + b)) (fun b _ => by unfold adF1; congr 1; exact decide_eq_decide.2 (by omega))]
  · unfold loW; rw [wdB_congr (g := f) (fun b hb => by unfold adF1; rw [decide_eq_false (by omega), Bool.or_false])]
theorem add_out {f : Nat → Bool} {i : Int} (h : ¬ (0 ≤ i ∧ i < 128)) : loW (adF1 f i) = loW f ∧ hiW (adF1 f i) = hiW f := by
  refine ⟨?_, ?_⟩
  · unfold loW; rw [wdB_congr (g := f) (fun b hb => by unfold adF1; rw [decide_eq_false (by omega), Bool.or_false])]
  · unfold hiW; rw [wdB_congr (g := fun b => f (64 + b)) (fun b _ => by unfold adF1; rw [decide_eq_false (by omega), Bool.or_false])]
def lessF (n b : Nat) : Bool := decide (b < n)
theorem full_lo {n : Nat} (h : n < 64) : loW (lessF n) = ((2 ^ n - 1 : Nat) : Int) := by unfold loW; rw [← wdB_full n (by omega)]; rfl
theorem full_hi {n : Nat} (h : n ≤ 64) : hiW (lessF n) = 0 := by
  unfold hiW; rw [wdB_none (f := fun b => lessF n (64 + b)) (fun b _ => decide_eq_false (by omega))]; rfl
theorem set_eq {f g : Nat → Bool} : (loW f = loW g ∧ hiW f = hiW g) ↔ ∀ b, b < 128 → f b = g b := by
  constructor
  · rintro ⟨h1, h2⟩ b hb
    unfold loW at h1
    unfold hiW at h2
    by_cases h : b < 64
    · exact wdB_ext (by omega) b h
    · have := wdB_ext (f := fun b => f (64 + b)) (g := fun b => g (64 + b)) (k := 64) (by omega) (b - 64) (by omega)
      rwa [show 64 + (b - 64) = b by omega] at this
  · intro h
    exact ⟨by unfold loW; rw [wdB_congr (fun b hb => h b (by omega))], by unfold hiW; rw [wdB_congr (g := fun b => g (64 + b)) (fun b hb => h (64 + b) (by omega))]⟩
def permP (x : List Int) (n : Nat) : Prop := x.length = n ∧ ∀ k, k < n → x.count (k : Int) = 1
instance (x : List Int) (n : Nat) : Decidable (permP x n) := by unfold permP; infer_instance
def scn (x : List Int) : Nat → Nat
  | 0 => 0
  | k + 1 => scn x k + x.count (k : Int)
theorem scn_cons (a : Int) (x : List Int) : ∀ n : Nat, scn (a :: x) n = scn x n + if 0 ≤ a ∧ a < n then 1 else 0
  | 0 => by simp [scn]
  | n + 1 => by
    rw [scn, scn, scn_cons a x n, List.count_cons]
    by_cases h : a = (n : Int)
    · subst h
      rw [if_neg (show ¬ (0 ≤ (n : Int) ∧ (n : Int) < (n : Int)) by omega), if_pos (show 0 ≤ (n : Int) ∧ (n : Int) < ((n + 1 : Nat) : Int) by omega)]; simp; omega
    · have : (a == (n : Int)) = false := by simpa using h
      rw [this]
      by_cases g : 0 ≤ a ∧ a < n
      · rw [if_pos g, if_pos (show 0 ≤ a ∧ a < ((n + 1 : Nat) : Int) by omega)]; simp; omega
      · rw [if_neg g, if_neg (show ¬ (0 ≤ a ∧ a < ((n + 1 : Nat) : Int)) by omega)]; simp
theorem scn_le : ∀ (x : List Int) (n : Nat), scn x n ≤ x.length
  | [], n => by
    have : ∀ n, scn [] n = 0 := fun n => by induction n with
      | zero => rfl
      | succ n ih => rw [scn, ih]; rfl
    rw [this]; exact Nat.zero_le _
  | a :: x, n => by rw [scn_cons, List.length_cons]; have := scn_le x n; split <;> omega
theorem scn_ge {x : List Int} : ∀ {n : Nat}, (∀ k, k < n → 1 ≤ x.count (k : Int)) → n ≤ scn x n ∧ ∀ j, j < n → n + (x.count (j : Int) - 1) ≤ scn x n
  | 0, _ => ⟨Nat.le_refl _, fun j h => absurd h (Nat.not_lt_zero _)⟩
  | n + 1, h => by
    obtain ⟨h1, h2⟩ := scn_ge (n := n) (fun k hk => h k (by omega))
    have h3 := h n (by omega)
    rw [scn]
    refine ⟨by omega, fun j hj => ?_⟩
    rcases Nat.lt_succ_iff_lt_or_eq.1 hj with g | g
    · have := h2 j g; omega
    · subst g; omega
theorem scn_mono (x : List Int) {a b : Nat} (h : a ≤ b) : scn x a ≤ scn x b := by
  induction b with
  | zero => obtain rfl : a = 0 := by omega
            exact Nat.le_refl _
  | succ b ih =>
    rcases Nat.lt_or_ge b a with g | g
    · obtain rfl : a = b + 1 := by omega
      exact Nat.le_refl _
    · have := ih g; rw [scn]; omega
theorem perm_set {x : List Int} {n : Nat} (hn : n ≤ 128) : (x.length = n ∧ ∀ b, b < 128 → memF x b = lessF n b) ↔ permP x n := by
  constructor
  · rintro ⟨h1, h2⟩
    have hc : ∀ k, k < n → 1 ≤ x.count (k : Int) := fun k hk => by
      have := h2 k (by omega)
      unfold memF lessF at this
      rw [decide_eq_true hk, decide_eq_true_iff] at this
      exact List.count_pos_iff.2 this
    refine ⟨h1, fun k hk => ?_⟩
    have h3 := (scn_ge hc).2 k hk
    have h4 := scn_le x n
    have h5 := hc k hk
    omega
  · rintro ⟨h1, h2⟩
    refine ⟨h1, fun b hb => ?_⟩
    unfold memF lessF
    refine decide_eq_decide.2 ⟨fun h => ?_, fun h => ?_⟩
    · refine Classical.byContradiction fun g => ?_
      have h3 : n ≤ scn x n := (scn_ge (fun k hk => by rw [h2 k hk]; exact Nat.le_refl _)).1
      have h4 := scn_mono x (show n ≤ b by omega)
      have h5 := scn_le x (b + 1)
      have h6 : 1 ≤ x.count (b : Int) := List.count_pos_iff.2 h
      rw [scn] at h5; omega
    · exact List.count_pos_iff.1 (by rw [h2 b h]; decide)
theorem permP.mem {x : List Int} {n : Nat} (h : permP x n) {k : Int} (hk : k ∈ x) : 0 ≤ k ∧ k < n := by
  refine Classical.byContradiction fun g => ?_
  have h3 : n ≤ scn x n := (scn_ge (fun k hk => by rw [h.2 k hk]; exact Nat.le_refl _)).1
  obtain ⟨l, r, rfl⟩ := List.append_of_mem hk
  have e : ∀ (l : List Int) (m : Nat), scn (l ++ k :: r) m = scn (l ++ r) m + if 0 ≤ k ∧ k < m then 1 else 0 := by
    intro l
    induction l with
    | nil => intro m; exact scn_cons k r m
    | cons a l ih => intro m; rw [List.cons_append, scn_cons, ih, List.cons_append, scn_cons]; omega
  rw [e, if_neg g] at h3
  have h4 := scn_le (l ++ r) n
  have h5 := h.1
  simp only [List.length_append, List.length_cons] at h4 h5
  omega
theorem permP.at_ {x : List Int} {n : Nat} (h : permP x n) {q : Nat} (hq : q < n) : 0 ≤ x.getD q 0 ∧ x.getD q 0 < n := by
  have hl := h.1
  have : x.getD q 0 = x[q]'(by omega) := by simp [List.getD, show q < x.length by omega]
  rw [this]; exact h.mem (List.getElem_mem _)
def sumF (f : Nat → Int) : Nat → Int
  | 0 => 0
  | k + 1 => sumF f k + f k
theorem sumF_congr {f g : Nat → Int} : ∀ {k : Nat}, (∀ q, q < k → f q = g q) → sumF f k = sumF g k
  | 0, _ => rfl
  | k + 1, h => by simp only [sumF]; rw [sumF_congr (k := k) (fun q hq => h q (by omega)), h k (by omega)]
theorem sumF_bd {f : Nat → Int} {B : Int} (hB : 0 ≤ B) : ∀ {k : Nat}, (∀ q, q < k → 0 ≤ f q ∧ f q ≤ B) → 0 ≤ sumF f k ∧ sumF f k ≤ k * B
  | 0, _ => by simp [sumF]
  | k + 1, h => by
    have h1 := sumF_bd (f := f) hB (k := k) (fun q hq => h q (by omega))
    have h2 := h k (by omega)
    have e : (((k + 1 : Nat) : Int)) * B = k * B + B := by push_cast; rw [Int.add_mul, Int.one_mul]
    rw [e]; simp only [sumF]; omega
theorem sumF_list (l : List Int) : sumF (fun q => l.getD q 0) l.length = l.sum := by
  have key : ∀ k, k ≤ l.length → sumF (fun q => l.getD q 0) k = (l.take k).sum := by
    intro k
    induction k with
    | zero => intro _; rfl
    | succ k ih =>
      intro hk
      simp only [sumF]
      rw [ih (by omega), List.take_succ_eq_append_getElem (by omega), List.sum_append]
      simp [List.getD, show k < l.length by omega]
  rw [key _ (Nat.le_refl _), List.take_length]
def cl2 (i : Ins) (r c : Int) : Int := (i.cost.getD r.toNat []).getD c.toNat 0
def stp (i : Ins) (x : List Int) (q : Nat) : Int := if i.kind = 2 then cl2 i q (x.getD q 0) else cl2 i (x.getD q 0) (x.getD ((q + 1) % i.n.toNat) 0)
def wtF (i : Ins) (x : List Int) (q : Nat) : Int := if x.getD q 0 = 1 then i.wt.getD q 0 else 0
def vlF (i : Ins) (x : List Int) (q : Nat) : Int := if x.getD q 0 = 1 then 0 else i.vl.getD q 0
def bitP (x : List Int) (n : Nat) : Prop := ∀ q, q < n → x.getD q 0 = 0 ∨ x.getD q 0 = 1
instance (x : List Int) (n : Nat) : Decidable (bitP x n) := by unfold bitP; infer_instance
def knpI (i : Ins) (x : List Int) : Int × Int := if (x.length : Int) ≠ i.n then (0, 1) else if ¬ bitP x x.length then (0, 1) else if i.cap < sumF (wtF i x) x.length then (0, 9) else (sumF (vlF i x) x.length, 0)
def ordP (i : Ins) (x : List Int) : Prop := permP x i.n.toNat ∧ (i.kind = 3 → x.getD 0 0 = 0)
instance (i : Ins) (x : List Int) : Decidable (ordP i x) := by unfold ordP; infer_instance
end Go.Proofs.Ytnikajkklocncaa
namespace Go.Proofs.Ytnikajkklocncaa
theorem mixed : Try.prog.follows .mixedOrders = true := by kernel_rfl
theorem sz3 : szOf Try.prog 3 = some (false, 1) := by kernel_rfl
theorem info3 : Try.prog.info? 3 = some Try.t3 := by kernel_rfl
theorem sz4 : szOf Try.prog 4 = some (false, 1) := by kernel_rfl
theorem info4 : Try.prog.info? 4 = some Try.t4 := by kernel_rfl
theorem sz22 : szOf Try.prog 22 = some (false, 1) := by kernel_rfl
theorem info22 : Try.prog.info? 22 = some Try.t22 := by kernel_rfl
theorem sl22 : slInfo Try.prog 22 = some (false, 1) := by kernel_rfl
theorem sz23 : szOf Try.prog 23 = some (false, 1) := by kernel_rfl
theorem sl23 : slInfo Try.prog 23 = some (false, 1) := by kernel_rfl
theorem sz25 : szOf Try.prog 25 = some (true, 6) := by kernel_rfl
theorem info25 : Try.prog.info? 25 = some Try.t25 := by kernel_rfl
theorem fi25_0 : fieldInfo Try.prog 25 0 = some (0, false, 1) := by kernel_rfl
theorem fi25_1 : fieldInfo Try.prog 25 1 = some (1, false, 1) := by kernel_rfl
theorem fi25_2 : fieldInfo Try.prog 25 2 = some (2, false, 1) := by kernel_rfl
theorem fi25_3 : fieldInfo Try.prog 25 3 = some (3, false, 1) := by kernel_rfl
theorem fi25_4 : fieldInfo Try.prog 25 4 = some (4, false, 1) := by kernel_rfl
theorem fi25_5 : fieldInfo Try.prog 25 5 = some (5, false, 1) := by kernel_rfl
theorem sz45 : szOf Try.prog 45 = some (false, 1) := by kernel_rfl
theorem info45 : Try.prog.info? 45 = some Try.t45 := by kernel_rfl
theorem sz63 : szOf Try.prog 63 = some (true, 2) := by kernel_rfl
theorem info63 : Try.prog.info? 63 = some Try.t63 := by kernel_rfl
theorem ar63 : arInfo Try.prog 63 = some (2, false, 1) := by kernel_rfl
theorem sl68 : slInfo Try.prog 68 = some (false, 1) := by kernel_rfl
end Go.Proofs.Ytnikajkklocncaa
namespace Go.Proofs.Ytnikajkklocncaa
open Go.RowKit
theorem takeR_succ (R : List (List Int)) (k : Nat) (h : k < R.length) : R.take (k + 1) = R.take k ++ [R.getD k []] := by
  rw [List.take_succ_eq_append_getElem h, List.getD_eq_getElem?_getD, List.getElem?_eq_getElem h]; rfl
end Go.Proofs.Ytnikajkklocncaa
namespace Go.Proofs.Ytnikajkklocncaa
open Go.RowKit
theorem Mem.ownOrC {w0 w : World} {F : Nat → Prop} {L : List Ck} {e : TypeId} {X : List Int} {a : Option Addr} {c : Nat} (h : Mem w0 F (own e 1 (.slice a X.length c) X.length (X.map (Value.int .i64)) :: L) w) : Mem w0 F (orC e ⟨X, a, c⟩ :: L) w := h
theorem orV_snoc' (rs : List OwR) (o : OwR) : rs.map orV ++ [orV o] = (rs ++ [o]).map orV := by simp
theorem len_snoc' (rs : List OwR) (o : OwR) : rs.length + 1 = (rs ++ [o]).length := by simp
theorem itF_z {i : Ins} {k : Nat} (h : numE (i.wt.getD k 0) = 0) : itF i k = numE (i.vl.getD k 0) := if_neg (by rw [h]; simp)
theorem itF_e {i : Ins} {k : Nat} (h : ¬ numE (i.wt.getD k 0) = 0) : itF i k = numE (i.wt.getD k 0) := if_pos h
theorem cellF_e {i : Ins} {r c : Nat} (h : numE ((i.cost.getD r []).getD c 0) ≠ 0) : cellF i r c = numE ((i.cost.getD r []).getD c 0) := if_pos h
theorem cellF_f {i : Ins} {r c : Nat} (h : ¬ numE ((i.cost.getD r []).getD c 0) ≠ 0) (h2 : (i.kind = 3 ∧ (r : Int) = c) ∧ (i.cost.getD r []).getD c 0 ≠ 0) : cellF i r c = 8 := by
  unfold cellF; rw [if_neg h, if_pos ⟨⟨h2.1.1, by omega⟩, h2.2⟩]
theorem cellF_z {i : Ins} {r c : Nat} (h : ¬ numE ((i.cost.getD r []).getD c 0) ≠ 0) (h2 : ¬ ((i.kind = 3 ∧ (r : Int) = c) ∧ (i.cost.getD r []).getD c 0 ≠ 0)) : cellF i r c = 0 := by
  unfold cellF; rw [if_neg h, if_neg (fun g => h2 ⟨⟨g.1.1, by omega⟩, g.2⟩)]
set_option maxRecDepth 100000 in
set_option maxHeartbeats 400000 in
theorem num05 (n : Int) (w : World) :
  Calls Try.prog 69 #[.int .i64 n] w fun e w' => e = .returned (.int .i64 (numE n)) ∧ Below w.heap.size w w' := by
 have hbs := Below.refl (B := w.heap.size) w
 have hM := Mem.start w
 refine Calls.of_ends (vs := [.int .i64 n]) Try.func69 rfl Try.ntmps69 rfl ?_
 intro a hA
 replace hA : St 9 [(0, _)] a := hA
 refine Ends.seq (Ends.region ?_)
 refine S.val hA (R.assign rfl) rfl ?_; clear hA a; intro a hA
 refine S.done ?_
 refine Ends.seq (Ends.block (Ends.seq (Ends.region ?_)))
 refine S.val hA (R.move rfl) rfl ?_; clear hA a; intro a hA
 refine S.val hA (R.lss rfl rfl) rfl ?_; clear hA a; intro a hA
 refine S.val hA (R.assign rfl) rfl ?_; clear hA a; intro a hA
 refine S.done ?_
 refine Ends.ite hA rfl (fun hc1 => ?_) (fun hc1 => ?_)
 ·
  refine Ends.seq (Ends.region ?_)
  refine S.val hA (R.assign rfl) rfl ?_; clear hA a; intro a hA
  refine S.done ?_
  replace hA : St 9 [(2, _)] a := hA.sub ((.cons rfl .nil))
  refine Ends.ret1 Try.func69 Try.results69 hA rfl ?_
  have he : numE n = 1 := by unfold numE; (repeat' split) <;> omega
  exact ⟨by rw [he], Mem.trans0 hbs hM.nilL⟩
 ·
  refine Ends.seq (Ends.region ?_)
  refine S.val hA (R.move rfl) rfl ?_; clear hA a; intro a hA
  refine S.val hA (R.gtr rfl rfl) rfl ?_; clear hA a; intro a hA
  refine S.val hA (R.assign rfl) rfl ?_; clear hA a; intro a hA
  refine S.done ?_
  replace hA : St 9 [(6, _)] a := hA.sub ((.cons rfl .nil))
  refine Ends.ite hA rfl (fun hc2 => ?_) (fun hc2 => ?_)
  ·
   refine Ends.seq (Ends.region ?_)
   refine S.val hA (R.assign rfl) rfl ?_; clear hA a; intro a hA
   refine S.done ?_
   refine Ends.ret1 Try.func69 Try.results69 hA rfl ?_
   have he : numE n = 5 := by unfold numE; (repeat' split) <;> omega
   exact ⟨by rw [he], Mem.trans0 hbs hM.nilL⟩
  ·
   refine Ends.skip (Ends.inBlock (Ends.seq (Ends.region ?_)))
   refine S.val hA (R.assign rfl) rfl ?_; clear hA a; intro a hA
   refine S.done ?_
   refine Ends.ret1 Try.func69 Try.results69 hA rfl ?_
   have he : numE n = 0 := by unfold numE; (repeat' split) <;> omega
   exact ⟨by rw [he], Mem.trans0 hbs hM.nilL⟩
set_option maxRecDepth 100000 in
set_option maxHeartbeats 400000 in
theorem size05 (i : Ins) (ax3 : Option Addr) (cx3 : Nat) (ax4 : Option Addr) (cx4 : Nat) (ax5 : Option Addr) (cx5 : Nat) (w : World) (hx3 : IntSl w (.slice ax3 i.wt.length cx3) i.wt) (hx4 : IntSl w (.slice ax4 i.vl.length cx4) i.vl) (hx5 : RowsV w (.slice ax5 i.cost.length cx5) i.cost) :
  Calls Try.prog 53 #[.agg #[.int .i64 i.kind, .int .i64 i.n, .int .i64 i.cap, .slice ax3 i.wt.length cx3, .slice ax4 i.vl.length cx4, .slice ax5 i.cost.length cx5]] w fun e w' => e = .returned (.int .i64 (sizeE i)) ∧ Below w.heap.size w w' := by
 have hbs := Below.refl (B := w.heap.size) w
 have hM := Mem.start w
 refine Calls.of_ends (vs := [.agg #[.int .i64 i.kind, .int .i64 i.n, .int .i64 i.cap, .slice ax3 i.wt.length cx3, .slice ax4 i.vl.length cx4, .slice ax5 i.cost.length cx5]]) Try.func53 rfl Try.ntmps53 rfl ?_
 intro a hA
 replace hA : St 20 [(0, _)] a := hA
 refine Ends.seq (Ends.region ?_)
 refine S.box hA hM rfl rfl ?_; clear hA hM a; intro b1 w1 hb2 hM a hA
 replace hM : Mem _ _ [pt b1 #[.int .i64 i.kind, .int .i64 i.n, .int .i64 i.cap, .slice ax3 i.wt.length cx3, .slice ax4 i.vl.length cx4, .slice ax5 i.cost.length cx5] 25] _ := hM
 refine S.val hA (R.assign rfl) rfl ?_; clear hA a; intro a hA
 refine S.done ?_
 refine Ends.seq (Ends.region ?_)
 refine S.val hA (R.assign rfl) rfl ?_; clear hA a; intro a hA
 refine S.done ?_
 refine Ends.seq (Ends.seq (Ends.region ?_))
 refine S.val hA (R.fieldAddr (q := 0) fi25_0 rfl rfl rfl) rfl ?_; clear hA a; intro a hA
 refine S.val hA (R.load sz3 rfl (hM.cell (k := 0) rfl rfl)) rfl ?_; clear hA a; intro a hA
 refine S.done ?_
 refine Ends.block (Ends.seq (Ends.region ?_))
 refine S.val hA (R.eql rfl rfl) rfl ?_; clear hA a; intro a hA
 refine S.val hA (R.assign rfl) rfl ?_; clear hA a; intro a hA
 refine S.done ?_
 replace hA : St 20 [(1, _), (3, _), (5, _), (6, _)] a := hA.sub ((.cons rfl (.cons rfl (.cons rfl (.cons rfl .nil)))))
 refine Ends.ite hA rfl (fun hc3 => ?_) (fun hc3 => ?_)
 ·
  refine Ends.region ?_
  refine S.val hA (R.assign rfl) rfl ?_; clear hA a; intro a hA
  refine S.done ?_
  refine Ends.inBlock (Ends.seq (Ends.block (Ends.seq (Ends.region ?_))))
  refine S.val hA (R.fieldAddr (q := 1) fi25_1 rfl rfl rfl) rfl ?_; clear hA a; intro a hA
  refine S.val hA (R.load sz3 rfl (hM.cell (k := 0) rfl rfl)) rfl ?_; clear hA a; intro a hA
  refine S.val hA (R.lss rfl rfl) rfl ?_; clear hA a; intro a hA
  refine S.val hA (R.assign rfl) rfl ?_; clear hA a; intro a hA
  refine S.done ?_
  replace hA : St 20 [(1, _), (3, _), (11, _)] a := hA.sub ((.cons rfl (.cons rfl (.cons rfl .nil))))
  refine Ends.ite hA rfl (fun hc4 => ?_) (fun hc4 => ?_)
  ·
   refine Ends.seq (Ends.region ?_)
   refine S.val hA (R.assign rfl) rfl ?_; clear hA a; intro a hA
   refine S.done ?_
   refine Ends.ret1 Try.func53 Try.results53 hA rfl ?_
   have he : sizeE i = 1 := by unfold sizeE; (repeat' split) <;> omega
   exact ⟨by rw [he], Mem.trans0 hbs hM.nilL⟩
  ·
   refine Ends.seq (Ends.region ?_)
   refine S.val hA (R.fieldAddr (q := 1) fi25_1 rfl rfl rfl) rfl ?_; clear hA a; intro a hA
   refine S.val hA (R.load sz3 rfl (hM.cell (k := 0) rfl rfl)) rfl ?_; clear hA a; intro a hA
   refine S.val hA (R.move rfl) rfl ?_; clear hA a; intro a hA
   refine S.val hA (R.gtr rfl rfl) rfl ?_; clear hA a; intro a hA
   refine S.val hA (R.assign rfl) rfl ?_; clear hA a; intro a hA
   refine S.done ?_
   replace hA : St 20 [(15, _)] a := hA.sub ((.cons rfl .nil))
   refine Ends.ite hA rfl (fun hc5 => ?_) (fun hc5 => ?_)
   ·
    refine Ends.seq (Ends.region ?_)
    refine S.val hA (R.assign rfl) rfl ?_; clear hA a; intro a hA
    refine S.done ?_
    refine Ends.ret1 Try.func53 Try.results53 hA rfl ?_
    have he : sizeE i = 5 := by unfold sizeE; (repeat' split) <;> omega
    exact ⟨by rw [he], Mem.trans0 hbs hM.nilL⟩
   ·
    refine Ends.skip (Ends.inBlock (Ends.seq (Ends.region ?_)))
    refine S.val hA (R.assign rfl) rfl ?_; clear hA a; intro a hA
    refine S.done ?_
    refine Ends.ret1 Try.func53 Try.results53 hA rfl ?_
    have he : sizeE i = 0 := by unfold sizeE; (repeat' split) <;> omega
    exact ⟨by rw [he], Mem.trans0 hbs hM.nilL⟩
 ·
  refine Ends.seq (Ends.seq (Ends.region ?_))
  refine S.val hA (R.eql rfl rfl) rfl ?_; clear hA a; intro a hA
  refine S.val hA (R.assign rfl) rfl ?_; clear hA a; intro a hA
  refine S.done ?_
  refine Ends.ite hA rfl (fun hc6 => ?_) (fun hc6 => ?_)
  ·
   refine Ends.skip ?_
   refine Ends.ite hA rfl (fun hc7 => ?_) (fun hc7 => ?_)
   ·
    refine Ends.skip (Ends.inBlock (Ends.seq (Ends.block (Ends.seq (Ends.region ?_)))))
    refine S.val hA (R.fieldAddr (q := 1) fi25_1 rfl rfl rfl) rfl ?_; clear hA a; intro a hA
    refine S.val hA (R.load sz3 rfl (hM.cell (k := 0) rfl rfl)) rfl ?_; clear hA a; intro a hA
    refine S.val hA (R.lss rfl rfl) rfl ?_; clear hA a; intro a hA
    refine S.val hA (R.assign rfl) rfl ?_; clear hA a; intro a hA
    refine S.done ?_
    replace hA : St 20 [(1, _), (3, _), (11, _)] a := hA.sub ((.cons rfl (.cons rfl (.cons rfl .nil))))
    refine Ends.ite hA rfl (fun hc8 => ?_) (fun hc8 => ?_)
    ·
     refine Ends.seq (Ends.region ?_)
     refine S.val hA (R.assign rfl) rfl ?_; clear hA a; intro a hA
     refine S.done ?_
     refine Ends.ret1 Try.func53 Try.results53 hA rfl ?_
     have he : sizeE i = 1 := by unfold sizeE; (repeat' split) <;> omega
     exact ⟨by rw [he], Mem.trans0 hbs hM.nilL⟩
    ·
     refine Ends.seq (Ends.region ?_)
     refine S.val hA (R.fieldAddr (q := 1) fi25_1 rfl rfl rfl) rfl ?_; clear hA a; intro a hA
     refine S.val hA (R.load sz3 rfl (hM.cell (k := 0) rfl rfl)) rfl ?_; clear hA a; intro a hA
     refine S.val hA (R.move rfl) rfl ?_; clear hA a; intro a hA
     refine S.val hA (R.gtr rfl rfl) rfl ?_; clear hA a; intro a hA
     refine S.val hA (R.assign rfl) rfl ?_; clear hA a; intro a hA
     refine S.done ?_
     replace hA : St 20 [(15, _)] a := hA.sub ((.cons rfl .nil))
     refine Ends.ite hA rfl (fun hc9 => ?_) (fun hc9 => ?_)
     ·
      refine Ends.seq (Ends.region ?_)
      refine S.val hA (R.assign rfl) rfl ?_; clear hA a; intro a hA
      refine S.done ?_
      refine Ends.ret1 Try.func53 Try.results53 hA rfl ?_
      have he : sizeE i = 5 := by unfold sizeE; (repeat' split) <;> omega
      exact ⟨by rw [he], Mem.trans0 hbs hM.nilL⟩
     ·
      refine Ends.skip (Ends.inBlock (Ends.seq (Ends.region ?_)))
      refine S.val hA (R.assign rfl) rfl ?_; clear hA a; intro a hA
      refine S.done ?_
      refine Ends.ret1 Try.func53 Try.results53 hA rfl ?_
      have he : sizeE i = 0 := by unfold sizeE; (repeat' split) <;> omega
      exact ⟨by rw [he], Mem.trans0 hbs hM.nilL⟩
   ·
    refine Ends.seq (Ends.region ?_)
    refine S.val hA (R.assign rfl) rfl ?_; clear hA a; intro a hA
    refine S.done ?_
    replace hA : St 20 [(1, _), (2, _), (3, _)] a := hA.sub ((.cons rfl (.cons rfl (.cons rfl .nil))))
    refine Ends.ret1 Try.func53 Try.results53 hA rfl ?_
    have he : sizeE i = 14 := by unfold sizeE; (repeat' split) <;> omega
    exact ⟨by rw [he], Mem.trans0 hbs hM.nilL⟩
  ·
   refine Ends.region ?_
   refine S.val hA (R.eql rfl rfl) rfl ?_; clear hA a; intro a hA
   refine S.val hA (R.assign rfl) rfl ?_; clear hA a; intro a hA
   refine S.done ?_
   replace hA : St 20 [(1, _), (3, _), (8, _)] a := hA.sub ((.cons rfl (.cons rfl (.cons rfl .nil))))
   refine Ends.ite hA rfl (fun hc10 => ?_) (fun hc10 => ?_)
   ·
    refine Ends.skip (Ends.inBlock (Ends.seq (Ends.block (Ends.seq (Ends.region ?_)))))
    refine S.val hA (R.fieldAddr (q := 1) fi25_1 rfl rfl rfl) rfl ?_; clear hA a; intro a hA
    refine S.val hA (R.load sz3 rfl (hM.cell (k := 0) rfl rfl)) rfl ?_; clear hA a; intro a hA
    refine S.val hA (R.lss rfl rfl) rfl ?_; clear hA a; intro a hA
    refine S.val hA (R.assign rfl) rfl ?_; clear hA a; intro a hA
    refine S.done ?_
    replace hA : St 20 [(1, _), (3, _), (11, _)] a := hA.sub ((.cons rfl (.cons rfl (.cons rfl .nil))))
    refine Ends.ite hA rfl (fun hc11 => ?_) (fun hc11 => ?_)
    ·
     refine Ends.seq (Ends.region ?_)
     refine S.val hA (R.assign rfl) rfl ?_; clear hA a; intro a hA
     refine S.done ?_
     refine Ends.ret1 Try.func53 Try.results53 hA rfl ?_
     have he : sizeE i = 1 := by unfold sizeE; (repeat' split) <;> omega
     exact ⟨by rw [he], Mem.trans0 hbs hM.nilL⟩
    ·
     refine Ends.seq (Ends.region ?_)
     refine S.val hA (R.fieldAddr (q := 1) fi25_1 rfl rfl rfl) rfl ?_; clear hA a; intro a hA
     refine S.val hA (R.load sz3 rfl (hM.cell (k := 0) rfl rfl)) rfl ?_; clear hA a; intro a hA
     refine S.val hA (R.move rfl) rfl ?_; clear hA a; intro a hA
     refine S.val hA (R.gtr rfl rfl) rfl ?_; clear hA a; intro a hA
     refine S.val hA (R.assign rfl) rfl ?_; clear hA a; intro a hA
     refine S.done ?_
     replace hA : St 20 [(15, _)] a := hA.sub ((.cons rfl .nil))
     refine Ends.ite hA rfl (fun hc12 => ?_) (fun hc12 => ?_)
     ·
      refine Ends.seq (Ends.region ?_)
      refine S.val hA (R.assign rfl) rfl ?_; clear hA a; intro a hA
      refine S.done ?_
      refine Ends.ret1 Try.func53 Try.results53 hA rfl ?_
      have he : sizeE i = 5 := by unfold sizeE; (repeat' split) <;> omega
      exact ⟨by rw [he], Mem.trans0 hbs hM.nilL⟩
     ·
      refine Ends.skip (Ends.inBlock (Ends.seq (Ends.region ?_)))
      refine S.val hA (R.assign rfl) rfl ?_; clear hA a; intro a hA
      refine S.done ?_
      refine Ends.ret1 Try.func53 Try.results53 hA rfl ?_
      have he : sizeE i = 0 := by unfold sizeE; (repeat' split) <;> omega
      exact ⟨by rw [he], Mem.trans0 hbs hM.nilL⟩
   ·
    refine Ends.seq (Ends.region ?_)
    refine S.val hA (R.assign rfl) rfl ?_; clear hA a; intro a hA
    refine S.done ?_
    refine Ends.ret1 Try.func53 Try.results53 hA rfl ?_
    have he : sizeE i = 14 := by unfold sizeE; (repeat' split) <;> omega
    exact ⟨by rw [he], Mem.trans0 hbs hM.nilL⟩
set_option maxRecDepth 100000 in
set_option maxHeartbeats 400000 in
theorem shape1 (bx : Nat) (ar : Option Addr) (Rw : List Int) (cr : Nat) (i : Ins) (ax3 : Option Addr) (cx3 : Nat) (ax4 : Option Addr) (cx4 : Nat) (ax5 : Option Addr) (cx5 : Nat) (w : World) (hr : IntSl w (.slice ar Rw.length cr) Rw) (hqbx : w.heap[bx]? = some (.cells #[.int .i64 i.kind, .int .i64 i.n, .int .i64 i.cap, .slice ax3 i.wt.length cx3, .slice ax4 i.vl.length cx4, .slice ax5 i.cost.length cx5] 25 (0, 0))) (hx3 : IntSl w (.slice ax3 i.wt.length cx3) i.wt) (hx4 : IntSl w (.slice ax4 i.vl.length cx4) i.vl) (hx5 : RowsV w (.slice ax5 i.cost.length cx5) i.cost) :
    Calls Try.prog 68 #[.slice ar Rw.length cr, .pointer (some ⟨bx, 0, none⟩)] w fun e w' => e = .returned (.bool (decide ((Rw.length : Int) ≠ i.n))) ∧ Below w.heap.size w w' := by
  have hbs := Below.refl (B := w.heap.size) w
  have hM := Mem.start w
  refine Calls.of_ends (vs := [.slice ar Rw.length cr, .pointer (some ⟨bx, 0, none⟩)]) Try.func68 rfl Try.ntmps68 rfl ?_
  intro a hA
  replace hA : St 9 [(0, _), (1, _)] a := hA
  refine Ends.seq (Ends.region ?_)
  refine S.val hA (R.assign rfl) rfl ?_; clear hA a; intro a hA
  refine S.done ?_
  refine Ends.seq (Ends.region ?_)
  refine S.val hA (R.move rfl) rfl ?_; clear hA a; intro a hA
  refine S.val hA (R.lenS Try.underlying22 rfl rfl) rfl ?_; clear hA a; intro a hA
  refine S.val hA (R.fieldAddr (q := 1) fi25_1 rfl rfl rfl) rfl ?_; clear hA a; intro a hA
  refine S.val hA (R.load sz3 rfl (hM.cellB hqbx rfl)) rfl ?_; clear hA a; intro a hA
  refine S.val hA (R.neq rfl rfl) rfl ?_; clear hA a; intro a hA
  refine S.val hA (R.assign rfl) rfl ?_; clear hA a; intro a hA
  refine S.done ?_
  replace hA : St 9 [(3, _)] a := hA.sub ((.cons rfl .nil))
  refine Ends.ret1 Try.func68 Try.results68 hA rfl ?_
  exact ⟨rfl, Mem.trans0 hbs hM.nilL⟩
set_option maxRecDepth 100000 in
set_option maxHeartbeats 400000 in
theorem indexR (bx : Nat) (i : Ins) (ax3 : Option Addr) (cx3 : Nat) (ax4 : Option Addr) (cx4 : Nat) (ax5 : Option Addr) (cx5 : Nat) (w : World) (hqbx : w.heap[bx]? = some (.cells #[.int .i64 i.kind, .int .i64 i.n, .int .i64 i.cap, .slice ax3 i.wt.length cx3, .slice ax4 i.vl.length cx4, .slice ax5 i.cost.length cx5] 25 (0, 0))) (hx3 : IntSl w (.slice ax3 i.wt.length cx3) i.wt) (hx4 : IntSl w (.slice ax4 i.vl.length cx4) i.vl) (hx5 : RowsV w (.slice ax5 i.cost.length cx5) i.cost) :
  Calls Try.prog 74 #[.slice ax5 i.cost.length cx5, .func (.func 68) #[] #[.pointer (some ⟨bx, 0, none⟩)]] w fun e w' => ∃ r : Int, e = .returned (.int .i64 r) ∧ (0 ≤ r ↔ ¬ ∀ r, r < i.cost.length → ((i.cost.getD r []).length : Int) = i.n) ∧ Below w.heap.size w w' := by
 have hbs := Below.refl (B := w.heap.size) w
 have hl5 := hx5.lenB
 have hM := Mem.start w
 refine Calls.of_ends (vs := [.slice ax5 i.cost.length cx5, .func (.func 68) #[] #[.pointer (some ⟨bx, 0, none⟩)]]) Try.func74 rfl Try.ntmps74 rfl ?_
 intro a hA
 replace hA : St 19 [(0, _), (1, _)] a := hA
 refine Ends.seq (Ends.region ?_)
 refine S.val hA (R.assign rfl) rfl ?_; clear hA a; intro a hA
 refine S.done ?_
 refine Ends.seq (Ends.seq (Ends.region ?_))
 refine S.val hA (R.move rfl) rfl ?_; clear hA a; intro a hA
 refine S.val hA (R.lenS Try.underlying23 rfl rfl) rfl ?_; clear hA a; intro a hA
 refine S.val hA (R.move rfl) rfl ?_; clear hA a; intro a hA
 refine S.done ?_
 refine Ends.block ?_
 refine Ends.loop (σ := Nat) (fun k (a : Act) (wv : World) => St 19 [(0, .slice ax5 i.cost.length cx5), (1, .func (.func 68) #[] #[.pointer (some ⟨bx, 0, none⟩)]), (7, .int .i64 ((i.cost.length : Int))), (8, .int .i64 ((k : Int)))] a ∧ Mem w nof [] wv ∧ (k ≤ i.cost.length) ∧ (∀ r, r < k → ((i.cost.getD r []).length : Int) = i.n)) (fun k => i.cost.length - k) 0 ⟨hA.sub ((.cons rfl (.cons rfl (.cons rfl (.cons rfl .nil))))), hM, (Nat.zero_le _), (fun j hj => absurd hj (Nat.not_lt_zero _))⟩ ?_
 clear hA hM a
 rintro k a w1 ⟨hA, hM, hk, hk2⟩ hNext
 refine Ends.seq (Ends.region ?_)
 refine S.val hA (R.lss rfl rfl) rfl ?_; clear hA a; intro a hA
 refine S.done ?_
 refine Ends.seq ?_
 refine Ends.ite hA rfl (fun hc1 => ?_) (fun hc1 => ?_)
 ·
  refine Ends.skip (Ends.seq (Ends.block (Ends.seq (Ends.region ?_))))
  refine S.val hA (R.move rfl) rfl ?_; clear hA a; intro a hA
  refine S.val hA (R.assign rfl) rfl ?_; clear hA a; intro a hA
  refine S.done ?_
  refine Ends.seq (Ends.region ?_)
  refine S.val hA (R.move rfl) rfl ?_; clear hA a; intro a hA
  refine S.val hA (R.move rfl) rfl ?_; clear hA a; intro a hA
  refine S.val hA (R.move rfl) rfl ?_; clear hA a; intro a hA
  refine S.val hA (R.idxR hx5 (j := k) sl23 rfl rfl (by omega) (rfl)) rfl ?_; clear hA a; intro a hA
  obtain ⟨ra2, rc3, hrow4, hld5⟩ := hx5.atP (i := k) (by omega)
  refine S.val hA (hld5 _ _ _ _ _ _ hM sz22 rfl) rfl ?_; clear hA a; intro a hA
  refine S.call hA (R.callV Try.func68 (by kernel_rfl) rfl rfl rfl) rfl (shape1 bx ra2 ((i.cost.getD k [])) rc3 i ax3 cx3 ax4 cx4 ax5 cx5 _ (hrow4.mem hM) (hM.keepB hqbx) (hx3.mem hM) (hx4.mem hM) (hx5.mem hM)) ?_; clear hA a
  rintro e w2 ⟨rfl, hb⟩
  replace hM := hM.callB hb; clear hb
  refine ⟨.bool (decide (((((i.cost.getD k [])).length : Nat) : Int) ≠ i.n)), rfl, fun a hA => ?_⟩
  refine S.done ?_
  replace hA : St 19 [(0, _), (1, _), (5, _), (7, _), (8, _), (16, _)] a := hA.sub ((.cons rfl (.cons rfl (.cons rfl (.cons rfl (.cons rfl (.cons rfl .nil)))))))
  refine Ends.ite hA rfl (fun hc6 => ?_) (fun hc6 => ?_)
  ·
   refine Ends.seq (Ends.region ?_)
   refine S.val hA (R.move rfl) rfl ?_; clear hA a; intro a hA
   refine S.val hA (R.assign rfl) rfl ?_; clear hA a; intro a hA
   refine S.done ?_
   refine Ends.ret1 Try.func74 Try.results74 hA rfl ?_
   exact ⟨(k : Int), rfl, ⟨fun _ h => hc6 (h k (by omega)), fun _ => by omega⟩, Mem.trans0 hbs hM.nilL⟩
  ·
   refine Ends.skip (Ends.inBlock (Ends.region ?_))
   refine S.val hA (R.addI rfl rfl (r := ((k : Int)) + 1) rfl (by omega)) rfl ?_; clear hA a; intro a hA
   refine S.val hA (R.move rfl) rfl ?_; clear hA a; intro a hA
   refine S.done ?_
   exact hNext ((k + 1)) _ _ ((by show i.cost.length - (k + 1) < i.cost.length - k; omega)) ⟨hA.sub ((.cons rfl (.cons rfl (.cons rfl (.cons rfl .nil))))), hM, (by omega), (fun j hj => (Nat.lt_or_ge j k).elim (fun g => hk2 j g) (fun g => by have e : j = k := (by omega); rw [e]; exact Decidable.not_not.1 hc6))⟩
 ·
  refine Ends.exit rfl ?_
  replace hA : St 19 [] a := hA.sub (.nil)
  refine Ends.seq (Ends.region ?_)
  refine S.val hA (R.assign rfl) rfl ?_; clear hA a; intro a hA
  refine S.done ?_
  refine Ends.ret1 Try.func74 Try.results74 hA rfl ?_
  have hkl : k = i.cost.length := by omega
  exact ⟨-1, rfl, ⟨fun h => by omega, fun h => absurd (fun r hr => hk2 r (by omega)) h⟩, Mem.trans0 hbs hM.nilL⟩
set_option maxRecDepth 100000 in
set_option maxHeartbeats 400000 in
theorem containsR (bx : Nat) (i : Ins) (ax3 : Option Addr) (cx3 : Nat) (ax4 : Option Addr) (cx4 : Nat) (ax5 : Option Addr) (cx5 : Nat) (w : World) (hqbx : w.heap[bx]? = some (.cells #[.int .i64 i.kind, .int .i64 i.n, .int .i64 i.cap, .slice ax3 i.wt.length cx3, .slice ax4 i.vl.length cx4, .slice ax5 i.cost.length cx5] 25 (0, 0))) (hx3 : IntSl w (.slice ax3 i.wt.length cx3) i.wt) (hx4 : IntSl w (.slice ax4 i.vl.length cx4) i.vl) (hx5 : RowsV w (.slice ax5 i.cost.length cx5) i.cost) :
    Calls Try.prog 67 #[.slice ax5 i.cost.length cx5, .func (.func 68) #[] #[.pointer (some ⟨bx, 0, none⟩)]] w fun e w' => ∃ b, e = .returned (.bool b) ∧ (b = true ↔ ¬ ∀ r, r < i.cost.length → ((i.cost.getD r []).length : Int) = i.n) ∧ Below w.heap.size w w' := by
  have hbs := Below.refl (B := w.heap.size) w
  have hM := Mem.start w
  refine Calls.of_ends (vs := [.slice ax5 i.cost.length cx5, .func (.func 68) #[] #[.pointer (some ⟨bx, 0, none⟩)]]) Try.func67 rfl Try.ntmps67 rfl ?_
  intro a hA
  replace hA : St 9 [(0, _), (1, _)] a := hA
  refine Ends.seq (Ends.region ?_)
  refine S.val hA (R.assign rfl) rfl ?_; clear hA a; intro a hA
  refine S.done ?_
  refine Ends.seq (Ends.region ?_)
  refine S.val hA (R.move rfl) rfl ?_; clear hA a; intro a hA
  refine S.val hA (R.move rfl) rfl ?_; clear hA a; intro a hA
  refine S.call hA (R.callF Try.func74 rfl rfl rfl) rfl (indexR bx i ax3 cx3 ax4 cx4 ax5 cx5 _ (hM.keepB hqbx) (hx3.mem hM) (hx4.mem hM) (hx5.mem hM)) ?_; clear hA a
  rintro e w1 ⟨ri1, rfl, hri2, hb⟩
  replace hM := hM.callB hb; clear hb
  refine ⟨.int .i64 ri1, rfl, fun a hA => ?_⟩
  refine S.val hA (R.geq rfl rfl) rfl ?_; clear hA a; intro a hA
  refine S.val hA (R.assign rfl) rfl ?_; clear hA a; intro a hA
  refine S.done ?_
  replace hA : St 9 [(4, _)] a := hA.sub ((.cons rfl .nil))
  refine Ends.ret1 Try.func67 Try.results67 hA rfl ?_
  exact ⟨_, rfl, by rw [decide_eq_true_iff]; exact hri2, Mem.trans0 hbs hM.nilL⟩
set_option maxRecDepth 100000 in
set_option maxHeartbeats 400000 in
theorem shape05 (i : Ins) (ax3 : Option Addr) (cx3 : Nat) (ax4 : Option Addr) (cx4 : Nat) (ax5 : Option Addr) (cx5 : Nat) (hsm : i.wt.length ≤ 1000000 ∧ i.vl.length ≤ 1000000) (w : World) (hx3 : IntSl w (.slice ax3 i.wt.length cx3) i.wt) (hx4 : IntSl w (.slice ax4 i.vl.length cx4) i.vl) (hx5 : RowsV w (.slice ax5 i.cost.length cx5) i.cost) :
  Calls Try.prog 54 #[.agg #[.int .i64 i.kind, .int .i64 i.n, .int .i64 i.cap, .slice ax3 i.wt.length cx3, .slice ax4 i.vl.length cx4, .slice ax5 i.cost.length cx5]] w fun e w' => ∃ b, e = .returned (.bool b) ∧ (b = true ↔ shapeOK i) ∧ Below w.heap.size w w' := by
 have hbs := Below.refl (B := w.heap.size) w
 have hl3 := hx3.lenB
 have hl4 := hx4.lenB
 have hl5 := hx5.lenB
 have hM := Mem.start w
 refine Calls.of_ends (vs := [.agg #[.int .i64 i.kind, .int .i64 i.n, .int .i64 i.cap, .slice ax3 i.wt.length cx3, .slice ax4 i.vl.length cx4, .slice ax5 i.cost.length cx5]]) Try.func54 rfl Try.ntmps54 rfl ?_
 intro a hA
 replace hA : St 52 [(0, _)] a := hA
 refine Ends.seq (Ends.region ?_)
 refine S.box hA hM rfl rfl ?_; clear hA hM a; intro b1 w1 hb2 hM a hA
 replace hM : Mem _ _ [pt b1 #[.int .i64 i.kind, .int .i64 i.n, .int .i64 i.cap, .slice ax3 i.wt.length cx3, .slice ax4 i.vl.length cx4, .slice ax5 i.cost.length cx5] 25] _ := hM
 refine S.val hA (R.assign rfl) rfl ?_; clear hA a; intro a hA
 refine S.done ?_
 refine Ends.seq (Ends.seq (Ends.region ?_))
 refine S.val hA (R.fieldAddr (q := 0) fi25_0 rfl rfl rfl) rfl ?_; clear hA a; intro a hA
 refine S.val hA (R.load sz3 rfl (hM.cell (k := 0) rfl rfl)) rfl ?_; clear hA a; intro a hA
 refine S.val hA (R.eql rfl rfl) rfl ?_; clear hA a; intro a hA
 refine S.done ?_
 replace hA : St 52 [(1, _), (5, _)] a := hA.sub ((.cons rfl (.cons rfl .nil)))
 refine Ends.ite hA rfl (fun hc3 => ?_) (fun hc3 => ?_)
 ·
  refine Ends.seq ?_
  refine Ends.cut (fun (a : Act) (wv : World) => St 52 [(1, .pointer (some ⟨b1, 0, none⟩)), (2, .bool (decide (((((i.wt.length : Int)) = i.n ∧ ((i.vl.length : Int)) = i.n) ∧ ((i.cost.length : Int)) = 0))))] a ∧ Mem w nof [pt b1 #[.int .i64 i.kind, .int .i64 i.n, .int .i64 i.cap, .slice ax3 i.wt.length cx3, .slice ax4 i.vl.length cx4, .slice ax5 i.cost.length cx5] 25] wv) ?_ (fun k2 hJ => ?_)
  ·
   clear hA hM a; rintro a w2 ⟨hA, hM⟩
   refine Ends.ret1 Try.func54 Try.results54 hA rfl ?_
   exact ⟨_, rfl, by rw [decide_eq_true_iff]; unfold shapeOK; omega, Mem.trans0 hbs hM.nilL⟩
  ·
   refine Ends.region ?_
   refine S.val hA (R.fieldAddr (q := 3) fi25_3 rfl rfl rfl) rfl ?_; clear hA a; intro a hA
   refine S.val hA (R.load sz22 rfl (hM.cell (k := 0) rfl rfl)) rfl ?_; clear hA a; intro a hA
   refine S.val hA (R.lenS Try.underlying22 rfl rfl) rfl ?_; clear hA a; intro a hA
   refine S.val hA (R.fieldAddr (q := 1) fi25_1 rfl rfl rfl) rfl ?_; clear hA a; intro a hA
   refine S.val hA (R.load sz3 rfl (hM.cell (k := 0) rfl rfl)) rfl ?_; clear hA a; intro a hA
   refine S.val hA (R.eql rfl rfl) rfl ?_; clear hA a; intro a hA
   refine S.val hA (R.move rfl) rfl ?_; clear hA a; intro a hA
   refine hA.split (d := 12) rfl ?_ ?_
   ·
    clear hA; intro hg4 hA
    refine S.valg (dj := 12) hA (by kernel_rfl) rfl (R.fieldAddr (q := 4) fi25_4 rfl rfl rfl) rfl ?_; clear hA a; intro a hA
    refine S.valg (dj := 12) hA (by kernel_rfl) rfl (R.load sz22 rfl (hM.cell (k := 0) rfl rfl)) rfl ?_; clear hA a; intro a hA
    refine S.valg (dj := 12) hA (by kernel_rfl) rfl (R.lenS Try.underlying22 rfl rfl) rfl ?_; clear hA a; intro a hA
    refine S.valg (dj := 12) hA (by kernel_rfl) rfl (R.fieldAddr (q := 1) fi25_1 rfl rfl rfl) rfl ?_; clear hA a; intro a hA
    refine S.valg (dj := 12) hA (by kernel_rfl) rfl (R.load sz3 rfl (hM.cell (k := 0) rfl rfl)) rfl ?_; clear hA a; intro a hA
    refine S.valg (dj := 12) hA (by kernel_rfl) rfl (R.eql rfl rfl) rfl ?_; clear hA a; intro a hA
    refine S.val hA (R.pickT rfl rfl) rfl ?_; clear hA a; intro a hA
    refine S.val hA (R.move rfl) rfl ?_; clear hA a; intro a hA
    refine hA.split (d := 20) rfl ?_ ?_
    ·
     clear hA; intro hg5 hA
     refine S.valg (dj := 20) hA (by kernel_rfl) rfl (R.fieldAddr (q := 5) fi25_5 rfl rfl rfl) rfl ?_; clear hA a; intro a hA
     refine S.valg (dj := 20) hA (by kernel_rfl) rfl (R.load sz23 rfl (hM.cell (k := 0) rfl rfl)) rfl ?_; clear hA a; intro a hA
     refine S.valg (dj := 20) hA (by kernel_rfl) rfl (R.lenS Try.underlying23 rfl rfl) rfl ?_; clear hA a; intro a hA
     refine S.valg (dj := 20) hA (by kernel_rfl) rfl (R.eql rfl rfl) rfl ?_; clear hA a; intro a hA
     refine S.val hA (R.pickT rfl rfl) rfl ?_; clear hA a; intro a hA
     refine S.val hA (R.assign rfl) rfl ?_; clear hA a; intro a hA
     refine S.done ?_
     replace hA : St 52 [(1, _), (2, _)] a := hA.sub ((.cons rfl (.cons rfl .nil)))
     exact hJ _ _ ⟨hA.sub (.cons rfl (.cons (by first | rfl | exact congrArg (fun b => some (Value.bool b)) (by first | exact decide_eq_decide.2 (by omega) | exact or_bool (by omega) | exact and_bool (by omega) | (simp; done) | (simp [hg4, hg5]; done) | (have h80 := hg4; (try simp at h80); have h81 := hg5; (try simp at h81); simp [h80, h81]; done) | exact (decide_eq_false (fun h9 => hg4 h9.1)).symm | exact (decide_eq_false (fun h9 => hg5 h9.1)).symm)) .nil)), hM⟩
    ·
     clear hA; intro hg5 hA
     refine S.no (dj := 20) hA (by kernel_rfl) rfl rfl rfl ?_; clear hA a; intro a hA
     refine S.no (dj := 20) hA (by kernel_rfl) rfl rfl rfl ?_; clear hA a; intro a hA
     refine S.no (dj := 20) hA (by kernel_rfl) rfl rfl rfl ?_; clear hA a; intro a hA
     refine S.no (dj := 20) hA (by kernel_rfl) rfl rfl rfl ?_; clear hA a; intro a hA
     refine S.val hA (R.pickF rfl rfl) rfl ?_; clear hA a; intro a hA
     refine S.val hA (R.assign rfl) rfl ?_; clear hA a; intro a hA
     refine S.done ?_
     replace hA : St 52 [(1, _), (2, _)] a := hA.sub ((.cons rfl (.cons rfl .nil)))
     exact hJ _ _ ⟨hA.sub (.cons rfl (.cons (by first | rfl | exact congrArg (fun b => some (Value.bool b)) (by first | exact decide_eq_decide.2 (by omega) | exact or_bool (by omega) | exact and_bool (by omega) | (simp; done) | (simp [hg4, hg5]; done) | (have h80 := hg4; (try simp at h80); have h81 := hg5; (try simp at h81); simp [h80, h81]; done) | exact (decide_eq_false (fun h9 => hg4 h9.1)).symm | exact (decide_eq_false (fun h9 => hg5 h9.1)).symm)) .nil)), hM⟩
   ·
    clear hA; intro hg4 hA
    refine S.no (dj := 12) hA (by kernel_rfl) rfl rfl rfl ?_; clear hA a; intro a hA
    refine S.no (dj := 12) hA (by kernel_rfl) rfl rfl rfl ?_; clear hA a; intro a hA
    refine S.no (dj := 12) hA (by kernel_rfl) rfl rfl rfl ?_; clear hA a; intro a hA
    refine S.no (dj := 12) hA (by kernel_rfl) rfl rfl rfl ?_; clear hA a; intro a hA
    refine S.no (dj := 12) hA (by kernel_rfl) rfl rfl rfl ?_; clear hA a; intro a hA
    refine S.no (dj := 12) hA (by kernel_rfl) rfl rfl rfl ?_; clear hA a; intro a hA
    refine S.val hA (R.pickF rfl rfl) rfl ?_; clear hA a; intro a hA
    refine S.val hA (R.move rfl) rfl ?_; clear hA a; intro a hA
    refine S.no (dj := 20) hA (by kernel_rfl) rfl rfl rfl ?_; clear hA a; intro a hA
    refine S.no (dj := 20) hA (by kernel_rfl) rfl rfl rfl ?_; clear hA a; intro a hA
    refine S.no (dj := 20) hA (by kernel_rfl) rfl rfl rfl ?_; clear hA a; intro a hA
    refine S.no (dj := 20) hA (by kernel_rfl) rfl rfl rfl ?_; clear hA a; intro a hA
    refine S.val hA (R.pickF rfl rfl) rfl ?_; clear hA a; intro a hA
    refine S.val hA (R.assign rfl) rfl ?_; clear hA a; intro a hA
    refine S.done ?_
    replace hA : St 52 [(1, _), (2, _)] a := hA.sub ((.cons rfl (.cons rfl .nil)))
    exact hJ _ _ ⟨hA.sub (.cons rfl (.cons (by first | rfl | exact congrArg (fun b => some (Value.bool b)) (by first | exact decide_eq_decide.2 (by omega) | exact or_bool (by omega) | exact and_bool (by omega) | (simp; done) | (simp [hg4]; done) | (have h80 := hg4; (try simp at h80); simp [h80]; done) | exact (decide_eq_false (fun h9 => hg4 h9.1)).symm)) .nil)), hM⟩
 ·
  refine Ends.skip (Ends.seq (Ends.seq ?_))
  refine Ends.cut (fun (a : Act) (wv : World) => St 52 [(1, .pointer (some ⟨b1, 0, none⟩)), (46, .bool (decide (((((i.cost.length : Int)) ≠ i.n ∨ i.cap ≠ 0) ∨ 0 < (((i.wt.length : Int)) + ((i.vl.length : Int)))))))] a ∧ Mem w nof [pt b1 #[.int .i64 i.kind, .int .i64 i.n, .int .i64 i.cap, .slice ax3 i.wt.length cx3, .slice ax4 i.vl.length cx4, .slice ax5 i.cost.length cx5] 25] wv) ?_ (fun k2 hJ => ?_)
  ·
   clear hA hM a; rintro a w3 ⟨hA, hM⟩
   refine Ends.ite hA rfl (fun hc6 => ?_) (fun hc6 => ?_)
   ·
    refine Ends.seq (Ends.region ?_)
    refine S.val hA (R.assign rfl) rfl ?_; clear hA a; intro a hA
    refine S.done ?_
    refine Ends.ret1 Try.func54 Try.results54 hA rfl ?_
    refine ⟨false, rfl, ⟨fun h => (by cases h), fun h => ?_⟩, Mem.trans0 hbs hM.nilL⟩
    unfold shapeOK at h
    rcases h with h | ⟨q1, q2, q3, q4, q5, -⟩
    · omega
    · omega
   ·
    refine Ends.skip (Ends.seq (Ends.region ?_))
    refine S.val hA (R.fieldAddr (q := 5) fi25_5 rfl rfl rfl) rfl ?_; clear hA a; intro a hA
    refine S.val hA (R.load sz23 rfl (hM.cell (k := 0) rfl rfl)) rfl ?_; clear hA a; intro a hA
    refine S.val hA (R.to (v := .func (.func 68) #[] #[.pointer (some ⟨b1, 0, none⟩)]) (R.makeFunc rfl) rfl) rfl ?_; clear hA a; intro a hA
    refine S.call hA (R.callF Try.func67 rfl rfl rfl) rfl (containsR b1 i ax3 cx3 ax4 cx4 ax5 cx5 _ (hM.block (k := 0) rfl) (hx3.mem hM) (hx4.mem hM) (hx5.mem hM)) ?_; clear hA a
    rintro e w4 ⟨bi7, rfl, hbi8, hb⟩
    replace hM := hM.callB hb; clear hb
    refine ⟨.bool bi7, rfl, fun a hA => ?_⟩
    refine S.val hA (R.not rfl) rfl ?_; clear hA a; intro a hA
    refine S.val hA (R.assign rfl) rfl ?_; clear hA a; intro a hA
    refine S.done ?_
    replace hA : St 52 [(2, _)] a := hA.sub ((.cons rfl .nil))
    refine Ends.ret1 Try.func54 Try.results54 hA rfl ?_
    refine ⟨_, rfl, ?_, Mem.trans0 hbs hM.nilL⟩
    have hbi := hbi8
    constructor
    ·
     intro h
     have hf : bi7 = false := by simpa using h
     have hall := Decidable.not_not.1 (fun h9 => by rw [hbi.2 h9] at hf; cases hf)
     exact .inr ⟨by omega, by omega, by omega, by omega, by omega, hall⟩
    ·
     intro h
     rcases h with h | h
     · omega
     ·
      cases hc : bi7 with
      | false => rfl
      | true => exact absurd h.2.2.2.2.2 (hbi.1 hc)
  ·
   refine Ends.region ?_
   refine S.val hA (R.fieldAddr (q := 5) fi25_5 rfl rfl rfl) rfl ?_; clear hA a; intro a hA
   refine S.val hA (R.load sz23 rfl (hM.cell (k := 0) rfl rfl)) rfl ?_; clear hA a; intro a hA
   refine S.val hA (R.lenS Try.underlying23 rfl rfl) rfl ?_; clear hA a; intro a hA
   refine S.val hA (R.fieldAddr (q := 1) fi25_1 rfl rfl rfl) rfl ?_; clear hA a; intro a hA
   refine S.val hA (R.load sz3 rfl (hM.cell (k := 0) rfl rfl)) rfl ?_; clear hA a; intro a hA
   refine S.val hA (R.neq rfl rfl) rfl ?_; clear hA a; intro a hA
   refine S.val hA (R.move rfl) rfl ?_; clear hA a; intro a hA
   refine hA.split (d := 32) rfl ?_ ?_
   ·
    clear hA; intro hg9 hA
    refine S.no (dj := 32) hA (by kernel_rfl) rfl rfl rfl ?_; clear hA a; intro a hA
    refine S.no (dj := 32) hA (by kernel_rfl) rfl rfl rfl ?_; clear hA a; intro a hA
    refine S.no (dj := 32) hA (by kernel_rfl) rfl rfl rfl ?_; clear hA a; intro a hA
    refine S.val hA (R.pickT rfl rfl) rfl ?_; clear hA a; intro a hA
    refine S.val hA (R.move rfl) rfl ?_; clear hA a; intro a hA
    refine S.no (dj := 37) hA (by kernel_rfl) rfl rfl rfl ?_; clear hA a; intro a hA
    refine S.no (dj := 37) hA (by kernel_rfl) rfl rfl rfl ?_; clear hA a; intro a hA
    refine S.no (dj := 37) hA (by kernel_rfl) rfl rfl rfl ?_; clear hA a; intro a hA
    refine S.no (dj := 37) hA (by kernel_rfl) rfl rfl rfl ?_; clear hA a; intro a hA
    refine S.no (dj := 37) hA (by kernel_rfl) rfl rfl rfl ?_; clear hA a; intro a hA
    refine S.no (dj := 37) hA (by kernel_rfl) rfl rfl rfl ?_; clear hA a; intro a hA
    refine S.no (dj := 37) hA (by kernel_rfl) rfl rfl rfl ?_; clear hA a; intro a hA
    refine S.no (dj := 37) hA (by kernel_rfl) rfl rfl rfl ?_; clear hA a; intro a hA
    refine S.val hA (R.pickT rfl rfl) rfl ?_; clear hA a; intro a hA
    refine S.done ?_
    replace hA : St 52 [(1, _), (46, _)] a := hA.sub ((.cons rfl (.cons rfl .nil)))
    exact hJ _ _ ⟨hA.sub (.cons rfl (.cons (by first | rfl | exact congrArg (fun b => some (Value.bool b)) (by first | exact decide_eq_decide.2 (by omega) | exact or_bool (by omega) | exact and_bool (by omega) | (simp; done) | (simp [hg9]; done) | (have h80 := hg9; (try simp at h80); simp [h80]; done) | exact (decide_eq_false (fun h9 => hg9 h9.1)).symm)) .nil)), hM⟩
   ·
    clear hA; intro hg9 hA
    refine S.valg (dj := 32) hA (by kernel_rfl) rfl (R.fieldAddr (q := 2) fi25_2 rfl rfl rfl) rfl ?_; clear hA a; intro a hA
    refine S.valg (dj := 32) hA (by kernel_rfl) rfl (R.load sz3 rfl (hM.cell (k := 0) rfl rfl)) rfl ?_; clear hA a; intro a hA
    refine S.valg (dj := 32) hA (by kernel_rfl) rfl (R.neq rfl rfl) rfl ?_; clear hA a; intro a hA
    refine S.val hA (R.pickF rfl rfl) rfl ?_; clear hA a; intro a hA
    refine S.val hA (R.move rfl) rfl ?_; clear hA a; intro a hA
    refine hA.split (d := 37) rfl ?_ ?_
    ·
     clear hA; intro hg10 hA
     refine S.no (dj := 37) hA (by kernel_rfl) rfl rfl rfl ?_; clear hA a; intro a hA
     refine S.no (dj := 37) hA (by kernel_rfl) rfl rfl rfl ?_; clear hA a; intro a hA
     refine S.no (dj := 37) hA (by kernel_rfl) rfl rfl rfl ?_; clear hA a; intro a hA
     refine S.no (dj := 37) hA (by kernel_rfl) rfl rfl rfl ?_; clear hA a; intro a hA
     refine S.no (dj := 37) hA (by kernel_rfl) rfl rfl rfl ?_; clear hA a; intro a hA
     refine S.no (dj := 37) hA (by kernel_rfl) rfl rfl rfl ?_; clear hA a; intro a hA
     refine S.no (dj := 37) hA (by kernel_rfl) rfl rfl rfl ?_; clear hA a; intro a hA
     refine S.no (dj := 37) hA (by kernel_rfl) rfl rfl rfl ?_; clear hA a; intro a hA
     refine S.val hA (R.pickT rfl rfl) rfl ?_; clear hA a; intro a hA
     refine S.done ?_
     replace hA : St 52 [(1, _), (46, _)] a := hA.sub ((.cons rfl (.cons rfl .nil)))
     exact hJ _ _ ⟨hA.sub (.cons rfl (.cons (by first | rfl | exact congrArg (fun b => some (Value.bool b)) (by first | exact decide_eq_decide.2 (by omega) | exact or_bool (by omega) | exact and_bool (by omega) | (simp; done) | (simp [hg9, hg10]; done) | (have h80 := hg9; (try simp at h80); have h81 := hg10; (try simp at h81); simp [h80, h81]; done) | exact (decide_eq_false (fun h9 => hg9 h9.1)).symm | exact (decide_eq_false (fun h9 => hg10 h9.1)).symm)) .nil)), hM⟩
    ·
     clear hA; intro hg10 hA
     refine S.valg (dj := 37) hA (by kernel_rfl) rfl (R.fieldAddr (q := 3) fi25_3 rfl rfl rfl) rfl ?_; clear hA a; intro a hA
     refine S.valg (dj := 37) hA (by kernel_rfl) rfl (R.load sz22 rfl (hM.cell (k := 0) rfl rfl)) rfl ?_; clear hA a; intro a hA
     refine S.valg (dj := 37) hA (by kernel_rfl) rfl (R.lenS Try.underlying22 rfl rfl) rfl ?_; clear hA a; intro a hA
     refine S.valg (dj := 37) hA (by kernel_rfl) rfl (R.fieldAddr (q := 4) fi25_4 rfl rfl rfl) rfl ?_; clear hA a; intro a hA
     refine S.valg (dj := 37) hA (by kernel_rfl) rfl (R.load sz22 rfl (hM.cell (k := 0) rfl rfl)) rfl ?_; clear hA a; intro a hA
     refine S.valg (dj := 37) hA (by kernel_rfl) rfl (R.lenS Try.underlying22 rfl rfl) rfl ?_; clear hA a; intro a hA
     refine S.valg (dj := 37) hA (by kernel_rfl) rfl (R.addI rfl rfl (r := ((i.wt.length : Int)) + ((i.vl.length : Int))) rfl (by omega)) rfl ?_; clear hA a; intro a hA
     refine S.valg (dj := 37) hA (by kernel_rfl) rfl (R.gtr rfl rfl) rfl ?_; clear hA a; intro a hA
     refine S.val hA (R.pickF rfl rfl) rfl ?_; clear hA a; intro a hA
     refine S.done ?_
     replace hA : St 52 [(1, _), (46, _)] a := hA.sub ((.cons rfl (.cons rfl .nil)))
     exact hJ _ _ ⟨hA.sub (.cons rfl (.cons (by first | rfl | exact congrArg (fun b => some (Value.bool b)) (by first | exact decide_eq_decide.2 (by omega) | exact or_bool (by omega) | exact and_bool (by omega) | (simp; done) | (simp [hg9, hg10]; done) | (have h80 := hg9; (try simp at h80); have h81 := hg10; (try simp at h81); simp [h80, h81]; done) | exact (decide_eq_false (fun h9 => hg9 h9.1)).symm | exact (decide_eq_false (fun h9 => hg10 h9.1)).symm)) .nil)), hM⟩
set_option maxRecDepth 100000 in
set_option maxHeartbeats 400000 in
theorem items05 (i : Ins) (ax3 : Option Addr) (cx3 : Nat) (ax4 : Option Addr) (cx4 : Nat) (ax5 : Option Addr) (cx5 : Nat) (hln : (i.wt.length : Int) = i.n ∧ (i.vl.length : Int) = i.n) (w : World) (hx3 : IntSl w (.slice ax3 i.wt.length cx3) i.wt) (hx4 : IntSl w (.slice ax4 i.vl.length cx4) i.vl) (hx5 : RowsV w (.slice ax5 i.cost.length cx5) i.cost) :
  Calls Try.prog 55 #[.agg #[.int .i64 i.kind, .int .i64 i.n, .int .i64 i.cap, .slice ax3 i.wt.length cx3, .slice ax4 i.vl.length cx4, .slice ax5 i.cost.length cx5]] w fun e w' => e = .returned (.int .i64 (if numE i.cap ≠ 0 then numE i.cap else pfx (itF i) i.n.toNat)) ∧ Below w.heap.size w w' := by
 have hbs := Below.refl (B := w.heap.size) w
 have hl3 := hx3.lenB
 have hM := Mem.start w
 refine Calls.of_ends (vs := [.agg #[.int .i64 i.kind, .int .i64 i.n, .int .i64 i.cap, .slice ax3 i.wt.length cx3, .slice ax4 i.vl.length cx4, .slice ax5 i.cost.length cx5]]) Try.func55 rfl Try.ntmps55 rfl ?_
 intro a hA
 replace hA : St 33 [(0, _)] a := hA
 refine Ends.seq (Ends.region ?_)
 refine S.box hA hM rfl rfl ?_; clear hA hM a; intro b1 w1 hb2 hM a hA
 replace hM : Mem _ _ [pt b1 #[.int .i64 i.kind, .int .i64 i.n, .int .i64 i.cap, .slice ax3 i.wt.length cx3, .slice ax4 i.vl.length cx4, .slice ax5 i.cost.length cx5] 25] _ := hM
 refine S.val hA (R.assign rfl) rfl ?_; clear hA a; intro a hA
 refine S.done ?_
 refine Ends.seq (Ends.region ?_)
 refine S.val hA (R.fieldAddr (q := 2) fi25_2 rfl rfl rfl) rfl ?_; clear hA a; intro a hA
 refine S.val hA (R.load sz3 rfl (hM.cell (k := 0) rfl rfl)) rfl ?_; clear hA a; intro a hA
 refine S.call hA (R.callF Try.func69 rfl rfl rfl) rfl (num05 i.cap _) ?_; clear hA a
 rintro e w2 ⟨rfl, hb⟩
 replace hM := hM.callB hb; clear hb
 refine ⟨.int .i64 (numE i.cap), rfl, fun a hA => ?_⟩
 refine S.val hA (R.assign rfl) rfl ?_; clear hA a; intro a hA
 refine S.done ?_
 replace hA : St 33 [(1, _), (3, _)] a := hA.sub ((.cons rfl (.cons rfl .nil)))
 refine Ends.seq (Ends.seq (Ends.region ?_))
 refine S.val hA (R.assign rfl) rfl ?_; clear hA a; intro a hA
 refine S.done ?_
 refine Ends.block ?_
 refine Ends.loop (σ := Nat × Int) (fun (k, ev) (a : Act) (wv : World) => St 33 [(1, .pointer (some ⟨b1, 0, none⟩)), (3, .int .i64 ev), (4, .int .i64 ((k : Int)))] a ∧ Mem w nof [pt b1 #[.int .i64 i.kind, .int .i64 i.n, .int .i64 i.cap, .slice ax3 i.wt.length cx3, .slice ax4 i.vl.length cx4, .slice ax5 i.cost.length cx5] 25] wv ∧ (k ≤ i.n.toNat) ∧ (k = 0 → ev = numE i.cap) ∧ (ev = if numE i.cap ≠ 0 then numE i.cap else pfx (itF i) k)) (fun (k, ev) => i.n.toNat - k) ((0, numE i.cap)) ⟨hA.sub ((.cons rfl (.cons rfl (.cons rfl .nil)))), hM, (Nat.zero_le _), (fun _ => rfl), (by show numE i.cap = (if numE i.cap ≠ 0 then numE i.cap else 0); by_cases h9 : numE i.cap ≠ 0; (rw [if_pos h9]); (rw [if_neg h9]; exact Decidable.not_not.1 h9))⟩ ?_
 clear hA hM a
 rintro ⟨k, ev⟩ a w3 ⟨hA, hM, hk, hk0, hev⟩ hNext
 refine Ends.seq (Ends.seq ?_)
 refine Ends.cut (fun (a : Act) (wv : World) => St 33 [(1, .pointer (some ⟨b1, 0, none⟩)), (3, .int .i64 ev), (4, .int .i64 ((k : Int))), (15, .bool (decide ((((k : Int)) < i.n ∧ ev = 0))))] a ∧ Mem w nof [pt b1 #[.int .i64 i.kind, .int .i64 i.n, .int .i64 i.cap, .slice ax3 i.wt.length cx3, .slice ax4 i.vl.length cx4, .slice ax5 i.cost.length cx5] 25] wv) ?_ (fun k2 hJ => ?_)
 ·
  clear hA hM a; rintro a w4 ⟨hA, hM⟩
  refine Ends.ite hA rfl (fun hc3 => ?_) (fun hc3 => ?_)
  ·
   have hcz : numE i.cap = 0 := by
    rw [hev] at hc3
    by_cases h9 : numE i.cap = 0
    · exact h9
    · rw [if_pos h9] at hc3; exact absurd hc3.2 h9
   rw [if_neg (by rw [hcz]; simp)] at hev
   have hev0 : ev = 0 := hc3.2
   have hp0 : pfx (itF i) k = 0 := by rw [← hev]; exact hev0
   refine Ends.skip (Ends.seq (Ends.block (Ends.seq (Ends.region ?_))))
   refine S.val hA (R.fieldAddr (q := 3) fi25_3 rfl rfl rfl) rfl ?_; clear hA a; intro a hA
   refine S.val hA (R.load sz22 rfl (hM.cell (k := 0) rfl rfl)) rfl ?_; clear hA a; intro a hA
   refine S.val hA (R.move rfl) rfl ?_; clear hA a; intro a hA
   refine S.val hA (R.idxI hx3 (j := k) sl22 rfl rfl (by omega) (rfl)) rfl ?_; clear hA a; intro a hA
   refine S.val hA (R.loadI (hx3.mem hM) sz3 rfl (by omega)) rfl ?_; clear hA a; intro a hA
   refine S.call hA (R.callF Try.func69 rfl rfl rfl) rfl (num05 (i.wt.getD k 0) _) ?_; clear hA a
   rintro e w5 ⟨rfl, hb⟩
   replace hM := hM.callB hb; clear hb
   refine ⟨.int .i64 (numE (i.wt.getD k 0)), rfl, fun a hA => ?_⟩
   refine S.val hA (R.assign rfl) rfl ?_; clear hA a; intro a hA
   refine S.done ?_
   replace hA : St 33 [(1, _), (3, _), (4, _)] a := hA.sub ((.cons rfl (.cons rfl (.cons rfl .nil))))
   refine Ends.seq (Ends.region ?_)
   refine S.val hA (R.move rfl) rfl ?_; clear hA a; intro a hA
   refine S.val hA (R.eql rfl rfl) rfl ?_; clear hA a; intro a hA
   refine S.done ?_
   refine Ends.ite hA rfl (fun hc4 => ?_) (fun hc4 => ?_)
   ·
    refine Ends.region ?_
    refine S.val hA (R.fieldAddr (q := 4) fi25_4 rfl rfl rfl) rfl ?_; clear hA a; intro a hA
    refine S.val hA (R.load sz22 rfl (hM.cell (k := 0) rfl rfl)) rfl ?_; clear hA a; intro a hA
    refine S.val hA (R.move rfl) rfl ?_; clear hA a; intro a hA
    refine S.val hA (R.idxI hx4 (j := k) sl22 rfl rfl (by omega) (rfl)) rfl ?_; clear hA a; intro a hA
    refine S.val hA (R.loadI (hx4.mem hM) sz3 rfl (by omega)) rfl ?_; clear hA a; intro a hA
    refine S.call hA (R.callF Try.func69 rfl rfl rfl) rfl (num05 (i.vl.getD k 0) _) ?_; clear hA a
    rintro e w6 ⟨rfl, hb⟩
    replace hM := hM.callB hb; clear hb
    refine ⟨.int .i64 (numE (i.vl.getD k 0)), rfl, fun a hA => ?_⟩
    refine S.val hA (R.assign rfl) rfl ?_; clear hA a; intro a hA
    refine S.done ?_
    replace hA : St 33 [(1, _), (3, _), (4, _)] a := hA.sub ((.cons rfl (.cons rfl (.cons rfl .nil))))
    refine Ends.inBlock (Ends.region ?_)
    refine S.val hA (R.move rfl) rfl ?_; clear hA a; intro a hA
    refine S.val hA (R.addI rfl rfl (r := ((k : Int)) + 1) rfl (by omega)) rfl ?_; clear hA a; intro a hA
    refine S.val hA (R.assign rfl) rfl ?_; clear hA a; intro a hA
    refine S.done ?_
    have hst := pfx_step (f := itF i) (k := k) (by omega)
    exact hNext ((k + 1, numE (i.vl.getD k 0))) _ _ ((by show i.n.toNat - (k + 1) < i.n.toNat - k; omega)) ⟨hA.sub ((.cons rfl (.cons rfl (.cons rfl .nil)))), hM, (by omega), (fun h9 => by omega), (by rw [if_neg (by rw [hcz]; simp), hst, itF_z hc4])⟩
   ·
    refine Ends.skip (Ends.inBlock (Ends.region ?_))
    refine S.val hA (R.move rfl) rfl ?_; clear hA a; intro a hA
    refine S.val hA (R.addI rfl rfl (r := ((k : Int)) + 1) rfl (by omega)) rfl ?_; clear hA a; intro a hA
    refine S.val hA (R.assign rfl) rfl ?_; clear hA a; intro a hA
    refine S.done ?_
    replace hA : St 33 [(1, _), (3, _), (4, _)] a := hA.sub ((.cons rfl (.cons rfl (.cons rfl .nil))))
    have hst := pfx_step (f := itF i) (k := k) (by omega)
    exact hNext ((k + 1, numE (i.wt.getD k 0))) _ _ ((by show i.n.toNat - (k + 1) < i.n.toNat - k; omega)) ⟨hA.sub ((.cons rfl (.cons rfl (.cons rfl .nil)))), hM, (by omega), (fun h9 => by omega), (by rw [if_neg (by rw [hcz]; simp), hst, itF_e hc4])⟩
  ·
   refine Ends.exit rfl ?_
   refine Ends.seq (Ends.region ?_)
   refine S.val hA (R.move rfl) rfl ?_; clear hA a; intro a hA
   refine S.val hA (R.assign rfl) rfl ?_; clear hA a; intro a hA
   refine S.done ?_
   replace hA : St 33 [(2, _)] a := hA.sub ((.cons rfl .nil))
   refine Ends.ret1 Try.func55 Try.results55 hA rfl ?_
   have hfin : ev = if numE i.cap ≠ 0 then numE i.cap else pfx (itF i) i.n.toNat := by
    by_cases h9 : numE i.cap ≠ 0
    · rw [if_pos h9] at hev ⊢; exact hev
    ·
     rw [if_neg h9] at hev ⊢
     by_cases h8 : ev = 0
     · rw [hev]; congr 1; omega
     · rw [hev]; exact (pfx_stay (by rw [← hev]; exact h8) hk).symm
   exact ⟨by rw [hfin], Mem.trans0 hbs hM.nilL⟩
 ·
  refine Ends.region ?_
  refine S.val hA (R.move rfl) rfl ?_; clear hA a; intro a hA
  refine S.val hA (R.fieldAddr (q := 1) fi25_1 rfl rfl rfl) rfl ?_; clear hA a; intro a hA
  refine S.val hA (R.load sz3 rfl (hM.cell (k := 0) rfl rfl)) rfl ?_; clear hA a; intro a hA
  refine S.val hA (R.lss rfl rfl) rfl ?_; clear hA a; intro a hA
  refine S.val hA (R.move rfl) rfl ?_; clear hA a; intro a hA
  refine hA.split (d := 12) rfl ?_ ?_
  ·
   clear hA; intro hg5 hA
   refine S.valg (dj := 12) hA (by kernel_rfl) rfl (R.move rfl) rfl ?_; clear hA a; intro a hA
   refine S.valg (dj := 12) hA (by kernel_rfl) rfl (R.eql rfl rfl) rfl ?_; clear hA a; intro a hA
   refine S.val hA (R.pickT rfl rfl) rfl ?_; clear hA a; intro a hA
   refine S.done ?_
   replace hA : St 33 [(1, _), (3, _), (4, _), (15, _)] a := hA.sub ((.cons rfl (.cons rfl (.cons rfl (.cons rfl .nil)))))
   exact hJ _ _ ⟨hA.sub (.cons rfl (.cons rfl (.cons rfl (.cons (by first | rfl | exact congrArg (fun b => some (Value.bool b)) (by first | exact decide_eq_decide.2 (by omega) | exact or_bool (by omega) | exact and_bool (by omega) | (simp; done) | (simp [hg5]; done) | (have h80 := hg5; (try simp at h80); simp [h80]; done) | exact (decide_eq_false (fun h9 => hg5 h9.1)).symm)) .nil)))), hM⟩
  ·
   clear hA; intro hg5 hA
   refine S.no (dj := 12) hA (by kernel_rfl) rfl rfl rfl ?_; clear hA a; intro a hA
   refine S.no (dj := 12) hA (by kernel_rfl) rfl rfl rfl ?_; clear hA a; intro a hA
   refine S.val hA (R.pickF rfl rfl) rfl ?_; clear hA a; intro a hA
   refine S.done ?_
   replace hA : St 33 [(1, _), (3, _), (4, _), (15, _)] a := hA.sub ((.cons rfl (.cons rfl (.cons rfl (.cons rfl .nil)))))
   exact hJ _ _ ⟨hA.sub (.cons rfl (.cons rfl (.cons rfl (.cons (by first | rfl | exact congrArg (fun b => some (Value.bool b)) (by first | exact decide_eq_decide.2 (by omega) | exact or_bool (by omega) | exact and_bool (by omega) | (simp; done) | (simp [hg5]; done) | (have h80 := hg5; (try simp at h80); simp [h80]; done) | exact (decide_eq_false (fun h9 => hg5 h9.1)).symm)) .nil)))), hM⟩
set_option maxRecDepth 100000 in
set_option maxHeartbeats 400000 in
theorem rows05 (i : Ins) (ax3 : Option Addr) (cx3 : Nat) (ax4 : Option Addr) (cx4 : Nat) (ax5 : Option Addr) (cx5 : Nat) (hsq : ∀ r, r < i.cost.length → ((i.cost.getD r []).length : Int) = i.n) (hcl : (i.cost.length : Int) = i.n) (w : World) (hx3 : IntSl w (.slice ax3 i.wt.length cx3) i.wt) (hx4 : IntSl w (.slice ax4 i.vl.length cx4) i.vl) (hx5 : RowsV w (.slice ax5 i.cost.length cx5) i.cost) :
  Calls Try.prog 56 #[.agg #[.int .i64 i.kind, .int .i64 i.n, .int .i64 i.cap, .slice ax3 i.wt.length cx3, .slice ax4 i.vl.length cx4, .slice ax5 i.cost.length cx5]] w fun e w' => e = .returned (.int .i64 (pfx (fun r => pfx (cellF i r) i.n.toNat) i.n.toNat)) ∧ Below w.heap.size w w' := by
 have hbs := Below.refl (B := w.heap.size) w
 have hl5 := hx5.lenB
 have hM := Mem.start w
 refine Calls.of_ends (vs := [.agg #[.int .i64 i.kind, .int .i64 i.n, .int .i64 i.cap, .slice ax3 i.wt.length cx3, .slice ax4 i.vl.length cx4, .slice ax5 i.cost.length cx5]]) Try.func56 rfl Try.ntmps56 rfl ?_
 intro a hA
 replace hA : St 42 [(0, _)] a := hA
 refine Ends.seq (Ends.region ?_)
 refine S.box hA hM rfl rfl ?_; clear hA hM a; intro b1 w1 hb2 hM a hA
 replace hM : Mem _ _ [pt b1 #[.int .i64 i.kind, .int .i64 i.n, .int .i64 i.cap, .slice ax3 i.wt.length cx3, .slice ax4 i.vl.length cx4, .slice ax5 i.cost.length cx5] 25] _ := hM
 refine S.val hA (R.assign rfl) rfl ?_; clear hA a; intro a hA
 refine S.done ?_
 refine Ends.seq (Ends.seq (Ends.region ?_))
 refine S.val hA (R.fieldAddr (q := 5) fi25_5 rfl rfl rfl) rfl ?_; clear hA a; intro a hA
 refine S.val hA (R.load sz23 rfl (hM.cell (k := 0) rfl rfl)) rfl ?_; clear hA a; intro a hA
 refine S.val hA (R.lenS Try.underlying23 rfl rfl) rfl ?_; clear hA a; intro a hA
 refine S.val hA (R.move rfl) rfl ?_; clear hA a; intro a hA
 refine S.done ?_
 refine Ends.block ?_
 refine Ends.loop (σ := Nat) (fun r (a : Act) (wv : World) => St 42 [(1, .pointer (some ⟨b1, 0, none⟩)), (9, .slice ax5 i.cost.length cx5), (10, .int .i64 ((i.cost.length : Int))), (11, .int .i64 ((r : Int)))] a ∧ Mem w nof [pt b1 #[.int .i64 i.kind, .int .i64 i.n, .int .i64 i.cap, .slice ax3 i.wt.length cx3, .slice ax4 i.vl.length cx4, .slice ax5 i.cost.length cx5] 25] wv ∧ (r ≤ i.n.toNat) ∧ (pfx (fun r => pfx (cellF i r) i.n.toNat) r = 0)) (fun r => i.n.toNat - r) 0 ⟨hA.sub ((.cons rfl (.cons rfl (.cons rfl (.cons rfl .nil))))), hM, (Nat.zero_le _), rfl⟩ ?_
 clear hA hM a
 rintro r a w2 ⟨hA, hM, hr, hr0⟩ hNext
 refine Ends.seq (Ends.region ?_)
 refine S.val hA (R.lss rfl rfl) rfl ?_; clear hA a; intro a hA
 refine S.done ?_
 refine Ends.seq ?_
 refine Ends.ite hA rfl (fun hc3 => ?_) (fun hc3 => ?_)
 ·
  have hrl := hsq r (by omega)
  refine Ends.skip (Ends.seq (Ends.block (Ends.seq (Ends.region ?_))))
  refine S.val hA (R.move rfl) rfl ?_; clear hA a; intro a hA
  refine S.val hA (R.idxR hx5 (j := r) sl23 rfl rfl (by omega) (rfl)) rfl ?_; clear hA a; intro a hA
  obtain ⟨ra4, rc5, hrow6, hld7⟩ := hx5.atP (i := r) (by omega)
  refine S.val hA (hld7 _ _ _ _ _ _ hM sz22 rfl) rfl ?_; clear hA a; intro a hA
  refine S.val hA (R.assign rfl) rfl ?_; clear hA a; intro a hA
  refine S.val hA (R.assign rfl) rfl ?_; clear hA a; intro a hA
  refine S.done ?_
  replace hA : St 42 [(1, _), (3, _), (4, _), (9, _), (10, _), (11, _)] a := hA.sub ((.cons rfl (.cons rfl (.cons rfl (.cons rfl (.cons rfl (.cons rfl .nil)))))))
  refine Ends.seq (Ends.region ?_)
  refine S.val hA (R.move rfl) rfl ?_; clear hA a; intro a hA
  refine S.val hA (R.lenS Try.underlying22 rfl rfl) rfl ?_; clear hA a; intro a hA
  refine S.val hA (R.move rfl) rfl ?_; clear hA a; intro a hA
  refine S.done ?_
  refine Ends.block ?_
  refine Ends.loop (σ := Nat) (fun c_ (a : Act) (wv : World) => St 42 [(1, .pointer (some ⟨b1, 0, none⟩)), (3, .int .i64 ((r : Int))), (9, .slice ax5 i.cost.length cx5), (10, .int .i64 ((i.cost.length : Int))), (11, .int .i64 ((r : Int))), (16, .slice ra4 (((i.cost.getD r [])).length) rc5), (17, .int .i64 ((((i.cost.getD r [])).length : Int))), (18, .int .i64 ((c_ : Int)))] a ∧ Mem w nof [pt b1 #[.int .i64 i.kind, .int .i64 i.n, .int .i64 i.cap, .slice ax3 i.wt.length cx3, .slice ax4 i.vl.length cx4, .slice ax5 i.cost.length cx5] 25] wv ∧ (c_ ≤ i.n.toNat) ∧ (pfx (cellF i r) c_ = 0)) (fun c_ => i.n.toNat - c_) 0 ⟨hA.sub ((.cons rfl (.cons rfl (.cons rfl (.cons rfl (.cons rfl (.cons rfl (.cons rfl (.cons rfl .nil))))))))), hM, (Nat.zero_le _), rfl⟩ ?_
  clear hA hM a
  rintro c_ a w3 ⟨hA, hM, hcn, hc0⟩ hNext1
  refine Ends.seq (Ends.region ?_)
  refine S.val hA (R.lss rfl rfl) rfl ?_; clear hA a; intro a hA
  refine S.done ?_
  refine Ends.seq ?_
  refine Ends.ite hA rfl (fun hc8 => ?_) (fun hc8 => ?_)
  ·
   refine Ends.skip (Ends.seq (Ends.block (Ends.seq (Ends.region ?_))))
   refine S.val hA (R.move rfl) rfl ?_; clear hA a; intro a hA
   refine S.val hA (R.idxI hrow6 (j := c_) sl22 rfl rfl (by omega) (rfl)) rfl ?_; clear hA a; intro a hA
   refine S.val hA (R.loadI (hrow6.mem hM) sz3 rfl (by omega)) rfl ?_; clear hA a; intro a hA
   refine S.val hA (R.assign rfl) rfl ?_; clear hA a; intro a hA
   refine S.val hA (R.assign rfl) rfl ?_; clear hA a; intro a hA
   refine S.done ?_
   replace hA : St 42 [(1, _), (3, _), (5, _), (6, _), (9, _), (10, _), (11, _), (16, _), (17, _), (18, _)] a := hA.sub ((.cons rfl (.cons rfl (.cons rfl (.cons rfl (.cons rfl (.cons rfl (.cons rfl (.cons rfl (.cons rfl (.cons rfl .nil)))))))))))
   refine Ends.seq (Ends.seq (Ends.region ?_))
   refine S.val hA (R.move rfl) rfl ?_; clear hA a; intro a hA
   refine S.call hA (R.callF Try.func69 rfl rfl rfl) rfl (num05 (((i.cost.getD r [])).getD c_ 0) _) ?_; clear hA a
   rintro e w4 ⟨rfl, hb⟩
   replace hM := hM.callB hb; clear hb
   refine ⟨.int .i64 (numE (((i.cost.getD r [])).getD c_ 0)), rfl, fun a hA => ?_⟩
   refine S.val hA (R.assign rfl) rfl ?_; clear hA a; intro a hA
   refine S.done ?_
   refine Ends.seq (Ends.region ?_)
   refine S.val hA (R.move rfl) rfl ?_; clear hA a; intro a hA
   refine S.val hA (R.neq rfl rfl) rfl ?_; clear hA a; intro a hA
   refine S.done ?_
   refine Ends.ite hA rfl (fun hc9 => ?_) (fun hc9 => ?_)
   ·
    refine Ends.seq (Ends.region ?_)
    refine S.val hA (R.move rfl) rfl ?_; clear hA a; intro a hA
    refine S.val hA (R.assign rfl) rfl ?_; clear hA a; intro a hA
    refine S.done ?_
    replace hA : St 42 [(1, _), (2, _), (3, _), (5, _), (6, _), (9, _), (10, _), (11, _), (16, _), (17, _), (18, _)] a := hA.sub ((.cons rfl (.cons rfl (.cons rfl (.cons rfl (.cons rfl (.cons rfl (.cons rfl (.cons rfl (.cons rfl (.cons rfl (.cons rfl .nil))))))))))))
    refine Ends.ret1 Try.func56 Try.results56 hA rfl ?_
    have hce := cellF_e hc9
    have hne : cellF i r c_ ≠ 0 := by rw [hce]; exact hc9
    have hrw := pfx_err hc0 hne (show c_ < i.n.toNat by omega)
    have hfin := pfx_err (f := fun r => pfx (cellF i r) i.n.toNat) hr0 (by show pfx (cellF i r) i.n.toNat ≠ 0; rw [hrw]; exact hne) (show r < i.n.toNat by omega)
    exact ⟨by rw [hfin]; show _ = Ending.returned (.int .i64 (pfx (cellF i r) i.n.toNat)); rw [hrw, hce], Mem.trans0 hbs hM.nilL⟩
   ·
    refine Ends.skip (Ends.seq ?_)
    refine Ends.cut (fun (a : Act) (wv : World) => St 42 [(1, .pointer (some ⟨b1, 0, none⟩)), (3, .int .i64 ((r : Int))), (9, .slice ax5 i.cost.length cx5), (10, .int .i64 ((i.cost.length : Int))), (11, .int .i64 ((r : Int))), (16, .slice ra4 (((i.cost.getD r [])).length) rc5), (17, .int .i64 ((((i.cost.getD r [])).length : Int))), (18, .int .i64 ((c_ : Int))), (39, .bool (decide (((i.kind = 3 ∧ ((r : Int)) = ((c_ : Int))) ∧ (((i.cost.getD r [])).getD c_ 0) ≠ 0))))] a ∧ Mem w nof [pt b1 #[.int .i64 i.kind, .int .i64 i.n, .int .i64 i.cap, .slice ax3 i.wt.length cx3, .slice ax4 i.vl.length cx4, .slice ax5 i.cost.length cx5] 25] wv) ?_ (fun k2 hJ => ?_)
    ·
     clear hA hM a; rintro a w5 ⟨hA, hM⟩
     refine Ends.ite hA rfl (fun hc10 => ?_) (fun hc10 => ?_)
     ·
      refine Ends.seq (Ends.region ?_)
      refine S.val hA (R.assign rfl) rfl ?_; clear hA a; intro a hA
      refine S.done ?_
      refine Ends.ret1 Try.func56 Try.results56 hA rfl ?_
      have hce := cellF_f hc9 hc10
      have hne : cellF i r c_ ≠ 0 := by rw [hce]; decide
      have hrw := pfx_err hc0 hne (show c_ < i.n.toNat by omega)
      have hfin := pfx_err (f := fun r => pfx (cellF i r) i.n.toNat) hr0 (by show pfx (cellF i r) i.n.toNat ≠ 0; rw [hrw]; exact hne) (show r < i.n.toNat by omega)
      exact ⟨by rw [hfin]; show _ = Ending.returned (.int .i64 (pfx (cellF i r) i.n.toNat)); rw [hrw, hce], Mem.trans0 hbs hM.nilL⟩
     ·
      refine Ends.skip (Ends.inBlock (Ends.region ?_))
      refine S.val hA (R.addI rfl rfl (r := ((c_ : Int)) + 1) rfl (by omega)) rfl ?_; clear hA a; intro a hA
      refine S.val hA (R.move rfl) rfl ?_; clear hA a; intro a hA
      refine S.done ?_
      exact hNext1 ((c_ + 1)) _ _ ((by show i.n.toNat - (c_ + 1) < i.n.toNat - c_; omega)) ⟨hA.sub ((.cons rfl (.cons rfl (.cons rfl (.cons rfl (.cons rfl (.cons rfl (.cons rfl (.cons rfl .nil))))))))), hM, (by omega), (by rw [pfx_step hc0]; exact cellF_z hc9 hc10)⟩
    ·
     refine Ends.region ?_
     refine S.val hA (R.fieldAddr (q := 0) fi25_0 rfl rfl rfl) rfl ?_; clear hA a; intro a hA
     refine S.val hA (R.load sz3 rfl (hM.cell (k := 0) rfl rfl)) rfl ?_; clear hA a; intro a hA
     refine S.val hA (R.eql rfl rfl) rfl ?_; clear hA a; intro a hA
     refine S.val hA (R.move rfl) rfl ?_; clear hA a; intro a hA
     refine hA.split (d := 31) rfl ?_ ?_
     ·
      clear hA; intro hg11 hA
      refine S.valg (dj := 31) hA (by kernel_rfl) rfl (R.move rfl) rfl ?_; clear hA a; intro a hA
      refine S.valg (dj := 31) hA (by kernel_rfl) rfl (R.move rfl) rfl ?_; clear hA a; intro a hA
      refine S.valg (dj := 31) hA (by kernel_rfl) rfl (R.eql rfl rfl) rfl ?_; clear hA a; intro a hA
      refine S.val hA (R.pickT rfl rfl) rfl ?_; clear hA a; intro a hA
      refine S.val hA (R.move rfl) rfl ?_; clear hA a; intro a hA
      refine hA.split (d := 36) rfl ?_ ?_
      ·
       clear hA; intro hg12 hA
       refine S.valg (dj := 36) hA (by kernel_rfl) rfl (R.move rfl) rfl ?_; clear hA a; intro a hA
       refine S.valg (dj := 36) hA (by kernel_rfl) rfl (R.neq rfl rfl) rfl ?_; clear hA a; intro a hA
       refine S.val hA (R.pickT rfl rfl) rfl ?_; clear hA a; intro a hA
       refine S.done ?_
       replace hA : St 42 [(1, _), (3, _), (9, _), (10, _), (11, _), (16, _), (17, _), (18, _), (39, _)] a := hA.sub ((.cons rfl (.cons rfl (.cons rfl (.cons rfl (.cons rfl (.cons rfl (.cons rfl (.cons rfl (.cons rfl .nil))))))))))
       exact hJ _ _ ⟨hA.sub (.cons rfl (.cons rfl (.cons rfl (.cons rfl (.cons rfl (.cons rfl (.cons rfl (.cons rfl (.cons (by first | rfl | exact congrArg (fun b => some (Value.bool b)) (by first | exact decide_eq_decide.2 (by omega) | exact or_bool (by omega) | exact and_bool (by omega) | (simp; done) | (simp [hg11, hg12]; done) | (have h80 := hg11; (try simp at h80); have h81 := hg12; (try simp at h81); simp [h80, h81]; done) | exact (decide_eq_false (fun h9 => hg11 h9.1)).symm | exact (decide_eq_false (fun h9 => hg12 h9.1)).symm)) .nil))))))))), hM⟩
      ·
       clear hA; intro hg12 hA
       refine S.no (dj := 36) hA (by kernel_rfl) rfl rfl rfl ?_; clear hA a; intro a hA
       refine S.no (dj := 36) hA (by kernel_rfl) rfl rfl rfl ?_; clear hA a; intro a hA
       refine S.val hA (R.pickF rfl rfl) rfl ?_; clear hA a; intro a hA
       refine S.done ?_
       replace hA : St 42 [(1, _), (3, _), (9, _), (10, _), (11, _), (16, _), (17, _), (18, _), (39, _)] a := hA.sub ((.cons rfl (.cons rfl (.cons rfl (.cons rfl (.cons rfl (.cons rfl (.cons rfl (.cons rfl (.cons rfl .nil))))))))))
       exact hJ _ _ ⟨hA.sub (.cons rfl (.cons rfl (.cons rfl (.cons rfl (.cons rfl (.cons rfl (.cons rfl (.cons rfl (.cons (by first | rfl | exact congrArg (fun b => some (Value.bool b)) (by first | exact decide_eq_decide.2 (by omega) | exact or_bool (by omega) | exact and_bool (by omega) | (simp; done) | (simp [hg11, hg12]; done) | (have h80 := hg11; (try simp at h80); have h81 := hg12; (try simp at h81); simp [h80, h81]; done) | exact (decide_eq_false (fun h9 => hg11 h9.1)).symm | exact (decide_eq_false (fun h9 => hg12 h9.1)).symm)) .nil))))))))), hM⟩
     ·
      clear hA; intro hg11 hA
      refine S.no (dj := 31) hA (by kernel_rfl) rfl rfl rfl ?_; clear hA a; intro a hA
      refine S.no (dj := 31) hA (by kernel_rfl) rfl rfl rfl ?_; clear hA a; intro a hA
      refine S.no (dj := 31) hA (by kernel_rfl) rfl rfl rfl ?_; clear hA a; intro a hA
      refine S.val hA (R.pickF rfl rfl) rfl ?_; clear hA a; intro a hA
      refine S.val hA (R.move rfl) rfl ?_; clear hA a; intro a hA
      refine S.no (dj := 36) hA (by kernel_rfl) rfl rfl rfl ?_; clear hA a; intro a hA
      refine S.no (dj := 36) hA (by kernel_rfl) rfl rfl rfl ?_; clear hA a; intro a hA
      refine S.val hA (R.pickF rfl rfl) rfl ?_; clear hA a; intro a hA
      refine S.done ?_
      replace hA : St 42 [(1, _), (3, _), (9, _), (10, _), (11, _), (16, _), (17, _), (18, _), (39, _)] a := hA.sub ((.cons rfl (.cons rfl (.cons rfl (.cons rfl (.cons rfl (.cons rfl (.cons rfl (.cons rfl (.cons rfl .nil))))))))))
      exact hJ _ _ ⟨hA.sub (.cons rfl (.cons rfl (.cons rfl (.cons rfl (.cons rfl (.cons rfl (.cons rfl (.cons rfl (.cons (by first | rfl | exact congrArg (fun b => some (Value.bool b)) (by first | exact decide_eq_decide.2 (by omega) | exact or_bool (by omega) | exact and_bool (by omega) | (simp; done) | (simp [hg11]; done) | (have h80 := hg11; (try simp at h80); simp [h80]; done) | exact (decide_eq_false (fun h9 => hg11 h9.1)).symm)) .nil))))))))), hM⟩
  ·
   have hrz : pfx (cellF i r) i.n.toNat = 0 := by rw [show i.n.toNat = c_ by omega]; exact hc0
   refine Ends.exit rfl ?_
   refine Ends.inBlock (Ends.region ?_)
   refine S.val hA (R.addI rfl rfl (r := ((r : Int)) + 1) rfl (by omega)) rfl ?_; clear hA a; intro a hA
   refine S.val hA (R.move rfl) rfl ?_; clear hA a; intro a hA
   refine S.done ?_
   replace hA : St 42 [(1, _), (9, _), (10, _), (11, _)] a := hA.sub ((.cons rfl (.cons rfl (.cons rfl (.cons rfl .nil)))))
   exact hNext ((r + 1)) _ _ ((by show i.n.toNat - (r + 1) < i.n.toNat - r; omega)) ⟨hA.sub ((.cons rfl (.cons rfl (.cons rfl (.cons rfl .nil))))), hM, (by omega), (by rw [pfx_step hr0]; exact hrz)⟩
 ·
  refine Ends.exit rfl ?_
  replace hA : St 42 [] a := hA.sub (.nil)
  refine Ends.seq (Ends.region ?_)
  refine S.val hA (R.assign rfl) rfl ?_; clear hA a; intro a hA
  refine S.done ?_
  refine Ends.ret1 Try.func56 Try.results56 hA rfl ?_
  have hfin := hr0
  rw [show r = i.n.toNat by omega] at hfin
  exact ⟨by rw [hfin], Mem.trans0 hbs hM.nilL⟩
instance (i : Ins) : Decidable (shapeOK i) := by unfold shapeOK; infer_instance
def chk (i : Ins) : Int := if sizeE i ≠ 0 then sizeE i else if shapeOK i then numsE i else 8
theorem chk_size {i : Ins} (h : sizeE i ≠ 0) : chk i = sizeE i := if_pos h
theorem chk_shape {i : Ins} (h : sizeE i = 0) (h2 : ¬ shapeOK i) : chk i = 8 := by unfold chk; rw [if_neg (by rw [h]; simp), if_neg h2]
theorem chk_items {i : Ins} (h : sizeE i = 0) (h2 : shapeOK i) (hk : i.kind = 1) : chk i = if numE i.cap ≠ 0 then numE i.cap else pfx (itF i) i.n.toNat := by unfold chk numsE; rw [if_neg (by rw [h]; simp), if_pos h2, if_pos hk]
theorem chk_rows {i : Ins} (h : sizeE i = 0) (h2 : shapeOK i) (hk : ¬ i.kind = 1) : chk i = pfx (fun r => pfx (cellF i r) i.n.toNat) i.n.toNat := by unfold chk numsE; rw [if_neg (by rw [h]; simp), if_pos h2, if_neg hk]
theorem shape_items {i : Ins} (h2 : shapeOK i) (hk : i.kind = 1) : (i.wt.length : Int) = i.n ∧ (i.vl.length : Int) = i.n ∧ i.cost.length = 0 := by
  rcases h2 with h | h
  · exact h.2
  · exact absurd hk h.1
theorem shape_rows {i : Ins} (h2 : shapeOK i) (hk : ¬ i.kind = 1) : (i.cost.length : Int) = i.n ∧ i.cap = 0 ∧ i.wt.length = 0 ∧ i.vl.length = 0 ∧ ∀ r, r < i.cost.length → ((i.cost.getD r []).length : Int) = i.n := by
  rcases h2 with h | h
  · exact absurd h.1 hk
  · exact h.2
set_option maxRecDepth 100000 in
set_option maxHeartbeats 400000 in
theorem check05 (i : Ins) (ax3 : Option Addr) (cx3 : Nat) (ax4 : Option Addr) (cx4 : Nat) (ax5 : Option Addr) (cx5 : Nat) (hsm : i.wt.length ≤ 1000000 ∧ i.vl.length ≤ 1000000) (w : World) (hx3 : IntSl w (.slice ax3 i.wt.length cx3) i.wt) (hx4 : IntSl w (.slice ax4 i.vl.length cx4) i.vl) (hx5 : RowsV w (.slice ax5 i.cost.length cx5) i.cost) :
  Calls Try.prog 35 #[.agg #[.int .i64 i.kind, .int .i64 i.n, .int .i64 i.cap, .slice ax3 i.wt.length cx3, .slice ax4 i.vl.length cx4, .slice ax5 i.cost.length cx5]] w fun e w' => e = .returned (.int .i64 (chk i)) ∧ Below w.heap.size w w' := by
 have hbs := Below.refl (B := w.heap.size) w
 have hM := Mem.start w
 refine Calls.of_ends (vs := [.agg #[.int .i64 i.kind, .int .i64 i.n, .int .i64 i.cap, .slice ax3 i.wt.length cx3, .slice ax4 i.vl.length cx4, .slice ax5 i.cost.length cx5]]) Try.func35 rfl Try.ntmps35 rfl ?_
 intro a hA
 replace hA : St 21 [(0, _)] a := hA
 refine Ends.seq (Ends.region ?_)
 refine S.box hA hM rfl rfl ?_; clear hA hM a; intro b1 w1 hb2 hM a hA
 replace hM : Mem _ _ [pt b1 #[.int .i64 i.kind, .int .i64 i.n, .int .i64 i.cap, .slice ax3 i.wt.length cx3, .slice ax4 i.vl.length cx4, .slice ax5 i.cost.length cx5] 25] _ := hM
 refine S.val hA (R.assign rfl) rfl ?_; clear hA a; intro a hA
 refine S.done ?_
 refine Ends.seq (Ends.seq (Ends.region ?_))
 refine S.val hA (R.loadA sz25 rfl (hM.range (k := 0) rfl) rfl) rfl ?_; clear hA a; intro a hA
 refine S.call hA (R.callF Try.func53 rfl rfl rfl) rfl (size05 i ax3 cx3 ax4 cx4 ax5 cx5 _ (hx3.mem hM) (hx4.mem hM) (hx5.mem hM)) ?_; clear hA a
 rintro e w2 ⟨rfl, hb⟩
 replace hM := hM.callB hb; clear hb
 refine ⟨.int .i64 (sizeE i), rfl, fun a hA => ?_⟩
 refine S.val hA (R.assign rfl) rfl ?_; clear hA a; intro a hA
 refine S.done ?_
 replace hA : St 21 [(1, _), (3, _)] a := hA.sub ((.cons rfl (.cons rfl .nil)))
 refine Ends.seq (Ends.region ?_)
 refine S.val hA (R.move rfl) rfl ?_; clear hA a; intro a hA
 refine S.val hA (R.neq rfl rfl) rfl ?_; clear hA a; intro a hA
 refine S.done ?_
 refine Ends.ite hA rfl (fun hc3 => ?_) (fun hc3 => ?_)
 ·
  refine Ends.seq (Ends.region ?_)
  refine S.val hA (R.move rfl) rfl ?_; clear hA a; intro a hA
  refine S.val hA (R.assign rfl) rfl ?_; clear hA a; intro a hA
  refine S.done ?_
  replace hA : St 21 [(1, _), (2, _)] a := hA.sub ((.cons rfl (.cons rfl .nil)))
  refine Ends.ret1 Try.func35 Try.results35 hA rfl ?_
  exact ⟨by rw [chk_size hc3], Mem.trans0 hbs hM.nilL⟩
 ·
  have hs0 : sizeE i = 0 := Decidable.not_not.1 hc3
  refine Ends.skip (Ends.seq (Ends.block (Ends.seq (Ends.region ?_))))
  refine S.val hA (R.loadA sz25 rfl (hM.range (k := 0) rfl) rfl) rfl ?_; clear hA a; intro a hA
  refine S.call hA (R.callF Try.func54 rfl rfl rfl) rfl (shape05 i ax3 cx3 ax4 cx4 ax5 cx5 hsm _ (hx3.mem hM) (hx4.mem hM) (hx5.mem hM)) ?_; clear hA a
  rintro e w3 ⟨bs4, rfl, hbs_5, hb⟩
  replace hM := hM.callB hb; clear hb
  refine ⟨.bool bs4, rfl, fun a hA => ?_⟩
  refine S.val hA (R.not rfl) rfl ?_; clear hA a; intro a hA
  refine S.val hA (R.assign rfl) rfl ?_; clear hA a; intro a hA
  refine S.done ?_
  replace hA : St 21 [(1, _), (9, _)] a := hA.sub ((.cons rfl (.cons rfl .nil)))
  refine Ends.iteB hA rfl (fun hc6 => ?_) (fun hc6 => ?_)
  ·
   have hns : ¬ shapeOK i := fun h9 => by have h8 := hbs_5.2 h9; rw [h8] at hc6; cases hc6
   refine Ends.seq (Ends.region ?_)
   refine S.val hA (R.assign rfl) rfl ?_; clear hA a; intro a hA
   refine S.done ?_
   refine Ends.ret1 Try.func35 Try.results35 hA rfl ?_
   exact ⟨by rw [chk_shape hs0 hns], Mem.trans0 hbs hM.nilL⟩
  ·
   have hss : shapeOK i := hbs_5.1 (by simpa using hc6)
   refine Ends.seq (Ends.region ?_)
   refine S.val hA (R.fieldAddr (q := 0) fi25_0 rfl rfl rfl) rfl ?_; clear hA a; intro a hA
   refine S.val hA (R.load sz3 rfl (hM.cell (k := 0) rfl rfl)) rfl ?_; clear hA a; intro a hA
   refine S.val hA (R.eql rfl rfl) rfl ?_; clear hA a; intro a hA
   refine S.val hA (R.assign rfl) rfl ?_; clear hA a; intro a hA
   refine S.done ?_
   replace hA : St 21 [(1, _), (13, _)] a := hA.sub ((.cons rfl (.cons rfl .nil)))
   refine Ends.ite hA rfl (fun hc7 => ?_) (fun hc7 => ?_)
   ·
    have hsp := shape_items hss hc7
    have hkd := hc7
    refine Ends.seq (Ends.region ?_)
    refine S.val hA (R.loadA sz25 rfl (hM.range (k := 0) rfl) rfl) rfl ?_; clear hA a; intro a hA
    refine S.call hA (R.callF Try.func55 rfl rfl rfl) rfl (items05 i ax3 cx3 ax4 cx4 ax5 cx5 ⟨hsp.1, hsp.2.1⟩ _ (hx3.mem hM) (hx4.mem hM) (hx5.mem hM)) ?_; clear hA a
    rintro e w4 ⟨rfl, hb⟩
    replace hM := hM.callB hb; clear hb
    refine ⟨.int .i64 (if numE i.cap ≠ 0 then numE i.cap else pfx (itF i) i.n.toNat), rfl, fun a hA => ?_⟩
    refine S.val hA (R.assign rfl) rfl ?_; clear hA a; intro a hA
    refine S.done ?_
    refine Ends.ret1 Try.func35 Try.results35 hA rfl ?_
    exact ⟨by rw [chk_items hs0 hss hkd], Mem.trans0 hbs hM.nilL⟩
   ·
    have hsp := shape_rows hss hc7
    have hkd := hc7
    refine Ends.skip (Ends.inBlock (Ends.seq (Ends.region ?_)))
    refine S.val hA (R.loadA sz25 rfl (hM.range (k := 0) rfl) rfl) rfl ?_; clear hA a; intro a hA
    refine S.call hA (R.callF Try.func56 rfl rfl rfl) rfl (rows05 i ax3 cx3 ax4 cx4 ax5 cx5 hsp.2.2.2.2 hsp.1 _ (hx3.mem hM) (hx4.mem hM) (hx5.mem hM)) ?_; clear hA a
    rintro e w5 ⟨rfl, hb⟩
    replace hM := hM.callB hb; clear hb
    refine ⟨.int .i64 (pfx (fun r => pfx (cellF i r) i.n.toNat) i.n.toNat), rfl, fun a hA => ?_⟩
    refine S.val hA (R.assign rfl) rfl ?_; clear hA a; intro a hA
    refine S.done ?_
    replace hA : St 21 [(2, _)] a := hA.sub ((.cons rfl .nil))
    refine Ends.ret1 Try.func35 Try.results35 hA rfl ?_
    exact ⟨by rw [chk_rows hs0 hss hkd], Mem.trans0 hbs hM.nilL⟩
end Go.Proofs.Ytnikajkklocncaa
namespace Go.Proofs.Ytnikajkklocncaa
open Go.RowKit
theorem chk_inF {i : Ins} (h : chk i = 0) : InF i := by
  unfold chk at h
  split at h
  · rename_i q; exact absurd h q
  · rename_i q
    split at h
    · rename_i q2; exact inF_of (Decidable.not_not.1 q) q2 h
    · cases h
end Go.Proofs.Ytnikajkklocncaa
