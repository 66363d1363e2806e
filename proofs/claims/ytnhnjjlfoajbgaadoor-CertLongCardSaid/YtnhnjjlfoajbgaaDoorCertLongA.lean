/-
  CertLong, part 1 of 2: what the code computes, and plain laws; no condition beside those that each theorem tells.
-/
import Derived.Shelf.Strings.Builder1
import Derived.Shelf.Strings.Builder2
import Derived.Shelf.Strings.OnBuilder
import Derived.Shelf.Strings.BuilderF
import Derived.Shelf.Strings.BuilderK
import Derived.Shelf.Strings.Builder2Cap
import Derived.Shelf.Strconv.Itoa0
import Derived.Shelf.Strconv.Itoa1
import Derived.Shelf.LaysM
import Derived.Shelf.Strconv.Itoa2
import Derived.Shelf.Strconv.Itoa3
import Derived.Shelf.Strings.BuilderCap
import Derived.Test.YtnhnjjlfoajbgaaDoorProg
import Derived.WalkKit
import Derived.OrdersHeld
import Derived.Deep.RegionHeld
import Derived.KernelRfl
import Derived.WalkSpells
import Derived.WalkLawsBesides
import Derived.OneCell
import Derived.Deep.QuietTactic
import Derived.BigQuiet
import Derived.Deep.MidRow
import Derived.Laws.OwnMore
import Derived.Great.BuildSlice
import Derived.Laws.RangeAny
import Derived.Lib.RuneCount
import Derived.Lib.Strings
import Derived.Laws.Strings
import Derived.Laws.Strings2
import Derived.Laws.Strings3
import Derived.Laws.Concat
import Derived.Laws.StructEq
import Derived.Lib.LaidTab
import Derived.Lib.LaidU8
import Derived.Lib.ItoaNum
import Derived.Test.YtnhnjjlfoajbgaaDoorRows
import Derived.Lib.IndexLaws
import Derived.Shelf.Unicode.DecodeSlow
import Derived.Lib.Join
import Derived.Lib.ItoaLen
import Derived.Lib.ItoaMem
import Derived.Laws.BytesString
namespace Go.Proofs
open Go.Shelf
def Tryd.lays156_ren : Go.Shelf.Ren := ⟨fun | 156 => 18 | 165 => 29 | 166 => 30 | 169 => 31 | 240 => 36 | 241 => 37 | 276 => 41 | 277 => 42 | n => n, fun | 31 => 45 | 9 => 9 | 3 => 3 | 4 => 4 | 0 => 0 | 20 => 20 | 72 => 63 | 76 => 67 | 70 => 61 | 37 => 43 | 75 => 66 | 127 => 74 | 164 => 76 | 5 => 5 | 80 => 69 | n => n, fun | n => n⟩
theorem Tryd.lays156 : Go.Proofs.Lays.n156 Tryd.prog Tryd.lays156_ren := {
 mixed := by kernel_rfl
 f156 := Tryd.func18.trans (congrArg some (by kernel_rfl))
 f165 := Tryd.func29.trans (congrArg some (by kernel_rfl))
 f166 := Tryd.func30.trans (congrArg some (by kernel_rfl))
 f169 := Tryd.func31.trans (congrArg some (by kernel_rfl))
 f240 := Tryd.func36.trans (congrArg some (by kernel_rfl))
 f241 := Tryd.func37.trans (congrArg some (by kernel_rfl))
 f276 := Tryd.func41.trans (congrArg some (by kernel_rfl))
 f277 := Tryd.func42.trans (congrArg some (by kernel_rfl))
 t0 := Tryd.underlying0
 a0 := Tryd.isAgg0
 z0 := Tryd.sizeOf0
 v0 := Tryd.zeroValue0
 t3 := Tryd.underlying3
 a3 := Tryd.isAgg3
 z3 := Tryd.sizeOf3
 v3 := Tryd.zeroValue3
 t4 := Tryd.underlying4
 a4 := Tryd.isAgg4
 z4 := Tryd.sizeOf4
 v4 := Tryd.zeroValue4
 t9 := Tryd.underlying9
 a9 := Tryd.isAgg9
 z9 := Tryd.sizeOf9
 v9 := Tryd.zeroValue9
 t20 := Tryd.underlying20
 a20 := Tryd.isAgg20
 z20 := Tryd.sizeOf20
 v20 := Tryd.zeroValue20
 t31 := Tryd.underlying45
 a31 := Tryd.isAgg45
 z31 := Tryd.sizeOf45
 v31 := Tryd.zeroValue45
 t37 := Tryd.underlying43
 a37 := Tryd.isAgg43
 z37 := Tryd.sizeOf43
 v37 := Tryd.zeroValue43
 t70 := Tryd.underlying61
 a70 := Tryd.isAgg61
 z70 := Tryd.sizeOf61
 v70 := Tryd.zeroValue61
 t72 := Tryd.underlying63
 a72 := Tryd.isAgg63
 z72 := Tryd.sizeOf63
 v72 := Tryd.zeroValue63
 t75 := Tryd.underlying66
 a75 := Tryd.isAgg66
 z75 := Tryd.sizeOf66
 v75 := Tryd.zeroValue66
 t76 := Tryd.underlying67
 a76 := Tryd.isAgg67
 z76 := Tryd.sizeOf67
 v76 := Tryd.zeroValue67
 t127 := Tryd.underlying74
 a127 := Tryd.isAgg74
 z127 := Tryd.sizeOf74
 v127 := Tryd.zeroValue74
 t164 := Tryd.underlying76
 a164 := Tryd.isAgg76
 z164 := Tryd.sizeOf76
 v164 := Tryd.zeroValue76 }
theorem Tryd.Builder_Extra_156 : Builder.Extra Tryd.prog Tryd.lays156_ren := {
  sizeBuilder := by kernel_rfl
  liesBuilder := by kernel_rfl
  t5 := Tryd.underlying5
  a5 := Tryd.isAgg5
  z5 := Tryd.sizeOf5
  v5 := Tryd.zeroValue5
  infoByte := by kernel_rfl
  cellsByte := by kernel_rfl
  sizeByte := by kernel_rfl
  neB5 := by decide }
open Go.RowKit in
theorem Tryd.strings_Join (bk o c : Nat) (xs : List ByteArray) (sep : ByteArray) (w : World) (hcells : ∀ (j : Nat) x, xs[j]? = some x → w.cell? ⟨bk, o + j, none⟩ = some (.string x)) (hbk : bk < w.heap.size) (hN : xs.length ≤ 140737488355328) (hcap : xs.length ≤ c) (hlen : (Lib.join (xs.map (·.data.toList)) sep.data.toList).length ≤ 140737488355328) :
    Calls Tryd.prog 18 #[.slice (some ⟨bk, o, none⟩) xs.length c, .string sep] w fun e w' => e = .returned (.string ⟨(Lib.join (xs.map (·.data.toList)) sep.data.toList).toArray⟩) ∧ Below w.heap.size w w' := Any.strings_Join Tryd.lays156 Tryd.Builder_Extra_156 bk o c xs sep w hcells hbk hN hcap hlen
def Tryd.laysM171_ren : Go.Shelf.Ren := ⟨fun | 171 => 28 | 243 => 35 | 246 => 40 | 283 => 44 | 284 => 45 | 285 => 46 | 286 => 47 | 129 => 50 | 317 => 49 | 318 => 51 | 319 => 52 | 320 => 53 | 337 => 54 | 338 => 55 | n => n, fun | 3 => 3 | 9 => 9 | 2 => 2 | 4 => 4 | 171 => 80 | 0 => 0 | 53 => 41 | 37 => 43 | 5 => 5 | 173 => 83 | 212 => 88 | 51 => 89 | 20 => 20 | 213 => 90 | 46 => 91 | 232 => 94 | 233 => 95 | n => n, fun | 17 => 1 | 18 => 2 | 19 => 3 | n => n⟩
theorem Tryd.laysM171 : Go.Proofs.LaysM.n171 Tryd.prog Tryd.laysM171_ren := {
 mixed := by kernel_rfl
 f129 := Tryd.func50.trans (congrArg some (by kernel_rfl))
 f171 := Tryd.func28.trans (congrArg some (by kernel_rfl))
 f243 := Tryd.func35.trans (congrArg some (by kernel_rfl))
 f246 := Tryd.func40.trans (congrArg some (by kernel_rfl))
 f283 := Tryd.func44.trans (congrArg some (by kernel_rfl))
 f284 := Tryd.func45.trans (congrArg some (by kernel_rfl))
 f285 := Tryd.func46.trans (congrArg some (by kernel_rfl))
 f286 := Tryd.func47.trans (congrArg some (by kernel_rfl))
 f317 := Tryd.func49.trans (congrArg some (by kernel_rfl))
 f318 := Tryd.func51.trans (congrArg some (by kernel_rfl))
 f319 := Tryd.func52.trans (congrArg some (by kernel_rfl))
 f320 := Tryd.func53.trans (congrArg some (by kernel_rfl))
 f337 := Tryd.func54.trans (congrArg some (by kernel_rfl))
 f338 := Tryd.func55.trans (congrArg some (by kernel_rfl))
 t0 := Tryd.underlying0
 a0 := Tryd.isAgg0
 z0 := Tryd.sizeOf0
 v0 := Tryd.zeroValue0
 t2 := Tryd.underlying2
 a2 := Tryd.isAgg2
 z2 := Tryd.sizeOf2
 v2 := Tryd.zeroValue2
 t3 := Tryd.underlying3
 a3 := Tryd.isAgg3
 z3 := Tryd.sizeOf3
 v3 := Tryd.zeroValue3
 t4 := Tryd.underlying4
 a4 := Tryd.isAgg4
 z4 := Tryd.sizeOf4
 v4 := Tryd.zeroValue4
 t5 := Tryd.underlying5
 a5 := Tryd.isAgg5
 z5 := Tryd.sizeOf5
 v5 := Tryd.zeroValue5
 t9 := Tryd.underlying9
 a9 := Tryd.isAgg9
 z9 := Tryd.sizeOf9
 v9 := Tryd.zeroValue9
 t20 := Tryd.underlying20
 a20 := Tryd.isAgg20
 z20 := Tryd.sizeOf20
 v20 := Tryd.zeroValue20
 t37 := Tryd.underlying43
 a37 := Tryd.isAgg43
 z37 := Tryd.sizeOf43
 v37 := Tryd.zeroValue43
 t46 := Tryd.underlying91
 a46 := Tryd.isAgg91
 z46 := Tryd.sizeOf91
 v46 := Tryd.zeroValue91
 t51 := Tryd.underlying89
 a51 := Tryd.isAgg89
 z51 := Tryd.sizeOf89
 v51 := Tryd.zeroValue89
 t53 := Tryd.underlying41
 a53 := Tryd.isAgg41
 z53 := Tryd.sizeOf41
 v53 := Tryd.zeroValue41
 t171 := Tryd.underlying80
 a171 := Tryd.isAgg80
 z171 := Tryd.sizeOf80
 v171 := Tryd.zeroValue80
 t173 := Tryd.underlying83
 a173 := Tryd.isAgg83
 z173 := Tryd.sizeOf83
 v173 := Tryd.zeroValue83
 t212 := Tryd.underlying88
 a212 := Tryd.isAgg88
 z212 := Tryd.sizeOf88
 v212 := Tryd.zeroValue88
 t213 := Tryd.underlying90
 a213 := Tryd.isAgg90
 z213 := Tryd.sizeOf90
 t232 := Tryd.underlying94
 a232 := Tryd.isAgg94
 z232 := Tryd.sizeOf94
 v232 := Tryd.zeroValue94
 t233 := Tryd.underlying95
 a233 := Tryd.isAgg95
 z233 := Tryd.sizeOf95
 v233 := Tryd.zeroValue95
 g17 := by kernel_rfl
 g18 := by kernel_rfl
 g19 := by kernel_rfl
 i0 := by kernel_rfl
 i2 := by kernel_rfl
 i3 := by kernel_rfl
 i4 := by kernel_rfl
 i5 := by kernel_rfl
 i9 := by kernel_rfl
 i20 := by kernel_rfl
 i37 := by kernel_rfl
 i46 := by kernel_rfl
 i51 := by kernel_rfl
 i53 := by kernel_rfl
 i171 := by kernel_rfl
 i173 := by kernel_rfl
 i212 := by kernel_rfl
 i232 := by kernel_rfl
 i233 := by kernel_rfl
 m17 := by kernel_rfl
 m18 := by kernel_rfl
 m19 := by kernel_rfl }
open Go.RowKit Go.Sort Go.Lib in
theorem Tryd.strconv_Itoa (n : Int) (h0 : -9223372036854775808 ≤ n) (h1 : n ≤ 9223372036854775807) (w : World) (htab : Lib.TabIs Tryd.prog w "internal/strconv.uint64pow10" .u64 Lib.pow10Tab) :
    Calls Tryd.prog 28 #[.int .i64 n] w fun e w' => e = .returned (.string ⟨(Lib.itoa n).toArray⟩) ∧ ∃ k os, w' = grow (w.drewN k) os := Any.strconv_Itoa Tryd.laysM171 n h0 h1 w htab
end Go.Proofs
namespace Go.Proofs.YtnhnjjlfoajbgaaDoor
section
open Go.RowKit
def lk : List (Nat × Value) → Nat → Option Value
  | [], _ => none
  | (j, v) :: l, i => match Nat.beq i j with | true => some v | false => lk l i
def opv (l : List (Nat × Value)) : Operand → Option Value
  | .tmp t => lk l t
  | .const v => some v
  | .global g => some (.pointer (some ⟨g, 0, none⟩))
  | .func f => some (.func (.func f) #[] #[])
def opvs (l : List (Nat × Value)) : List Operand → Option (List Value)
  | [] => some []
  | x :: xs => match opv l x with
    | none => none
    | some v => match opvs l xs with
      | none => none
      | some vs => some (v :: vs)
structure St (n : Nat) (l : List (Nat × Value)) (a : Act) : Prop where
  size : a.tmps.size = n
  defers : a.defers = []
  has : ∀ i v, lk l i = some v → a.tmps[i]? = some v
theorem St.eval {n : Nat} {l : List (Nat × Value)} {a : Act} (h : St n l a) {x : Operand} {v : Value} (hx : opv l x = some v) : a.eval x = v := by
  cases x with
  | tmp t =>
    have := h.has t v hx
    simp only [Act.eval, Array.getD_eq_getD_getElem?, this, Option.getD_some]
  | const u => simpa [opv, Act.eval] using hx
  | global g => simpa [opv, Act.eval] using hx
  | func f => simpa [opv, Act.eval] using hx
theorem St.put {n : Nat} {l : List (Nat × Value)} {a : Act} (h : St n l a) {d : Nat} (hd : Nat.blt d n = true) (v : Value) : St n ((d, v) :: l) (a.put (some d) v) := by
  have hd' : d < n := Nat.le_of_ble_eq_true hd
  refine ⟨by simp [Act.put, h.size], h.defers, fun i u hu => ?_⟩
  simp only [lk] at hu
  show (a.tmps.setIfInBounds d v)[i]? = some u
  rw [Array.getElem?_setIfInBounds]
  by_cases hi : d = i
  · subst hi
    have e : Nat.beq d d = true := by simp
    rw [e] at hu
    simp only [Option.some.injEq] at hu
    rw [if_pos rfl, if_pos (by rw [h.size]; exact hd'), hu]
  · have e : Nat.beq i d = false := by
      rw [← Bool.not_eq_true, Nat.beq_eq]; exact fun e => hi e.symm
    rw [e] at hu
    rw [if_neg hi]
    exact h.has i u hu
def Sub (l : List (Nat × Value)) : List (Nat × Value) → Prop
  | [] => True
  | (i, v) :: r => lk l i = some v ∧ Sub l r
theorem Sub.lk {l : List (Nat × Value)} : ∀ {m : List (Nat × Value)}, Sub l m → ∀ i v, Go.Proofs.YtnhnjjlfoajbgaaDoor.lk m i = some v → Go.Proofs.YtnhnjjlfoajbgaaDoor.lk l i = some v
  | [], _, i, v, h => by simp [Go.Proofs.YtnhnjjlfoajbgaaDoor.lk] at h
  | (j, u) :: m, ⟨h1, h2⟩, i, v, h => by
    simp only [Go.Proofs.YtnhnjjlfoajbgaaDoor.lk] at h
    by_cases e : i = j
    · subst e
      have e' : Nat.beq i i = true := by simp
      rw [e'] at h
      simp only [Option.some.injEq] at h
      rw [← h]; exact h1
    · have e' : Nat.beq i j = false := by rw [← Bool.not_eq_true, Nat.beq_eq]; exact e
      rw [e'] at h
      exact Sub.lk h2 i v h
theorem Sub.nil {l : List (Nat × Value)} : Sub l [] := trivial
theorem Sub.cons {l m : List (Nat × Value)} {i : Nat} {v : Value} (h : Go.Proofs.YtnhnjjlfoajbgaaDoor.lk l i = some v) (hs : Sub l m) : Sub l ((i, v) :: m) := ⟨h, hs⟩
theorem St.sub {n : Nat} {l m : List (Nat × Value)} {a : Act} (h : St n l a) (hs : Sub l m) : St n m a := ⟨h.size, h.defers, fun i v hv => h.has i v (hs.lk i v hv)⟩
def ini : Nat → List Value → List (Nat × Value)
  | _, [] => []
  | i, v :: vs => (i, v) :: ini (i + 1) vs
theorem ini_lk : ∀ (vs : List Value) (k i : Nat) (v : Value), lk (ini k vs) i = some v → k ≤ i ∧ vs[i - k]? = some v
  | [], k, i, v, h => by simp [ini, lk] at h
  | u :: vs, k, i, v, h => by
    simp only [ini, lk] at h
    by_cases e : i = k
    · subst e
      have e' : Nat.beq i i = true := by simp
      rw [e'] at h
      simp only [Option.some.injEq] at h
      exact ⟨Nat.le_refl _, by simp [h]⟩
    · have e' : Nat.beq i k = false := by rw [← Bool.not_eq_true, Nat.beq_eq]; exact e
      rw [e'] at h
      obtain ⟨h1, h2⟩ := ini_lk vs (k + 1) i v h
      refine ⟨by omega, ?_⟩
      rw [show i - k = (i - (k + 1)) + 1 by omega]
      simpa using h2
def Ends (P : Program) (f : FuncId) (R : Ending → World → Prop) (k : List Item) (a : Act) (w : World) : Prop :=
  ∀ (b : Frame) (cs : List Frame), b.fn = f → b.kind = .normal → ∃ e w' fr, R e w' ∧ Comes P (lone (b.at a k) cs w) (lone fr cs w') e ∧ fr.fn = f ∧ fr.leaving P w' e
section
variable {P : Program} {f : FuncId} {R : Ending → World → Prop} {k : List Item} {a : Act} {w : World} {n : Nat} {l : List (Nat × Value)}
theorem Ends.step {k' : List Item} {a' : Act} {w' : World} (hs : ∀ (b : Frame) cs, b.fn = f → b.kind = .normal → Steps P (lone (b.at a k) cs w) (lone (b.at a' k') cs w')) (h : Ends P f R k' a' w') : Ends P f R k a w :=
  fun b cs hf hk => by
    obtain ⟨e, w2, fr, hR, hc, h1, h2⟩ := h b cs hf hk
    exact ⟨e, w2, fr, hR, hc.of_steps (hs b cs hf hk), h1, h2⟩
def Aft (P : Program) (f : FuncId) (R : Ending → World → Prop) (k : List Item) : Exit → Act → World → Prop
  | .normal, a, w => Ends P f R k a w
  | _, _, _ => False
theorem Ends.of_wp {c : Code} (h : c.wp P (Aft P f R k) a w) : Ends P f R (.code c :: k) a w := fun b cs hf hk => by
  obtain ⟨e, a', w', hq, harr⟩ := h b k cs
  cases e with
  | normal =>
    obtain ⟨e, w2, fr, hR, hc, h1, h2⟩ := hq b cs hf hk
    exact ⟨e, w2, fr, hR, hc.of_steps harr, h1, h2⟩
  | _ => exact hq.elim
theorem Ends.seq {x y : Code} (h : Ends P f R (.code x :: .code y :: k) a w) : Ends P f R (.code (.seq x y) :: k) a w :=
  Ends.step (fun _ _ _ _ => .one step_seq) h
theorem Ends.skip (h : Ends P f R k a w) : Ends P f R (.code .skip :: k) a w := Ends.step (fun _ _ _ _ => .one step_skip) h
theorem Ends.block {id : Nat} {c : Code} (h : Ends P f R (.code c :: .inBlock id :: k) a w) : Ends P f R (.code (.block id c) :: k) a w :=
  Ends.step (fun _ _ _ _ => .one step_block) h
theorem Ends.inBlock {id : Nat} (h : Ends P f R k a w) : Ends P f R (.inBlock id :: k) a w := Ends.step (fun _ _ _ _ => .one step_inBlock) h
theorem Ends.exit {id : Nat} {k' : List Item} (he : exitTo id k = some k') (h : Ends P f R k' a w) : Ends P f R (.code (.exit id) :: k) a w :=
  Ends.step (fun _ _ _ _ => .one (step_exit he)) h
theorem Ends.inLoop {c : Code} (h : Ends P f R (.code c :: .inLoop c :: k) a w) : Ends P f R (.inLoop c :: k) a w := Ends.step (fun _ _ _ _ => .one step_inLoop) h
theorem Ends.condT {c : Operand} {x y : Code} (hA : St n l a) (hc : opv l c = some (.bool true)) (h : Ends P f R (.code x :: k) a w) : Ends P f R (.code (.cond c x y) :: k) a w :=
  Ends.step (fun _ _ _ _ => .one (step_cond (t := true) (hA.eval hc))) h
theorem Ends.condF {c : Operand} {x y : Code} (hA : St n l a) (hc : opv l c = some (.bool false)) (h : Ends P f R (.code y :: k) a w) : Ends P f R (.code (.cond c x y) :: k) a w :=
  Ends.step (fun _ _ _ _ => .one (step_cond (t := false) (hA.eval hc))) h
theorem Ends.ite {c : Operand} {x y : Code} {p : Prop} [Decidable p] (hA : St n l a) (hc : opv l c = some (.bool (decide p)))
    (ht : p → Ends P f R (.code x :: k) a w) (hf : ¬ p → Ends P f R (.code y :: k) a w) : Ends P f R (.code (.cond c x y) :: k) a w := by
  by_cases hp : p
  · rw [decide_eq_true hp] at hc; exact Ends.condT hA hc (ht hp)
  · rw [decide_eq_false hp] at hc; exact Ends.condF hA hc (hf hp)
theorem Ends.iteB {c : Operand} {x y : Code} {p : Bool} (hA : St n l a) (hc : opv l c = some (.bool p))
    (ht : p = true → Ends P f R (.code x :: k) a w) (hf : p = false → Ends P f R (.code y :: k) a w) : Ends P f R (.code (.cond c x y) :: k) a w := by
  cases p
  · exact Ends.condF hA hc (hf rfl)
  · exact Ends.condT hA hc (ht rfl)
theorem Ends.loop {c : Code} {σ : Type} (I : σ → Act → World → Prop) (μ : σ → Nat) (s0 : σ) (h0 : I s0 a w)
    (hr : ∀ s a w, I s a w → (∀ s' a' w', μ s' < μ s → I s' a' w' → Ends P f R (.inLoop c :: k) a' w') → Ends P f R (.code c :: .inLoop c :: k) a w) :
    Ends P f R (.code (.loop c) :: k) a w := by
  have key : ∀ m s a w, μ s = m → I s a w → Ends P f R (.code c :: .inLoop c :: k) a w := by
    intro m
    induction m using Nat.strongRecOn with
    | _ m ih =>
      intro s a w hm hI
      exact hr s a w hI fun s' a' w' hlt hI' => Ends.inLoop (ih _ (hm ▸ hlt) s' a' w' rfl hI')
  exact Ends.step (fun _ _ _ _ => .one step_loop) (key _ s0 a w rfl h0)
theorem Ends.cut {c : Code} (I : Act → World → Prop) (h2 : ∀ a w, I a w → Ends P f R k a w)
    (h1 : ∀ k' : List Item, (∀ a w, I a w → Ends P f R k' a w) → Ends P f R (.code c :: k') a w) : Ends P f R (.code c :: k) a w := h1 k h2
theorem Ends.to_ret {v : Value} {fn : Func} (hf : P.funcs[f]? = some fn) (hd : a.defers = []) (hr : (results fn a.tmps).run P w = .ok v w) (hR : R (.returned v) w) :
    Ends P f R (.code .ret :: k) a w := fun b cs hb hk =>
  ⟨.returned v, w, _, hR, .one step_ret, hb, rfl, hd, by rw [show ({ b.at a (.code .ret :: k) with mode := .returning } : Frame).kind = b.kind from rfl, hk], fn,
    by rw [show ({ b.at a (.code .ret :: k) with mode := .returning } : Frame).fn = b.fn from rfl, hb]; exact hf, hr⟩
theorem St.getD (hA : St n l a) {t : Nat} {v : Value} (h : lk l t = some v) : a.tmps.getD t undef = v := by
  have := hA.has t v h
  simp only [Array.getD_eq_getD_getElem?, this, Option.getD_some]
section
variable {fn : Func} (hf : P.funcs[f]? = some fn)
include hf
theorem Ends.ret1 {t : Nat} {v : Value} (hr : fn.results = #[.tmp t]) (hA : St n l a) (h1 : lk l t = some v) (hR : R (.returned v) w) : Ends P f R (.code .ret :: k) a w :=
  Ends.to_ret hf hA.defers (by rw [results_tmp hr, hA.getD h1]) hR
theorem Ends.ret2 {t u : Nat} {v x : Value} (hr : fn.results = #[.tmp t, .tmp u]) (hA : St n l a) (h1 : lk l t = some v) (h2 : lk l u = some x) (hR : R (.returned (.tuple #[v, x])) w) : Ends P f R (.code .ret :: k) a w :=
  Ends.to_ret hf hA.defers (by rw [results_tmp2 hr, hA.getD h1, hA.getD h2]) hR
theorem Ends.ret3 {t u s : Nat} {v x y : Value} (hr : fn.results = #[.tmp t, .tmp u, .tmp s]) (hA : St n l a) (h1 : lk l t = some v) (h2 : lk l u = some x) (h3 : lk l s = some y) (hR : R (.returned (.tuple #[v, x, y])) w) : Ends P f R (.code .ret :: k) a w :=
  Ends.to_ret hf hA.defers (v := .tuple #[v, x, y]) (by simp [results, hr, hA.has _ _ h1, hA.has _ _ h2, hA.has _ _ h3]) hR
end
theorem Calls.of_ends {fn : Func} {c : Code} {vs : List Value} (hf : P.funcs[f]? = some fn) (hb : fn.body = some c) (hn : fn.ntmps = n) (hv : Nat.ble vs.length n = true)
    (h : ∀ a, St n (ini 0 vs) a → Ends P f R [.code c] a w) : Calls P f vs.toArray w R := by
  intro cs
  have hle : vs.length ≤ n := by simpa using hv
  let b : Frame := { (default : Frame) with fn := f, kind := .normal }
  have henter : Frame.enter P f vs.toArray .normal =
      b.at { tmps := vs.toArray ++ Array.replicate (fn.ntmps - vs.toArray.size) undef, defers := [] } [.code c] := by
    simp [Frame.enter, Frame.at, hf, hb, b]
  rw [henter]
  refine h _ ⟨?_, rfl, fun i v hi => ?_⟩ b cs rfl rfl
  · simp [hn]; omega
  · obtain ⟨-, h2⟩ := ini_lk vs 0 i v hi
    have hlt : i < vs.length := by
      rcases Nat.lt_or_ge i vs.length with g | g
      · exact g
      · rw [List.getElem?_eq_none (by simpa using g)] at h2; cases h2
    rw [Array.getElem?_append_left (by simpa using hlt)]
    simpa using h2
theorem Ends.region {id : Nat} {os : List Oper} (h : wpList P os.toArray (Aft P f R k) os a w) : Ends P f R (.code (.region id os.toArray false) :: k) a w :=
  Ends.of_wp (wp_region_lit h)
def RunN (P : Program) (l : List (Nat × Value)) (w : World) (op : Op) (ty : TypeId) (r : Next) (w' : World) : Prop :=
  ∀ ev : Operand → Value, (∀ x u, opv l x = some u → ev x = u) → ∀ dst pos aft g, (execOp ev { dst, op, type := ty, pos, after := aft, guard := g }).run P w = .ok r w'
abbrev Run (P : Program) (l : List (Nat × Value)) (w : World) (op : Op) (ty : TypeId) (v : Value) (w' : World) : Prop := RunN P l w op ty (.value v) w'
def dstOf (ops : Array Oper) (j : Nat) : Option Tmp := (ops[j]?).bind (·.dst)
theorem wanted_of {ops : Array Oper} {o : Oper} {j d : Nat} {b u : Bool} (hA : St n l a) (hg : o.guard = some (j, b)) (hj : dstOf ops j = some d) (hl : lk l d = some (.bool u)) : Region.wanted o (yielded ops a.tmps) = (u == b) := by
  have h1 := hA.has d _ hl
  unfold dstOf at hj
  unfold Region.wanted yielded
  rw [hg]
  simp only [hj, Option.bind_some, h1]
  cases u <;> cases b <;> rfl
variable {ops : Array Oper} {Q : Exit → Act → World → Prop} {rest : List Oper} {w' : World}
theorem S.val {d : Nat} {op : Op} {ty : TypeId} {pos : String} {aft : Array Edge} {v : Value} (hA : St n l a) (hr : Run P l w op ty v w') (hd : Nat.blt d n = true)
    (h : ∀ a, St n ((d, v) :: l) a → wpList P ops Q rest a w') : wpList P ops Q ({ dst := some d, op, type := ty, pos, after := aft, guard := none } :: rest) a w := by
  refine wpList_plain rfl fun K hK => ?_
  unfold Oper.wp
  rw [hr a.eval (fun x u hx => hA.eval hx)]
  exact hK _ _ (h _ (hA.put hd v))
theorem S.valg {d j dj : Nat} {b : Bool} {op : Op} {ty : TypeId} {pos : String} {aft : Array Edge} {v : Value} (hA : St n l a) (hj : dstOf ops j = some dj) (hl : lk l dj = some (.bool b)) (hr : Run P l w op ty v w') (hd : Nat.blt d n = true)
    (h : ∀ a, St n ((d, v) :: l) a → wpList P ops Q rest a w') : wpList P ops Q ({ dst := some d, op, type := ty, pos, after := aft, guard := some (j, b) } :: rest) a w := by
  refine wpList_step fun K hK => ?_
  rw [if_pos (by rw [wanted_of hA rfl hj hl]; simp)]
  unfold Oper.wp
  rw [hr a.eval (fun x u hx => hA.eval hx)]
  exact hK _ _ (h _ (hA.put hd v))
theorem S.no {d j dj : Nat} {b u : Bool} {op : Op} {ty : TypeId} {pos : String} {aft : Array Edge} (hA : St n l a) (hj : dstOf ops j = some dj) (hl : lk l dj = some (.bool u)) (hu : (u == b) = false) (hd : Nat.blt d n = true)
    (h : ∀ a, St n ((d, undef) :: l) a → wpList P ops Q rest a w) : wpList P ops Q ({ dst := some d, op, type := ty, pos, after := aft, guard := some (j, b) } :: rest) a w := by
  refine wpList_step fun K hK => ?_
  rw [wanted_of hA rfl hj hl, hu]
  exact hK _ _ (h _ (hA.put hd undef))
theorem S.skip {op : Op} {ty : TypeId} {pos : String} {aft : Array Edge} (hA : St n l a) (hr : RunN P l w op ty .skip w')
    (h : wpList P ops Q rest a w') : wpList P ops Q ({ dst := none, op, type := ty, pos, after := aft, guard := none } :: rest) a w := by
  refine wpList_plain rfl fun K hK => ?_
  unfold Oper.wp
  rw [hr a.eval (fun x u hx => hA.eval hx)]
  exact hK _ _ h
theorem S.call {d : Nat} {op : Op} {ty : TypeId} {pos : String} {aft : Array Edge} {g : FuncId} {args : Array Value} {R' : Ending → World → Prop} (hA : St n l a) (hr : RunN P l w op ty (.enter g args) w) (hd : Nat.blt d n = true)
    (hc : Calls P g args w R') (h : ∀ e w', R' e w' → ∃ v, e = .returned v ∧ ∀ a, St n ((d, v) :: l) a → wpList P ops Q rest a w') :
    wpList P ops Q ({ dst := some d, op, type := ty, pos, after := aft, guard := none } :: rest) a w := by
  refine wpList_plain rfl fun K hK => ?_
  unfold Oper.wp
  rw [hr a.eval (fun x u hx => hA.eval hx)]
  refine hc.mono fun e w2 hR => ?_
  obtain ⟨v, rfl, hv⟩ := h e w2 hR
  exact hK _ _ (hv _ (hA.put hd v))
theorem S.callg {d j dj : Nat} {b : Bool} {op : Op} {ty : TypeId} {pos : String} {aft : Array Edge} {g : FuncId} {args : Array Value} {R' : Ending → World → Prop} (hA : St n l a) (hj : dstOf ops j = some dj) (hl : lk l dj = some (.bool b)) (hr : RunN P l w op ty (.enter g args) w) (hd : Nat.blt d n = true)
    (hc : Calls P g args w R') (h : ∀ e w', R' e w' → ∃ v, e = .returned v ∧ ∀ a, St n ((d, v) :: l) a → wpList P ops Q rest a w') :
    wpList P ops Q ({ dst := some d, op, type := ty, pos, after := aft, guard := some (j, b) } :: rest) a w := by
  refine wpList_step fun K hK => ?_
  rw [if_pos (by rw [wanted_of hA rfl hj hl]; simp)]
  unfold Oper.wp
  rw [hr a.eval (fun x u hx => hA.eval hx)]
  refine hc.mono fun e w2 hR => ?_
  obtain ⟨v, rfl, hv⟩ := h e w2 hR
  exact hK _ _ (hv _ (hA.put hd v))
theorem S.done (h : Ends P f R k a w) : wpList P ops (Aft P f R k) [] a w := h
theorem St.same {d : Nat} {v : Value} (hA : St n l a) (hl : lk l d = some v) : St n ((d, v) :: l) a :=
  ⟨hA.size, hA.defers, fun i u hu => by
    simp only [lk] at hu
    by_cases e : i = d
    · subst e
      have e' : Nat.beq i i = true := by simp
      rw [e'] at hu
      simp only [Option.some.injEq] at hu
      rw [← hu]; exact hA.has _ _ hl
    · have e' : Nat.beq i d = false := by rw [← Bool.not_eq_true, Nat.beq_eq]; exact e
      rw [e'] at hu
      exact hA.has _ _ hu⟩
theorem St.split {p : Prop} [Decidable p] {d : Nat} {G : Prop} (hA : St n l a) (hl : lk l d = some (.bool (decide p)))
    (ht : p → St n ((d, .bool true) :: l) a → G) (hf : ¬ p → St n ((d, .bool false) :: l) a → G) : G := by
  by_cases hp : p
  · exact ht hp (hA.same (by rw [hl, decide_eq_true hp]))
  · exact hf hp (hA.same (by rw [hl, decide_eq_false hp]))
def aw (ops : Array Oper) (last i : Nat) : Bool :=
  match ops[last]? with
  | none => true
  | some o => o.after.toList.any fun ed => Region.binds .any ed && ed.on == i
theorem aw_spec {ops : Array Oper} {last i : Nat} {listed : Array Bool} (h : aw ops last i = true) (hl : last ∈ Region.ready .any ops listed) : listed.getD i false = true := by
  obtain ⟨-, o, ho, hall⟩ := mem_ready.1 hl
  unfold aw at h
  rw [ho] at h
  simp only [List.any_eq_true, Bool.and_eq_true, beq_iff_eq] at h
  obtain ⟨ed, hed, hb, hon⟩ := h
  rw [← hon]; exact hall ed (Array.mem_toList_iff.1 hed) hb
def Wh (S : World → Prop) (ops : Array Oper) (last i : Nat) (w : World) : Prop := aw ops last i = true → S w
def wpAnyL (P : Program) (last : Nat) (ops : Array Oper) (Q : Exit → Act → World → Prop) (S : World → Prop) : Nat → Array Bool → Act → World → Prop
  | 0, listed, a, w => Region.ready .any ops listed = [] ∧ Q .normal a w
  | m + 1, listed, a, w => (Region.ready .any ops listed = [] → Q .normal a w) ∧
    ∀ i ∈ Region.ready .any ops listed, wpOp P ops Q i (fun a' w' => ((listed.setIfInBounds i true).getD last false = false → S w') ∧ wpAnyL P last ops Q S m (listed.setIfInBounds i true) a' w') a w
theorem wpAnyL_any {S : World → Prop} {last : Nat} {ops : Array Oper} {Q : Exit → Act → World → Prop} {P : Program} : ∀ (m : Nat) (listed : Array Bool) (a : Act) (w : World), wpAnyL P last ops Q S m listed a w → wpAny P .any ops Q m listed a w
  | 0, _, _, _, h => h
  | m + 1, _, _, _, h => ⟨h.1, fun i hi => wpOp_mono (fun a' w' g => wpAnyL_any m _ a' w' g.2) (h.2 i hi)⟩
theorem getD_false {listed : Array Bool} {i : Nat} (h : listed.getD i true = false) : i < listed.size ∧ listed.getD i false = false := by
  rcases Nat.lt_or_ge i listed.size with g | g
  · refine ⟨g, ?_⟩
    rw [Array.getD_eq_getD_getElem?, Array.getElem?_eq_getElem g] at h ⊢; exact h
  · rw [Array.getD_eq_getD_getElem?, Array.getElem?_eq_none g] at h; cases h
theorem wpAnyL_take {P : Program} {S : World → Prop} {last : Nat} {ops : Array Oper} {Q : Exit → Act → World → Prop} {i : Nat} {oi : Oper} {v : Value} (hi : ops[i]? = some oi) (hs : Region.noSelect ops = true) (hil : i ≠ last)
    (hQ : ∀ c a w, Q (.panic c) (a.put oi.dst v) w → Q (.panic c) a w) :
    ∀ (m : Nat) (listed : Array Bool) (a : Act) (w : World), (∀ j oj, ops[j]? = some oj → j ≠ i → listed.getD j true = false → (∀ e ∈ oj.after, Region.binds .any e = true → e.on ≠ i) → oi.apart ops oj = true) →
      i ∈ Region.ready .any ops listed → YieldsIf P ops (Wh S ops last i) oi v a → (aw ops last i = true → listed.getD last false = false) → (listed.getD last false = false → S w) →
      wpAnyL P last ops Q S m (listed.setIfInBounds i true) (a.put oi.dst v) w → wpAnyL P last ops Q S (m + 1) listed a w := by
  intro m
  induction m with
  | zero =>
    intro listed a w _ hr hy hN hL H
    refine ⟨fun e => (by rw [e] at hr; cases hr), fun j hj => ?_⟩
    by_cases hji : j = i
    · rw [hji]; exact hy.wpOp hi (fun h => hL (hN h)) ⟨fun h => hL (by rwa [getD_set_ne false hil] at h), H⟩
    · have h1 := ready_mono hj hji
      rw [H.1] at h1; cases h1
  | succ m ih =>
    intro listed a w hap hr hy hN hL H
    refine ⟨fun e => (by rw [e] at hr; cases hr), fun j hj => ?_⟩
    by_cases hji : j = i
    · rw [hji]; exact hy.wpOp hi (fun h => hL (hN h)) ⟨fun h => hL (by rwa [getD_set_ne false hil] at h), H⟩
    obtain ⟨-, hfalse⟩ := getD_false (mem_ready.1 hr).1
    obtain ⟨hjun, oj, hoj, hall⟩ := mem_ready.1 hj
    have hno : ∀ e ∈ oj.after, Region.binds .any e = true → e.on ≠ i := fun e he hb heq => by
      have h1 := hall e he hb
      rw [heq, hfalse] at h1; cases h1
    have h1 := wpOp_putIf hoj (hap j oj hoj hji hjun hno) (fun cs b => Region.noSelect_spec hs i oi cs b hi) (fun cs b => Region.noSelect_spec hs j oj cs b hoj) hQ hy (H.2 j (ready_mono hj hji))
    have hN' : aw ops last i = true → (listed.setIfInBounds j true).getD last false = false := fun h => by
      have hjl : j ≠ last := fun e => by
        have h2 := aw_spec h (e ▸ hj)
        rw [hfalse] at h2; cases h2
      rw [getD_set_ne false hjl]; exact hN h
    refine wpOp_mono (fun a' w' g => ?_) h1
    have hL' : (listed.setIfInBounds j true).getD last false = false → S w' := fun h => g.2.1 (by
      rw [Array.setIfInBounds_comm _ _ (Ne.symm hji), getD_set_ne false hil]; exact h)
    refine ⟨hL', ih (listed.setIfInBounds j true) a' w' (fun q oq hq hqi hqun hqno => hap q oq hq hqi ?_ hqno) (ready_mono hr (Ne.symm hji)) g.1 hN' hL' ?_⟩
    · by_cases hjq : j = q
      · rw [← hjq]; exact hjun
      · rwa [getD_set_ne true hjq] at hqun
    · rw [Array.setIfInBounds_comm _ _ hji]; exact g.2.2
inductive Ordt where
  | nil
  | cons (p : Nat × Bool) (t : Ordt)
  | fork (i j : Nat) (t u : Ordt)
def Ordt.depth : Ordt → Nat
  | .nil => 0
  | .cons _ t => t.depth + 1
  | .fork _ _ t u => max t.depth u.depth + 1
def noAw (ops : Array Oper) (last : Nat) : Ordt → Bool
  | .nil => true
  | .cons p t => (!p.2 || !aw ops last p.1) && noAw ops last t
  | .fork _ _ t u => noAw ops last t && noAw ops last u
def okOrd (last : Nat) (ops : Array Oper) : Ordt → Array Bool → Bool
  | .nil, listed => (Region.ready .any ops listed).isEmpty
  | .fork i j t u, listed => decide (Region.ready .any ops listed = [i, j]) && !(Nat.beq i last) && !(Nat.beq j last) && okOrd last ops t (listed.setIfInBounds i true) && okOrd last ops u (listed.setIfInBounds j true)
  | .cons (i, true) is, listed => Region.free .any ops listed i && (Region.ready .any ops listed).contains i && !(Nat.beq i last) && okOrd last ops is (listed.setIfInBounds i true)
  | .cons (i, false) is, listed => decide (Region.ready .any ops listed = [i]) && (!(Nat.beq i last) || noAw ops last is) && okOrd last ops is (listed.setIfInBounds i true)
def ith {α : Type} : List α → Nat → Option α
  | [], _ => none
  | x :: _, 0 => some x
  | _ :: xs, i + 1 => ith xs i
theorem ith_eq {α : Type} : ∀ (l : List α) (i : Nat), ith l i = l[i]?
  | [], i => by simp [ith]
  | x :: xs, 0 => by simp [ith]
  | x :: xs, i + 1 => by simp [ith, ith_eq xs i]
def wpOrd (P : Program) (last : Nat) (os : List Oper) (Q : Exit → Act → World → Prop) (S : World → Prop) : Bool → Ordt → Act → World → Prop
  | _, .nil, a, w => Q .normal a w
  | b, .fork i j t u, a, w => wpOp P os.toArray Q i (fun a' w' => (b = false → i ≠ last → S w') ∧ wpOrd P last os Q S b t a' w') a w ∧ wpOp P os.toArray Q j (fun a' w' => (b = false → j ≠ last → S w') ∧ wpOrd P last os Q S b u a' w') a w
  | b, .cons (i, true) is, a, w => ∃ o, ith os i = some o ∧ ∃ v, YieldsIf P os.toArray (Wh S os.toArray last i) o v a ∧ wpOrd P last os Q S b is (a.put o.dst v) w
  | b, .cons (i, false) is, a, w => wpOp P os.toArray Q i (fun a' w' => (b = false → i ≠ last → S w') ∧ wpOrd P last os Q S (b || Nat.beq i last) is a' w') a w
theorem wpOrd_true {S : World → Prop} {last : Nat} {os : List Oper} : ∀ (is : Ordt) (b : Bool) (a : Act) (w : World), wpOrd P last os Q S b is a w → wpOrd P last os Q S true is a w := by
  intro is
  induction is with
  | nil => intro b a w h; exact h
  | cons p is ih =>
    intro b a w h
    obtain ⟨i, first⟩ := p
    cases first with
    | true => obtain ⟨o, ho, v, hy, h⟩ := h; exact ⟨o, ho, v, hy, ih _ _ _ h⟩
    | false => exact wpOp_mono (fun a' w' g => ⟨fun e => (by cases e), ih _ _ _ g.2⟩) h
  | fork i j t u iht ihu =>
    intro b a w h
    exact ⟨wpOp_mono (fun a' w' g => ⟨fun e => (by cases e), iht _ _ _ g.2⟩) h.1, wpOp_mono (fun a' w' g => ⟨fun e => (by cases e), ihu _ _ _ g.2⟩) h.2⟩
theorem wpOrd_or {S : World → Prop} {last : Nat} {os : List Oper} {is : Ordt} {b : Bool} (x : Bool) {a : Act} {w : World} (h : wpOrd P last os Q S b is a w) : wpOrd P last os Q S (b || x) is a w := by
  cases b <;> cases x
  · exact h
  · exact wpOrd_true _ _ _ _ h
  · exact h
  · exact h
theorem wpAnyL_of_ord {S : World → Prop} {last : Nat} {os : List Oper} (hs : Region.noSelect os.toArray = true) (hQ : ∀ c a w, ¬ Q (.panic c) a w) :
  ∀ (is : Ordt) (fuel : Nat) (listed : Array Bool) (b : Bool) (a : Act) (w : World), is.depth ≤ fuel → okOrd last os.toArray is listed = true → (listed.getD last false = true → noAw os.toArray last is = true) → (listed.getD last false = false → S w) → (b = true → listed.getD last false = true) →
   wpOrd P last os Q S b is a w → wpAnyL P last os.toArray Q S fuel listed a w := by
 intro is
 induction is with
 | nil =>
  intro fuel listed b a w _ hok _ _ _ h
  have hr : Region.ready .any os.toArray listed = [] := by simpa [okOrd] using hok
  cases fuel with
  | zero => exact ⟨hr, h⟩
  | succ m => exact ⟨fun _ => h, by rw [hr]; simp⟩
 | cons p is ih =>
  intro fuel listed b a w hlen hok hK hL hB h
  obtain ⟨fuel, rfl⟩ : ∃ m, fuel = m + 1 := ⟨fuel - 1, by simp [Ordt.depth] at hlen; omega⟩
  have hlen' : is.depth ≤ fuel := by simp [Ordt.depth] at hlen; omega
  obtain ⟨i, first⟩ := p
  cases first with
  | true =>
   obtain ⟨o, ho, v, hy, h⟩ := h
   have ho' : os.toArray[i]? = some o := by rw [← ho, ith_eq]; simp
   unfold okOrd at hok
   simp only [Bool.and_eq_true, Bool.not_eq_true'] at hok
   have hil : i ≠ last := fun e => by
    have h1 := hok.1.2
    rw [e, show Nat.beq last last = true by simp] at h1; cases h1
   refine wpAnyL_take ho' hs hil (fun c a w h => (hQ _ _ _ h).elim) fuel listed a w (Region.free_spec ho' hok.1.1.1) (by simpa using hok.1.1.2) hy (fun haw => ?_) hL (ih _ _ b _ _ hlen' hok.2 (fun hl => ?_) (fun hl => hL ?_) (fun e => ?_) h)
   ·
    cases hx : listed.getD last false with
    | false => rfl
    | true =>
     have h2 := hK hx
     unfold noAw at h2
     simp only [haw, Bool.not_true, Bool.or_self, Bool.false_and] at h2
     cases h2
   ·
    rw [getD_set_ne false hil] at hl
    have h2 := hK hl
    unfold noAw at h2
    simp only [Bool.and_eq_true] at h2
    exact h2.2
   · rwa [getD_set_ne false hil] at hl
   · rw [getD_set_ne false hil]; exact hB e
  | false =>
   unfold okOrd at hok
   simp only [Bool.and_eq_true, decide_eq_true_eq] at hok
   refine ⟨fun e => (by rw [hok.1.1] at e; cases e), fun j hj => ?_⟩
   have hj0 := hj
   rw [hok.1.1] at hj
   have : j = i := by simpa using hj
   subst this
   obtain ⟨hlt, -⟩ := getD_false (mem_ready.1 hj0).1
   have hself : j = last → (listed.setIfInBounds j true).getD last false = true := fun e => by
    subst e
    rw [Array.getD_eq_getD_getElem?, Array.getElem?_setIfInBounds_self_of_lt hlt]; rfl
   have key : ∀ w', (b = false → j ≠ last → S w') → (listed.setIfInBounds j true).getD last false = false → S w' := fun w' hS hl => by
    have hjl : j ≠ last := fun e => by rw [hself e] at hl; cases hl
    refine hS ?_ hjl
    rw [getD_set_ne false hjl] at hl
    cases hb : b with
    | false => rfl
    | true => rw [hB hb] at hl; cases hl
   refine wpOp_mono (fun a' w' h => ⟨key w' h.1, ih _ _ (b || Nat.beq j last) _ _ hlen' hok.2 (fun hl => ?_) (key w' h.1) (fun e => ?_) h.2⟩) h
   ·
    by_cases hjl : j = last
    ·
     have h2 := hok.1.2
     rw [hjl, show Nat.beq last last = true by simp] at h2
     simpa using h2
    ·
     rw [getD_set_ne false hjl] at hl
     have h2 := hK hl
     unfold noAw at h2
     simp only [Bool.and_eq_true] at h2
     exact h2.2
   ·
    by_cases hjl : j = last
    · exact hself hjl
    ·
     have hbq : Nat.beq j last = false := by rw [← Bool.not_eq_true, Nat.beq_eq]; exact hjl
     rw [hbq, Bool.or_false] at e
     rw [getD_set_ne false hjl]; exact hB e
 | fork i j t u iht ihu =>
  intro fuel listed b a w hlen hok hK hL hB h
  obtain ⟨fuel, rfl⟩ : ∃ m, fuel = m + 1 := ⟨fuel - 1, by simp [Ordt.depth] at hlen; omega⟩
  have hlt : t.depth ≤ fuel := by simp [Ordt.depth] at hlen; omega
  have hlu : u.depth ≤ fuel := by simp [Ordt.depth] at hlen; omega
  unfold okOrd at hok
  simp only [Bool.and_eq_true, decide_eq_true_eq, Bool.not_eq_true'] at hok
  obtain ⟨⟨⟨⟨hr, hi⟩, hj⟩, hot⟩, hou⟩ := hok
  have hil : i ≠ last := fun e => by rw [e, show Nat.beq last last = true by simp] at hi; cases hi
  have hjl : j ≠ last := fun e => by rw [e, show Nat.beq last last = true by simp] at hj; cases hj
  have hb0 : listed.getD last false = false → b = false := fun hl => by
   cases hb : b with
   | false => rfl
   | true => rw [hB hb] at hl; cases hl
  obtain ⟨h1, h2⟩ := h
  refine ⟨fun e => (by rw [hr] at e; cases e), fun q hq => ?_⟩
  rw [hr] at hq
  rcases List.mem_cons.1 hq with rfl | hq
  ·
   refine wpOp_mono (fun a' w' h => ⟨fun hl => h.1 (hb0 (by rwa [getD_set_ne false hil] at hl)) hil, iht _ _ b _ _ hlt hot (fun hl => ?_) (fun hl => h.1 (hb0 (by rwa [getD_set_ne false hil] at hl)) hil) (fun e => by rw [getD_set_ne false hil]; exact hB e) h.2⟩) h1
   rw [getD_set_ne false hil] at hl
   have h3 := hK hl
   unfold noAw at h3
   simp only [Bool.and_eq_true] at h3
   exact h3.1
  ·
   obtain rfl : q = j := by simpa using hq
   refine wpOp_mono (fun a' w' h => ⟨fun hl => h.1 (hb0 (by rwa [getD_set_ne false hjl] at hl)) hjl, ihu _ _ b _ _ hlu hou (fun hl => ?_) (fun hl => h.1 (hb0 (by rwa [getD_set_ne false hjl] at hl)) hjl) (fun e => by rw [getD_set_ne false hjl]; exact hB e) h.2⟩) h2
   rw [getD_set_ne false hjl] at hl
   have h3 := hK hl
   unfold noAw at h3
   simp only [Bool.and_eq_true] at h3
   exact h3.2
theorem replicate_getD (n i : Nat) : (Array.replicate n false).getD i false = false := by
  rw [Array.getD_eq_getD_getElem?, Array.getElem?_replicate]; split <;> rfl
theorem Ends.drawn {id : Nat} {os : List Oper} (S : World → Prop) (is : Ordt) (last : Nat) (hm : P.follows .mixedOrders = true) (hs : Region.noSelect os.toArray = true)
    (hl : Nat.ble is.depth os.toArray.size = true) (hok : okOrd last os.toArray is (Array.replicate os.toArray.size false) = true) (hS : S w.drew) (h : wpOrd P last os (Aft P f R k) S false is a w.drew) :
    Ends P f R (.code (.region id os.toArray true) :: k) a w :=
  Ends.of_wp (wp_region_any hm (wpAnyL_any _ _ _ _ (wpAnyL_of_ord hs (fun _ _ _ h => h) is _ _ _ _ _ (by simpa using hl) hok (fun h => by rw [replicate_getD] at h; cases h) (fun _ => hS) (fun h => by cases h) h)))
section
variable {S : World → Prop} {os : List Oper} {is : Ordt} {i last : Nat} {b0 : Bool}
theorem D.val {d : Nat} {op : Op} {ty : TypeId} {pos : String} {aft : Array Edge} {v : Value} (hA : St n l a) (ho : ith os i = some { dst := some d, op, type := ty, pos, after := aft, guard := none }) (haw : aw os.toArray last i = true)
    (hr : ∀ w, S w → Run P l w op ty v w) (hd : Nat.blt d n = true) (h : ∀ a, St n ((d, v) :: l) a → wpOrd P last os Q S b0 is a w) : wpOrd P last os Q S b0 (.cons (i, true) is) a w :=
  ⟨_, ho, v, .inl ⟨rfl, fun w hS => hr w (hS haw) a.eval (fun _ _ hx => hA.eval hx) _ _ _ _⟩, h _ (hA.put hd v)⟩
theorem D.valF {d : Nat} {op : Op} {ty : TypeId} {pos : String} {aft : Array Edge} {v : Value} (hA : St n l a) (ho : ith os i = some { dst := some d, op, type := ty, pos, after := aft, guard := none })
    (hr : ∀ w, Run P l w op ty v w) (hd : Nat.blt d n = true) (h : ∀ a, St n ((d, v) :: l) a → wpOrd P last os Q S b0 is a w) : wpOrd P last os Q S b0 (.cons (i, true) is) a w :=
  ⟨_, ho, v, .inl ⟨rfl, fun w _ => hr w a.eval (fun _ _ hx => hA.eval hx) _ _ _ _⟩, h _ (hA.put hd v)⟩
theorem D.valg {d j dj : Nat} {b : Bool} {op : Op} {ty : TypeId} {pos : String} {aft : Array Edge} {v : Value} (hA : St n l a) (ho : ith os i = some { dst := some d, op, type := ty, pos, after := aft, guard := some (j, b) }) (haw : aw os.toArray last i = true)
    (hj : dstOf os.toArray j = some dj) (hl : lk l dj = some (.bool b))
    (hr : ∀ w, S w → Run P l w op ty v w) (hd : Nat.blt d n = true) (h : ∀ a, St n ((d, v) :: l) a → wpOrd P last os Q S b0 is a w) : wpOrd P last os Q S b0 (.cons (i, true) is) a w :=
  ⟨_, ho, v, .inl ⟨by rw [wanted_of hA rfl hj hl]; simp, fun w hS => hr w (hS haw) a.eval (fun _ _ hx => hA.eval hx) _ _ _ _⟩, h _ (hA.put hd v)⟩
theorem D.valgF {d j dj : Nat} {b : Bool} {op : Op} {ty : TypeId} {pos : String} {aft : Array Edge} {v : Value} (hA : St n l a) (ho : ith os i = some { dst := some d, op, type := ty, pos, after := aft, guard := some (j, b) })
    (hj : dstOf os.toArray j = some dj) (hl : lk l dj = some (.bool b))
    (hr : ∀ w, Run P l w op ty v w) (hd : Nat.blt d n = true) (h : ∀ a, St n ((d, v) :: l) a → wpOrd P last os Q S b0 is a w) : wpOrd P last os Q S b0 (.cons (i, true) is) a w :=
  ⟨_, ho, v, .inl ⟨by rw [wanted_of hA rfl hj hl]; simp, fun w _ => hr w a.eval (fun _ _ hx => hA.eval hx) _ _ _ _⟩, h _ (hA.put hd v)⟩
theorem D.no {d j dj : Nat} {b u : Bool} {op : Op} {ty : TypeId} {pos : String} {aft : Array Edge} (hA : St n l a) (ho : ith os i = some { dst := some d, op, type := ty, pos, after := aft, guard := some (j, b) })
    (hj : dstOf os.toArray j = some dj) (hl : lk l dj = some (.bool u)) (hu : (u == b) = false)
    (hd : Nat.blt d n = true) (h : ∀ a, St n ((d, undef) :: l) a → wpOrd P last os Q S b0 is a w) : wpOrd P last os Q S b0 (.cons (i, true) is) a w :=
  ⟨_, ho, undef, .inr ⟨by rw [wanted_of hA rfl hj hl, hu], rfl⟩, h _ (hA.put hd undef)⟩
theorem wpOp_of {o : Oper} {K : Act → World → Prop} (ho : ith os i = some o) (hw : Region.wanted o (yielded os.toArray a.tmps) = true) (h : o.wp P a w K Q) : wpOp P os.toArray Q i K a w := by
  unfold wpOp
  have ho' : os.toArray[i]? = some o := by rw [List.getElem?_toArray, ← ith_eq, ho]
  simp only [ho', hw, if_true]
  exact .inl h
theorem D.eff {d : Nat} {op : Op} {ty : TypeId} {pos : String} {aft : Array Edge} {v : Value} (hA : St n l a) (ho : ith os i = some { dst := some d, op, type := ty, pos, after := aft, guard := none })
    (hr : Run P l w op ty v w') (hd : Nat.blt d n = true) (hS : S w') (h : ∀ a, St n ((d, v) :: l) a → wpOrd P last os Q S b0 is a w') : wpOrd P last os Q S b0 (.cons (i, false) is) a w :=
  wpOp_of ho rfl (by
    unfold Oper.wp
    rw [hr a.eval (fun x u hx => hA.eval hx)]
    exact ⟨fun _ _ => hS, wpOrd_or _ (h _ (hA.put hd v))⟩)
theorem D.skip {op : Op} {ty : TypeId} {pos : String} {aft : Array Edge} (hA : St n l a) (ho : ith os i = some { dst := none, op, type := ty, pos, after := aft, guard := none })
    (hr : RunN P l w op ty .skip w') (hS : b0 = false → i ≠ last → S w') (h : wpOrd P last os Q S (b0 || Nat.beq i last) is a w') : wpOrd P last os Q S b0 (.cons (i, false) is) a w :=
  wpOp_of ho rfl (by
    unfold Oper.wp
    rw [hr a.eval (fun x u hx => hA.eval hx)]
    exact ⟨hS, h⟩)
theorem D.call {d : Nat} {op : Op} {ty : TypeId} {pos : String} {aft : Array Edge} {g : FuncId} {args : Array Value} {R' : Ending → World → Prop} (hA : St n l a) (ho : ith os i = some { dst := some d, op, type := ty, pos, after := aft, guard := none })
    (hr : RunN P l w op ty (.enter g args) w) (hd : Nat.blt d n = true)
    (hc : Calls P g args w R') (h : ∀ e w', R' e w' → ∃ v, e = .returned v ∧ S w' ∧ ∀ a, St n ((d, v) :: l) a → wpOrd P last os Q S b0 is a w') : wpOrd P last os Q S b0 (.cons (i, false) is) a w :=
  wpOp_of ho rfl (by
    unfold Oper.wp
    rw [hr a.eval (fun x u hx => hA.eval hx)]
    refine hc.mono fun e w2 hR => ?_
    obtain ⟨v, rfl, hS, hv⟩ := h e w2 hR
    exact ⟨fun _ _ => hS, wpOrd_or _ (hv _ (hA.put hd v))⟩)
theorem D.callg {d j dj : Nat} {b : Bool} {op : Op} {ty : TypeId} {pos : String} {aft : Array Edge} {g : FuncId} {args : Array Value} {R' : Ending → World → Prop} (hA : St n l a) (ho : ith os i = some { dst := some d, op, type := ty, pos, after := aft, guard := some (j, b) })
    (hj : dstOf os.toArray j = some dj) (hl : lk l dj = some (.bool b))
    (hr : RunN P l w op ty (.enter g args) w) (hd : Nat.blt d n = true)
    (hc : Calls P g args w R') (h : ∀ e w', R' e w' → ∃ v, e = .returned v ∧ S w' ∧ ∀ a, St n ((d, v) :: l) a → wpOrd P last os Q S b0 is a w') : wpOrd P last os Q S b0 (.cons (i, false) is) a w :=
  wpOp_of ho (by rw [wanted_of hA rfl hj hl]; simp) (by
    unfold Oper.wp
    rw [hr a.eval (fun x u hx => hA.eval hx)]
    refine hc.mono fun e w2 hR => ?_
    obtain ⟨v, rfl, hS, hv⟩ := h e w2 hR
    exact ⟨fun _ _ => hS, wpOrd_or _ (hv _ (hA.put hd v))⟩)
theorem D.done (h : Ends P f R k a w) : wpOrd P last os (Aft P f R k) S b0 .nil a w := h
theorem D.fork {j : Nat} {t u : Ordt} (hb : Nat.beq i last = false) (hb2 : Nat.beq j last = false) (h1 : wpOrd P last os Q S b0 (.cons (i, false) t) a w) (h2 : wpOrd P last os Q S b0 (.cons (j, false) u) a w) : wpOrd P last os Q S b0 (.fork i j t u) a w := by
  unfold wpOrd at h1 h2
  rw [hb, Bool.or_false] at h1
  rw [hb2, Bool.or_false] at h2
  exact ⟨h1, h2⟩
end
end
end
section
open Go.RowKit
def blk (w : World) (b : Nat) (cs : Array Value) (t : TypeId) : Prop := w.heap[b]? = some (.cells cs t (0, 0))
theorem blk.lt {w : World} {b : Nat} {cs : Array Value} {t : TypeId} (h : blk w b cs t) : b < w.heap.size := lt_of_block h
theorem blk.cell {w : World} {b : Nat} {cs : Array Value} {t : TypeId} (h : blk w b cs t) (i : Nat) : w.cell? ⟨b, i, none⟩ = cs[i]? := by
  unfold blk at h; simp [World.cell?, h]
theorem blk.free {w : World} {b : Nat} {cs : Array Value} {t : TypeId} (h : blk w b cs t) (i : Nat) : w.frozen? ⟨b, i, none⟩ = false := by
  unfold blk at h; simp [World.frozen?, h]
theorem blk.alloc {w : World} {b : Nat} {cs : Array Value} {t : TypeId} (h : blk w b cs t) (o : Obj) : blk (w.alloc o) b cs t := by
  unfold blk at *; rw [Below.heap_alloc _ _ _ (lt_of_block h)]; exact h
theorem blk.drew {w : World} {b : Nat} {cs : Array Value} {t : TypeId} (h : blk w b cs t) : blk w.drew b cs t := h
theorem blk.other {w : World} {b : Nat} {cs : Array Value} {t : TypeId} (h : blk w b cs t) {a : Addr} (ha : b ≠ a.block) (v : Value) : blk (w.setCell a v) b cs t := by
  unfold blk at *; rw [Below.heap_setCell _ _ _ _ ha]; exact h
theorem blk.off {w : World} {b : Nat} {cs : Array Value} {t : TypeId} (h : blk w b cs t) {b' i : Nat} (ha : b ≠ b') (v : Value) : blk (w.setCell ⟨b', i, none⟩ v) b cs t := h.other ha v
theorem blk.set {w : World} {b : Nat} {cs : Array Value} {t : TypeId} (h : blk w b cs t) (i : Nat) (v : Value) : blk (w.setCell ⟨b, i, none⟩ v) b (cs.setIfInBounds i v) t := by
  have hlt := h.lt
  unfold blk at *
  have h' : w.heap[b] = .cells cs t (0, 0) := by simpa [Array.getElem?_eq_getElem hlt] using h
  show (w.heap.modify b _)[b]? = _
  rw [Array.getElem?_eq_getElem (by simpa using hlt), Array.getElem_modify_self, h']
  rfl
theorem blk.drewN {w : World} {b : Nat} {cs : Array Value} {t : TypeId} (h : blk w b cs t) (n : Nat) : blk (w.drewN n) b cs t := h
theorem blk.to {w : World} {b : Nat} {cs cs' : Array Value} {t : TypeId} (h : blk w b cs t) (hc : cs = cs') : blk w b cs' t := hc ▸ h
theorem blk.below {B : Nat} {w w' : World} {b : Nat} {cs : Array Value} {t : TypeId} (h : blk w b cs t) (hb : Below B w w') (hlt : b < B) : blk w' b cs t := by
  unfold blk at *; rw [hb.block b hlt]; exact h
theorem bcell {B : Nat} {W w1 : World} (hb : Below B W w1) : (∀ b o, b < B → w1.cell? ⟨b, o, none⟩ = W.cell? ⟨b, o, none⟩) ∧ (∀ b o, b < B → w1.frozen? ⟨b, o, none⟩ = W.frozen? ⟨b, o, none⟩) :=
  ⟨fun b o h => hb.cell (p := ⟨b, o, none⟩) h, fun b o h => hb.frozen (p := ⟨b, o, none⟩) h⟩
def ints (l : List Int) : Array Value := (l.map (Value.int .i64)).toArray
def row (n : Nat) (f : Nat → Int) : List Int := (List.range n).map f
end
section
open Go.RowKit
def fieldInfo (P : Program) (t : TypeId) (i : Nat) : Option (Nat × Bool × Nat) :=
  match P.underlying t with
  | some (.struct fs) => match fs[i]? with
    | some f => match P.underlying f.type, P.info? f.type with
      | some d, some j => some (f.offset, d.isRow, j.size)
      | _, _ => none
    | none => none
  | _ => none
def szOf (P : Program) (t : TypeId) : Option (Bool × Nat) :=
  match P.underlying t, P.info? t with
  | some d, some j => some (d.isRow, j.size)
  | _, _ => none
def slInfo (P : Program) (t : TypeId) : Option (Bool × Nat) :=
  match P.underlying t with
  | some (.slice e) => szOf P e
  | _ => none
section
variable {P : Program} {l : List (Nat × Value)} {w : World} {ty : TypeId} {x y z : Operand} {k k' : IntKind} {m n : Int} {t yt : TypeId}
theorem fieldInfo_spec {i off sz : Nat} {b : Bool} (h : fieldInfo P t i = some (off, b, sz)) :
    ∃ fs f d j, P.underlying t = some (.struct fs) ∧ fs[i]? = some f ∧ P.underlying f.type = some d ∧ P.info? f.type = some j ∧ f.offset = off ∧ d.isRow = b ∧ j.size = sz := by
  unfold fieldInfo at h
  split at h
  · rename_i fs hu
    split at h
    · rename_i f hf
      split at h
      · rename_i d j hd hj
        simp only [Option.some.injEq, Prod.mk.injEq] at h
        exact ⟨fs, f, d, j, hu, hf, hd, hj, h.1, h.2.1, h.2.2⟩
      · cases h
    · cases h
  · cases h
theorem szOf_spec {sz : Nat} {b : Bool} (h : szOf P t = some (b, sz)) : ∃ d j, P.underlying t = some d ∧ P.info? t = some j ∧ d.isRow = b ∧ j.size = sz := by
  unfold szOf at h
  split at h
  · rename_i d j hd hj
    simp only [Option.some.injEq, Prod.mk.injEq] at h
    exact ⟨d, j, hd, hj, h.1, h.2⟩
  · cases h
theorem slInfo_spec {sz : Nat} {b : Bool} (h : slInfo P t = some (b, sz)) : ∃ e, P.underlying t = some (.slice e) ∧ szOf P e = some (b, sz) := by
  unfold slInfo at h
  split at h
  · rename_i e hu; exact ⟨e, hu, h⟩
  · cases h
theorem run_isAgg_of {d : TypeDesc} (h : P.underlying t = some d) : (isAgg t).run P w = .ok d.isRow w := by
  unfold isAgg
  rw [Sem.run_bind, run_underlying h w]
  cases d <;> rfl
theorem run_sizeOf_of {j : TypeInfo} (h : P.info? t = some j) : (sizeOf t).run P w = .ok j.size w := by
  simp [sizeOf, typeInfo, h]
theorem beq_dec (m n : Int) : (m == n) = decide (m = n) := by rw [Bool.eq_iff_iff]; simp
theorem R.tt {p : Prop} [Decidable p] {op : Op} {w' : World} (h : Run P l w op ty (.bool (decide p)) w') (hp : p) : Run P l w op ty (.bool true) w' := by rwa [decide_eq_true hp] at h
theorem R.ff {p : Prop} [Decidable p] {op : Op} {w' : World} (h : Run P l w op ty (.bool (decide p)) w') (hp : ¬ p) : Run P l w op ty (.bool false) w' := by rwa [decide_eq_false hp] at h
theorem R.to {op : Op} {w' : World} {u v : Value} (h : Run P l w op ty u w') (e : u = v) : Run P l w op ty v w' := e ▸ h
theorem R.move {v : Value} (hx : opv l x = some v) : Run P l w (.move x) ty v w := fun ev h _ _ _ _ => by simp only [execOp, h _ _ hx]; rfl
theorem R.assign {v : Value} (hx : opv l x = some v) : Run P l w (.assign x) ty v w := fun ev h _ _ _ _ => by simp only [execOp, h _ _ hx]; rfl
theorem R.pickT {v : Value} (hc : opv l z = some (.bool true)) (hx : opv l x = some v) : Run P l w (.pick z x y) ty v w := fun ev h _ _ _ _ => by simp only [execOp, h _ _ hc, h _ _ hx]; rfl
theorem R.pickF {v : Value} (hc : opv l z = some (.bool false)) (hy : opv l y = some v) : Run P l w (.pick z x y) ty v w := fun ev h _ _ _ _ => by simp only [execOp, h _ _ hc, h _ _ hy]; rfl
theorem R.extract {vs : Array Value} {i : Nat} {v : Value} (hx : opv l x = some (.tuple vs)) (hv : vs[i]? = some v) : Run P l w (.extract x i) ty v w := fun ev h _ _ _ _ => by
  simp [execOp, h _ _ hx, Instr.extract, hv]
theorem R.nilCheck {p : Addr} (hx : opv l x = some (.pointer (some p))) : Run P l w (.nilCheck x) ty (.pointer (some p)) w := fun ev h _ _ _ _ => by simp only [execOp, h _ _ hx]; rfl
theorem R.add (hx : opv l x = some (.int k m)) (hy : opv l y = some (.int k n)) : Run P l w (.binOp .add t x y yt) ty (.int k (k.wrap (m + n))) w := fun ev h _ _ _ _ => by
  simp [execOp, h _ _ hx, h _ _ hy, eqGuard, binOp, Op.intArith]
theorem R.sub (hx : opv l x = some (.int k m)) (hy : opv l y = some (.int k n)) : Run P l w (.binOp .sub t x y yt) ty (.int k (k.wrap (m - n))) w := fun ev h _ _ _ _ => by
  simp [execOp, h _ _ hx, h _ _ hy, eqGuard, binOp, Op.intArith]
theorem R.mul (hx : opv l x = some (.int k m)) (hy : opv l y = some (.int k n)) : Run P l w (.binOp .mul t x y yt) ty (.int k (k.wrap (m * n))) w := fun ev h _ _ _ _ => by
  simp [execOp, h _ _ hx, h _ _ hy, eqGuard, binOp, Op.intArith]
theorem R.addI (hx : opv l x = some (.int .i64 m)) (hy : opv l y = some (.int .i64 n)) {r : Int} (hr : m + n = r) (h0 : -9223372036854775808 ≤ r ∧ r ≤ 9223372036854775807) : Run P l w (.binOp .add t x y yt) ty (.int .i64 r) w := by
  subst hr; have := R.add (P := P) (w := w) (ty := ty) (t := t) (yt := yt) hx hy; rwa [IntWalk.i64_in _ ⟨h0.1, by omega⟩] at this
theorem R.subI (hx : opv l x = some (.int .i64 m)) (hy : opv l y = some (.int .i64 n)) {r : Int} (hr : m - n = r) (h0 : -9223372036854775808 ≤ r ∧ r ≤ 9223372036854775807) : Run P l w (.binOp .sub t x y yt) ty (.int .i64 r) w := by
  subst hr; have := R.sub (P := P) (w := w) (ty := ty) (t := t) (yt := yt) hx hy; rwa [IntWalk.i64_in _ ⟨h0.1, by omega⟩] at this
theorem R.mulI (hx : opv l x = some (.int .i64 m)) (hy : opv l y = some (.int .i64 n)) {r : Int} (hr : m * n = r) (h0 : -9223372036854775808 ≤ r ∧ r ≤ 9223372036854775807) : Run P l w (.binOp .mul t x y yt) ty (.int .i64 r) w := by
  subst hr; have := R.mul (P := P) (w := w) (ty := ty) (t := t) (yt := yt) hx hy; rwa [IntWalk.i64_in _ ⟨h0.1, by omega⟩] at this
theorem R.rem (hx : opv l x = some (.int k m)) (hy : opv l y = some (.int k n)) (h0 : n ≠ 0) : Run P l w (.binOp .rem t x y yt) ty (.int k (m.tmod n)) w := fun ev h _ _ _ _ => by
  simp [execOp, h _ _ hx, h _ _ hy, eqGuard, binOp, Op.intDiv, h0]
theorem R.remI (hx : opv l x = some (.int k m)) (hy : opv l y = some (.int k n)) {r : Int} (hr : m % n = r) (h0 : 0 ≤ m ∧ n ≠ 0) : Run P l w (.binOp .rem t x y yt) ty (.int k r) w := by
  subst hr
  have := R.rem (P := P) (w := w) (ty := ty) (t := t) (yt := yt) hx hy h0.2
  rwa [Int.tmod_eq_emod_of_nonneg h0.1] at this
theorem R.eql (hx : opv l x = some (.int k m)) (hy : opv l y = some (.int k n)) : Run P l w (.binOp .eql t x y yt) ty (.bool (decide (m = n))) w := fun ev h _ _ _ _ => by
  simp [execOp, h _ _ hx, h _ _ hy, eqGuard, binOp, Op.intCmp, beq_dec]
theorem R.neq (hx : opv l x = some (.int k m)) (hy : opv l y = some (.int k n)) : Run P l w (.binOp .neq t x y yt) ty (.bool (decide (m ≠ n))) w := fun ev h _ _ _ _ => by
  simp [execOp, h _ _ hx, h _ _ hy, eqGuard, binOp, Op.intCmp, bne, beq_dec]
theorem R.lss (hx : opv l x = some (.int k m)) (hy : opv l y = some (.int k n)) : Run P l w (.binOp .lss t x y yt) ty (.bool (decide (m < n))) w := fun ev h _ _ _ _ => by
  simp [execOp, h _ _ hx, h _ _ hy, eqGuard, binOp, Op.intCmp]
theorem R.leq (hx : opv l x = some (.int k m)) (hy : opv l y = some (.int k n)) : Run P l w (.binOp .leq t x y yt) ty (.bool (decide (m ≤ n))) w := fun ev h _ _ _ _ => by
  simp [execOp, h _ _ hx, h _ _ hy, eqGuard, binOp, Op.intCmp]
theorem R.gtr (hx : opv l x = some (.int k m)) (hy : opv l y = some (.int k n)) : Run P l w (.binOp .gtr t x y yt) ty (.bool (decide (n < m))) w := fun ev h _ _ _ _ => by
  simp [execOp, h _ _ hx, h _ _ hy, eqGuard, binOp, Op.intCmp]
theorem R.geq (hx : opv l x = some (.int k m)) (hy : opv l y = some (.int k n)) : Run P l w (.binOp .geq t x y yt) ty (.bool (decide (n ≤ m))) w := fun ev h _ _ _ _ => by
  simp [execOp, h _ _ hx, h _ _ hy, eqGuard, binOp, Op.intCmp]
theorem R.conv (hd : P.underlying yt = some (.int k')) (hs : P.underlying t = some (.int k)) (hx : opv l x = some (.int k m)) : Run P l w (.convert t yt x) ty (.int k' (k'.wrap m)) w := fun ev h _ _ _ _ => by
  simp [execOp, h _ _ hx, convert, run_underlying hd, run_underlying hs, Conv.intToInt]
theorem R.not {b : Bool} (hx : opv l x = some (.bool b)) : Run P l w (.unOp .not t x) ty (.bool (!b)) w := fun ev h _ _ _ _ => by
  simp [execOp, h _ _ hx, Op.unary]
theorem R.notD {p : Prop} [Decidable p] (hx : opv l x = some (.bool (decide p))) : Run P l w (.unOp .not t x) ty (.bool (decide (¬ p))) w := by
  have := R.not (P := P) (w := w) (ty := ty) (t := t) hx
  rwa [decide_not]
theorem R.lenS {e : TypeId} {a : Option Addr} {len cap : Nat} {ats : Array TypeId} (ht : P.underlying t = some (.slice e)) (hat : ats = #[t]) (hx : opv l x = some (.slice a len cap)) : Run P l w (.call { callee := .builtin .len, args := #[x], argTypes := ats }) ty (.int .i64 (len : Int)) w := fun ev h _ _ _ _ => by
  subst hat
  simp [execOp, resolve, invoke, builtin, h _ _ hx, Builtin.len_, run_underlying ht, goInt]
theorem R.lenStr {s : ByteArray} {ats : Array TypeId} (ht : P.underlying t = some .string) (hat : ats = #[t]) (hx : opv l x = some (.string s)) : Run P l w (.call { callee := .builtin .len, args := #[x], argTypes := ats }) ty (.int .i64 (s.size : Int)) w := fun ev h _ _ _ _ => by
  subst hat
  simp [execOp, resolve, invoke, builtin, h _ _ hx, Builtin.len_, run_underlying ht, goInt]
theorem R.build {ps : Array (Nat × Operand)} {cells : Array Value} {vs : List Value} (hp : opvs l (ps.toList.map (·.2)) = some vs) (hb : P.built t ((ps.toList.map (·.1)).zip vs) = some cells) : Run P l w (.build t ps) ty (.agg cells) w := fun ev h _ _ _ _ => by
  have key : ∀ (os : List (Nat × Operand)) (vs : List Value), opvs l (os.map (·.2)) = some vs → os.map (fun (i, x) => (i, ev x)) = (os.map (·.1)).zip vs := by
    intro os
    induction os with
    | nil => intro vs hv; simp [opvs] at hv; subst hv; rfl
    | cons o os ih =>
      intro vs hv
      simp only [List.map_cons, opvs] at hv
      split at hv
      · cases hv
      · rename_i v hv1
        split at hv
        · cases hv
        · rename_i us hus
          simp only [Option.some.injEq] at hv
          subst hv
          simp [ih us hus, h _ _ hv1]
  have h1 : (ps.map fun (i, x) => (i, ev x)).toList = (ps.toList.map (·.1)).zip vs := by simpa using key _ _ hp
  simp only [execOp]
  rw [Sem.run_bind, run_build w t _ cells (by rw [h1]; exact hb)]
  rfl
theorem R.fieldAddr {i off sz b o q : Nat} {g : Bool} (hi : fieldInfo P t i = some (off, g, sz)) (hx : opv l x = some (.pointer (some ⟨b, o, none⟩))) (hsz : Nat.beq sz 0 = false) (hq : o + off = q) : Run P l w (.fieldAddr t x i) ty (.pointer (some ⟨b, q, none⟩)) w := fun ev h _ _ _ _ => by
  obtain ⟨fs, f, d, j, hu, hf, hd, hj, rfl, hrow, rfl⟩ := fieldInfo_spec hi
  have hz : ¬ j.size = 0 := by intro e; rw [e] at hsz; cases hsz
  simp [execOp, h _ _ hx, Instr.fieldAt, run_underlying hu, hf, Instr.sureAddr, fieldPlace, run_sizeOf_of hj, hz, Addr.add_mid, hq]
theorem R.indexAddr {len cap b o sz q : Nat} {g : Bool} {i : Int} (hi : slInfo P t = some (g, sz)) (hx : opv l x = some (.slice (some ⟨b, o, none⟩) len cap)) (hy : opv l y = some (.int k i)) (h0 : 0 ≤ i ∧ i < (len : Int)) (hq : o + i.toNat * sz = q) :
    Run P l w (.indexAddr t x y) ty (.pointer (some ⟨b, q, none⟩)) w := fun ev h _ _ _ _ => by
  obtain ⟨e, hu, hs⟩ := slInfo_spec hi
  obtain ⟨d, j, hd, hj, hrow, hsz⟩ := szOf_spec hs
  simp [execOp, h _ _ hx, h _ _ hy, Instr.indexAt, asIntOf, run_underlying hu, h0, run_sizeOf_of hj, hsz, Addr.add_mid, hq]
theorem R.load {p : Addr} {v : Value} (hi : szOf P t = some (false, 1)) (hx : opv l x = some (.pointer (some p))) (hc : w.cell? p = some v) : Run P l w (.load t x) ty v w := fun ev h _ _ _ _ => by
  obtain ⟨d, j, hd, hj, hrow, hsz⟩ := szOf_spec hi
  simp [execOp, h _ _ hx, Instr.loadAt, Instr.sureAddr, loadVar, run_isAgg_of hd, hrow, hc]
theorem R.loadA {b o sz : Nat} {cs : List Value} (hi : szOf P t = some (true, sz)) (hx : opv l x = some (.pointer (some ⟨b, o, none⟩))) (hc : w.rangeAt b o cs) (hn : cs.length = sz) : Run P l w (.load t x) ty (.agg cs.toArray) w := fun ev h _ _ _ _ => by
  obtain ⟨d, j, hd, hj, hrow, hsz⟩ := szOf_spec hi
  have := run_loadAt_mid (P := P) w b o t cs d hc hd hrow (by simp [hj, hsz, hn])
  simp [execOp, h _ _ hx, this]
theorem R.store {p : Addr} {u v : Value} (hi : szOf P t = some (false, 1)) (hx : opv l x = some (.pointer (some p))) (hy : opv l y = some v) (hv : v.oneCell' = true) (hc : w.cell? p = some u) (hfz : w.frozen? p = false) : RunN P l w (.store t x y) ty .skip (w.setCell p v) := fun ev h _ _ _ _ => by
  obtain ⟨d, j, hd, hj, hrow, hsz⟩ := szOf_spec hi
  have hcs : v.cells = #[v] := by cases v <;> first | rfl | cases hv
  have hst := run_store P w p v .plain hv
  simp only [hc, hfz] at hst
  have ha : p.add 0 = p := by simp [Addr.add]
  simp only [execOp, h _ _ hx, h _ _ hy, Instr.storeAt, Instr.sureAddr, storeVar, Sem.run_bind, Sem.run_pure, Result.andThen_ok, run_sizeOf_of hj, hsz, hcs]
  simp [storeCells, ha, hst]
theorem R.storeA {b o sz : Nat} {cs : Array Value} (hi : szOf P t = some (true, sz)) (hx : opv l x = some (.pointer (some ⟨b, o, none⟩))) (hy : opv l y = some (.agg cs)) (hn : cs.size = sz) (h1 : cs.all (·.oneCell') = true) (ht : w.there b o cs.size) : RunN P l w (.store t x y) ty .skip (w.setCells b o cs.toList) := fun ev h _ _ _ _ => by
  obtain ⟨d, j, hd, hj, hrow, hsz⟩ := szOf_spec hi
  have := run_storeAt_mid (P := P) w b o t cs ht (by simp [hj, hsz, hn]) h1
  simp [execOp, h _ _ hx, h _ _ hy, this]
theorem R.box {v : Value} (hx : opv l x = some v) : Run P l w (.box t x) ty (.pointer (some ⟨w.heap.size, 0, none⟩)) (w.alloc (.cells v.cells t)) := fun ev h _ _ _ _ => by
  simp [execOp, h _ _ hx, Instr.box, newVar, newRow]
theorem R.alloc {j : TypeInfo} {z : Value} (hj : P.info? t = some j) (hz : j.zero = some z) : Run P l w (.alloc t) ty (.pointer (some ⟨w.heap.size, 0, none⟩)) (w.alloc (.cells z.cells t)) := fun ev h _ _ _ _ => by
  simp [execOp, Instr.alloc, zeroValue, typeInfo, hj, hz, newVar, newRow]
theorem R.callF {f : FuncId} {fn : Func} {xs : Array Operand} {ats : Array TypeId} {vs : List Value} (hf : P.funcs[f]? = some fn) (hname : (fn.name == "runtime.NumGoroutine") = false) (hb : fn.body.isNone = false) (hp : opvs l xs.toList = some vs) :
    RunN P l w (.call { callee := .value (.func f), args := xs, argTypes := ats }) ty (.enter f vs.toArray) w := fun ev h _ _ _ _ => by
  have key : ∀ (os : List Operand) (vs : List Value), opvs l os = some vs → os.map ev = vs := by
    intro os
    induction os with
    | nil => intro vs hv; simp [opvs] at hv; subst hv; rfl
    | cons o os ih =>
      intro vs hv
      simp only [opvs] at hv
      split at hv
      · cases hv
      · rename_i v hv1
        split at hv
        · cases hv
        · rename_i us hus
          simp only [Option.some.injEq] at hv
          subst hv
          simp [ih us hus, h _ _ hv1]
  have h1 : (xs.map ev) = vs.toArray := by
    have := key _ _ hp
    apply Array.toList_inj.1
    simpa using this
  have hef : ev (.func f) = .func (.func f) #[] #[] := h (.func f) _ rfl
  have hc : (callFunc f vs.toArray).run P w = .ok (.enter f vs.toArray) w := by
    simp only [callFunc, Sem.run_bind, run_program, Result.andThen_ok, hf, hname, hb, Bool.false_eq_true, if_false, Sem.run_pure]
  simp [execOp, resolve, hef, Deferred.ofValue, invoke, h1, hc]
end
end
section
open Go.RowKit
structure Ck where
  foot : Nat → Prop
  holds : World → Prop
  loc : ∀ w w' : World, (∀ b, foot b → w'.heap[b]? = w.heap[b]?) → holds w → holds w'
def pt (b : Nat) (cs : Array Value) (t : TypeId) : Ck :=
  ⟨fun c => c = b, fun w => w.heap[b]? = some (.cells cs t (0, 0)), fun w w' h hw => by rw [h b rfl]; exact hw⟩
def nof : Nat → Prop := fun _ => False
structure Mem (w0 : World) (F : Nat → Prop) (L : List Ck) (w : World) : Prop where
  os : w.os = w0.os
  tape : w.tape = w0.tape
  output : w.output = w0.output
  size : w0.heap.size ≤ w.heap.size
  old : ∀ b, b < w0.heap.size → ¬ F b → w.heap[b]? = w0.heap[b]?
  holds : ∀ c ∈ L, c.holds w
  inb : ∀ c ∈ L, ∀ b, c.foot b → b < w.heap.size ∧ (b < w0.heap.size → F b)
  apart : L.Pairwise fun c d => ∀ b, c.foot b → ¬ d.foot b
section
variable {w0 w w' : World} {F F' : Nat → Prop} {L L' : List Ck} {c d : Ck}
theorem Mem.start (w : World) : Mem w nof [] w := ⟨rfl, rfl, rfl, Nat.le_refl _, fun _ _ _ => rfl, fun _ h => (by cases h), fun _ h => (by cases h), .nil⟩
theorem Mem.below (h : Mem w0 nof L w) : Below w0.heap.size w0 w := ⟨h.os, h.tape, h.output, h.size, fun b hb => h.old b hb (fun f => f)⟩
theorem Mem.of_below (h : Below w0.heap.size w0 w) : Mem w0 nof [] w := ⟨h.os, h.tape, h.output, h.size, fun b hb _ => h.block b hb, fun _ h => (by cases h), fun _ h => (by cases h), .nil⟩
theorem Mem.drew (h : Mem w0 F L w) : Mem w0 F L w.drew := ⟨h.os, h.tape, h.output, h.size, h.old, fun c hc => c.loc w w.drew (fun _ _ => rfl) (h.holds c hc), h.inb, h.apart⟩
theorem Mem.sub (h : Mem w0 F L w) (hs : L'.Sublist L) : Mem w0 F L' w :=
  ⟨h.os, h.tape, h.output, h.size, h.old, fun c hc => h.holds c (hs.mem hc), fun c hc => h.inb c (hs.mem hc), h.apart.sublist hs⟩
theorem Mem.tail (h : Mem w0 F (c :: L) w) : Mem w0 F L w := h.sub (List.sublist_cons_self _ _)
theorem Mem.nilL (h : Mem w0 F L w) : Mem w0 F [] w := h.sub (List.nil_sublist _)
theorem Mem.perm (h : Mem w0 F L w) (hp : L.Perm L') : Mem w0 F L' w :=
  ⟨h.os, h.tape, h.output, h.size, h.old, fun c hc => h.holds c (hp.mem_iff.2 hc), fun c hc => h.inb c (hp.mem_iff.2 hc), hp.pairwise h.apart (fun h b hc hd => h b hd hc)⟩
theorem Mem.mem (h : Mem w0 F L w) {k : Nat} (hk : ith L k = some c) : c.holds w :=
  h.holds c (List.mem_of_getElem? (by rw [← ith_eq]; exact hk))
theorem Mem.block (h : Mem w0 F L w) {k b : Nat} {cs : Array Value} {t : TypeId} (hk : ith L k = some (pt b cs t)) : w.heap[b]? = some (.cells cs t (0, 0)) := h.mem hk
theorem Mem.lt (h : Mem w0 F L w) {k b : Nat} {cs : Array Value} {t : TypeId} (hk : ith L k = some (pt b cs t)) : b < w.heap.size :=
  ((h.inb _ (List.mem_of_getElem? (by rw [← ith_eq]; exact hk))) b rfl).1
theorem Mem.cell (h : Mem w0 F L w) {k b i : Nat} {cs : Array Value} {t : TypeId} {v : Value} (hk : ith L k = some (pt b cs t)) (hv : cs[i]? = some v) : w.cell? ⟨b, i, none⟩ = some v := by
  simp [World.cell?, h.block hk, hv]
theorem Mem.free (h : Mem w0 F L w) {k b : Nat} (i : Nat) {cs : Array Value} {t : TypeId} (hk : ith L k = some (pt b cs t)) : w.frozen? ⟨b, i, none⟩ = false := by
  simp [World.frozen?, h.block hk]
theorem Mem.range (h : Mem w0 F L w) {k b : Nat} {cs : List Value} {t : TypeId} (hk : ith L k = some (pt b cs.toArray t)) : w.rangeAt b 0 cs := fun j v hv => by
  rw [Nat.zero_add]; exact h.cell hk (by simpa using hv)
theorem Mem.alloc (h : Mem w0 F L w) (cs : Array Value) (t : TypeId) : Mem w0 F (pt w.heap.size cs t :: L) (w.alloc (.cells cs t)) := by
  have hold : ∀ b, b < w.heap.size → (w.alloc (.cells cs t)).heap[b]? = w.heap[b]? := fun b hb => Below.heap_alloc w _ b hb
  refine ⟨h.os, h.tape, h.output, by have := h.size; simp; omega, fun b hb hF => by rw [hold b (Nat.lt_of_lt_of_le hb h.size)]; exact h.old b hb hF, ?_, ?_, ?_⟩
  · intro c hc
    rcases List.mem_cons.1 hc with rfl | hc
    · exact heap_alloc_new w _
    · exact c.loc w _ (fun b hb => hold b (h.inb c hc b hb).1) (h.holds c hc)
  · intro c hc b hb
    rcases List.mem_cons.1 hc with rfl | hc
    · have e : b = w.heap.size := hb
      subst e
      exact ⟨by simp, fun g => absurd h.size (by omega)⟩
    · have := h.inb c hc b hb
      exact ⟨by simp; omega, this.2⟩
  · refine List.pairwise_cons.2 ⟨fun d hd b hb hdb => ?_, h.apart⟩
    have e : b = w.heap.size := hb
    have := (h.inb d hd b hdb).1
    omega
def setAt {α : Type} : List α → Nat → α → List α
  | [], _, _ => []
  | _ :: xs, 0, y => y :: xs
  | x :: xs, i + 1, y => x :: setAt xs i y
theorem setAt_eq {α : Type} : ∀ (l : List α) (i : Nat) (y : α), setAt l i y = l.set i y
  | [], _, _ => rfl
  | _ :: _, 0, _ => rfl
  | x :: xs, i + 1, y => by simp [setAt, setAt_eq xs i y]
theorem Mem.turn (h : Mem w0 F L w) {k : Nat} (hk : ith L k = some c) (hf : ∀ b, d.foot b → c.foot b) (hd : d.holds w') (ho : w'.os = w.os) (ht : w'.tape = w.tape) (hu : w'.output = w.output) (hz : w'.heap.size = w.heap.size)
  (hb : ∀ b, b < w.heap.size → ¬ c.foot b → w'.heap[b]? = w.heap[b]?) : Mem w0 F (setAt L k d) w' := by
 rw [ith_eq] at hk
 rw [setAt_eq]
 obtain ⟨hlt, hck⟩ := List.getElem?_eq_some_iff.1 hk
 have hcm : c ∈ L := List.mem_of_getElem? hk
 have hother : ∀ j (hj : j < L.length), j ≠ k → ∀ b, L[j].foot b → ¬ c.foot b := by
  intro j hj hjk b hjb hcb
  rcases Nat.lt_or_gt_of_ne hjk with g | g
  · exact (List.pairwise_iff_getElem.1 h.apart j k hj hlt g) b hjb (hck ▸ hcb)
  · exact (List.pairwise_iff_getElem.1 h.apart k j hlt hj g) b (hck ▸ hcb) hjb
 have hmem : ∀ e ∈ L.set k d, e = d ∨ ∃ j, ∃ hj : j < L.length, j ≠ k ∧ L[j] = e := by
  intro e he
  obtain ⟨j, hj⟩ := List.getElem?_of_mem he
  rw [List.getElem?_set] at hj
  split at hj
  · left; simpa using hj.symm
  ·
   rename_i hne
   obtain ⟨hj1, hj2⟩ := List.getElem?_eq_some_iff.1 hj
   exact .inr ⟨j, hj1, fun e => hne e.symm, hj2⟩
 refine ⟨ho.trans h.os, ht.trans h.tape, hu.trans h.output, by rw [hz]; exact h.size, fun b hlt' hF => ?_, ?_, ?_, ?_⟩
 ·
  rw [hb b (Nat.lt_of_lt_of_le hlt' h.size) (fun hc => hF ((h.inb c hcm b hc).2 hlt'))]
  exact h.old b hlt' hF
 ·
  intro e he
  rcases hmem e he with rfl | ⟨j, hj, hjk, rfl⟩
  · exact hd
  · exact L[j].loc w w' (fun b hjb => hb b (h.inb _ (List.getElem_mem hj) b hjb).1 (hother j hj hjk b hjb)) (h.holds _ (List.getElem_mem hj))
 ·
  intro e he b heb
  rw [hz]
  rcases hmem e he with rfl | ⟨j, hj, hjk, rfl⟩
  · exact h.inb c hcm b (hf b heb)
  · exact h.inb _ (List.getElem_mem hj) b heb
 ·
  refine List.pairwise_iff_getElem.2 fun i j hi hj hij b hb1 hb2 => ?_
  simp only [List.length_set] at hi hj
  rw [List.getElem_set] at hb1 hb2
  split at hb1
  ·
   rename_i e; subst e
   split at hb2
   · omega
   · exact hother j hj (by omega) b hb2 (hf b hb1)
  ·
   split at hb2
   ·
    rename_i e; subst e
    exact hother i hi (by omega) b hb1 (hf b hb2)
   · exact (List.pairwise_iff_getElem.1 h.apart i j hi hj hij) b hb1 hb2
theorem heap_setCell_at {w : World} {b : Nat} {cs : Array Value} {t : TypeId} (h : w.heap[b]? = some (.cells cs t (0, 0))) (i : Nat) (v : Value) : (w.setCell ⟨b, i, none⟩ v).heap[b]? = some (.cells (cs.setIfInBounds i v) t (0, 0)) := by
  have hlt := lt_of_block h
  have h' : w.heap[b] = .cells cs t (0, 0) := by simpa [Array.getElem?_eq_getElem hlt] using h
  show (w.heap.modify b _)[b]? = _
  rw [Array.getElem?_eq_getElem (by simpa using hlt), Array.getElem_modify_self, h']
  rfl
theorem Mem.store (h : Mem w0 F L w) {k b : Nat} {cs : Array Value} {t : TypeId} (hk : ith L k = some (pt b cs t)) (i : Nat) (v : Value) : Mem w0 F (setAt L k (pt b (cs.setIfInBounds i v) t)) (w.setCell ⟨b, i, none⟩ v) :=
  h.turn (c := pt b cs t) hk (fun _ h => h) (heap_setCell_at (h.block hk) i v) rfl rfl rfl (by simp) (fun c _ hc => Below.heap_setCell w _ _ _ hc)
def spl : Array Value → Nat → List Value → Array Value
  | cs, _, [] => cs
  | cs, o, v :: vs => spl (cs.setIfInBounds o v) (o + 1) vs
theorem setAt_setAt {α : Type} : ∀ (l : List α) (k : Nat) (x y : α), setAt (setAt l k x) k y = setAt l k y
  | [], _, _, _ => rfl
  | _ :: _, 0, _, _ => rfl
  | z :: zs, k + 1, x, y => by simp [setAt, setAt_setAt zs k x y]
theorem ith_setAt {α : Type} : ∀ (l : List α) (k : Nat) (x y : α), ith l k = some y → ith (setAt l k x) k = some x
  | [], _, _, _, h => by simp [ith] at h
  | _ :: _, 0, _, _, _ => rfl
  | _ :: zs, k + 1, x, y, h => ith_setAt zs k x y h
theorem Mem.storeA : ∀ (vs : List Value) {w0 w : World} {F : Nat → Prop} {L : List Ck} {k b : Nat} {cs : Array Value} {t : TypeId} (o : Nat), Mem w0 F L w → ith L k = some (pt b cs t) → Mem w0 F (setAt L k (pt b (spl cs o vs) t)) (w.setCells b o vs)
  | [], w0, w, F, L, k, b, cs, t, o, h, hk => by
    have e : setAt L k (pt b cs t) = L := by
      rw [setAt_eq]; rw [ith_eq] at hk
      exact List.ext_getElem? fun j => by
        rw [List.getElem?_set]
        split
        · rename_i e; subst e
          obtain ⟨hlt, -⟩ := List.getElem?_eq_some_iff.1 hk
          rw [hk]; simp [hlt]
        · rfl
    show Mem w0 F (setAt L k (pt b cs t)) w
    rw [e]; exact h
  | v :: vs, w0, w, F, L, k, b, cs, t, o, h, hk => by
    have h1 := h.store hk o v
    have h2 := Mem.storeA vs (o + 1) h1 (ith_setAt _ _ _ _ hk)
    rw [setAt_setAt] at h2
    exact h2
theorem Mem.there (h : Mem w0 F L w) {k b : Nat} {cs : Array Value} {t : TypeId} (hk : ith L k = some (pt b cs t)) {o n : Nat} (hn : Nat.ble (o + n) cs.size = true) : w.there b o n := fun j hj => by
  have hle : o + n ≤ cs.size := Nat.le_of_ble_eq_true hn
  refine ⟨?_, h.free _ hk⟩
  rw [h.cell hk (v := cs[o + j]'(by omega)) (by rw [Array.getElem?_eq_getElem])]
  rfl
def allOne : List Value → Bool
  | [] => true
  | v :: vs => v.oneCell' && allOne vs
theorem allOne_spec : ∀ (vs : List Value), allOne vs = true → vs.toArray.all (·.oneCell') = true
  | [], _ => by simp
  | v :: vs, h => by
    simp only [allOne, Bool.and_eq_true] at h
    have := allOne_spec vs h.2
    simp only [List.all_toArray, List.all_cons, h.1, Bool.true_and] at this ⊢
    exact this
theorem Mem.call (h : Mem w0 F L w) (hn : Mem w nof L' w') : Mem w0 F (L' ++ L) w' := by
  have hkeep : ∀ b, b < w.heap.size → w'.heap[b]? = w.heap[b]? := fun b hb => hn.old b hb (fun f => f)
  refine ⟨hn.os.trans h.os, hn.tape.trans h.tape, hn.output.trans h.output, Nat.le_trans h.size hn.size, fun b hb hF => by rw [hkeep b (Nat.lt_of_lt_of_le hb h.size)]; exact h.old b hb hF, ?_, ?_, ?_⟩
  · intro c hc
    rcases List.mem_append.1 hc with hc | hc
    · exact hn.holds c hc
    · exact c.loc w w' (fun b hb => hkeep b (h.inb c hc b hb).1) (h.holds c hc)
  · intro c hc b hb
    rcases List.mem_append.1 hc with hc | hc
    · have := hn.inb c hc b hb
      refine ⟨this.1, fun g => ?_⟩
      exact (this.2 (Nat.lt_of_lt_of_le g h.size)).elim
    · have := h.inb c hc b hb
      exact ⟨Nat.lt_of_lt_of_le this.1 hn.size, this.2⟩
  · refine List.pairwise_append.2 ⟨hn.apart, h.apart, fun c hc d hd b hcb hdb => ?_⟩
    have h1 := hn.inb c hc b hcb
    have h2 := h.inb d hd b hdb
    exact h1.2 h2.1
theorem Mem.callB (h : Mem w0 F L w) (hn : Below w.heap.size w w') : Mem w0 F L w' := h.call (Mem.of_below hn)
end
section
variable {P : Program} {R : Ending → World → Prop} {f : FuncId} {a : Act} {w w0 : World} {n : Nat} {l : List (Nat × Value)} {ops : Array Oper} {Q : Exit → Act → World → Prop} {rest : List Oper} {F : Nat → Prop} {L : List Ck}
  {S : World → Prop} {os : List Oper} {is : Ordt} {b0 : Bool} {i last : Nat} {d : Nat} {t ty : TypeId} {x y : Operand} {pos : String} {aft : Array Edge}
theorem S.store {k b o : Nat} {cs : Array Value} {t' : TypeId} {u v : Value} (hA : St n l a) (hM : Mem w0 F L w) (hi : szOf P t = some (false, 1)) (hx : opv l x = some (.pointer (some ⟨b, o, none⟩))) (hy : opv l y = some v) (hv : v.oneCell' = true)
    (hk : ith L k = some (pt b cs t')) (hu : cs[o]? = some u) (h : ∀ w', Mem w0 F (setAt L k (pt b (cs.setIfInBounds o v) t')) w' → wpList P ops Q rest a w') :
    wpList P ops Q ({ dst := none, op := .store t x y, type := ty, pos, after := aft, guard := none } :: rest) a w :=
  S.skip hA (R.store hi hx hy hv (hM.cell hk hu) (hM.free _ hk)) (h _ (hM.store hk o v))
theorem S.storeA {k b o sz : Nat} {cs : Array Value} {t' : TypeId} {vs : List Value} (hA : St n l a) (hM : Mem w0 F L w) (hi : szOf P t = some (true, sz)) (hx : opv l x = some (.pointer (some ⟨b, o, none⟩))) (hy : opv l y = some (.agg vs.toArray)) (hn : vs.length = sz) (h1 : allOne vs = true)
    (hk : ith L k = some (pt b cs t')) (hfit : Nat.ble (o + vs.length) cs.size = true) (h : ∀ w', Mem w0 F (setAt L k (pt b (spl cs o vs) t')) w' → wpList P ops Q rest a w') :
    wpList P ops Q ({ dst := none, op := .store t x y, type := ty, pos, after := aft, guard := none } :: rest) a w :=
  S.skip hA (R.storeA hi hx hy (by simpa using hn) (allOne_spec _ h1) (hM.there hk (by simpa using hfit))) (h _ (by simpa using hM.storeA vs o hk))
theorem S.box {v : Value} (hA : St n l a) (hM : Mem w0 F L w) (hx : opv l x = some v) (hd : Nat.blt d n = true) (h : ∀ b w', w0.heap.size ≤ b → Mem w0 F (pt b v.cells t :: L) w' → ∀ a, St n ((d, .pointer (some ⟨b, 0, none⟩)) :: l) a → wpList P ops Q rest a w') :
    wpList P ops Q ({ dst := some d, op := .box t x, type := ty, pos, after := aft, guard := none } :: rest) a w :=
  S.val hA (R.box hx) hd (h _ _ hM.size (hM.alloc _ _))
theorem S.alloc {j : TypeInfo} {z : Value} (hA : St n l a) (hM : Mem w0 F L w) (hj : P.info? t = some j) (hz : j.zero = some z) (hd : Nat.blt d n = true) (h : ∀ b w', w0.heap.size ≤ b → Mem w0 F (pt b z.cells t :: L) w' → ∀ a, St n ((d, .pointer (some ⟨b, 0, none⟩)) :: l) a → wpList P ops Q rest a w') :
    wpList P ops Q ({ dst := some d, op := .alloc t, type := ty, pos, after := aft, guard := none } :: rest) a w :=
  S.val hA (R.alloc hj hz) hd (h _ _ hM.size (hM.alloc _ _))
theorem D.store {k b o : Nat} {cs : Array Value} {t' : TypeId} {u v : Value} (hA : St n l a) (hM : Mem w0 F L w) (ho : ith os i = some { dst := none, op := .store t x y, type := ty, pos, after := aft, guard := none })
    (hi : szOf P t = some (false, 1)) (hx : opv l x = some (.pointer (some ⟨b, o, none⟩))) (hy : opv l y = some v) (hv : v.oneCell' = true)
    (hk : ith L k = some (pt b cs t')) (hu : cs[o]? = some u) (h : ∀ w', Mem w0 F (setAt L k (pt b (cs.setIfInBounds o v) t')) w' → (b0 = false → i ≠ last → S w') ∧ wpOrd P last os Q S (b0 || Nat.beq i last) is a w') : wpOrd P last os Q S b0 (.cons (i, false) is) a w :=
  have g := h _ (hM.store hk o v)
  D.skip hA ho (R.store hi hx hy hv (hM.cell hk hu) (hM.free _ hk)) g.1 g.2
theorem D.storeA {k b o sz : Nat} {cs : Array Value} {t' : TypeId} {vs : List Value} (hA : St n l a) (hM : Mem w0 F L w) (ho : ith os i = some { dst := none, op := .store t x y, type := ty, pos, after := aft, guard := none })
    (hi : szOf P t = some (true, sz)) (hx : opv l x = some (.pointer (some ⟨b, o, none⟩))) (hy : opv l y = some (.agg vs.toArray)) (hn : vs.length = sz) (h1 : allOne vs = true)
    (hk : ith L k = some (pt b cs t')) (hfit : Nat.ble (o + vs.length) cs.size = true) (h : ∀ w', Mem w0 F (setAt L k (pt b (spl cs o vs) t')) w' → (b0 = false → i ≠ last → S w') ∧ wpOrd P last os Q S (b0 || Nat.beq i last) is a w') : wpOrd P last os Q S b0 (.cons (i, false) is) a w :=
  have g := h (w.setCells b o vs) (hM.storeA vs o hk)
  D.skip hA ho (by simpa using R.storeA hi hx hy (by simpa using hn) (allOne_spec _ h1) (hM.there hk (by simpa using hfit))) g.1 g.2
theorem D.box {v : Value} (hA : St n l a) (hM : Mem w0 F L w) (ho : ith os i = some { dst := some d, op := .box t x, type := ty, pos, after := aft, guard := none }) (hx : opv l x = some v) (hd : Nat.blt d n = true)
    (h : ∀ b w', w0.heap.size ≤ b → Mem w0 F (pt b v.cells t :: L) w' → S w' ∧ ∀ a, St n ((d, .pointer (some ⟨b, 0, none⟩)) :: l) a → wpOrd P last os Q S b0 is a w') : wpOrd P last os Q S b0 (.cons (i, false) is) a w :=
  have g := h _ _ hM.size (hM.alloc _ _)
  D.eff hA ho (R.box hx) hd g.1 g.2
theorem D.alloc {j : TypeInfo} {z : Value} (hA : St n l a) (hM : Mem w0 F L w) (ho : ith os i = some { dst := some d, op := .alloc t, type := ty, pos, after := aft, guard := none }) (hj : P.info? t = some j) (hz : j.zero = some z) (hd : Nat.blt d n = true)
    (h : ∀ b w', w0.heap.size ≤ b → Mem w0 F (pt b z.cells t :: L) w' → S w' ∧ ∀ a, St n ((d, .pointer (some ⟨b, 0, none⟩)) :: l) a → wpOrd P last os Q S b0 is a w') : wpOrd P last os Q S b0 (.cons (i, false) is) a w :=
  have g := h _ _ hM.size (hM.alloc _ _)
  D.eff hA ho (R.alloc hj hz) hd g.1 g.2
end
end
section
open Go.RowKit
def own (e : TypeId) (sz : Nat) (v : Value) (n : Nat) (xs : List Value) : Ck :=
  ⟨fun b => v.ownBlock = some b, fun w => w.ownsRow 0 e sz v n xs, fun w w' h hw => by
    refine ⟨hw.1, ?_⟩
    rcases hw.2 with hn | ⟨g, cap, cur, rfl, hb, hg, rest⟩
    · exact .inl hn
    · exact .inr ⟨g, cap, cur, rfl, hb, by rw [h g rfl]; exact hg, rest⟩⟩
section
variable {w0 w w' : World} {F : Nat → Prop} {L L' : List Ck} {e t : TypeId} {sz n m cap g k b : Nat} {v v' : Value} {xs news : List Value}
theorem Mem.consNo (h : Mem w0 F L w) {c : Ck} (hc : c.holds w) (hf : ∀ b, ¬ c.foot b) : Mem w0 F (c :: L) w :=
  ⟨h.os, h.tape, h.output, h.size, h.old, fun d hd => (List.mem_cons.1 hd).elim (fun e => e ▸ hc) (h.holds d),
    fun d hd b hb => (List.mem_cons.1 hd).elim (fun e => (hf b (e ▸ hb)).elim) (fun hd => h.inb d hd b hb), List.pairwise_cons.2 ⟨fun _ _ b hb => (hf b hb).elim, h.apart⟩⟩
theorem Mem.ownNil (h : Mem w0 F L w) (e : TypeId) (sz : Nat) : Mem w0 F (own e sz (.slice none 0 0) 0 [] :: L) w :=
  h.consNo (World.ownsRow_nil w 0 e sz) (fun b hb => by cases hb)
theorem Mem.head {c : Ck} (h : Mem w0 F (c :: L) w) {d : Ck} (hd : d.holds w) (hf : ∀ b, d.foot b → c.foot b) : Mem w0 F (d :: L) w := by
  have := h.turn (k := 0) (c := c) (d := d) (w' := w) rfl hf hd rfl rfl rfl rfl (fun _ _ _ => rfl)
  exact this
theorem own_form {w : World} (h : w.ownsRow 0 e sz v n xs) : ∃ a cap, v = .slice a n cap ∧ n ≤ cap ∧ cap ≤ maxLen ∧ xs.length = n * sz ∧ (a = none → n = 0) ∧ ∀ p, a = some p → ∃ g, p = ⟨g, 0, none⟩ := by
  obtain ⟨h1, h2⟩ := h
  rcases h2 with ⟨rfl, rfl⟩ | ⟨g, cap, cur, rfl, _, _, hn, hm, _⟩
  · exact ⟨none, 0, rfl, Nat.le_refl _, Nat.zero_le _, h1, fun _ => rfl, fun p hp => by cases hp⟩
  · exact ⟨_, cap, rfl, hn, hm, h1, fun h => (nomatch h), fun p hp => ⟨g, (Option.some.inj hp).symm⟩⟩
theorem Mem.ownForm (h : Mem w0 F L w) (hk : ith L k = some (own e sz v n xs)) : ∃ a cap, v = .slice a n cap ∧ n ≤ cap ∧ cap ≤ maxLen ∧ xs.length = n * sz ∧ (a = none → n = 0) ∧ ∀ p, a = some p → ∃ g, p = ⟨g, 0, none⟩ :=
  own_form (h.mem hk)
theorem Mem.ownAt (h : Mem w0 F L w) {a : Option Addr} (hk : ith L k = some (own e sz (.slice a n cap) n xs)) (hn : 0 < n) : ∃ g, a = some ⟨g, 0, none⟩ := by
  obtain ⟨a', cap', he, -, -, -, h1, h2⟩ := h.ownForm hk
  cases he
  cases a with
  | none => have := h1 rfl; omega
  | some p => obtain ⟨g, rfl⟩ := h2 p rfl; exact ⟨g, rfl⟩
theorem Mem.ownLe (h : Mem w0 F L w) {a : Option Addr} (hk : ith L k = some (own e sz (.slice a n cap) n xs)) : n ≤ cap ∧ cap ≤ maxLen := by
  obtain ⟨a', cap', he, h1, h2, -⟩ := h.ownForm hk
  cases he
  exact ⟨h1, h2⟩
theorem Mem.ownCell (h : Mem w0 F L w) (hk : ith L k = some (own e sz (.slice (some ⟨g, 0, none⟩) n cap) n xs)) {i : Nat} {u : Value} (hx : xs[i]? = some u) : w.cell? ⟨g, i, none⟩ = some u := by
  have h0 : w.ownsRow 0 e sz (.slice (some ⟨g, 0, none⟩) n cap) n xs := h.mem hk
  have := h0.cells (g := g) rfl i u hx
  rwa [Addr.add_lit, Nat.zero_add] at this
def dropAt {α : Type} : List α → Nat → List α
  | [], _ => []
  | _ :: xs, 0 => xs
  | x :: xs, i + 1 => x :: dropAt xs i
theorem dropAt_sub {α : Type} : ∀ (l : List α) (i : Nat), (dropAt l i).Sublist l
  | [], _ => List.Sublist.refl _
  | _ :: _, 0 => List.sublist_cons_self _ _
  | _ :: xs, i + 1 => (dropAt_sub xs i).cons_cons _
theorem Mem.drop (h : Mem w0 F L w) (k : Nat) : Mem w0 F (dropAt L k) w := h.sub (dropAt_sub L k)
theorem dropAt_perm {α : Type} : ∀ (l : List α) (i : Nat) (x : α), ith l i = some x → l.Perm (x :: dropAt l i)
  | [], _, _, h => by simp [ith] at h
  | y :: ys, 0, x, h => by
    have e : y = x := by simpa [ith] using h
    subst e; exact List.Perm.refl _
  | y :: ys, i + 1, x, h => ((dropAt_perm ys i x h).cons y).trans (List.Perm.swap _ _ _)
theorem Mem.front (h : Mem w0 F L w) {k : Nat} {c : Ck} (hk : ith L k = some c) : Mem w0 F (c :: dropAt L k) w := h.perm (dropAt_perm L k c hk)
theorem append_form {P : Program} (w : World) (t ty e : TypeId) (i : TypeInfo) (z : Value) (size bytes : Nat) (ht : P.underlying t = some (.slice e)) (hi : P.info? e = some i) (hz : i.zero = some z)
    (hsize : i.size = size) (hby : i.bytes = bytes) (hzs : z.cells.size = size) (hsz : 0 < size)
    (v : Value) (n : Nat) (xs : List Value) (hown : w.ownsRow 0 e size v n xs)
    (a : Addr) (m c : Nat) (news : List Value) (hl : news.length = m * size) (hnews : ∀ j u, news[j]? = some u → w.cell? (a.add j) = some u) (h1 : ∀ u ∈ news, u.oneCell' = true)
    (h63 : n + m ≤ maxLen) (hbytes : (n + m) * bytes ≤ 140737488355328) :
    ∃ v' w', (Builtin.append_ #[t, t] ty #[v, .slice (some a) m c]).run P w = .ok v' w' ∧ w'.ownsRow 0 e size v' (n + m) (xs ++ news) ∧ w.grownBy w' v.ownBlock ∧
      (∀ b, v'.ownBlock = some b → v.ownBlock = some b ∨ w.heap.size ≤ b) := by
  obtain ⟨v', w', hr, h2, h3, -⟩ := run_append_own (P := P) w 0 t ty e i z size bytes ht hi hz hsize hby hzs hsz v n xs hown a m c news hl hnews h1 h63 hbytes (Nat.zero_le _)
  refine ⟨v', w', hr, h2, h3, fun b hb => ?_⟩
  rcases hown.2 with ⟨rfl, rfl⟩ | ⟨g, cap, cur, rfl, hbg, hg, hnc, hcm, hcs, htake⟩
  · obtain ⟨v2, w2, hr2, g2, -, -⟩ := run_append_own (P := P) w w.heap.size t ty e i z size bytes ht hi hz hsize hby hzs hsz (.slice none 0 0) 0 xs
      ⟨hown.1, .inl ⟨rfl, rfl⟩⟩ a m c news hl hnews h1 h63 hbytes (Nat.le_refl _)
    rw [hr] at hr2
    obtain ⟨rfl, rfl⟩ := (Result.ok.injEq .. ▸ hr2 : v' = v2 ∧ w' = w2)
    exact .inr (g2.lt b hb).1
  · by_cases hroom : n + m ≤ cap
    · obtain ⟨w2, hr2, -, -⟩ := run_append_fits (P := P) w 0 t ty e i size ht hi hsize g n cap xs hown a m c news hl hnews h1 hroom
      rw [hr] at hr2
      obtain ⟨rfl, rfl⟩ := (Result.ok.injEq .. ▸ hr2 : v' = _ ∧ w' = w2)
      exact .inl hb
    · have holds : ∀ j u, xs[j]? = some u → w.cell? ((⟨g, 0, none⟩ : Addr).add j) = some u := hown.cells (g := g) rfl
      have hl' := hown.1
      subst hsize
      subst hby
      have hr2 := run_append_grow (P := P) w t ty e i z ht hi hz ⟨g, 0, none⟩ n cap xs hl' holds a m c news hl hnews (by omega) (by unfold maxLen at h63; omega) (growslice_fits (by omega) hbytes)
      rw [hr] at hr2
      obtain ⟨rfl, rfl⟩ := (Result.ok.injEq .. ▸ hr2 : v' = _ ∧ w' = _)
      have e : some w.heap.size = some b := hb
      exact .inr (by rw [← Option.some.inj e]; exact Nat.le_refl _)
theorem Mem.grown (h : Mem w0 F L w) (hk : ith L k = some (own e sz v n xs)) (h2 : w'.ownsRow 0 e sz v' m news) (h3 : w.grownBy w' v.ownBlock) (h4 : ∀ b, v'.ownBlock = some b → v.ownBlock = some b ∨ w.heap.size ≤ b) :
    Mem w0 F (setAt L k (own e sz v' m news)) w' := by
  have hfr := h.front hk
  have hperm : (setAt L k (own e sz v' m news)).Perm (own e sz v' m news :: dropAt L k) := by
    have : ∀ (l : List Ck) (i : Nat) (x y : Ck), ith l i = some x → (setAt l i y).Perm (y :: dropAt l i) := by
      intro l
      induction l with
      | nil => intro i x y h; simp [ith] at h
      | cons z zs ih =>
        intro i x y h
        cases i with
        | zero => exact List.Perm.refl _
        | succ i => exact ((ih i x y h).cons z).trans (List.Perm.swap _ _ _)
    exact this L k _ _ hk
  refine Mem.perm ?_ hperm.symm
  have hap := List.pairwise_cons.1 hfr.apart
  refine ⟨h3.os.trans h.os, h3.tape.trans h.tape, h3.output.trans h.output, Nat.le_trans h.size h3.size, fun b hb hF => ?_, fun d hd => ?_, fun d hd b hb => ?_, List.pairwise_cons.2 ⟨fun d hd b hb hdb => ?_, hap.2⟩⟩
  · rw [h3.block b (Nat.lt_of_lt_of_le hb h.size) (fun e => hF ((hfr.inb _ (List.mem_cons_self ..) b e.symm).2 hb))]
    exact h.old b hb hF
  · rcases List.mem_cons.1 hd with rfl | hd
    · exact h2
    · refine d.loc w w' (fun b hb => h3.block b (hfr.inb d (by simp [hd]) b hb).1 (fun e => hap.1 d hd b e.symm hb)) (hfr.holds d (by simp [hd]))
  · rcases List.mem_cons.1 hd with rfl | hd
    · refine ⟨(h2.lt b hb).2, fun hlt => ?_⟩
      rcases h4 b hb with h4 | h4
      · exact (hfr.inb _ (List.mem_cons_self ..) b h4).2 hlt
      · have := h.size; omega
    · have := hfr.inb d (by simp [hd]) b hb
      exact ⟨Nat.lt_of_lt_of_le this.1 h3.size, this.2⟩
  · rcases h4 b hb with h4 | h4
    · exact hap.1 d hd b h4 hdb
    · have := (hfr.inb d (by simp [hd]) b hdb).1; omega
end
section
variable {P : Program} {l : List (Nat × Value)} {w : World} {ty : TypeId} {x y : Operand} {t e : TypeId}
theorem R.make {k k' : IntKind} {n : Int} {i : TypeInfo} {z : Value} (ht : P.underlying t = some (.slice e)) (hi : P.info? e = some i) (hz : i.zero = some z) (hx : opv l x = some (.int k n)) (hy : opv l y = some (.int k' n)) (h0 : 0 ≤ n) (hb : (i.bytes : Int) * n ≤ 281474976710656) (h1 : n ≤ 9223372036854775807) :
    Run P l w (.makeSlice t x y) ty (.slice (some ⟨w.heap.size, 0, none⟩) n.toNat n.toNat) (w.alloc (.cells (madeCells z.cells (n.toNat * i.size)) e)) := fun ev h _ _ _ _ => by
  have hr := run_make (P := P) w t e i z ht hi hz k k' n n h0 (Int.le_refl _) hb h1
  simp [execOp, h _ _ hx, h _ _ hy, hr]
theorem R.buildSl {len : Nat} {ps : Array (Nat × Operand)} {vs : List Value} {cells : Array Value} {i : TypeInfo} {z : Value} (ht : P.underlying t = some (.slice e)) (hi : P.info? e = some i) (hz : i.zero = some z) (hp : opvs l (ps.toList.map (·.2)) = some vs)
    (hsm : Nat.ble (len * i.size) 1000 = true) (hps : Nat.beq (len * i.size) 0 = false) (hf : Instr.fill (fun j => some (j * i.size, i.size)) ((Array.range (len * i.size)).map (z.cells[· % z.cells.size]!)) ((ps.toList.map (·.1)).zip vs) = some cells) :
    Run P l w (.buildSlice t len ps) ty (.slice (some ⟨w.heap.size, 0, none⟩) len len) (w.alloc (.cells cells e)) := fun ev h _ _ _ _ => by
  have key : ∀ (os : List (Nat × Operand)) (vs : List Value), opvs l (os.map (·.2)) = some vs → os.map (fun (i, x) => (i, ev x)) = (os.map (·.1)).zip vs := by
    intro os
    induction os with
    | nil => intro vs hv; simp [opvs] at hv; subst hv; rfl
    | cons o os ih =>
      intro vs hv
      simp only [List.map_cons, opvs] at hv
      split at hv
      · cases hv
      · rename_i v hv1
        split at hv
        · cases hv
        · rename_i us hus
          simp only [Option.some.injEq] at hv
          subst hv
          simp [ih us hus, h _ _ hv1]
  have h1 : (ps.map fun (i, x) => (i, ev x)).toList = (ps.toList.map (·.1)).zip vs := by simpa using key _ _ hp
  have hle : len * i.size ≤ 1000 := Nat.le_of_ble_eq_true hsm
  have hne : ¬ len * i.size = 0 := by intro e; rw [e] at hps; cases hps
  simp only [execOp]
  rw [Sem.run_bind, run_buildSlice w t e len _ cells i z ht hi hz (by omega) hne (by rw [h1]; exact hf)]
  rfl
end
section
variable {P : Program} {R : Ending → World → Prop} {f : FuncId} {a : Act} {w w0 : World} {nn : Nat} {l : List (Nat × Value)} {ops : Array Oper} {Q : Exit → Act → World → Prop} {rest : List Oper} {F : Nat → Prop} {L : List Ck}
  {S : World → Prop} {os : List Oper} {is : Ordt} {b0 : Bool} {i last : Nat} {d : Nat} {t e ty : TypeId} {x y : Operand} {pos : String} {aft : Array Edge}
theorem S.make {k k' : IntKind} {n : Int} {j : TypeInfo} {z : Value} (hA : St nn l a) (hM : Mem w0 F L w) (ht : P.underlying t = some (.slice e)) (hi : P.info? e = some j) (hz : j.zero = some z) (hx : opv l x = some (.int k n)) (hy : opv l y = some (.int k' n)) (h0 : 0 ≤ n) (hb : (j.bytes : Int) * n ≤ 281474976710656) (h1 : n ≤ 9223372036854775807) (hd : Nat.blt d nn = true)
    (h : ∀ b w', w0.heap.size ≤ b → Mem w0 F (pt b (madeCells z.cells (n.toNat * j.size)) e :: L) w' → ∀ a, St nn ((d, .slice (some ⟨b, 0, none⟩) n.toNat n.toNat) :: l) a → wpList P ops Q rest a w') :
    wpList P ops Q ({ dst := some d, op := .makeSlice t x y, type := ty, pos, after := aft, guard := none } :: rest) a w :=
  S.val hA (R.make ht hi hz hx hy h0 hb h1) hd (h _ _ hM.size (hM.alloc _ _))
theorem S.buildSl {len : Nat} {ps : Array (Nat × Operand)} {vs : List Value} {cells : Array Value} {j : TypeInfo} {z : Value} (hA : St nn l a) (hM : Mem w0 F L w) (ht : P.underlying t = some (.slice e)) (hi : P.info? e = some j) (hz : j.zero = some z) (hp : opvs l (ps.toList.map (·.2)) = some vs)
    (hsm : Nat.ble (len * j.size) 1000 = true) (hps : Nat.beq (len * j.size) 0 = false) (hf : Instr.fill (fun i => some (i * j.size, j.size)) ((Array.range (len * j.size)).map (z.cells[· % z.cells.size]!)) ((ps.toList.map (·.1)).zip vs) = some cells) (hd : Nat.blt d nn = true)
    (h : ∀ b w', w0.heap.size ≤ b → Mem w0 F (pt b cells e :: L) w' → ∀ a, St nn ((d, .slice (some ⟨b, 0, none⟩) len len) :: l) a → wpList P ops Q rest a w') :
    wpList P ops Q ({ dst := some d, op := .buildSlice t len ps, type := ty, pos, after := aft, guard := none } :: rest) a w :=
  S.val hA (R.buildSl ht hi hz hp hsm hps hf) hd (h _ _ hM.size (hM.alloc _ _))
theorem D.buildSl {len : Nat} {ps : Array (Nat × Operand)} {vs : List Value} {cells : Array Value} {j : TypeInfo} {z : Value} (hA : St nn l a) (hM : Mem w0 F L w) (ho : ith os i = some { dst := some d, op := .buildSlice t len ps, type := ty, pos, after := aft, guard := none })
    (ht : P.underlying t = some (.slice e)) (hi : P.info? e = some j) (hz : j.zero = some z) (hp : opvs l (ps.toList.map (·.2)) = some vs)
    (hsm : Nat.ble (len * j.size) 1000 = true) (hps : Nat.beq (len * j.size) 0 = false) (hf : Instr.fill (fun i => some (i * j.size, j.size)) ((Array.range (len * j.size)).map (z.cells[· % z.cells.size]!)) ((ps.toList.map (·.1)).zip vs) = some cells) (hd : Nat.blt d nn = true)
    (h : ∀ b w', w0.heap.size ≤ b → Mem w0 F (pt b cells e :: L) w' → S w' ∧ ∀ a, St nn ((d, .slice (some ⟨b, 0, none⟩) len len) :: l) a → wpOrd P last os Q S b0 is a w') : wpOrd P last os Q S b0 (.cons (i, false) is) a w :=
  have g := h _ _ hM.size (hM.alloc _ _)
  D.eff hA ho (R.buildSl ht hi hz hp hsm hps hf) hd g.1 g.2
theorem D.make {k k' : IntKind} {n : Int} {j : TypeInfo} {z : Value} (hA : St nn l a) (hM : Mem w0 F L w) (ho : ith os i = some { dst := some d, op := .makeSlice t x y, type := ty, pos, after := aft, guard := none })
    (ht : P.underlying t = some (.slice e)) (hi : P.info? e = some j) (hz : j.zero = some z) (hx : opv l x = some (.int k n)) (hy : opv l y = some (.int k' n)) (h0 : 0 ≤ n) (hb : (j.bytes : Int) * n ≤ 281474976710656) (h1 : n ≤ 9223372036854775807) (hd : Nat.blt d nn = true)
    (h : ∀ b w', w0.heap.size ≤ b → Mem w0 F (pt b (madeCells z.cells (n.toNat * j.size)) e :: L) w' → S w' ∧ ∀ a, St nn ((d, .slice (some ⟨b, 0, none⟩) n.toNat n.toNat) :: l) a → wpOrd P last os Q S b0 is a w') : wpOrd P last os Q S b0 (.cons (i, false) is) a w :=
  have g := h _ _ hM.size (hM.alloc _ _)
  D.eff hA ho (R.make ht hi hz hx hy h0 hb h1) hd g.1 g.2
theorem R.append {P : Program} {l : List (Nat × Value)} {w w0 : World} {F : Nat → Prop} {L : List Ck} {k n m c sz bytes : Nat} {v z : Value} {xs news : List Value} {p : Addr} {j : TypeInfo} (hM : Mem w0 F L w) (hk : ith L k = some (own e sz v n xs)) (ht : P.underlying t = some (.slice e)) (hi : P.info? e = some j) (hz : j.zero = some z) (hsz : j.size = sz) (hby : j.bytes = bytes) (hzs : z.cells.size = sz) (hps : Nat.blt 0 sz = true)
    (hx : opv l x = some v) (hy : opv l y = some (.slice (some p) m c)) (hl : news.length = m * sz) (hnews : ∀ j u, news[j]? = some u → w.cell? (p.add j) = some u) (h1 : allOne news = true) (hmax : n + m ≤ maxLen) (hbs : (n + m) * bytes ≤ 140737488355328) :
    ∃ a' cap' w', Run P l w (.call { callee := .builtin .append, args := #[x, y], argTypes := #[t, t] }) ty (.slice a' (n + m) cap') w' ∧ Mem w0 F (setAt L k (own e sz (.slice a' (n + m) cap') (n + m) (xs ++ news))) w' := by
  have hone : ∀ u ∈ news, u.oneCell' = true := by
    clear hl hnews
    induction news with
    | nil => intro u hu; cases hu
    | cons v vs ih =>
      simp only [allOne, Bool.and_eq_true] at h1
      intro u hu
      rcases List.mem_cons.1 hu with rfl | hu
      · exact h1.1
      · exact ih h1.2 u hu
  obtain ⟨v', w', hr, h2, h3, h4⟩ := append_form (P := P) w t ty e j z sz bytes ht hi hz hsz hby hzs (Nat.le_of_ble_eq_true hps) v n xs (hM.mem hk) p m c news hl hnews hone hmax hbs
  obtain ⟨a', cap', rfl, -⟩ := own_form h2
  exact ⟨a', cap', w', fun ev h _ _ _ _ => by simp [execOp, resolve, invoke, builtin, h _ _ hx, h _ _ hy, hr], hM.grown hk h2 h3 h4⟩
theorem S.append {k k2 n m c sz bytes b : Nat} {v z : Value} {xs news : List Value} {j : TypeInfo} (hA : St nn l a) (hM : Mem w0 F L w) (hk : ith L k = some (own e sz v n xs)) (hk2 : ith L k2 = some (pt b news.toArray e)) (ht : P.underlying t = some (.slice e)) (hi : P.info? e = some j) (hz : j.zero = some z) (hsz : j.size = sz) (hby : j.bytes = bytes) (hzs : z.cells.size = sz) (hps : Nat.blt 0 sz = true)
    (hx : opv l x = some v) (hy : opv l y = some (.slice (some ⟨b, 0, none⟩) m c)) (hl : news.length = m * sz) (h1 : allOne news = true) (hmax : n + m ≤ maxLen) (hbs : (n + m) * bytes ≤ 140737488355328) (hd : Nat.blt d nn = true)
    (h : ∀ a' cap' w', Mem w0 F (setAt L k (own e sz (.slice a' (n + m) cap') (n + m) (xs ++ news))) w' → ∀ a, St nn ((d, .slice a' (n + m) cap') :: l) a → wpList P ops Q rest a w') :
    wpList P ops Q ({ dst := some d, op := .call { callee := .builtin .append, args := #[x, y], argTypes := #[t, t] }, type := ty, pos, after := aft, guard := none } :: rest) a w := by
  obtain ⟨a', cap', w', hr, hM'⟩ := R.append (P := P) (ty := ty) (t := t) hM hk ht hi hz hsz hby hzs hps hx hy hl (fun j u hu => by rw [Addr.add_lit]; exact hM.cell hk2 (by simpa using hu)) h1 hmax hbs
  exact S.val hA hr hd (h a' cap' w' hM')
theorem D.append {k k2 n m c sz bytes b : Nat} {v z : Value} {xs news : List Value} {j : TypeInfo} (hA : St nn l a) (hM : Mem w0 F L w) (ho : ith os i = some { dst := some d, op := .call { callee := .builtin .append, args := #[x, y], argTypes := #[t, t] }, type := ty, pos, after := aft, guard := none })
    (hk : ith L k = some (own e sz v n xs)) (hk2 : ith L k2 = some (pt b news.toArray e)) (ht : P.underlying t = some (.slice e)) (hi : P.info? e = some j) (hz : j.zero = some z) (hsz : j.size = sz) (hby : j.bytes = bytes) (hzs : z.cells.size = sz) (hps : Nat.blt 0 sz = true)
    (hx : opv l x = some v) (hy : opv l y = some (.slice (some ⟨b, 0, none⟩) m c)) (hl : news.length = m * sz) (h1 : allOne news = true) (hmax : n + m ≤ maxLen) (hbs : (n + m) * bytes ≤ 140737488355328) (hd : Nat.blt d nn = true)
    (h : ∀ a' cap' w', Mem w0 F (setAt L k (own e sz (.slice a' (n + m) cap') (n + m) (xs ++ news))) w' → S w' ∧ ∀ a, St nn ((d, .slice a' (n + m) cap') :: l) a → wpOrd P last os Q S b0 is a w') : wpOrd P last os Q S b0 (.cons (i, false) is) a w := by
  obtain ⟨a', cap', w', hr, hM'⟩ := R.append (P := P) (ty := ty) (t := t) hM hk ht hi hz hsz hby hzs hps hx hy hl (fun j u hu => by rw [Addr.add_lit]; exact hM.cell hk2 (by simpa using hu)) h1 hmax hbs
  have g := h a' cap' w' hM'
  exact D.eff hA ho hr hd g.1 g.2
end
end
section
open Go.RowKit
section
variable {P : Program} {R : Ending → World → Prop} {f : FuncId} {a : Act} {w w0 : World} {n : Nat} {l : List (Nat × Value)} {ops : Array Oper} {Q : Exit → Act → World → Prop} {rest : List Oper} {F : Nat → Prop} {L : List Ck}
  {S : World → Prop} {os : List Oper} {is : Ordt} {b0 : Bool} {i last : Nat} {d : Nat} {t ty : TypeId} {x y : Operand} {pos : String} {aft : Array Edge}
end
end
section
open Go.RowKit
def feet (L : List Ck) : Nat → Prop := fun b => ∃ c ∈ L, c.foot b
section
variable {w0 w w' : World} {F : Nat → Prop} {L L' : List Ck}
theorem Mem.here (h : Mem w0 F L w) : Mem w (feet L) L w :=
  ⟨rfl, rfl, rfl, Nat.le_refl _, fun _ _ _ => rfl, h.holds, fun c hc b hb => ⟨(h.inb c hc b hb).1, fun _ => ⟨c, hc, hb⟩⟩, h.apart⟩
theorem Mem.hereN (h : Mem w0 F L w) (n : Nat) : Mem w (feet (L.take n)) (L.take n) w := (h.sub (List.take_sublist n L)).here
theorem Mem.firstN (h : Mem w0 F L w) (n : Nat) : Mem w0 F (L.take n) w := h.sub (List.take_sublist n L)
theorem Mem.callL (h : Mem w0 F L w) (n : Nat) (hn : Mem w (feet (L.take n)) L' w') : Mem w0 F (L' ++ L.drop n) w' := by
  have hsplit : L.take n ++ L.drop n = L := List.take_append_drop n L
  have hap : (L.take n ++ L.drop n).Pairwise (fun c d => ∀ b, c.foot b → ¬ d.foot b) := by rw [hsplit]; exact h.apart
  obtain ⟨hap1, hap2, hap3⟩ := List.pairwise_append.1 hap
  have hkeep : ∀ b, b < w.heap.size → ¬ feet (L.take n) b → w'.heap[b]? = w.heap[b]? := fun b hb hc => hn.old b hb hc
  have hfree : ∀ d ∈ L.drop n, ∀ b, d.foot b → ¬ feet (L.take n) b := fun d hd b hb ⟨c, hc, hcb⟩ => hap3 c hc d hd b hcb hb
  refine ⟨hn.os.trans h.os, hn.tape.trans h.tape, hn.output.trans h.output, Nat.le_trans h.size hn.size, fun b hb hF0 => ?_, fun e he => ?_, fun e he b hb => ?_, ?_⟩
  · rw [hkeep b (Nat.lt_of_lt_of_le hb h.size) (fun ⟨c, hc, hcb⟩ => hF0 ((h.inb c (List.mem_of_mem_take hc) b hcb).2 hb))]; exact h.old b hb hF0
  · rcases List.mem_append.1 he with he | he
    · exact hn.holds e he
    · have hm := List.mem_of_mem_drop he
      exact e.loc w w' (fun b hb => hkeep b (h.inb e hm b hb).1 (hfree e he b hb)) (h.holds e hm)
  · rcases List.mem_append.1 he with he | he
    · have := hn.inb e he b hb
      refine ⟨this.1, fun g => ?_⟩
      obtain ⟨c, hc, hcb⟩ := this.2 (Nat.lt_of_lt_of_le g h.size)
      exact (h.inb c (List.mem_of_mem_take hc) b hcb).2 g
    · have := h.inb e (List.mem_of_mem_drop he) b hb
      exact ⟨Nat.lt_of_lt_of_le this.1 hn.size, this.2⟩
  · refine List.pairwise_append.2 ⟨hn.apart, hap2, fun e he d hd b heb hdb => ?_⟩
    have g1 := hn.inb e he b heb
    have g2 := (h.inb d (List.mem_of_mem_drop hd) b hdb).1
    exact hfree d hd b hdb (g1.2 g2)
end
theorem umod_ex (x k : Int) (hk : 0 < k ∧ k ≤ 4611686018427387904) : ∃ N : Nat, (N : Int) < k ∧ IntKind.i64.wrap (IntKind.u64.wrap x % k) = (N : Int) := by
  have h1 := Int.emod_nonneg (IntKind.u64.wrap x) (show k ≠ 0 by omega)
  have h2 := Int.emod_lt_of_pos (IntKind.u64.wrap x) (show 0 < k by omega)
  refine ⟨(IntKind.u64.wrap x % k).toNat, by omega, ?_⟩
  rw [IntWalk.i64_in _ ⟨by omega, by omega⟩]; omega
theorem u64_nn (x : Int) : 0 ≤ IntKind.u64.wrap x := by rw [IntKind.wrap_u64]; omega
end
section
open Go.RowKit
end
section
open Go.RowKit
def IntSl (w : World) (v : Value) (l : List Int) : Prop :=
  ∃ a cap, v = .slice a l.length cap ∧ l.length ≤ cap ∧ cap ≤ maxLen ∧ (a = none → cap = 0) ∧ (l ≠ [] → ∃ b off, a = some ⟨b, off, none⟩ ∧ b < w.heap.size ∧ ∀ i, i < l.length → w.cell? ⟨b, off + i, none⟩ = some (.int .i64 (l.getD i 0)))
theorem IntSl.below {B : Nat} {w w' : World} {v : Value} {l : List Int} (h : IntSl w v l) (hb : Below B w w') (hB : w.heap.size ≤ B) : IntSl w' v l := by
  obtain ⟨a, cap, rfl, hle, hmx, hnn, h⟩ := h
  refine ⟨a, cap, rfl, hle, hmx, hnn, fun hn => ?_⟩
  obtain ⟨b, off, rfl, hlt, hc⟩ := h hn
  refine ⟨b, off, rfl, Nat.lt_of_lt_of_le hlt hb.size, fun i hi => ?_⟩
  rw [(bcell hb).1 _ _ (by omega)]; exact hc i hi
theorem take_succ_getD (l : List Int) (k : Nat) (h : k < l.length) : l.take (k + 1) = l.take k ++ [l.getD k 0] := by
  rw [List.take_succ_eq_append_getElem h, List.getD_eq_getElem?_getD, List.getElem?_eq_getElem h]; rfl
end
section
open Go.RowKit
section
variable {P : Program} {l : List (Nat × Value)} {w : World} {ty : TypeId} {x y z : Operand} {k k' : IntKind} {m n : Int} {t yt : TypeId}
end
theorem IntSl.at {w : World} {a : Option Addr} {n cap : Nat} {l : List Int} (h : IntSl w (.slice a n cap) l) {i : Nat} (hi : i < l.length) :
    ∃ b off, a = some ⟨b, off, none⟩ ∧ w.cell? ⟨b, off + i, none⟩ = some (.int .i64 (l.getD i 0)) := by
  obtain ⟨a', cap', he, h1, h2, h3, h4⟩ := h
  cases he
  obtain ⟨b, off, rfl, -, hc⟩ := h4 (by intro e; rw [e] at hi; simp at hi)
  exact ⟨b, off, rfl, hc i hi⟩
theorem IntSl.len {w : World} {a : Option Addr} {n cap : Nat} {l : List Int} (h : IntSl w (.slice a n cap) l) : n = l.length ∧ l.length ≤ cap ∧ cap ≤ maxLen := by
  obtain ⟨a', cap', he, h1, h2, -⟩ := h
  cases he
  exact ⟨rfl, h1, h2⟩
theorem IntSl.cut {w : World} {a : Option Addr} {n cap : Nat} {l : List Int} (h : IntSl w (.slice a n cap) l) (m : Nat) (hm : m ≤ l.length) : IntSl w (.slice a m cap) (l.take m) := by
  obtain ⟨a', cap', he, h1, h2, h3, h4⟩ := h
  cases he
  refine ⟨a, cap, by rw [List.length_take, Nat.min_eq_left hm], by rw [List.length_take]; omega, h2, h3, fun hne => ?_⟩
  obtain ⟨b, off, e, hlt, hc⟩ := h4 (by intro e; subst e; simp at hne)
  refine ⟨b, off, e, hlt, fun i hi => ?_⟩
  rw [List.length_take] at hi
  rw [hc i (by omega)]
  congr 2
  simp only [List.getD_eq_getElem?_getD, List.getElem?_take]
  rw [if_pos (by omega)]
theorem IntSl.mem {w0 w : World} {v : Value} {l : List Int} {L : List Ck} (h : IntSl w0 v l) (hM : Mem w0 nof L w) : IntSl w v l := h.below hM.nilL.below (Nat.le_refl _)
end
section
open Go.RowKit
section
variable {P : Program} {R : Ending → World → Prop} {f : FuncId} {a : Act} {w w0 : World} {n : Nat} {l : List (Nat × Value)} {ops : Array Oper} {Q : Exit → Act → World → Prop} {rest : List Oper} {F : Nat → Prop} {L : List Ck}
  {S : World → Prop} {os : List Oper} {is : Ordt} {b0 : Bool} {i last : Nat} {d : Nat} {t ty : TypeId} {x y : Operand} {pos : String} {aft : Array Edge}
end
end
section
open Go.RowKit
section
variable {P : Program} {R : Ending → World → Prop} {f : FuncId} {a : Act} {w w0 : World} {nn : Nat} {l : List (Nat × Value)} {ops : Array Oper} {Q : Exit → Act → World → Prop} {rest : List Oper} {F : Nat → Prop} {L : List Ck}
  {S : World → Prop} {os : List Oper} {is : Ordt} {i last : Nat} {d : Nat} {t e ty : TypeId} {x y : Operand} {pos : String} {aft : Array Edge}
end
end
section
open Go.RowKit
end
section
open Go.RowKit
section
variable {P : Program} {l : List (Nat × Value)} {w : World} {ty : TypeId} {x y z : Operand} {k k' : IntKind} {m n : Int} {t yt : TypeId}
end
section
variable {P : Program} {R : Ending → World → Prop} {f : FuncId} {a : Act} {w w0 : World} {nn : Nat} {l : List (Nat × Value)} {ops : Array Oper} {Q : Exit → Act → World → Prop} {rest : List Oper} {F : Nat → Prop} {L : List Ck}
  {S : World → Prop} {os : List Oper} {is : Ordt} {b0 : Bool} {i last : Nat} {d : Nat} {t e ty : TypeId} {x y : Operand} {pos : String} {aft : Array Edge}
end
end
section
open Go.RowKit
section
variable {P : Program} {a : Act} {w : World} {n : Nat} {l : List (Nat × Value)} {ops : Array Oper} {Q : Exit → Act → World → Prop} {rest : List Oper} {S : World → Prop} {os : List Oper} {is : Ordt} {b0 : Bool} {i last : Nat}
theorem wanted_undef {ops : Array Oper} {o : Oper} {j d : Nat} {b : Bool} (hA : St n l a) (hg : o.guard = some (j, b)) (hj : dstOf ops j = some d) (hl : lk l d = some undef) : Region.wanted o (yielded ops a.tmps) = false := by
  have h1 := hA.has d _ hl
  unfold dstOf at hj
  unfold Region.wanted yielded
  rw [hg]
  simp only [hj, Option.bind_some, h1]
  cases b <;> rfl
theorem S.noU {d j dj : Nat} {b : Bool} {op : Op} {ty : TypeId} {pos : String} {aft : Array Edge} (hA : St n l a) (hj : dstOf ops j = some dj) (hl : lk l dj = some undef) (hd : Nat.blt d n = true)
    (h : ∀ a, St n ((d, undef) :: l) a → wpList P ops Q rest a w) : wpList P ops Q ({ dst := some d, op, type := ty, pos, after := aft, guard := some (j, b) } :: rest) a w := by
  refine wpList_step fun K hK => ?_
  rw [wanted_undef hA rfl hj hl]
  exact hK _ _ (h _ (hA.put hd undef))
theorem D.noU {d j dj : Nat} {b : Bool} {op : Op} {ty : TypeId} {pos : String} {aft : Array Edge} (hA : St n l a) (ho : ith os i = some { dst := some d, op, type := ty, pos, after := aft, guard := some (j, b) })
    (hj : dstOf os.toArray j = some dj) (hl : lk l dj = some undef)
    (hd : Nat.blt d n = true) (h : ∀ a, St n ((d, undef) :: l) a → wpOrd P last os Q S b0 is a w) : wpOrd P last os Q S b0 (.cons (i, true) is) a w :=
  ⟨_, ho, undef, .inr ⟨by rw [wanted_undef hA rfl hj hl], rfl⟩, h _ (hA.put hd undef)⟩
end
theorem or_bool {p : Prop} [Decidable p] {b : Bool} (h : ¬ p) : b = decide (p ∨ b = true) := by cases b <;> simp [h]
theorem and_bool {p : Prop} [Decidable p] {b : Bool} (h : p) : b = decide (p ∧ b = true) := by cases b <;> simp [h]
end
section
open Go.RowKit
def itC (b : Nat) (s : ByteArray) (p : Nat) : Ck := ⟨fun c => c = b, fun w => w.heap[b]? = some (.stringIter s p), fun w w' h hw => by rw [h b rfl]; exact hw⟩
def byt (s : ByteArray) (i : Nat) : Int := ((s.get! i).toNat : Nat)
theorem byt_at {s : ByteArray} {i : Nat} (h : i < s.size) : ((s[i]'h).toNat : Int) = byt s i := by
  have e : s.get! i = s[i]'h := by simp [ByteArray.get!, getElem!_pos, h]; rfl
  unfold byt; rw [e]
section
variable {w0 w w' : World} {F : Nat → Prop} {L : List Ck}
theorem Mem.allocI (h : Mem w0 F L w) (s : ByteArray) : Mem w0 F (itC w.heap.size s 0 :: L) (w.alloc (.stringIter s 0)) := by
  have hold : ∀ b, b < w.heap.size → (w.alloc (.stringIter s 0)).heap[b]? = w.heap[b]? := fun b hb => Below.heap_alloc w _ b hb
  refine ⟨h.os, h.tape, h.output, by have := h.size; simp; omega, fun b hb hF => by rw [hold b (Nat.lt_of_lt_of_le hb h.size)]; exact h.old b hb hF, ?_, ?_, ?_⟩
  · intro c hc
    rcases List.mem_cons.1 hc with rfl | hc
    · exact World.iter_heap w s 0
    · exact c.loc w _ (fun b hb => hold b (h.inb c hc b hb).1) (h.holds c hc)
  · intro c hc b hb
    rcases List.mem_cons.1 hc with rfl | hc
    · have e : b = w.heap.size := hb
      subst e
      exact ⟨by simp, fun g => absurd h.size (by omega)⟩
    · have := h.inb c hc b hb
      exact ⟨by simp; omega, this.2⟩
  · refine List.pairwise_cons.2 ⟨fun d hd b hb hdb => ?_, h.apart⟩
    have e : b = w.heap.size := hb
    have := (h.inb d hd b hdb).1
    omega
theorem Mem.setI (h : Mem w0 F L w) {k b p : Nat} {s : ByteArray} (hk : ith L k = some (itC b s p)) (q : Nat) : Mem w0 F (setAt L k (itC b s q)) { w with heap := w.heap.setIfInBounds b (.stringIter s q) } := by
  have hb : w.heap[b]? = some (.stringIter s p) := h.mem hk
  have hlt : b < w.heap.size := by
    rcases Nat.lt_or_ge b w.heap.size with g | g
    · exact g
    · rw [Array.getElem?_eq_none g] at hb; cases hb
  refine h.turn hk (fun _ h => h) ?_ rfl rfl rfl (by simp) (fun c _ hc => ?_)
  · show (w.heap.setIfInBounds b (.stringIter s q))[b]? = _
    rw [Array.getElem?_setIfInBounds_self_of_lt hlt]
  · show (w.heap.setIfInBounds b (.stringIter s q))[c]? = _
    rw [Array.getElem?_setIfInBounds_ne (fun e => hc e.symm)]
end
section
variable {P : Program} {l : List (Nat × Value)} {w w0 : World} {F : Nat → Prop} {L : List Ck} {ty : TypeId} {x y z : Operand} {k k' : IntKind} {m n : Int} {t yt : TypeId} {s r : ByteArray}
theorem R.rangeS (ht : P.underlying t = some .string) (hx : opv l x = some (.string s)) : Run P l w (.range t x) ty (.pointer (some ⟨w.heap.size, 0, none⟩)) (w.alloc (.stringIter s 0)) := fun ev h _ _ _ _ => by
  have h1 := run_range_string (P := P) w t s ht
  simp [execOp, h _ _ hx, h1, World.iter]
theorem R.nextT {b p k : Nat} (hM : Mem w0 F L w) (hk : ith L k = some (itC b s p)) (hx : opv l x = some (.pointer (some ⟨b, 0, none⟩))) (hp : p < s.size) :
    Run P l w (.next x true) ty (.tuple #[.bool true, .int .i64 (p : Int), .int .i32 ((Utf8.decode s p).1 : Int)]) { w with heap := w.heap.setIfInBounds b (.stringIter s (p + (Utf8.decode s p).2)) } := fun ev h _ _ _ _ => by
  have hb : w.heap[b]? = some (.stringIter s p) := hM.mem hk
  simp [execOp, h _ _ hx, Instr.next, getObj, setObj, Sem.run_bind, Sem.run, hb, Result.andThen, hp, goInt]
theorem R.nextF {b p k : Nat} (hM : Mem w0 F L w) (hk : ith L k = some (itC b s p)) (hx : opv l x = some (.pointer (some ⟨b, 0, none⟩))) (hp : ¬ p < s.size) :
    Run P l w (.next x true) ty (.tuple #[.bool false]) w := fun ev h _ _ _ _ => by
  have hb : w.heap[b]? = some (.stringIter s p) := hM.mem hk
  simp [execOp, h _ _ hx, Instr.next, getObj, setObj, Sem.run_bind, Sem.run, hb, Result.andThen, hp, goInt]
theorem R.idxS (ht : P.underlying t = some .string) (hx : opv l x = some (.string s)) (hy : opv l y = some (.int k n)) (h0 : 0 ≤ n ∧ n < s.size) : Run P l w (.index t x y) ty (.int .u8 (byt s n.toNat)) w := fun ev h _ _ _ _ => by
  have h1 := run_index_string (P := P) w t s k n ht
  rw [dif_pos h0, byt_at (by omega)] at h1
  simp [execOp, h _ _ hx, h _ _ hy, h1]
theorem R.sliceSL (ht : P.underlying t = some .string) (hx : opv l x = some (.string s)) (hy : opv l y = some (.int k m)) (h0 : 0 ≤ m ∧ m ≤ s.size) : Run P l w (.slice t x (some y) none none) ty (.string (s.extract m.toNat s.size)) w := fun ev h _ _ _ _ => by
  have h1 := run_slice_string_from_if (P := P) w t s k m ht
  rw [if_pos h0] at h1
  have h2 : (Instr.sliceAt t (.string s) (some (.int k m)) none none).run P w = .ok (.string (s.extract m.toNat s.size)) w := by
    unfold Instr.sliceAt
    simp only [Sem.run_bind, run_underlying ht, Result.andThen_ok]
    exact h1
  simp [execOp, h _ _ hx, h _ _ hy, h2]
theorem R.sliceSH (ht : P.underlying t = some .string) (hx : opv l x = some (.string s)) (hy : opv l y = some (.int k m)) (h0 : 0 ≤ m ∧ m ≤ s.size) : Run P l w (.slice t x none (some y) none) ty (.string (s.extract 0 m.toNat)) w := fun ev h _ _ _ _ => by
  have h1 := run_slice_string_to_if (P := P) w t s k m ht
  rw [if_pos h0] at h1
  have h2 : (Instr.sliceAt t (.string s) none (some (.int k m)) none).run P w = .ok (.string (s.extract 0 m.toNat)) w := by
    unfold Instr.sliceAt
    simp only [Sem.run_bind, run_underlying ht, Result.andThen_ok]
    exact h1
  simp [execOp, h _ _ hx, h _ _ hy, h2]
theorem R.addS (hx : opv l x = some (.string s)) (hy : opv l y = some (.string r)) (hb : s.size + r.size ≤ 9223372036854775807) : Run P l w (.binOp .add t x y yt) ty (.string (s ++ r)) w := fun ev h _ _ _ _ => by
  have h1 := run_string_add_sum (P := P) w s r hb
  simp [execOp, h _ _ hx, h _ _ hy, eqGuard, binOp, h1]
theorem blist_dec (s r : ByteArray) : (s.toList == r.toList) = decide (s = r) := by
  by_cases e : s = r
  · subst e; simp
  · rw [decide_eq_false e]
    refine beq_eq_false_iff_ne.2 fun h => e ?_
    rw [Lib.toList_data, Lib.toList_data] at h
    cases s; cases r
    congr 1
    exact Array.toList_inj.1 h
theorem R.eqlStr (hx : opv l x = some (.string s)) (hy : opv l y = some (.string r)) : Run P l w (.binOp .eql t x y yt) ty (.bool (decide (s = r))) w := fun ev h _ _ _ _ => by
  simp [execOp, h _ _ hx, h _ _ hy, eqGuard, binOp, Op.stringOp, blist_dec]
end
section
variable {P : Program} {R : Ending → World → Prop} {f : FuncId} {a : Act} {w w0 : World} {nn : Nat} {l : List (Nat × Value)} {ops : Array Oper} {Q : Exit → Act → World → Prop} {rest : List Oper} {F : Nat → Prop} {L : List Ck}
  {d : Nat} {t e ty : TypeId} {x y : Operand} {pos : String} {aft : Array Edge} {s : ByteArray}
theorem S.rangeS (hA : St nn l a) (hM : Mem w0 F L w) (ht : P.underlying t = some .string) (hx : opv l x = some (.string s)) (hd : Nat.blt d nn = true)
    (h : ∀ b w', w0.heap.size ≤ b → Mem w0 F (itC b s 0 :: L) w' → ∀ a, St nn ((d, .pointer (some ⟨b, 0, none⟩)) :: l) a → wpList P ops Q rest a w') :
    wpList P ops Q ({ dst := some d, op := .range t x, type := ty, pos, after := aft, guard := none } :: rest) a w :=
  S.val hA (R.rangeS ht hx) hd (h _ _ hM.size (hM.allocI s))
theorem D.rangeS {S : World → Prop} {os : List Oper} {is : Ordt} {b0 : Bool} {i last : Nat} (hA : St nn l a) (hM : Mem w0 F L w) (ho : ith os i = some { dst := some d, op := .range t x, type := ty, pos, after := aft, guard := none }) (ht : P.underlying t = some .string) (hx : opv l x = some (.string s)) (hd : Nat.blt d nn = true)
    (h : ∀ b w', w0.heap.size ≤ b → Mem w0 F (itC b s 0 :: L) w' → S w' ∧ ∀ a, St nn ((d, .pointer (some ⟨b, 0, none⟩)) :: l) a → wpOrd P last os Q S b0 is a w') : wpOrd P last os Q S b0 (.cons (i, false) is) a w :=
  have g := h _ _ hM.size (hM.allocI s)
  D.eff hA ho (R.rangeS ht hx) hd g.1 g.2
theorem S.nextT {b p k : Nat} (hA : St nn l a) (hM : Mem w0 F L w) (hk : ith L k = some (itC b s p)) (hx : opv l x = some (.pointer (some ⟨b, 0, none⟩))) (hp : p < s.size) (hd : Nat.blt d nn = true)
    (h : ∀ w', Mem w0 F (setAt L k (itC b s (p + (Utf8.decode s p).2))) w' → ∀ a, St nn ((d, .tuple #[.bool true, .int .i64 (p : Int), .int .i32 ((Utf8.decode s p).1 : Int)]) :: l) a → wpList P ops Q rest a w') :
    wpList P ops Q ({ dst := some d, op := .next x true, type := ty, pos, after := aft, guard := none } :: rest) a w :=
  S.val hA (R.nextT hM hk hx hp) hd (h _ (hM.setI hk _))
end
end
section
open Go.RowKit
section
variable {w0 w : World} {F : Nat → Prop} {L cs : List Ck} {α : Type} {f : α → Ck} {xs : List α} {x : α} {j : Nat}
end
end
section
open Go.RowKit
def pI (a : Option Addr) (i : Nat) : Value := .pointer (match a with | some p => some ⟨p.block, p.off + i, none⟩ | none => none)
theorem IntSl.lenB {w : World} {a : Option Addr} {n cap : Nat} {X : List Int} (h : IntSl w (.slice a n cap) X) : X.length ≤ 9223372036854775807 := by
  have := h.len; unfold maxLen at this; omega
theorem IntSl.nil (w : World) : IntSl w (.slice none ([] : List Int).length 0) [] := ⟨none, 0, rfl, Nat.le_refl _, Nat.zero_le _, fun _ => rfl, fun h => absurd rfl h⟩
section
variable {P : Program} {l : List (Nat × Value)} {w w0 : World} {ty : TypeId} {x y z : Operand} {k k' : IntKind} {m n : Int} {t yt e : TypeId}
theorem R.idxI {a : Option Addr} {cap j : Nat} {g : Bool} {i : Int} {X : List Int} (hX : IntSl w0 (.slice a X.length cap) X) (hi : slInfo P t = some (g, 1)) (hx : opv l x = some (.slice a X.length cap)) (hy : opv l y = some (.int k i)) (h0 : 0 ≤ i ∧ i < (X.length : Int)) (hj : i.toNat = j) :
    Run P l w (.indexAddr t x y) ty (pI a j) w := by
  obtain ⟨b, off, rfl, -⟩ := hX.at (i := i.toNat) (by omega)
  exact R.indexAddr hi hx hy h0 (by rw [Nat.mul_one, hj])
theorem R.loadI {a : Option Addr} {cap j : Nat} {X : List Int} (hX : IntSl w (.slice a X.length cap) X) (hi : szOf P t = some (false, 1)) (hx : opv l x = some (pI a j)) (hj : j < X.length) : Run P l w (.load t x) ty (.int .i64 (X.getD j 0)) w := by
  obtain ⟨b, off, rfl, hc⟩ := hX.at hj
  exact R.load hi hx hc
end
section
variable {P : Program} {f : FuncId} {R : Ending → World → Prop} {a : Act} {w w0 : World} {n : Nat} {l : List (Nat × Value)} {F : Nat → Prop} {L : List Ck} {t : TypeId}
theorem loadVar_whole {b sz : Nat} {cs : List Value} {t' : TypeId} {k : Nat} (hM : Mem w0 F L w) (hk : ith L k = some (pt b cs.toArray t')) (hi : szOf P t = some (true, sz)) (hn : cs.length = sz) : (loadVar t ⟨b, 0, none⟩).run P w = .ok (.agg cs.toArray) w := by
  obtain ⟨d, j, hd, hj, hrow, hsz⟩ := szOf_spec hi
  exact run_loadVar_row w b t' t cs.toArray (0, 0) d (hM.block hk) hd (by cases d <;> first | rfl | cases hrow) (by simp [hj, hsz, hn])
theorem Ends.retC3 {fn : Func} {k b p sz u1 u2 : Nat} {cs : List Value} {x y : Value} {t' : TypeId} {kk : List Item} (hf : P.funcs[f]? = some fn) (hr : fn.results = #[.cell p t, .tmp u1, .tmp u2]) (hA : St n l a) (hM : Mem w0 F L w) (hp : lk l p = some (.pointer (some ⟨b, 0, none⟩))) (h1 : lk l u1 = some x) (h2 : lk l u2 = some y)
    (hk : ith L k = some (pt b cs.toArray t')) (hi : szOf P t = some (true, sz)) (hn : cs.length = sz) (hR : R (.returned (.tuple #[.agg cs.toArray, x, y])) w) : Ends P f R (.code .ret :: kk) a w := by
  have hl := loadVar_whole hM hk hi hn
  refine Ends.to_ret hf hA.defers (v := .tuple #[.agg cs.toArray, x, y]) ?_ hR
  simp [results, hr, hA.has _ _ hp, hA.has _ _ h1, hA.has _ _ h2, asAddr, hl]
end
theorem Mem.trans0 {w w1 w2 : World} {L : List Ck} (hb : Below w.heap.size w w1) (hM : Mem w1 nof L w2) : Below w.heap.size w w2 :=
  hb.trans (hM.below.mono hb.size)
theorem Mem.ptRs {w0 w : World} {F : Nat → Prop} {L : List Ck} {k b : Nat} {X : List Int} {t : TypeId} (hM : Mem w0 F L w) (hk : ith L k = some (pt b (ints X) t)) (hm : X.length ≤ 1000000) : IntSl w (.slice (some ⟨b, 0, none⟩) X.length X.length) X := by
  refine ⟨_, _, rfl, Nat.le_refl _, by unfold maxLen; omega, (fun h => nomatch h), fun _ => ⟨b, 0, rfl, hM.lt hk, fun i hi => ?_⟩⟩
  rw [Nat.zero_add]
  exact hM.cell hk (by simp [ints, hi])
section
variable {P : Program} {l : List (Nat × Value)} {w w0 : World} {ty : TypeId} {x y z : Operand} {k k' : IntKind} {m n : Int} {t yt e : TypeId} {nn : Nat} {a : Act} {ops : Array Oper} {Q : Exit → Act → World → Prop} {rest : List Oper} {F : Nat → Prop} {L : List Ck} {d : Nat} {pos : String} {aft : Array Edge}
end
end
section
open Go.RowKit
section
variable {P : Program} {l : List (Nat × Value)} {w w0 : World} {ty : TypeId} {x y z : Operand} {k k' : IntKind} {m n : Int} {t yt e : TypeId}
end
end
section
open Go.RowKit
theorem tab_of_reads {P : Program} {W : World} {name : String} {k : IntKind} {zs : List Int} {g : Nat} {t e : TypeId} {n : Nat}
    (hg : P.globalNamed name = some g) (hty : (P.globals[g]?).map (·.type) = some t) (ht : P.underlying t = some (.array n e)) (he : P.underlying e = some (.int k)) (hce : P.cellsOf e = 1) (hct : P.cellsOf t = n)
    (h : Lib.VarReads P W name (Lib.tabData k zs)) : Lib.TabIs P W name k zs := by
  obtain ⟨g', t', cs, fuel, p, hg', ht', hvar, hd⟩ := h
  obtain rfl := Option.some.inj (hg.symm.trans hg')
  obtain rfl := Option.some.inj (hty.symm.trans ht')
  unfold Lib.TabIs
  rw [hvar, ← Lib.cells_of_tab ht he hce hct hd]
theorem tab_below {P : Program} {w w' : World} {name : String} {k : IntKind} {zs : List Int} (h : Lib.TabIs P w name k zs) (hb : Below w.heap.size w w') : Lib.TabIs P w' name k zs := by
  unfold Lib.TabIs World.var? at *
  cases hg : P.globalNamed name with
  | none => rw [hg] at h; cases h
  | some g =>
    rw [hg] at h
    simp only [Option.bind_some] at h ⊢
    cases hx : w.heap[g]? with
    | none => rw [hx] at h; cases h
    | some o =>
      have hlt : g < w.heap.size := by
        rcases Nat.lt_or_ge g w.heap.size with q | q
        · exact q
        · rw [Array.getElem?_eq_none q] at hx; cases hx
      rw [hb.block g hlt]; exact h
end
section
open Go.RowKit
end
end Go.Proofs.YtnhnjjlfoajbgaaDoor
namespace Go.Proofs.YtnhnjjlfoajbgaaDoor
theorem mixed : Tryd.prog.follows .mixedOrders = true := by kernel_rfl
theorem sz3 : szOf Tryd.prog 3 = some (false, 1) := by kernel_rfl
theorem info3 : Tryd.prog.info? 3 = some Tryd.t3 := by kernel_rfl
theorem sz5 : szOf Tryd.prog 5 = some (false, 1) := by kernel_rfl
theorem info5 : Tryd.prog.info? 5 = some Tryd.t5 := by kernel_rfl
theorem sz9 : szOf Tryd.prog 9 = some (false, 1) := by kernel_rfl
theorem info9 : Tryd.prog.info? 9 = some Tryd.t9 := by kernel_rfl
theorem sz22 : szOf Tryd.prog 22 = some (false, 1) := by kernel_rfl
theorem sl22 : slInfo Tryd.prog 22 = some (false, 1) := by kernel_rfl
theorem sz26 : szOf Tryd.prog 26 = some (true, 3) := by kernel_rfl
theorem info26 : Tryd.prog.info? 26 = some Tryd.t26 := by kernel_rfl
theorem fi26_0 : fieldInfo Tryd.prog 26 0 = some (0, false, 1) := by kernel_rfl
theorem fi26_1 : fieldInfo Tryd.prog 26 1 = some (1, false, 1) := by kernel_rfl
theorem fi26_2 : fieldInfo Tryd.prog 26 2 = some (2, false, 1) := by kernel_rfl
theorem sl43 : slInfo Tryd.prog 43 = some (false, 1) := by kernel_rfl
theorem fi51_0 : fieldInfo Tryd.prog 51 0 = some (0, false, 1) := by kernel_rfl
theorem fi51_1 : fieldInfo Tryd.prog 51 1 = some (1, false, 1) := by kernel_rfl
end Go.Proofs.YtnhnjjlfoajbgaaDoor
namespace Go.Proofs.YtnhnjjlfoajbgaaDoor
section
def kindI (r : Int) : Int :=
  if r = 32 ∨ r = 9 ∨ r = 10 ∨ r = 13 then 1 else if 48 ≤ r ∧ r ≤ 57 then 2 else if (65 ≤ r ∧ r ≤ 90) ∨ (97 ≤ r ∧ r ≤ 122) then 3 else if r = 35 then 4 else 0
def dig (s : ByteArray) (i : Nat) : Prop := i < s.size ∧ 48 ≤ byt s i ∧ byt s i ≤ 57
instance (s : ByteArray) (i : Nat) : Decidable (dig s i) := by unfold dig; infer_instance
def dgF (s : ByteArray) : Nat → Nat → Nat
  | 0, _ => 0
  | f + 1, i => if dig s i then dgF s f (i + 1) + 1 else 0
def dgs (s : ByteArray) (i : Nat) : Nat := dgF s (s.size - i) i
theorem dgF_spec (s : ByteArray) : ∀ f i, s.size ≤ i + f → (∀ j, j < dgF s f i → dig s (i + j)) ∧ ¬ dig s (i + dgF s f i)
  | 0, i, h => ⟨fun j hj => absurd hj (Nat.not_lt_zero j), fun hd => by have := hd.1; simp only [dgF] at this; omega⟩
  | f + 1, i, h => by
    simp only [dgF]
    by_cases hd : dig s i
    · rw [if_pos hd]
      obtain ⟨h1, h2⟩ := dgF_spec s f (i + 1) (by omega)
      refine ⟨fun j hj => ?_, ?_⟩
      · match j with
        | 0 => exact hd
        | j + 1 => have := h1 j (by omega); rwa [show i + (j + 1) = i + 1 + j by omega]
      · rwa [show i + (dgF s f (i + 1) + 1) = i + 1 + dgF s f (i + 1) by omega]
    · rw [if_neg hd]
      exact ⟨fun j hj => absurd hj (Nat.not_lt_zero j), hd⟩
theorem dgs_spec (s : ByteArray) (i : Nat) : (∀ j, j < dgs s i → dig s (i + j)) ∧ ¬ dig s (i + dgs s i) := dgF_spec s (s.size - i) i (by omega)
theorem dgs_uniq {s : ByteArray} {i k : Nat} (h1 : ∀ j, j < k → dig s (i + j)) (h2 : ¬ dig s (i + k)) : dgs s i = k := by
  obtain ⟨g1, g2⟩ := dgs_spec s i
  rcases Nat.lt_trichotomy (dgs s i) k with h | h | h
  · exact absurd (h1 _ h) g2
  · exact h
  · exact absurd (g1 _ h) h2
theorem dgs_le (s : ByteArray) {i : Nat} (hi : i ≤ s.size) : i + dgs s i ≤ s.size := by
  obtain ⟨g1, -⟩ := dgs_spec s i
  rcases Nat.eq_zero_or_pos (dgs s i) with h | h
  · omega
  · have := (g1 (dgs s i - 1) (by omega)).1; omega
theorem byt_ext {s : ByteArray} {x y i : Nat} (h : x + i < y) (hb : y ≤ s.size) : byt (s.extract x y) i = byt s (x + i) := by
  have h1 : i < (s.extract x y).size := by rw [ByteArray.size_extract]; omega
  rw [← byt_at h1, ← byt_at (show x + i < s.size by omega)]
  congr 2
  exact ByteArray.getElem_extract ..
theorem size_ext {s : ByteArray} {x y : Nat} (hb : y ≤ s.size) : (s.extract x y).size = y - x := by rw [ByteArray.size_extract]; omega
theorem dig_ext {s : ByteArray} {x i : Nat} : dig (s.extract x s.size) i ↔ dig s (x + i) := by
  unfold dig
  rw [size_ext (Nat.le_refl _)]
  constructor
  · intro ⟨h1, h2⟩
    rw [byt_ext (by omega) (Nat.le_refl _)] at h2
    exact ⟨by omega, h2⟩
  · intro ⟨h1, h2⟩
    rw [byt_ext (by omega) (Nat.le_refl _)]
    exact ⟨by omega, h2⟩
theorem dgs_ext (s : ByteArray) (x : Nat) : dgs (s.extract x s.size) 0 = dgs s x := by
  obtain ⟨g1, g2⟩ := dgs_spec s x
  exact dgs_uniq (fun j hj => by rw [Nat.zero_add]; exact dig_ext.2 (g1 j hj)) (fun h => by rw [Nat.zero_add] at h; exact g2 (dig_ext.1 h))
theorem dec_dig {s : ByteArray} {p : Nat} (h : p < s.size) : (kindI (Utf8.decode s p).1 = 2 ↔ dig s p) ∧ (dig s p → (Utf8.decode s p).2 = 1 ∧ ((Utf8.decode s p).1 : Int) = byt s p) := by
  have hb := byt_at h
  by_cases ha : (s[p]'h).toNat < 128
  · rw [decode_ascii s p h ha]
    refine ⟨?_, fun _ => ⟨rfl, hb⟩⟩
    unfold dig
    rw [← hb]
    unfold kindI
    constructor
    · intro hk
      refine ⟨h, ?_⟩
      revert hk
      repeat' split
      all_goals (intro hk; first | omega | (simp at hk))
    · intro ⟨_, h1, h2⟩
      rw [if_neg (by omega), if_pos ⟨h1, h2⟩]
  · have h2 := (decode_high s p h (by omega)).1
    have hn : ¬ dig s p := fun hd => by have := hd.2.2; rw [← hb] at this; omega
    refine ⟨⟨fun hk => ?_, fun hd => absurd hd hn⟩, fun hd => absurd hd hn⟩
    exfalso
    revert hk
    unfold kindI
    repeat' split
    all_goals (intro hk; first | omega | (simp at hk))
def numv (s : ByteArray) (x : Nat) : Nat → Int
  | 0 => 0
  | j + 1 => numv s x j * 10 + (byt s (x + j) - 48)
theorem numv_bd {s : ByteArray} {x : Nat} : ∀ {k : Nat}, (∀ j, j < k → dig s (x + j)) → 0 ≤ numv s x k ∧ numv s x k < 10 ^ k
  | 0, _ => ⟨Int.le_refl _, by show (0 : Int) < 10 ^ 0; decide⟩
  | k + 1, h => by
    obtain ⟨h1, h2⟩ := numv_bd (k := k) (fun j hj => h j (by omega))
    have hd := (h k (by omega)).2
    have e : (10 : Int) ^ (k + 1) = 10 ^ k * 10 := Int.pow_succ ..
    simp only [numv]
    rw [e]
    generalize (10 : Int) ^ k = t at *
    omega
theorem numv_lt {s : ByteArray} {x k : Nat} (h : ∀ j, j < k → dig s (x + j)) (hk : k ≤ 17) : 0 ≤ numv s x k ∧ numv s x k < 100000000000000000 := by
  obtain ⟨h1, h2⟩ := numv_bd h
  have : (10 : Int) ^ k ≤ 10 ^ 17 := by
    have h3 : (10 : Nat) ^ k ≤ 10 ^ 17 := Nat.pow_le_pow_right (by decide) hk
    exact_mod_cast h3
  refine ⟨h1, Int.lt_of_lt_of_le h2 (Int.le_trans this (by decide))⟩
def readI (s : ByteArray) (p : Int) : Int × Int × Int :=
  if p < 0 ∨ (s.size : Int) < p then (0, 0, 1)
  else if dgs s p.toNat = 0 ∨ (1 < dgs s p.toNat ∧ byt s p.toNat = 48) then (0, 0, 4)
  else if 18 < dgs s p.toNat then (0, 0, 5)
  else (numv s p.toNat (dgs s p.toNat), p + dgs s p.toNat, 0)
end
section
open Go.RowKit
def runQ (q : Nat → Bool) : Nat → Nat → Nat
  | 0, _ => 0
  | f + 1, i => if q i then runQ q f (i + 1) + 1 else 0
theorem runQ_spec (q : Nat → Bool) (N : Nat) (hq : ∀ j, q j = true → j < N) : ∀ f i, N ≤ i + f → (∀ j, j < runQ q f i → q (i + j) = true) ∧ q (i + runQ q f i) = false
  | 0, i, h => ⟨fun j hj => absurd hj (Nat.not_lt_zero j), by
      cases hb : q (i + 0) with
      | false => exact hb
      | true => have := hq _ hb; omega⟩
  | f + 1, i, h => by
    simp only [runQ]
    cases hd : q i with
    | true =>
      rw [if_pos rfl]
      obtain ⟨h1, h2⟩ := runQ_spec q N hq f (i + 1) (by omega)
      refine ⟨fun j hj => ?_, ?_⟩
      · match j with
        | 0 => exact hd
        | j + 1 => have := h1 j (by omega); rwa [show i + (j + 1) = i + 1 + j by omega]
      · rwa [show i + (runQ q f (i + 1) + 1) = i + 1 + runQ q f (i + 1) by omega]
    | false => exact ⟨fun j hj => absurd hj (Nat.not_lt_zero j), hd⟩
theorem runQ_uniq {q : Nat → Bool} {N f i k : Nat} (hq : ∀ j, q j = true → j < N) (hf : N ≤ i + f) (h1 : ∀ j, j < k → q (i + j) = true) (h2 : q (i + k) = false) : runQ q f i = k := by
  obtain ⟨g1, g2⟩ := runQ_spec q N hq f i hf
  rcases Nat.lt_trichotomy (runQ q f i) k with h | h | h
  · have := h1 _ h; rw [g2] at this; cases this
  · exact h
  · have := g1 _ h; rw [h2] at this; cases this
def kb (s : ByteArray) (p : Nat) : Int := if p < s.size then kindI (byt s p) else 1
theorem kb_in {s : ByteArray} {p : Nat} (h : p < s.size) : kb s p = kindI (byt s p) := if_pos h
theorem kb_out {s : ByteArray} {p : Nat} (h : ¬ p < s.size) : kb s p = 1 := if_neg h
theorem kb_lt {s : ByteArray} {p : Nat} (h : kb s p ≠ 1) : p < s.size := Classical.byContradiction fun hn => h (kb_out hn)
def isL (s : ByteArray) (p : Nat) : Bool := kb s p = 3
def inR (s : ByteArray) (p : Nat) : Bool := p < s.size ∧ byt s p ≠ 10
def ltrs (s : ByteArray) (i : Nat) : Nat := runQ (isL s) (s.size - i) i
def eol (s : ByteArray) (i : Nat) : Nat := runQ (inR s) (s.size - i) i
theorem isL_lt {s : ByteArray} {j : Nat} (h : isL s j = true) : j < s.size := kb_lt (by have : kb s j = 3 := by simpa [isL] using h
                                                                                        omega)
theorem inR_lt {s : ByteArray} {j : Nat} (h : inR s j = true) : j < s.size := by have := of_decide_eq_true h; exact this.1
theorem ltrs_spec (s : ByteArray) (i : Nat) : (∀ j, j < ltrs s i → kb s (i + j) = 3) ∧ kb s (i + ltrs s i) ≠ 3 := by
  obtain ⟨h1, h2⟩ := runQ_spec (isL s) s.size (fun j h => isL_lt h) (s.size - i) i (by omega)
  exact ⟨fun j hj => by have := h1 j hj; simpa [isL] using this, by have : isL s (i + ltrs s i) = false := h2; simpa [isL] using this⟩
theorem eol_spec (s : ByteArray) (i : Nat) : (∀ j, j < eol s i → i + j < s.size ∧ byt s (i + j) ≠ 10) ∧ ¬ (i + eol s i < s.size ∧ byt s (i + eol s i) ≠ 10) := by
  obtain ⟨h1, h2⟩ := runQ_spec (inR s) s.size (fun j h => inR_lt h) (s.size - i) i (by omega)
  exact ⟨fun j hj => of_decide_eq_true (h1 j hj), of_decide_eq_false (show inR s (i + eol s i) = false from h2)⟩
theorem eol_uniq {s : ByteArray} {i k : Nat} (h1 : ∀ j, j < k → i + j < s.size ∧ byt s (i + j) ≠ 10) (h2 : ¬ (i + k < s.size ∧ byt s (i + k) ≠ 10)) : eol s i = k :=
  runQ_uniq (fun j h => inR_lt h) (by omega) (fun j hj => decide_eq_true (h1 j hj)) (decide_eq_false h2)
theorem ltrs_le (s : ByteArray) {i : Nat} (hi : i ≤ s.size) : i + ltrs s i ≤ s.size := by
  rcases Nat.eq_zero_or_pos (ltrs s i) with h | h
  · omega
  · have := kb_lt (s := s) (p := i + (ltrs s i - 1)) (by rw [(ltrs_spec s i).1 _ (by omega)]; decide); omega
theorem ltrs_pos {s : ByteArray} {i : Nat} (h : kb s i = 3) : 0 < ltrs s i := by
  rcases Nat.eq_zero_or_pos (ltrs s i) with e | e
  · have := (ltrs_spec s i).2; rw [e, Nat.add_zero] at this; exact absurd h this
  · exact e
theorem eol_le (s : ByteArray) {i : Nat} (hi : i ≤ s.size) : i + eol s i ≤ s.size := by
  rcases Nat.eq_zero_or_pos (eol s i) with h | h
  · omega
  · have := ((eol_spec s i).1 (eol s i - 1) (by omega)).1; omega
theorem kindI_35 {c : Int} (h : kindI c = 4) : c = 35 := by
  revert h; unfold kindI
  repeat' split
  all_goals (intro h; first | omega | (simp at h))
theorem kindI_dig {c : Int} : kindI c = 2 ↔ 48 ≤ c ∧ c ≤ 57 := by
  unfold kindI
  constructor
  · repeat' split
    all_goals (intro h; first | omega | (simp at h))
  · intro h
    rw [if_neg (by omega), if_pos h]
theorem eol_pos {s : ByteArray} {i : Nat} (h : kb s i = 4) : 0 < eol s i := by
  have hlt := kb_lt (s := s) (p := i) (by omega)
  rw [kb_in hlt] at h
  rcases Nat.eq_zero_or_pos (eol s i) with e | e
  · have := (eol_spec s i).2; rw [e, Nat.add_zero, kindI_35 h] at this; exact absurd ⟨hlt, by decide⟩ this
  · exact e
theorem dig_kb {s : ByteArray} {i : Nat} : dig s i ↔ kb s i = 2 := by
  constructor
  · intro h; rw [kb_in h.1]; exact kindI_dig.2 h.2
  · intro h
    have hlt := kb_lt (s := s) (p := i) (by omega)
    rw [kb_in hlt] at h
    exact ⟨hlt, kindI_dig.1 h⟩
theorem dgs_pos {s : ByteArray} {i : Nat} (h : kb s i = 2) : 0 < dgs s i := by
  rcases Nat.eq_zero_or_pos (dgs s i) with e | e
  · have := (dgs_spec s i).2; rw [e, Nat.add_zero] at this; exact absurd (dig_kb.2 h) this
  · exact e
structure Tok where
  k : Int
  x : ByteArray
  n : Int
  a : Int
def tz : Tok := ⟨0, ⟨#[]⟩, 0, 0⟩
def lst (s : ByteArray) (p : Nat) : Int × Nat × List Tok :=
  if kb s p = 1 then (0, p + 1, [])
  else if kb s p = 4 then (0, p + eol s p, [])
  else if kb s p = 3 then
    if 16 < ltrs s p then (5, p, []) else (if kb s (p + ltrs s p) = 2 then 2 else 0, p + ltrs s p, [⟨1, s.extract p (p + ltrs s p), 0, p⟩])
  else if kb s p = 2 then
    if 1 < dgs s p ∧ byt s p = 48 then (4, p, []) else if 18 < dgs s p then (5, p, []) else (if kb s (p + dgs s p) = 3 then 2 else 0, p + dgs s p, [⟨2, ⟨#[]⟩, numv s p (dgs s p), p⟩])
  else (2, p, [])
def tend (s : ByteArray) : Tok := ⟨3, ⟨#[]⟩, 0, s.size⟩
def scF (s : ByteArray) : Nat → Nat → List Tok → List Tok × Int × Int
  | 0, _, X => (X ++ [tend s], 0, 0)
  | f + 1, p, X => if p < s.size then (if (lst s p).1 ≠ 0 then ([], ((lst s p).2.1 : Int), (lst s p).1) else scF s f (lst s p).2.1 (X ++ (lst s p).2.2)) else (X ++ [tend s], 0, 0)
def scan (s : ByteArray) : List Tok × Int × Int := if 65536 < s.size then ([], 0, 5) else scF s s.size 0 []
theorem lst_bd {s : ByteArray} {p : Nat} (h : p < s.size) : p ≤ (lst s p).2.1 ∧ (lst s p).2.1 ≤ s.size ∧ ((lst s p).1 = 0 → p < (lst s p).2.1) ∧ (lst s p).2.2.length ≤ 1 := by
  have h1 := ltrs_le s (Nat.le_of_lt h)
  have h2 := eol_le s (Nat.le_of_lt h)
  have h3 := dgs_le s (Nat.le_of_lt h)
  have h4 := @ltrs_pos s p
  have h5 := @eol_pos s p
  have h6 := @dgs_pos s p
  unfold lst
  repeat' split
  all_goals (simp only [List.length_nil, List.length_cons]; refine ⟨?_, ?_, ?_, ?_⟩ <;> first | omega | (intro; omega))
theorem scF_go {s : ByteArray} {p f : Nat} {X : List Tok} (h : p < s.size) (hf : 0 < f) (he : (lst s p).1 = 0) : scF s f p X = scF s (f - 1) (lst s p).2.1 (X ++ (lst s p).2.2) := by
  cases f with
  | zero => omega
  | succ f => rw [scF, if_pos h, if_neg (by simp [he])]; rfl
theorem lst_1 {s : ByteArray} {p : Nat} (h : kb s p = 1) : lst s p = (0, p + 1, []) := if_pos h
theorem lst_4 {s : ByteArray} {p : Nat} (h : kb s p = 4) : lst s p = (0, p + eol s p, []) := by unfold lst; rw [if_neg (by omega), if_pos h]
end
section
open Go.RowKit
def tokOK (s : ByteArray) (t : Tok) : Prop :=
  (t.k = 1 ∨ t.k = 2) ∧ 0 ≤ t.a ∧ t.a + t.x.size ≤ s.size ∧ (t.k = 1 → s.extract t.a.toNat (t.a + t.x.size).toNat = t.x)
def TI (s : ByteArray) (X : List Tok) (p : Nat) : Prop :=
  (∀ i, i < X.length → tokOK s (X.getD i tz) ∧ (X.getD i tz).a < p) ∧ ∀ i j, i < j → j < X.length → (X.getD i tz).a < (X.getD j tz).a
theorem TI.nil (s : ByteArray) : TI s [] 0 := ⟨fun i h => absurd h (Nat.not_lt_zero i), fun _ j _ h => absurd h (Nat.not_lt_zero j)⟩
theorem TI.mono {s : ByteArray} {X : List Tok} {p q : Nat} (h : TI s X p) (hq : p ≤ q) : TI s X q := ⟨fun i hi => ⟨(h.1 i hi).1, by have := (h.1 i hi).2; omega⟩, h.2⟩
end
section
open Go.RowKit
theorem byt_l {x y : ByteArray} {j : Nat} (h : j < x.size) : byt (x ++ y) j = byt x j := by
  have h2 : j < (x ++ y).size := by rw [ByteArray.size_append]; omega
  rw [← byt_at h2, ← byt_at h, ByteArray.getElem_append_left h]
theorem byt_r {x y : ByteArray} {j : Nat} (h : j < y.size) : byt (x ++ y) (x.size + j) = byt y j := by
  have h2 : x.size + j < (x ++ y).size := by rw [ByteArray.size_append]; omega
  rw [← byt_at h2, ← byt_at h, ByteArray.getElem_append_right (Nat.le_add_right _ _)]
  congr 2
  simp
theorem ba_ext {x y : ByteArray} (h : x.size = y.size) (hb : ∀ j, j < x.size → byt x j = byt y j) : x = y :=
  ByteArray.ext_getElem h fun j h1 h2 => UInt8.toNat.inj (by have := hb j h1; rw [← byt_at h1, ← byt_at h2] at this; omega)
theorem kb_byt {s u : ByteArray} {p q : Nat} (h1 : p < s.size) (h2 : q < u.size) (h : byt u q = byt s p) : kb u q = kb s p := by
  rw [kb_in h1, kb_in h2, h]
theorem kb_r {x y : ByteArray} {j : Nat} : kb (x ++ y) (x.size + j) = kb y j := by
  by_cases h : j < y.size
  · exact kb_byt h (by rw [ByteArray.size_append]; omega) (byt_r h)
  · rw [kb_out h, kb_out (by rw [ByteArray.size_append]; omega)]
def Going (u : ByteArray) (p : Nat) (X : List Tok) (q : Nat) (Y : List Tok) : Prop := ∀ f, u.size ≤ p + f → ∃ f', u.size ≤ q + f' ∧ scF u f p X = scF u f' q Y
theorem Going.refl (u : ByteArray) (p : Nat) (X : List Tok) : Going u p X p X := fun f h => ⟨f, h, rfl⟩
theorem Going.trans {u : ByteArray} {p q r : Nat} {X Y Z : List Tok} (h1 : Going u p X q Y) (h2 : Going u q Y r Z) : Going u p X r Z := fun f h => by
  obtain ⟨f1, g1, e1⟩ := h1 f h
  obtain ⟨f2, g2, e2⟩ := h2 f1 g1
  exact ⟨f2, g2, e1.trans e2⟩
theorem Going.step {u : ByteArray} {p q : Nat} {X N : List Tok} (hp : p < u.size) (he : lst u p = (0, q, N)) : Going u p X q (X ++ N) := fun f h => by
  have hb := (lst_bd hp).2.2.1 (by rw [he])
  rw [he] at hb
  refine ⟨f - 1, by simp only at hb; omega, ?_⟩
  rw [scF_go hp (by omega) (by rw [he]), he]
theorem Going.blank {u : ByteArray} {p : Nat} {X : List Tok} (hp : p < u.size) (h : kb u p = 1) : Going u p X (p + 1) X := by
  have := Going.step (X := X) hp (lst_1 h)
  rwa [List.append_nil] at this
theorem Going.rem {u : ByteArray} {p k : Nat} {X : List Tok} (h35 : byt u p = 35) (hk : 0 < k) (h : ∀ j, j < k → byt u (p + j) ≠ 10) (hs : p + k < u.size) (he : byt u (p + k) = 10) : Going u p X (p + k + 1) X := by
  have h4 : kb u p = 4 := by rw [kb_in (by omega), h35]; decide
  have e : eol u p = k := eol_uniq (fun j hj => ⟨by omega, h j hj⟩) (fun h => h.2 he)
  have h1 := Going.step (X := X) (show p < u.size by omega) (lst_4 h4)
  rw [List.append_nil, e] at h1
  exact h1.trans (Going.blank hs (by rw [kb_in hs, he]; decide))
def TK (s : ByteArray) (t : Tok) (A d : Nat) : Prop :=
  t.a = (A : Int) ∧ 0 < d ∧ A + d ≤ s.size ∧ (kb s (A + d) ≠ 2 ∧ kb s (A + d) ≠ 3) ∧
  ((t.k = 1 ∧ (∀ j, j < d → kb s (A + j) = 3) ∧ d ≤ 16 ∧ t.x = s.extract A (A + d) ∧ t.n = 0) ∨
   (t.k = 2 ∧ (∀ j, j < d → kb s (A + j) = 2) ∧ d ≤ 18 ∧ ¬ (1 < d ∧ byt s A = 48) ∧ t.x = ⟨#[]⟩ ∧ t.n = numv s A d))
def TJ (s : ByteArray) (X : List Tok) (p : Nat) : Prop :=
  ∀ i, i < X.length → ∃ A d, TK s (X.getD i tz) A d ∧ ((A + d : Nat) : Int) ≤ if i + 1 < X.length then (X.getD (i + 1) tz).a else p
theorem TJ.mono {s : ByteArray} {X : List Tok} {p q : Nat} (h : TJ s X p) (hq : p ≤ q) : TJ s X q := fun i hi => by
  obtain ⟨A, d, h1, h2⟩ := h i hi
  refine ⟨A, d, h1, ?_⟩
  split at h2
  · rw [if_pos (by assumption)]; exact h2
  · rw [if_neg (by assumption)]; omega
def same3 (t t' : Tok) : Prop := t'.k = t.k ∧ t'.x = t.x ∧ t'.n = t.n
def Built (Y : List Tok) (t : ByteArray) (i : Nat) : Prop :=
  t.size ≤ 30 * i ∧ ∃ m : List Tok, m.length = i ∧ (∀ j, j < i → same3 (Y.getD j tz) (m.getD j tz)) ∧ ∀ v, (kb v 0 ≠ 2 ∧ kb v 0 ≠ 3) → Going (t ++ v) 0 [] t.size m
theorem Built.nil (Y : List Tok) : Built Y ⟨#[]⟩ 0 := ⟨Nat.le_refl _, [], rfl, fun j h => absurd h (Nat.not_lt_zero j), fun _ _ => Going.refl _ _ _⟩
end
section
open Go.RowKit
structure Ins where
  kind : Int
  n : Int
  cap : Int
  wt : List Int
  vl : List Int
  cost : List (List Int)
def RowsV (w : World) (v : Value) (rows : List (List Int)) : Prop :=
  ∃ a cap, v = .slice a rows.length cap ∧ rows.length ≤ cap ∧ cap ≤ maxLen ∧ (a = none → cap = 0) ∧ (rows ≠ [] → ∃ b off, a = some ⟨b, off, none⟩ ∧ b < w.heap.size ∧ ∀ i, i < rows.length → ∃ u, w.cell? ⟨b, off + i, none⟩ = some u ∧ IntSl w u (rows.getD i []))
theorem RowsV.below {B : Nat} {w w' : World} {v : Value} {rows : List (List Int)} (h : RowsV w v rows) (hb : Below B w w') (hB : w.heap.size ≤ B) : RowsV w' v rows := by
  obtain ⟨a, cap, rfl, hle, hmx, hnn, h⟩ := h
  refine ⟨a, cap, rfl, hle, hmx, hnn, fun hn => ?_⟩
  obtain ⟨b, off, rfl, hlt, hc⟩ := h hn
  refine ⟨b, off, rfl, Nat.lt_of_lt_of_le hlt hb.size, fun i hi => ?_⟩
  obtain ⟨u, h1, h2⟩ := hc i hi
  exact ⟨u, by rw [(bcell hb).1 _ _ (by omega)]; exact h1, h2.below hb hB⟩
theorem RowsV.at {w : World} {a : Option Addr} {n cap : Nat} {rows : List (List Int)} (h : RowsV w (.slice a n cap) rows) {i : Nat} (hi : i < rows.length) :
    ∃ b off ra rc, a = some ⟨b, off, none⟩ ∧ w.cell? ⟨b, off + i, none⟩ = some (.slice ra (rows.getD i []).length rc) ∧ IntSl w (.slice ra (rows.getD i []).length rc) (rows.getD i []) := by
  obtain ⟨a', cap', he, h1, h2, h3, h4⟩ := h
  cases he
  obtain ⟨b, off, rfl, -, hc⟩ := h4 (by intro e; rw [e] at hi; simp at hi)
  obtain ⟨u, g1, g2⟩ := hc i hi
  have hf : ∃ a c, u = .slice a (rows.getD i []).length c := by obtain ⟨a, c, e, -⟩ := g2; exact ⟨a, c, e⟩
  obtain ⟨ra, rc, rfl⟩ := hf
  exact ⟨b, off, ra, rc, rfl, g1, g2⟩
def InsV (w : World) (v : Value) (i : Ins) : Prop :=
  ∃ vw vv vc, v = .agg #[.int .i64 i.kind, .int .i64 i.n, .int .i64 i.cap, vw, vv, vc] ∧ IntSl w vw i.wt ∧ IntSl w vv i.vl ∧ RowsV w vc i.cost
theorem InsV.below {B : Nat} {w w' : World} {v : Value} {i : Ins} (h : InsV w v i) (hb : Below B w w') (hB : w.heap.size ≤ B) : InsV w' v i := by
  obtain ⟨vw, vv, vc, e, h1, h2, h3⟩ := h
  exact ⟨vw, vv, vc, e, h1.below hb hB, h2.below hb hB, h3.below hb hB⟩
section
variable {w0 w w' : World} {F : Nat → Prop} {L : List Ck} {e t : TypeId} {k : Nat}
end
end
section
open Go.RowKit
theorem Ins.ext {i j : Ins} (g1 : i.kind = j.kind) (g2 : i.n = j.n) (g3 : i.cap = j.cap) (g4 : i.wt = j.wt) (g5 : i.vl = j.vl) (g6 : i.cost = j.cost) : i = j := by cases i; cases j; cases g1; cases g2; cases g3; cases g4; cases g5; cases g6; rfl
instance (i j : Ins) : Decidable (i = j) :=
  if h : ((((i.kind = j.kind ∧ i.n = j.n) ∧ i.cap = j.cap) ∧ i.wt = j.wt) ∧ i.vl = j.vl) ∧ i.cost = j.cost then .isTrue (Ins.ext h.1.1.1.1.1 h.1.1.1.1.2 h.1.1.1.2 h.1.1.2 h.1.2 h.2)
  else .isFalse (fun e => h (by subst e; exact ⟨⟨⟨⟨⟨rfl, rfl⟩, rfl⟩, rfl⟩, rfl⟩, rfl⟩))
section
variable {P : Program} {l : List (Nat × Value)} {w w0 : World} {ty : TypeId} {x y z : Operand} {k k' : IntKind} {m n : Int} {t yt e : TypeId}
theorem RowsV.mem {v : Value} {Rs : List (List Int)} {L : List Ck} (h : RowsV w0 v Rs) (hM : Mem w0 nof L w) : RowsV w v Rs := h.below hM.nilL.below (Nat.le_refl _)
theorem RowsV.lenB {a : Option Addr} {n cap : Nat} {Rs : List (List Int)} (h : RowsV w (.slice a n cap) Rs) : Rs.length ≤ 9223372036854775807 := by
  obtain ⟨a', cap', he, h1, h2, -⟩ := h
  unfold maxLen at h2; omega
theorem RowsV.nil (w : World) : RowsV w (.slice none ([] : List (List Int)).length 0) [] := ⟨none, 0, rfl, Nat.le_refl _, Nat.zero_le _, fun _ => rfl, fun h => absurd rfl h⟩
end
end
section
end
section
def bs (l : List UInt8) : ByteArray := ⟨l.toArray⟩
theorem bs_app (a b : List UInt8) : bs a ++ bs b = bs (a ++ b) := by
  have h : ∀ x y : ByteArray, x.data.toList = y.data.toList → x = y := fun x y e => by cases x; cases y; simp at e; simp [e]
  apply h
  simp [bs]
theorem bs_size (l : List UInt8) : (bs l).size = l.length := by show l.toArray.size = _; simp
def bd64 (n : Int) : Prop := -9223372036854775808 ≤ n ∧ n ≤ 9223372036854775807
theorem itoa_len' {n : Int} (h : bd64 n) : (Lib.itoa n).length ≤ 21 := by
  rcases (show n < 0 ∨ 0 ≤ n by omega) with g | g
  · obtain ⟨A, rfl⟩ : ∃ A : Nat, n = -(A : Int) := ⟨n.natAbs, by omega⟩
    have hA : 1 ≤ A := by omega
    rw [Lib.itoa_neg A hA, List.length_cons, Lib.decDigits_length]
    have := Lib.nDigits_le20 A (by unfold bd64 at h; omega)
    omega
  · obtain ⟨A, rfl⟩ : ∃ A : Nat, n = (A : Int) := ⟨n.toNat, by omega⟩
    rw [Lib.itoa_nonneg A, Lib.decDigits_length]
    have := Lib.nDigits_le20 A (by unfold bd64 at h; omega)
    omega
theorem lens_itoa : ∀ (l : List Int), (∀ x ∈ l, bd64 x) → Lib.lens (l.map Lib.itoa) ≤ 21 * l.length
  | [], _ => by simp [Lib.lens]
  | x :: l, h => by
    have h1 := itoa_len' (h x (.head _))
    have h2 := lens_itoa l (fun y hy => h y (.tail _ hy))
    simp only [Lib.lens, List.map_cons, List.sum_cons, List.length_cons] at h2 ⊢
    omega
theorem join_len {l : List Int} (h : ∀ x ∈ l, bd64 x) : (Lib.join (l.map Lib.itoa) [32]).length ≤ 22 * l.length := by
  cases l with
  | nil => simp [Lib.join_nil]
  | cons x l =>
    have h1 := lens_itoa (x :: l) h
    rw [List.map_cons, Lib.join_length]
    simp only [List.map_cons, List.length_map, List.length_cons, List.length_nil] at h1 ⊢
    omega
end
section
open Go.RowKit
theorem u8_dig {d : Nat} (h : d < 10) : (UInt8.ofNat (48 + d)).toNat = 48 + d := by
  rw [UInt8.toNat_ofNat']; omega
def dd (M : Nat) : List UInt8 := if M = 0 then [] else Lib.decDigits M
theorem dd_step {M : Nat} (h : M ≠ 0) : dd M = dd (M / 10) ++ [UInt8.ofNat (48 + M % 10)] := by
  unfold dd
  rw [if_neg h, Lib.decDigits]
  split
  · rename_i h10
    rw [if_pos (by omega), show M % 10 = M by omega]; rfl
  · rw [if_neg (by omega)]
theorem dd_dig : ∀ (u : Nat), ∀ c ∈ Lib.decDigits u, 48 ≤ c.toNat ∧ c.toNat ≤ 57 := by
  intro u
  induction u using Nat.strongRecOn with
  | ind u ih =>
    intro c hc
    rw [Lib.decDigits] at hc
    split at hc
    · rename_i h
      obtain rfl : c = UInt8.ofNat (48 + u) := by simpa using hc
      rw [u8_dig h]; omega
    · rename_i h
      rcases List.mem_append.1 hc with hc | hc
      · exact ih (u / 10) (by omega) c hc
      · obtain rfl : c = UInt8.ofNat (48 + u % 10) := by simpa using hc
        rw [u8_dig (by omega)]; omega
def valL (l : List UInt8) : Int := l.foldl (fun a c => a * 10 + ((c.toNat : Int) - 48)) 0
theorem valL_snoc (l : List UInt8) (c : UInt8) : valL (l ++ [c]) = valL l * 10 + ((c.toNat : Int) - 48) := by simp [valL]
theorem dd_val : ∀ u : Nat, valL (Lib.decDigits u) = u := by
  intro u
  induction u using Nat.strongRecOn with
  | ind u ih =>
    rw [Lib.decDigits]
    split
    · rename_i h
      show (0 : Int) * 10 + (((UInt8.ofNat (48 + u)).toNat : Int) - 48) = u
      rw [u8_dig h]; omega
    · rw [valL_snoc, ih (u / 10) (by omega), u8_dig (by omega)]; omega
theorem dd_head : ∀ u : Nat, 0 < u → ∃ c r, Lib.decDigits u = c :: r ∧ 49 ≤ c.toNat := by
  intro u
  induction u using Nat.strongRecOn with
  | ind u ih =>
    intro h0
    rw [Lib.decDigits]
    split
    · rename_i h
      exact ⟨_, [], rfl, by rw [u8_dig h]; omega⟩
    · obtain ⟨c, r, h1, h2⟩ := ih (u / 10) (by omega) (by omega)
      exact ⟨c, r ++ [UInt8.ofNat (48 + u % 10)], by rw [h1]; rfl, h2⟩
theorem dd_pos (u : Nat) : 0 < (Lib.decDigits u).length := by
  rw [Lib.decDigits]
  split
  · exact Nat.one_pos
  · rw [List.length_append]; simp
theorem byt_mk {l : List UInt8} {j : Nat} (h : j < l.length) : byt ⟨l.toArray⟩ j = ((l[j]).toNat : Int) := by
  have h1 : j < (⟨l.toArray⟩ : ByteArray).size := by show j < l.toArray.size; simpa using h
  rw [← byt_at h1]
  rfl
theorem size_mk (l : List UInt8) : (⟨l.toArray⟩ : ByteArray).size = l.length := by show l.toArray.size = _; simp
theorem itoa_n {A : Nat} {n : Int} (e : n = -(A : Int)) (h : 1 ≤ A) : Lib.itoa n = 45 :: Lib.decDigits A := by rw [e]; exact Lib.itoa_neg A h
theorem itoa_p {A : Nat} {n : Int} (e : n = (A : Int)) : Lib.itoa n = Lib.decDigits A := by rw [e]; exact Lib.itoa_nonneg A
theorem itoa_cases (n : Int) : (n < 0 ∧ ∃ A : Nat, n = -(A : Int) ∧ 1 ≤ A ∧ Lib.itoa n = 45 :: Lib.decDigits A) ∨ (0 ≤ n ∧ ∃ A : Nat, n = (A : Int) ∧ Lib.itoa n = Lib.decDigits A) := by
  rcases (show n < 0 ∨ 0 ≤ n by omega) with h | h
  · exact .inl ⟨h, n.natAbs, by omega, by omega, itoa_n (by omega) (by omega)⟩
  · exact .inr ⟨h, n.natAbs, by omega, itoa_p (by omega)⟩
theorem dd_len20 {A : Nat} (h : A ≤ 9223372036854775808) : (Lib.decDigits A).length ≤ 20 := by rw [Lib.decDigits_length]; exact Lib.nDigits_le20 A (by omega)
theorem itoa_len {n : Int} (h : -9223372036854775808 ≤ n ∧ n ≤ 9223372036854775807) : (⟨(Lib.itoa n).toArray⟩ : ByteArray).size ≤ 21 := by
  rw [size_mk]
  rcases itoa_cases n with ⟨_, A, e0, _, e⟩ | ⟨_, A, e0, e⟩
  · rw [e, List.length_cons]; have := dd_len20 (A := A) (by omega); omega
  · rw [e]; have := dd_len20 (A := A) (by omega); omega
section
variable {P : Program} {l : List (Nat × Value)} {w w0 : World} {F : Nat → Prop} {L : List Ck} {ty src dst : TypeId} {x : Operand}
end
end
section
structure Toks (X : List Tok) : Prop where
  pos : 0 < X.length
  next : ∀ j, j < X.length → (X.getD j tz).k ≠ 3 → j + 1 < X.length
  len : X.length ≤ 1000000
  kinds : ∀ j, j < X.length → (X.getD j tz).k = 1 ∨ (X.getD j tz).k = 2 ∨ (X.getD j tz).k = 3
  num : ∀ j, 0 ≤ (X.getD j tz).n
  two : ∀ j, (X.getD j tz).k = 2 → (X.getD j tz).x = ⟨#[]⟩
def numN (t : Tok) (most : Int) : Int := if t.k = 3 then 0 else if t.k = 1 then 0 else if most < t.n then 0 else t.n
def numR (t : Tok) (most : Int) : Int := if t.k = 3 then 6 else if t.k = 1 then 4 else if most < t.n then 5 else 0
theorem numR_end {t : Tok} {m : Int} (h : t.k = 3) : numR t m = 6 ∧ numN t m = 0 := ⟨if_pos h, if_pos h⟩
theorem Toks.ok {X : List Tok} (h : Toks X) {j : Nat} (hj : j < X.length) {m : Int} (e : numR (X.getD j tz) m = 0) : j + 1 < X.length := by
  refine h.next j hj (fun k => ?_)
  rw [(numR_end k).1] at e; cases e
end
section
def ff : Nat → Bool := fun _ => false
def vl (X : List Tok) (j q : Nat) : Int := (X.getD (j + q) tz).n
end
end Go.Proofs.YtnhnjjlfoajbgaaDoor
namespace Go.Proofs.YtnhnjjlfoajbgaaDoor
open Go.RowKit
theorem ba_nil {d : ByteArray} (h : d.size = 0) : d = ⟨#[]⟩ := by
  obtain ⟨l⟩ := d
  have : l.size = 0 := h
  rw [Array.size_eq_zero_iff.1 this]
theorem i32_wrap {x : Int} (h : -2147483648 ≤ x ∧ x ≤ 2147483647) : IntKind.i32.wrap x = x := by rw [IntKind.wrap_i32]; omega
theorem i64_wrap {x : Int} (h : -9223372036854775808 ≤ x ∧ x ≤ 9223372036854775807) : IntKind.i64.wrap x = x := by rw [IntKind.wrap_i64]; omega
set_option maxRecDepth 100000 in
set_option maxHeartbeats 400000 in
theorem kind_any (r : Int) (w : World) :
  Calls Tryd.prog 48 #[.int .i32 r] w fun e w' => e = .returned (.int .i64 (kindI r)) ∧ Below w.heap.size w w' := by
 have hM := Mem.start w
 refine Calls.of_ends (vs := [.int .i32 r]) Tryd.func48 rfl Tryd.ntmps48 rfl ?_
 intro a hA
 replace hA : St 35 [(0, _)] a := hA
 refine Ends.seq (Ends.region ?_)
 refine S.val hA (R.assign rfl) rfl ?_; clear hA a; intro a hA
 refine S.done ?_
 refine Ends.seq (Ends.block (Ends.seq (Ends.seq (Ends.region ?_))))
 refine S.val hA (R.move rfl) rfl ?_; clear hA a; intro a hA
 refine S.val hA (R.eql rfl rfl) rfl ?_; clear hA a; intro a hA
 refine S.val hA (R.assign rfl) rfl ?_; clear hA a; intro a hA
 refine S.done ?_
 refine Ends.ite hA rfl (fun hc1 => ?_) (fun hc1 => ?_)
 ·
  rw [decide_eq_true hc1] at hA
  refine Ends.skip ?_
  refine Ends.condT hA rfl ?_
  refine Ends.seq (Ends.region ?_)
  refine S.val hA (R.assign rfl) rfl ?_; clear hA a; intro a hA
  refine S.done ?_
  replace hA : St 35 [(2, _)] a := hA.sub ((.cons rfl .nil))
  refine Ends.ret1 Tryd.func48 Tryd.results48 hA rfl ?_
  have e0 : (1 : Int) = kindI r := by
   unfold kindI
   repeat' split
   all_goals first | rfl | omega
  exact ⟨congrArg (fun z => Ending.returned (Value.int .i64 z)) e0, hM.nilL.below⟩
 ·
  rw [decide_eq_false hc1] at hA
  refine Ends.seq (Ends.region ?_)
  refine S.val hA (R.move rfl) rfl ?_; clear hA a; intro a hA
  refine S.val hA (R.eql rfl rfl) rfl ?_; clear hA a; intro a hA
  refine S.val hA (R.assign rfl) rfl ?_; clear hA a; intro a hA
  refine S.done ?_
  replace hA : St 35 [(0, _), (3, _)] a := hA.sub ((.cons rfl (.cons rfl .nil)))
  refine Ends.ite hA rfl (fun hc2 => ?_) (fun hc2 => ?_)
  ·
   rw [decide_eq_true hc2] at hA
   refine Ends.skip ?_
   refine Ends.condT hA rfl ?_
   refine Ends.seq (Ends.region ?_)
   refine S.val hA (R.assign rfl) rfl ?_; clear hA a; intro a hA
   refine S.done ?_
   refine Ends.ret1 Tryd.func48 Tryd.results48 hA rfl ?_
   have e0 : (1 : Int) = kindI r := by
    unfold kindI
    repeat' split
    all_goals first | rfl | omega
   exact ⟨congrArg (fun z => Ending.returned (Value.int .i64 z)) e0, hM.nilL.below⟩
  ·
   rw [decide_eq_false hc2] at hA
   refine Ends.seq (Ends.region ?_)
   refine S.val hA (R.move rfl) rfl ?_; clear hA a; intro a hA
   refine S.val hA (R.eql rfl rfl) rfl ?_; clear hA a; intro a hA
   refine S.val hA (R.assign rfl) rfl ?_; clear hA a; intro a hA
   refine S.done ?_
   refine Ends.ite hA rfl (fun hc3 => ?_) (fun hc3 => ?_)
   ·
    rw [decide_eq_true hc3] at hA
    refine Ends.skip ?_
    refine Ends.condT hA rfl ?_
    refine Ends.seq (Ends.region ?_)
    refine S.val hA (R.assign rfl) rfl ?_; clear hA a; intro a hA
    refine S.done ?_
    replace hA : St 35 [(2, _)] a := hA.sub ((.cons rfl .nil))
    refine Ends.ret1 Tryd.func48 Tryd.results48 hA rfl ?_
    have e0 : (1 : Int) = kindI r := by
     unfold kindI
     repeat' split
     all_goals first | rfl | omega
    exact ⟨congrArg (fun z => Ending.returned (Value.int .i64 z)) e0, hM.nilL.below⟩
   ·
    rw [decide_eq_false hc3] at hA
    refine Ends.region ?_
    refine S.val hA (R.move rfl) rfl ?_; clear hA a; intro a hA
    refine S.val hA (R.eql rfl rfl) rfl ?_; clear hA a; intro a hA
    refine S.val hA (R.assign rfl) rfl ?_; clear hA a; intro a hA
    refine S.done ?_
    replace hA : St 35 [(0, _), (3, _)] a := hA.sub ((.cons rfl (.cons rfl .nil)))
    refine Ends.ite hA rfl (fun hc4 => ?_) (fun hc4 => ?_)
    ·
     rw [decide_eq_true hc4] at hA
     refine Ends.seq (Ends.region ?_)
     refine S.val hA (R.assign rfl) rfl ?_; clear hA a; intro a hA
     refine S.done ?_
     refine Ends.ret1 Tryd.func48 Tryd.results48 hA rfl ?_
     have e0 : (1 : Int) = kindI r := by
      unfold kindI
      repeat' split
      all_goals first | rfl | omega
     exact ⟨congrArg (fun z => Ending.returned (Value.int .i64 z)) e0, hM.nilL.below⟩
    ·
     rw [decide_eq_false hc4] at hA
     refine Ends.seq ?_
     refine Ends.cut (fun (a : Act) (wv : World) => St 35 [(0, .int .i32 r), (12, .bool (decide ((48 ≤ r ∧ r ≤ 57))))] a ∧ Mem w nof [] wv) ?_ (fun k2 hJ => ?_)
     ·
      clear hA hM a; rintro a w1 ⟨hA, hM⟩
      refine Ends.ite hA rfl (fun hc5 => ?_) (fun hc5 => ?_)
      ·
       rw [decide_eq_true hc5] at hA
       refine Ends.seq (Ends.region ?_)
       refine S.val hA (R.assign rfl) rfl ?_; clear hA a; intro a hA
       refine S.done ?_
       refine Ends.ret1 Tryd.func48 Tryd.results48 hA rfl ?_
       have e0 : (2 : Int) = kindI r := by
        unfold kindI
        repeat' split
        all_goals first | rfl | omega
       exact ⟨congrArg (fun z => Ending.returned (Value.int .i64 z)) e0, hM.nilL.below⟩
      ·
       rw [decide_eq_false hc5] at hA
       refine Ends.seq (Ends.seq ?_)
       refine Ends.cut (fun (a : Act) (wv : World) => St 35 [(0, .int .i32 r), (19, .bool (decide ((65 ≤ r ∧ r ≤ 90))))] a ∧ Mem w nof [] wv) ?_ (fun k2 hJ => ?_)
       ·
        clear hA hM a; rintro a w2 ⟨hA, hM⟩
        refine Ends.ite hA rfl (fun hc6 => ?_) (fun hc6 => ?_)
        ·
         rw [decide_eq_true hc6] at hA
         refine Ends.skip ?_
         refine Ends.condT hA rfl ?_
         refine Ends.seq (Ends.region ?_)
         refine S.val hA (R.assign rfl) rfl ?_; clear hA a; intro a hA
         refine S.done ?_
         refine Ends.ret1 Tryd.func48 Tryd.results48 hA rfl ?_
         have e0 : (3 : Int) = kindI r := by
          unfold kindI
          repeat' split
          all_goals first | rfl | omega
         exact ⟨congrArg (fun z => Ending.returned (Value.int .i64 z)) e0, hM.nilL.below⟩
        ·
         rw [decide_eq_false hc6] at hA
         refine Ends.cut (fun (a : Act) (wv : World) => St 35 [(0, .int .i32 r), (19, .bool (decide ((97 ≤ r ∧ r ≤ 122))))] a ∧ Mem w nof [] wv) ?_ (fun k2 hJ => ?_)
         ·
          clear hA hM a; rintro a w3 ⟨hA, hM⟩
          refine Ends.ite hA rfl (fun hc7 => ?_) (fun hc7 => ?_)
          ·
           rw [decide_eq_true hc7] at hA
           refine Ends.seq (Ends.region ?_)
           refine S.val hA (R.assign rfl) rfl ?_; clear hA a; intro a hA
           refine S.done ?_
           refine Ends.ret1 Tryd.func48 Tryd.results48 hA rfl ?_
           have e0 : (3 : Int) = kindI r := by
            unfold kindI
            repeat' split
            all_goals first | rfl | omega
           exact ⟨congrArg (fun z => Ending.returned (Value.int .i64 z)) e0, hM.nilL.below⟩
          ·
           rw [decide_eq_false hc7] at hA
           refine Ends.seq (Ends.region ?_)
           refine S.val hA (R.move rfl) rfl ?_; clear hA a; intro a hA
           refine S.val hA (R.eql rfl rfl) rfl ?_; clear hA a; intro a hA
           refine S.val hA (R.assign rfl) rfl ?_; clear hA a; intro a hA
           refine S.done ?_
           replace hA : St 35 [(32, _)] a := hA.sub ((.cons rfl .nil))
           refine Ends.ite hA rfl (fun hc8 => ?_) (fun hc8 => ?_)
           ·
            rw [decide_eq_true hc8] at hA
            refine Ends.seq (Ends.region ?_)
            refine S.val hA (R.assign rfl) rfl ?_; clear hA a; intro a hA
            refine S.done ?_
            refine Ends.ret1 Tryd.func48 Tryd.results48 hA rfl ?_
            have e0 : (4 : Int) = kindI r := by
             unfold kindI
             repeat' split
             all_goals first | rfl | omega
            exact ⟨congrArg (fun z => Ending.returned (Value.int .i64 z)) e0, hM.nilL.below⟩
           ·
            rw [decide_eq_false hc8] at hA
            refine Ends.skip (Ends.inBlock (Ends.seq (Ends.region ?_)))
            refine S.val hA (R.assign rfl) rfl ?_; clear hA a; intro a hA
            refine S.done ?_
            refine Ends.ret1 Tryd.func48 Tryd.results48 hA rfl ?_
            have e0 : (0 : Int) = kindI r := by
             unfold kindI
             repeat' split
             all_goals first | rfl | omega
            exact ⟨congrArg (fun z => Ending.returned (Value.int .i64 z)) e0, hM.nilL.below⟩
         ·
          refine Ends.region ?_
          refine S.val hA (R.move rfl) rfl ?_; clear hA a; intro a hA
          refine S.val hA (R.geq rfl rfl) rfl ?_; clear hA a; intro a hA
          refine S.val hA (R.move rfl) rfl ?_; clear hA a; intro a hA
          refine hA.split (d := 28) rfl ?_ ?_
          ·
           clear hA; intro hg9 hA
           refine S.valg (dj := 28) hA (by kernel_rfl) rfl (R.move rfl) rfl ?_; clear hA a; intro a hA
           refine S.valg (dj := 28) hA (by kernel_rfl) rfl (R.leq rfl rfl) rfl ?_; clear hA a; intro a hA
           refine S.val hA (R.pickT rfl rfl) rfl ?_; clear hA a; intro a hA
           refine S.val hA (R.assign rfl) rfl ?_; clear hA a; intro a hA
           refine S.done ?_
           replace hA : St 35 [(0, _), (19, _)] a := hA.sub ((.cons rfl (.cons rfl .nil)))
           exact hJ _ _ ⟨hA.sub (.cons rfl (.cons (by first | rfl | exact congrArg (fun b => some (Value.bool b)) (by first | exact decide_eq_decide.2 (by omega) | exact or_bool (by omega) | exact and_bool (by omega) | (simp; done) | (simp [hg9]; done) | (have h80 := hg9; (try simp at h80); simp [h80]; done) | exact (decide_eq_false (fun h9 => hg9 h9.1)).symm)) .nil)), hM⟩
          ·
           clear hA; intro hg9 hA
           refine S.no (dj := 28) hA (by kernel_rfl) rfl rfl rfl ?_; clear hA a; intro a hA
           refine S.no (dj := 28) hA (by kernel_rfl) rfl rfl rfl ?_; clear hA a; intro a hA
           refine S.val hA (R.pickF rfl rfl) rfl ?_; clear hA a; intro a hA
           refine S.val hA (R.assign rfl) rfl ?_; clear hA a; intro a hA
           refine S.done ?_
           replace hA : St 35 [(0, _), (19, _)] a := hA.sub ((.cons rfl (.cons rfl .nil)))
           exact hJ _ _ ⟨hA.sub (.cons rfl (.cons (by first | rfl | exact congrArg (fun b => some (Value.bool b)) (by first | exact decide_eq_decide.2 (by omega) | exact or_bool (by omega) | exact and_bool (by omega) | (simp; done) | (simp [hg9]; done) | (have h80 := hg9; (try simp at h80); simp [h80]; done) | exact (decide_eq_false (fun h9 => hg9 h9.1)).symm)) .nil)), hM⟩
       ·
        refine Ends.region ?_
        refine S.val hA (R.move rfl) rfl ?_; clear hA a; intro a hA
        refine S.val hA (R.geq rfl rfl) rfl ?_; clear hA a; intro a hA
        refine S.val hA (R.move rfl) rfl ?_; clear hA a; intro a hA
        refine hA.split (d := 22) rfl ?_ ?_
        ·
         clear hA; intro hg10 hA
         refine S.valg (dj := 22) hA (by kernel_rfl) rfl (R.move rfl) rfl ?_; clear hA a; intro a hA
         refine S.valg (dj := 22) hA (by kernel_rfl) rfl (R.leq rfl rfl) rfl ?_; clear hA a; intro a hA
         refine S.val hA (R.pickT rfl rfl) rfl ?_; clear hA a; intro a hA
         refine S.val hA (R.assign rfl) rfl ?_; clear hA a; intro a hA
         refine S.done ?_
         replace hA : St 35 [(0, _), (19, _)] a := hA.sub ((.cons rfl (.cons rfl .nil)))
         exact hJ _ _ ⟨hA.sub (.cons rfl (.cons (by first | rfl | exact congrArg (fun b => some (Value.bool b)) (by first | exact decide_eq_decide.2 (by omega) | exact or_bool (by omega) | exact and_bool (by omega) | (simp; done) | (simp [hg10]; done) | (have h80 := hg10; (try simp at h80); simp [h80]; done) | exact (decide_eq_false (fun h9 => hg10 h9.1)).symm)) .nil)), hM⟩
        ·
         clear hA; intro hg10 hA
         refine S.no (dj := 22) hA (by kernel_rfl) rfl rfl rfl ?_; clear hA a; intro a hA
         refine S.no (dj := 22) hA (by kernel_rfl) rfl rfl rfl ?_; clear hA a; intro a hA
         refine S.val hA (R.pickF rfl rfl) rfl ?_; clear hA a; intro a hA
         refine S.val hA (R.assign rfl) rfl ?_; clear hA a; intro a hA
         refine S.done ?_
         replace hA : St 35 [(0, _), (19, _)] a := hA.sub ((.cons rfl (.cons rfl .nil)))
         exact hJ _ _ ⟨hA.sub (.cons rfl (.cons (by first | rfl | exact congrArg (fun b => some (Value.bool b)) (by first | exact decide_eq_decide.2 (by omega) | exact or_bool (by omega) | exact and_bool (by omega) | (simp; done) | (simp [hg10]; done) | (have h80 := hg10; (try simp at h80); simp [h80]; done) | exact (decide_eq_false (fun h9 => hg10 h9.1)).symm)) .nil)), hM⟩
     ·
      refine Ends.region ?_
      refine S.val hA (R.move rfl) rfl ?_; clear hA a; intro a hA
      refine S.val hA (R.geq rfl rfl) rfl ?_; clear hA a; intro a hA
      refine S.val hA (R.move rfl) rfl ?_; clear hA a; intro a hA
      refine hA.split (d := 15) rfl ?_ ?_
      ·
       clear hA; intro hg11 hA
       refine S.valg (dj := 15) hA (by kernel_rfl) rfl (R.move rfl) rfl ?_; clear hA a; intro a hA
       refine S.valg (dj := 15) hA (by kernel_rfl) rfl (R.leq rfl rfl) rfl ?_; clear hA a; intro a hA
       refine S.val hA (R.pickT rfl rfl) rfl ?_; clear hA a; intro a hA
       refine S.val hA (R.assign rfl) rfl ?_; clear hA a; intro a hA
       refine S.done ?_
       replace hA : St 35 [(0, _), (12, _)] a := hA.sub ((.cons rfl (.cons rfl .nil)))
       exact hJ _ _ ⟨hA.sub (.cons rfl (.cons (by first | rfl | exact congrArg (fun b => some (Value.bool b)) (by first | exact decide_eq_decide.2 (by omega) | exact or_bool (by omega) | exact and_bool (by omega) | (simp; done) | (simp [hg11]; done) | (have h80 := hg11; (try simp at h80); simp [h80]; done) | exact (decide_eq_false (fun h9 => hg11 h9.1)).symm)) .nil)), hM⟩
      ·
       clear hA; intro hg11 hA
       refine S.no (dj := 15) hA (by kernel_rfl) rfl rfl rfl ?_; clear hA a; intro a hA
       refine S.no (dj := 15) hA (by kernel_rfl) rfl rfl rfl ?_; clear hA a; intro a hA
       refine S.val hA (R.pickF rfl rfl) rfl ?_; clear hA a; intro a hA
       refine S.val hA (R.assign rfl) rfl ?_; clear hA a; intro a hA
       refine S.done ?_
       replace hA : St 35 [(0, _), (12, _)] a := hA.sub ((.cons rfl (.cons rfl .nil)))
       exact hJ _ _ ⟨hA.sub (.cons rfl (.cons (by first | rfl | exact congrArg (fun b => some (Value.bool b)) (by first | exact decide_eq_decide.2 (by omega) | exact or_bool (by omega) | exact and_bool (by omega) | (simp; done) | (simp [hg11]; done) | (have h80 := hg11; (try simp at h80); simp [h80]; done) | exact (decide_eq_false (fun h9 => hg11 h9.1)).symm)) .nil)), hM⟩
set_option maxRecDepth 100000 in
set_option maxHeartbeats 400000 in
theorem run_any (s : ByteArray) (w : World) :
  Calls Tryd.prog 43 #[.string s] w fun e w' => e = .returned (.int .i64 (dgs s 0 : Int)) ∧ Below w.heap.size w w' := by
 have hM := Mem.start w
 refine Calls.of_ends (vs := [.string s]) Tryd.func43 rfl Tryd.ntmps43 rfl ?_
 intro a hA
 replace hA : St 17 [(0, _)] a := hA
 refine Ends.seq (Ends.region ?_)
 refine S.val hA (R.assign rfl) rfl ?_; clear hA a; intro a hA
 refine S.done ?_
 refine Ends.seq (Ends.seq (Ends.region ?_))
 refine S.val hA (R.move rfl) rfl ?_; clear hA a; intro a hA
 refine S.rangeS hA hM Tryd.underlying9 rfl rfl ?_; clear hA hM a; intro b1 w1 hb2 hM a hA
 replace hM : Mem _ _ [itC b1 s 0] _ := hM
 refine S.done ?_
 refine Ends.block ?_
 refine Ends.loop (σ := Nat) (fun p (a : Act) (wv : World) => St 17 [(0, .string s), (6, .pointer (some ⟨b1, 0, none⟩))] a ∧ Mem w nof [itC b1 s p] wv ∧ (p ≤ s.size) ∧ (∀ j, j < p → dig s j)) (fun p => s.size - p) 0 ⟨hA.sub ((.cons rfl (.cons rfl .nil))), hM, (Nat.zero_le _), (fun j hj => absurd hj (Nat.not_lt_zero j))⟩ ?_
 clear hA hM a
 rintro p a w2 ⟨hA, hM, hp, hd⟩ hNext
 refine Ends.seq (Ends.region ?_)
 by_cases hp3 : p < s.size
 ·
  refine S.nextT (k := 0) hA hM rfl rfl hp3 rfl ?_; clear hA hM a; intro w3 hM a hA
  replace hM : Mem _ _ [itC b1 s ((p + (Utf8.decode s p).2))] _ := hM
  refine S.val hA (R.extract (v := .bool true) rfl rfl) rfl ?_; clear hA a; intro a hA
  refine S.done ?_
  refine Ends.seq ?_
  refine Ends.condT hA rfl ?_
  refine Ends.skip (Ends.block (Ends.seq (Ends.region ?_)))
  refine S.val hA (R.extract (v := .int .i64 ((p : Int))) rfl rfl) rfl ?_; clear hA a; intro a hA
  refine S.val hA (R.extract (v := .int .i32 (((Utf8.decode s p).1 : Int))) rfl rfl) rfl ?_; clear hA a; intro a hA
  refine S.val hA (R.assign rfl) rfl ?_; clear hA a; intro a hA
  refine S.val hA (R.assign rfl) rfl ?_; clear hA a; intro a hA
  refine S.done ?_
  replace hA : St 17 [(0, _), (3, _), (4, _), (6, _)] a := hA.sub ((.cons rfl (.cons rfl (.cons rfl (.cons rfl .nil)))))
  refine Ends.seq (Ends.region ?_)
  refine S.val hA (R.move rfl) rfl ?_; clear hA a; intro a hA
  refine S.call hA (R.callF Tryd.func48 rfl rfl rfl) rfl (kind_any (((Utf8.decode s p).1 : Int)) _) ?_; clear hA a
  rintro e w4 ⟨rfl, hb⟩
  replace hM := hM.callB hb; clear hb
  refine ⟨.int .i64 (kindI (((Utf8.decode s p).1 : Int))), rfl, fun a hA => ?_⟩
  refine S.val hA (R.neq rfl rfl) rfl ?_; clear hA a; intro a hA
  refine S.done ?_
  refine Ends.ite hA rfl (fun hc4 => ?_) (fun hc4 => ?_)
  ·
   refine Ends.seq (Ends.region ?_)
   refine S.val hA (R.move rfl) rfl ?_; clear hA a; intro a hA
   refine S.val hA (R.assign rfl) rfl ?_; clear hA a; intro a hA
   refine S.done ?_
   replace hA : St 17 [(0, _), (2, _), (6, _)] a := hA.sub ((.cons rfl (.cons rfl (.cons rfl .nil))))
   refine Ends.ret1 Tryd.func43 Tryd.results43 hA rfl ?_
   have e0 : dgs s 0 = p := by
    exact dgs_uniq (fun j hj => by rw [Nat.zero_add]; exact hd j hj) (by rw [Nat.zero_add]; exact (fun h => hc4 ((dec_dig hp3).1.2 h)))
   rw [e0]
   exact ⟨rfl, hM.nilL.below⟩
  ·
   refine Ends.skip (Ends.inBlock ?_)
   have hdg := (dec_dig hp3).1.1 (Classical.byContradiction hc4)
   rw [((dec_dig hp3).2 hdg).1] at hM
   exact hNext ((p + 1)) _ _ ((by show s.size - (p + 1) < s.size - p; omega)) ⟨hA.sub ((.cons rfl (.cons rfl .nil))), hM, (by omega), (fun j hj => by rcases Nat.lt_or_ge j p with q | q; exact hd j q; have e : j = p := (by omega); exact e ▸ hdg)⟩
 ·
  refine S.val hA (R.nextF (k := 0) hM rfl rfl hp3) rfl ?_; clear hA a; intro a hA
  refine S.val hA (R.extract (v := .bool false) rfl rfl) rfl ?_; clear hA a; intro a hA
  refine S.done ?_
  refine Ends.seq ?_
  refine Ends.condF hA rfl ?_
  refine Ends.exit rfl ?_
  refine Ends.seq (Ends.region ?_)
  refine S.val hA (R.move rfl) rfl ?_; clear hA a; intro a hA
  refine S.val hA (R.lenStr Tryd.underlying9 rfl rfl) rfl ?_; clear hA a; intro a hA
  refine S.val hA (R.assign rfl) rfl ?_; clear hA a; intro a hA
  refine S.done ?_
  replace hA : St 17 [(2, _)] a := hA.sub ((.cons rfl .nil))
  refine Ends.ret1 Tryd.func43 Tryd.results43 hA rfl ?_
  have hpe : p = s.size := by omega
  have e0 : dgs s 0 = s.size := by
   rw [← hpe]
   exact dgs_uniq (fun j hj => by rw [Nat.zero_add]; exact hd j hj) (by rw [Nat.zero_add]; exact (fun h => absurd h.1 (by omega)))
  rw [e0]
  exact ⟨rfl, hM.nilL.below⟩
theorem run_at (s : ByteArray) (x : Nat) (w : World) : Calls Tryd.prog 43 #[.string (s.extract x s.size)] w fun e w' => e = .returned (.int .i64 (dgs s x : Int)) ∧ Below w.heap.size w w' := by
  have h := run_any (s.extract x s.size) w
  rwa [dgs_ext] at h
set_option maxRecDepth 100000 in
set_option maxHeartbeats 400000 in
theorem read_out (s : ByteArray) (p : Int) (h : p < 0 ∨ (s.size : Int) < p) (w : World) :
  Calls Tryd.prog 38 #[.string s, .int .i64 p] w fun e w' => e = .returned (.tuple #[.int .i64 (0), .int .i64 (0), .int .i64 (1)]) ∧ Below w.heap.size w w' := by
 have hM := Mem.start w
 refine Calls.of_ends (vs := [.string s, .int .i64 p]) Tryd.func38 rfl Tryd.ntmps38 rfl ?_
 intro a hA
 replace hA : St 58 [(0, _), (1, _)] a := hA
 refine Ends.seq (Ends.region ?_)
 refine S.val hA (R.assign rfl) rfl ?_; clear hA a; intro a hA
 refine S.val hA (R.assign rfl) rfl ?_; clear hA a; intro a hA
 refine S.val hA (R.assign rfl) rfl ?_; clear hA a; intro a hA
 refine S.done ?_
 refine Ends.seq (Ends.seq ?_)
 refine Ends.cut (fun (a : Act) (wv : World) => St 58 [(0, .string s), (1, .int .i64 p), (4, .int .i64 0), (17, .bool (decide ((p < 0 ∨ ((s.size : Int)) < p))))] a ∧ Mem w nof [] wv) ?_ (fun k2 hJ => ?_)
 ·
  clear hA hM a; rintro a w1 ⟨hA, hM⟩
  refine Ends.ite hA rfl (fun hc1 => ?_) (fun hc1 => ?_)
  ·
   refine Ends.seq (Ends.region ?_)
   refine S.val hA (R.assign rfl) rfl ?_; clear hA a; intro a hA
   refine S.val hA (R.assign rfl) rfl ?_; clear hA a; intro a hA
   refine S.val hA (R.assign rfl) rfl ?_; clear hA a; intro a hA
   refine S.done ?_
   refine Ends.ret3 Tryd.func38 Tryd.results38 hA rfl rfl rfl ?_
   exact ⟨rfl, hM.nilL.below⟩
  · exfalso; omega
 ·
  refine Ends.region ?_
  refine S.val hA (R.move rfl) rfl ?_; clear hA a; intro a hA
  refine S.val hA (R.lss rfl rfl) rfl ?_; clear hA a; intro a hA
  refine S.val hA (R.move rfl) rfl ?_; clear hA a; intro a hA
  refine hA.split (d := 12) rfl ?_ ?_
  ·
   clear hA; intro hg2 hA
   refine S.no (dj := 12) hA (by kernel_rfl) rfl rfl rfl ?_; clear hA a; intro a hA
   refine S.no (dj := 12) hA (by kernel_rfl) rfl rfl rfl ?_; clear hA a; intro a hA
   refine S.no (dj := 12) hA (by kernel_rfl) rfl rfl rfl ?_; clear hA a; intro a hA
   refine S.no (dj := 12) hA (by kernel_rfl) rfl rfl rfl ?_; clear hA a; intro a hA
   refine S.val hA (R.pickT rfl rfl) rfl ?_; clear hA a; intro a hA
   refine S.done ?_
   replace hA : St 58 [(0, _), (1, _), (4, _), (17, _)] a := hA.sub ((.cons rfl (.cons rfl (.cons rfl (.cons rfl .nil)))))
   exact hJ _ _ ⟨hA.sub (.cons rfl (.cons rfl (.cons rfl (.cons (by first | rfl | exact congrArg (fun b => some (Value.bool b)) (by first | exact decide_eq_decide.2 (by omega) | exact or_bool (by omega) | exact and_bool (by omega) | (simp; done) | (simp [hg2]; done) | (have h80 := hg2; (try simp at h80); simp [h80]; done) | exact (decide_eq_false (fun h9 => hg2 h9.1)).symm)) .nil)))), hM⟩
  ·
   clear hA; intro hg2 hA
   refine S.valg (dj := 12) hA (by kernel_rfl) rfl (R.move rfl) rfl ?_; clear hA a; intro a hA
   refine S.valg (dj := 12) hA (by kernel_rfl) rfl (R.move rfl) rfl ?_; clear hA a; intro a hA
   refine S.valg (dj := 12) hA (by kernel_rfl) rfl (R.lenStr Tryd.underlying9 rfl rfl) rfl ?_; clear hA a; intro a hA
   refine S.valg (dj := 12) hA (by kernel_rfl) rfl (R.gtr rfl rfl) rfl ?_; clear hA a; intro a hA
   refine S.val hA (R.pickF rfl rfl) rfl ?_; clear hA a; intro a hA
   refine S.done ?_
   replace hA : St 58 [(0, _), (1, _), (4, _), (17, _)] a := hA.sub ((.cons rfl (.cons rfl (.cons rfl (.cons rfl .nil)))))
   exact hJ _ _ ⟨hA.sub (.cons rfl (.cons rfl (.cons rfl (.cons (by first | rfl | exact congrArg (fun b => some (Value.bool b)) (by first | exact decide_eq_decide.2 (by omega) | exact or_bool (by omega) | exact and_bool (by omega) | (simp; done) | (simp [hg2]; done) | (have h80 := hg2; (try simp at h80); simp [h80]; done) | exact (decide_eq_false (fun h9 => hg2 h9.1)).symm)) .nil)))), hM⟩
set_option maxRecDepth 100000 in
set_option maxHeartbeats 400000 in
theorem read_none (s : ByteArray) (x k : Nat) (hx : x ≤ s.size) (hk : dgs s x = k) (hsz : s.size ≤ 9223372036854775807) (h : k = 0) (w : World) :
  Calls Tryd.prog 38 #[.string s, .int .i64 ((x : Int))] w fun e w' => e = .returned (.tuple #[.int .i64 (0), .int .i64 (0), .int .i64 (4)]) ∧ Below w.heap.size w w' := by
 have hM := Mem.start w
 refine Calls.of_ends (vs := [.string s, .int .i64 ((x : Int))]) Tryd.func38 rfl Tryd.ntmps38 rfl ?_
 intro a hA
 replace hA : St 58 [(0, _), (1, _)] a := hA
 refine Ends.seq (Ends.region ?_)
 refine S.val hA (R.assign rfl) rfl ?_; clear hA a; intro a hA
 refine S.val hA (R.assign rfl) rfl ?_; clear hA a; intro a hA
 refine S.val hA (R.assign rfl) rfl ?_; clear hA a; intro a hA
 refine S.done ?_
 refine Ends.seq (Ends.seq (Ends.region ?_))
 refine S.val hA (R.move rfl) rfl ?_; clear hA a; intro a hA
 refine S.val hA (R.ff (R.lss rfl rfl) (by omega)) rfl ?_; clear hA a; intro a hA
 refine S.val hA (R.move rfl) rfl ?_; clear hA a; intro a hA
 refine S.valg (dj := 12) hA (by kernel_rfl) rfl (R.move rfl) rfl ?_; clear hA a; intro a hA
 refine S.valg (dj := 12) hA (by kernel_rfl) rfl (R.move rfl) rfl ?_; clear hA a; intro a hA
 refine S.valg (dj := 12) hA (by kernel_rfl) rfl (R.lenStr Tryd.underlying9 rfl rfl) rfl ?_; clear hA a; intro a hA
 refine S.valg (dj := 12) hA (by kernel_rfl) rfl (R.ff (R.gtr rfl rfl) (by omega)) rfl ?_; clear hA a; intro a hA
 refine S.val hA (R.pickF rfl rfl) rfl ?_; clear hA a; intro a hA
 refine S.done ?_
 replace hA : St 58 [(0, _), (1, _), (4, _), (17, _)] a := hA.sub ((.cons rfl (.cons rfl (.cons rfl (.cons rfl .nil)))))
 refine Ends.condF hA rfl ?_
 refine Ends.skip (Ends.seq (Ends.region ?_))
 refine S.val hA (R.move rfl) rfl ?_; clear hA a; intro a hA
 refine S.val hA (R.move rfl) rfl ?_; clear hA a; intro a hA
 refine S.val hA (R.to (v := .string ((s.extract x s.size))) (R.sliceSL Tryd.underlying9 rfl rfl (by omega)) (by first | rfl | (congr 2; done) | (congr 2 <;> omega))) rfl ?_; clear hA a; intro a hA
 refine S.val hA (R.assign rfl) rfl ?_; clear hA a; intro a hA
 refine S.done ?_
 replace hA : St 58 [(1, _), (4, _), (7, _)] a := hA.sub ((.cons rfl (.cons rfl (.cons rfl .nil))))
 refine Ends.seq (Ends.region ?_)
 refine S.val hA (R.move rfl) rfl ?_; clear hA a; intro a hA
 refine S.val hA (R.move rfl) rfl ?_; clear hA a; intro a hA
 refine S.call hA (R.callF Tryd.func43 rfl rfl rfl) rfl (run_at s x _) ?_; clear hA a
 rintro e w1 ⟨rfl, hb⟩
 replace hM := hM.callB hb; clear hb
 refine ⟨.int .i64 ((dgs s x : Int)), rfl, fun a hA => ?_⟩
 obtain ⟨d, hd, hdsz, hdb⟩ : ∃ d, (s.extract x s.size).extract 0 (dgs s x) = d ∧ d.size = k ∧ ∀ j, j < k → byt d j = byt s (x + j) := by
  have hle := dgs_le s hx
  rw [hk] at hle ⊢
  have h1 : (s.extract x s.size).size = s.size - x := size_ext (Nat.le_refl _)
  refine ⟨_, rfl, by rw [size_ext (by omega)]; omega, fun j hj => ?_⟩
  rw [byt_ext (by omega) (by omega), Nat.zero_add, byt_ext (by omega) (Nat.le_refl _)]
 have hdg : ∀ j, j < k → dig s (x + j) := fun j hj => (dgs_spec s x).1 j (by omega)
 have hdd : ∀ j, j < k → dig d j := fun j hj => ⟨by omega, by rw [hdb j hj]; exact (hdg j hj).2⟩
 have hle := dgs_le s hx
 rw [hk] at hle
 have h1 : (s.extract x s.size).size = s.size - x := size_ext (Nat.le_refl _)
 refine S.val hA (R.to (v := .string d) (R.sliceSH Tryd.underlying9 rfl rfl (by rw [hk]; omega)) (congrArg Value.string hd)) rfl ?_; clear hA a; intro a hA
 refine S.val hA (R.assign rfl) rfl ?_; clear hA a; intro a hA
 refine S.done ?_
 replace hA : St 58 [(1, _), (4, _), (7, _)] a := hA.sub ((.cons rfl (.cons rfl (.cons rfl .nil))))
 refine Ends.seq (Ends.block (Ends.seq (Ends.region ?_)))
 refine S.val hA (R.move rfl) rfl ?_; clear hA a; intro a hA
 refine S.val hA (R.tt (R.eqlStr rfl rfl) (ba_nil (by omega))) rfl ?_; clear hA a; intro a hA
 refine S.val hA (R.move rfl) rfl ?_; clear hA a; intro a hA
 refine S.no (dj := 28) hA (by kernel_rfl) rfl rfl rfl ?_; clear hA a; intro a hA
 refine S.no (dj := 28) hA (by kernel_rfl) rfl rfl rfl ?_; clear hA a; intro a hA
 refine S.no (dj := 28) hA (by kernel_rfl) rfl rfl rfl ?_; clear hA a; intro a hA
 refine S.no (dj := 28) hA (by kernel_rfl) rfl rfl rfl ?_; clear hA a; intro a hA
 refine S.noU (dj := 32) hA (by kernel_rfl) rfl rfl ?_; clear hA a; intro a hA
 refine S.noU (dj := 32) hA (by kernel_rfl) rfl rfl ?_; clear hA a; intro a hA
 refine S.noU (dj := 32) hA (by kernel_rfl) rfl rfl ?_; clear hA a; intro a hA
 refine S.no (dj := 28) hA (by kernel_rfl) rfl rfl rfl ?_; clear hA a; intro a hA
 refine S.val hA (R.pickT rfl rfl) rfl ?_; clear hA a; intro a hA
 refine S.val hA (R.assign rfl) rfl ?_; clear hA a; intro a hA
 refine S.done ?_
 replace hA : St 58 [(1, _), (4, _), (7, _), (25, _)] a := hA.sub ((.cons rfl (.cons rfl (.cons rfl (.cons rfl .nil)))))
 refine Ends.condT hA rfl ?_
 refine Ends.seq (Ends.region ?_)
 refine S.val hA (R.assign rfl) rfl ?_; clear hA a; intro a hA
 refine S.val hA (R.assign rfl) rfl ?_; clear hA a; intro a hA
 refine S.val hA (R.assign rfl) rfl ?_; clear hA a; intro a hA
 refine S.done ?_
 refine Ends.ret3 Tryd.func38 Tryd.results38 hA rfl rfl rfl ?_
 exact ⟨rfl, hM.nilL.below⟩
set_option maxRecDepth 100000 in
set_option maxHeartbeats 400000 in
theorem read_nul (s : ByteArray) (x k : Nat) (hx : x ≤ s.size) (hk : dgs s x = k) (hsz : s.size ≤ 9223372036854775807) (h : 1 < k) (h0 : byt s x = 48) (w : World) :
  Calls Tryd.prog 38 #[.string s, .int .i64 ((x : Int))] w fun e w' => e = .returned (.tuple #[.int .i64 (0), .int .i64 (0), .int .i64 (4)]) ∧ Below w.heap.size w w' := by
 have hM := Mem.start w
 refine Calls.of_ends (vs := [.string s, .int .i64 ((x : Int))]) Tryd.func38 rfl Tryd.ntmps38 rfl ?_
 intro a hA
 replace hA : St 58 [(0, _), (1, _)] a := hA
 refine Ends.seq (Ends.region ?_)
 refine S.val hA (R.assign rfl) rfl ?_; clear hA a; intro a hA
 refine S.val hA (R.assign rfl) rfl ?_; clear hA a; intro a hA
 refine S.val hA (R.assign rfl) rfl ?_; clear hA a; intro a hA
 refine S.done ?_
 refine Ends.seq (Ends.seq (Ends.region ?_))
 refine S.val hA (R.move rfl) rfl ?_; clear hA a; intro a hA
 refine S.val hA (R.ff (R.lss rfl rfl) (by omega)) rfl ?_; clear hA a; intro a hA
 refine S.val hA (R.move rfl) rfl ?_; clear hA a; intro a hA
 refine S.valg (dj := 12) hA (by kernel_rfl) rfl (R.move rfl) rfl ?_; clear hA a; intro a hA
 refine S.valg (dj := 12) hA (by kernel_rfl) rfl (R.move rfl) rfl ?_; clear hA a; intro a hA
 refine S.valg (dj := 12) hA (by kernel_rfl) rfl (R.lenStr Tryd.underlying9 rfl rfl) rfl ?_; clear hA a; intro a hA
 refine S.valg (dj := 12) hA (by kernel_rfl) rfl (R.ff (R.gtr rfl rfl) (by omega)) rfl ?_; clear hA a; intro a hA
 refine S.val hA (R.pickF rfl rfl) rfl ?_; clear hA a; intro a hA
 refine S.done ?_
 replace hA : St 58 [(0, _), (1, _), (4, _), (17, _)] a := hA.sub ((.cons rfl (.cons rfl (.cons rfl (.cons rfl .nil)))))
 refine Ends.condF hA rfl ?_
 refine Ends.skip (Ends.seq (Ends.region ?_))
 refine S.val hA (R.move rfl) rfl ?_; clear hA a; intro a hA
 refine S.val hA (R.move rfl) rfl ?_; clear hA a; intro a hA
 refine S.val hA (R.to (v := .string ((s.extract x s.size))) (R.sliceSL Tryd.underlying9 rfl rfl (by omega)) (by first | rfl | (congr 2; done) | (congr 2 <;> omega))) rfl ?_; clear hA a; intro a hA
 refine S.val hA (R.assign rfl) rfl ?_; clear hA a; intro a hA
 refine S.done ?_
 replace hA : St 58 [(1, _), (4, _), (7, _)] a := hA.sub ((.cons rfl (.cons rfl (.cons rfl .nil))))
 refine Ends.seq (Ends.region ?_)
 refine S.val hA (R.move rfl) rfl ?_; clear hA a; intro a hA
 refine S.val hA (R.move rfl) rfl ?_; clear hA a; intro a hA
 refine S.call hA (R.callF Tryd.func43 rfl rfl rfl) rfl (run_at s x _) ?_; clear hA a
 rintro e w1 ⟨rfl, hb⟩
 replace hM := hM.callB hb; clear hb
 refine ⟨.int .i64 ((dgs s x : Int)), rfl, fun a hA => ?_⟩
 obtain ⟨d, hd, hdsz, hdb⟩ : ∃ d, (s.extract x s.size).extract 0 (dgs s x) = d ∧ d.size = k ∧ ∀ j, j < k → byt d j = byt s (x + j) := by
  have hle := dgs_le s hx
  rw [hk] at hle ⊢
  have h1 : (s.extract x s.size).size = s.size - x := size_ext (Nat.le_refl _)
  refine ⟨_, rfl, by rw [size_ext (by omega)]; omega, fun j hj => ?_⟩
  rw [byt_ext (by omega) (by omega), Nat.zero_add, byt_ext (by omega) (Nat.le_refl _)]
 have hdg : ∀ j, j < k → dig s (x + j) := fun j hj => (dgs_spec s x).1 j (by omega)
 have hdd : ∀ j, j < k → dig d j := fun j hj => ⟨by omega, by rw [hdb j hj]; exact (hdg j hj).2⟩
 have hle := dgs_le s hx
 rw [hk] at hle
 have h1 : (s.extract x s.size).size = s.size - x := size_ext (Nat.le_refl _)
 refine S.val hA (R.to (v := .string d) (R.sliceSH Tryd.underlying9 rfl rfl (by rw [hk]; omega)) (congrArg Value.string hd)) rfl ?_; clear hA a; intro a hA
 refine S.val hA (R.assign rfl) rfl ?_; clear hA a; intro a hA
 refine S.done ?_
 replace hA : St 58 [(1, _), (4, _), (7, _)] a := hA.sub ((.cons rfl (.cons rfl (.cons rfl .nil))))
 refine Ends.seq (Ends.block (Ends.seq (Ends.region ?_)))
 refine S.val hA (R.move rfl) rfl ?_; clear hA a; intro a hA
 refine S.val hA (R.ff (R.eqlStr rfl rfl) (fun h => by rw [h] at hdsz; have h0 : (0 : Nat) = k := hdsz; omega)) rfl ?_; clear hA a; intro a hA
 refine S.val hA (R.move rfl) rfl ?_; clear hA a; intro a hA
 refine S.valg (dj := 28) hA (by kernel_rfl) rfl (R.move rfl) rfl ?_; clear hA a; intro a hA
 refine S.valg (dj := 28) hA (by kernel_rfl) rfl (R.lenStr Tryd.underlying9 rfl rfl) rfl ?_; clear hA a; intro a hA
 refine S.valg (dj := 28) hA (by kernel_rfl) rfl (R.tt (R.gtr rfl rfl) (by omega)) rfl ?_; clear hA a; intro a hA
 refine S.valg (dj := 28) hA (by kernel_rfl) rfl (R.move rfl) rfl ?_; clear hA a; intro a hA
 refine S.valg (dj := 32) hA (by kernel_rfl) rfl (R.move rfl) rfl ?_; clear hA a; intro a hA
 refine S.valg (dj := 32) hA (by kernel_rfl) rfl (R.to (v := .int .u8 (byt d 0)) (R.idxS Tryd.underlying9 rfl rfl (by omega)) (by first | rfl | (congr 2; done) | (congr 2; omega))) rfl ?_; clear hA a; intro a hA
 refine S.valg (dj := 32) hA (by kernel_rfl) rfl (R.tt (R.eql rfl rfl) (by rw [hdb 0 (by omega)]; exact h0)) rfl ?_; clear hA a; intro a hA
 refine S.valg (dj := 28) hA (by kernel_rfl) rfl (R.pickT rfl rfl) rfl ?_; clear hA a; intro a hA
 refine S.val hA (R.pickF rfl rfl) rfl ?_; clear hA a; intro a hA
 refine S.val hA (R.assign rfl) rfl ?_; clear hA a; intro a hA
 refine S.done ?_
 replace hA : St 58 [(1, _), (4, _), (7, _), (25, _)] a := hA.sub ((.cons rfl (.cons rfl (.cons rfl (.cons rfl .nil)))))
 refine Ends.condT hA rfl ?_
 refine Ends.seq (Ends.region ?_)
 refine S.val hA (R.assign rfl) rfl ?_; clear hA a; intro a hA
 refine S.val hA (R.assign rfl) rfl ?_; clear hA a; intro a hA
 refine S.val hA (R.assign rfl) rfl ?_; clear hA a; intro a hA
 refine S.done ?_
 refine Ends.ret3 Tryd.func38 Tryd.results38 hA rfl rfl rfl ?_
 exact ⟨rfl, hM.nilL.below⟩
set_option maxRecDepth 100000 in
set_option maxHeartbeats 400000 in
theorem read_big (s : ByteArray) (x k : Nat) (hx : x ≤ s.size) (hk : dgs s x = k) (hsz : s.size ≤ 9223372036854775807) (h : 18 < k) (h0 : byt s x ≠ 48) (w : World) :
  Calls Tryd.prog 38 #[.string s, .int .i64 ((x : Int))] w fun e w' => e = .returned (.tuple #[.int .i64 (0), .int .i64 (0), .int .i64 (5)]) ∧ Below w.heap.size w w' := by
 have hM := Mem.start w
 refine Calls.of_ends (vs := [.string s, .int .i64 ((x : Int))]) Tryd.func38 rfl Tryd.ntmps38 rfl ?_
 intro a hA
 replace hA : St 58 [(0, _), (1, _)] a := hA
 refine Ends.seq (Ends.region ?_)
 refine S.val hA (R.assign rfl) rfl ?_; clear hA a; intro a hA
 refine S.val hA (R.assign rfl) rfl ?_; clear hA a; intro a hA
 refine S.val hA (R.assign rfl) rfl ?_; clear hA a; intro a hA
 refine S.done ?_
 refine Ends.seq (Ends.seq (Ends.region ?_))
 refine S.val hA (R.move rfl) rfl ?_; clear hA a; intro a hA
 refine S.val hA (R.ff (R.lss rfl rfl) (by omega)) rfl ?_; clear hA a; intro a hA
 refine S.val hA (R.move rfl) rfl ?_; clear hA a; intro a hA
 refine S.valg (dj := 12) hA (by kernel_rfl) rfl (R.move rfl) rfl ?_; clear hA a; intro a hA
 refine S.valg (dj := 12) hA (by kernel_rfl) rfl (R.move rfl) rfl ?_; clear hA a; intro a hA
 refine S.valg (dj := 12) hA (by kernel_rfl) rfl (R.lenStr Tryd.underlying9 rfl rfl) rfl ?_; clear hA a; intro a hA
 refine S.valg (dj := 12) hA (by kernel_rfl) rfl (R.ff (R.gtr rfl rfl) (by omega)) rfl ?_; clear hA a; intro a hA
 refine S.val hA (R.pickF rfl rfl) rfl ?_; clear hA a; intro a hA
 refine S.done ?_
 replace hA : St 58 [(0, _), (1, _), (4, _), (17, _)] a := hA.sub ((.cons rfl (.cons rfl (.cons rfl (.cons rfl .nil)))))
 refine Ends.condF hA rfl ?_
 refine Ends.skip (Ends.seq (Ends.region ?_))
 refine S.val hA (R.move rfl) rfl ?_; clear hA a; intro a hA
 refine S.val hA (R.move rfl) rfl ?_; clear hA a; intro a hA
 refine S.val hA (R.to (v := .string ((s.extract x s.size))) (R.sliceSL Tryd.underlying9 rfl rfl (by omega)) (by first | rfl | (congr 2; done) | (congr 2 <;> omega))) rfl ?_; clear hA a; intro a hA
 refine S.val hA (R.assign rfl) rfl ?_; clear hA a; intro a hA
 refine S.done ?_
 replace hA : St 58 [(1, _), (4, _), (7, _)] a := hA.sub ((.cons rfl (.cons rfl (.cons rfl .nil))))
 refine Ends.seq (Ends.region ?_)
 refine S.val hA (R.move rfl) rfl ?_; clear hA a; intro a hA
 refine S.val hA (R.move rfl) rfl ?_; clear hA a; intro a hA
 refine S.call hA (R.callF Tryd.func43 rfl rfl rfl) rfl (run_at s x _) ?_; clear hA a
 rintro e w1 ⟨rfl, hb⟩
 replace hM := hM.callB hb; clear hb
 refine ⟨.int .i64 ((dgs s x : Int)), rfl, fun a hA => ?_⟩
 obtain ⟨d, hd, hdsz, hdb⟩ : ∃ d, (s.extract x s.size).extract 0 (dgs s x) = d ∧ d.size = k ∧ ∀ j, j < k → byt d j = byt s (x + j) := by
  have hle := dgs_le s hx
  rw [hk] at hle ⊢
  have h1 : (s.extract x s.size).size = s.size - x := size_ext (Nat.le_refl _)
  refine ⟨_, rfl, by rw [size_ext (by omega)]; omega, fun j hj => ?_⟩
  rw [byt_ext (by omega) (by omega), Nat.zero_add, byt_ext (by omega) (Nat.le_refl _)]
 have hdg : ∀ j, j < k → dig s (x + j) := fun j hj => (dgs_spec s x).1 j (by omega)
 have hdd : ∀ j, j < k → dig d j := fun j hj => ⟨by omega, by rw [hdb j hj]; exact (hdg j hj).2⟩
 have hle := dgs_le s hx
 rw [hk] at hle
 have h1 : (s.extract x s.size).size = s.size - x := size_ext (Nat.le_refl _)
 refine S.val hA (R.to (v := .string d) (R.sliceSH Tryd.underlying9 rfl rfl (by rw [hk]; omega)) (congrArg Value.string hd)) rfl ?_; clear hA a; intro a hA
 refine S.val hA (R.assign rfl) rfl ?_; clear hA a; intro a hA
 refine S.done ?_
 replace hA : St 58 [(1, _), (4, _), (7, _)] a := hA.sub ((.cons rfl (.cons rfl (.cons rfl .nil))))
 refine Ends.seq (Ends.block (Ends.seq (Ends.region ?_)))
 refine S.val hA (R.move rfl) rfl ?_; clear hA a; intro a hA
 refine S.val hA (R.ff (R.eqlStr rfl rfl) (fun h => by rw [h] at hdsz; have h0 : (0 : Nat) = k := hdsz; omega)) rfl ?_; clear hA a; intro a hA
 refine S.val hA (R.move rfl) rfl ?_; clear hA a; intro a hA
 refine S.valg (dj := 28) hA (by kernel_rfl) rfl (R.move rfl) rfl ?_; clear hA a; intro a hA
 refine S.valg (dj := 28) hA (by kernel_rfl) rfl (R.lenStr Tryd.underlying9 rfl rfl) rfl ?_; clear hA a; intro a hA
 refine S.valg (dj := 28) hA (by kernel_rfl) rfl (R.tt (R.gtr rfl rfl) (by omega)) rfl ?_; clear hA a; intro a hA
 refine S.valg (dj := 28) hA (by kernel_rfl) rfl (R.move rfl) rfl ?_; clear hA a; intro a hA
 refine S.valg (dj := 32) hA (by kernel_rfl) rfl (R.move rfl) rfl ?_; clear hA a; intro a hA
 refine S.valg (dj := 32) hA (by kernel_rfl) rfl (R.to (v := .int .u8 (byt d 0)) (R.idxS Tryd.underlying9 rfl rfl (by omega)) (by first | rfl | (congr 2; done) | (congr 2; omega))) rfl ?_; clear hA a; intro a hA
 refine S.valg (dj := 32) hA (by kernel_rfl) rfl (R.ff (R.eql rfl rfl) (by rw [hdb 0 (by omega)]; exact h0)) rfl ?_; clear hA a; intro a hA
 refine S.valg (dj := 28) hA (by kernel_rfl) rfl (R.pickT rfl rfl) rfl ?_; clear hA a; intro a hA
 refine S.val hA (R.pickF rfl rfl) rfl ?_; clear hA a; intro a hA
 refine S.val hA (R.assign rfl) rfl ?_; clear hA a; intro a hA
 refine S.done ?_
 replace hA : St 58 [(1, _), (4, _), (7, _), (25, _)] a := hA.sub ((.cons rfl (.cons rfl (.cons rfl (.cons rfl .nil)))))
 refine Ends.condF hA rfl ?_
 refine Ends.seq (Ends.region ?_)
 refine S.val hA (R.move rfl) rfl ?_; clear hA a; intro a hA
 refine S.val hA (R.lenStr Tryd.underlying9 rfl rfl) rfl ?_; clear hA a; intro a hA
 refine S.val hA (R.tt (R.gtr rfl rfl) (by omega)) rfl ?_; clear hA a; intro a hA
 refine S.val hA (R.assign rfl) rfl ?_; clear hA a; intro a hA
 refine S.done ?_
 replace hA : St 58 [(1, _), (4, _), (7, _), (38, _)] a := hA.sub ((.cons rfl (.cons rfl (.cons rfl (.cons rfl .nil)))))
 refine Ends.condT hA rfl ?_
 refine Ends.seq (Ends.region ?_)
 refine S.val hA (R.assign rfl) rfl ?_; clear hA a; intro a hA
 refine S.val hA (R.assign rfl) rfl ?_; clear hA a; intro a hA
 refine S.val hA (R.assign rfl) rfl ?_; clear hA a; intro a hA
 refine S.done ?_
 refine Ends.ret3 Tryd.func38 Tryd.results38 hA rfl rfl rfl ?_
 exact ⟨rfl, hM.nilL.below⟩
set_option maxRecDepth 100000 in
set_option maxHeartbeats 400000 in
theorem read_num1 (s : ByteArray) (x k : Nat) (hx : x ≤ s.size) (hk : dgs s x = k) (hsz : s.size ≤ 9223372036854775807) (h : k = 1) (w : World) :
  Calls Tryd.prog 38 #[.string s, .int .i64 ((x : Int))] w fun e w' => e = .returned (.tuple #[.int .i64 (numv s x k), .int .i64 (x + k), .int .i64 (0)]) ∧ Below w.heap.size w w' := by
 have hM := Mem.start w
 refine Calls.of_ends (vs := [.string s, .int .i64 ((x : Int))]) Tryd.func38 rfl Tryd.ntmps38 rfl ?_
 intro a hA
 replace hA : St 58 [(0, _), (1, _)] a := hA
 refine Ends.seq (Ends.region ?_)
 refine S.val hA (R.assign rfl) rfl ?_; clear hA a; intro a hA
 refine S.val hA (R.assign rfl) rfl ?_; clear hA a; intro a hA
 refine S.val hA (R.assign rfl) rfl ?_; clear hA a; intro a hA
 refine S.done ?_
 refine Ends.seq (Ends.seq (Ends.region ?_))
 refine S.val hA (R.move rfl) rfl ?_; clear hA a; intro a hA
 refine S.val hA (R.ff (R.lss rfl rfl) (by omega)) rfl ?_; clear hA a; intro a hA
 refine S.val hA (R.move rfl) rfl ?_; clear hA a; intro a hA
 refine S.valg (dj := 12) hA (by kernel_rfl) rfl (R.move rfl) rfl ?_; clear hA a; intro a hA
 refine S.valg (dj := 12) hA (by kernel_rfl) rfl (R.move rfl) rfl ?_; clear hA a; intro a hA
 refine S.valg (dj := 12) hA (by kernel_rfl) rfl (R.lenStr Tryd.underlying9 rfl rfl) rfl ?_; clear hA a; intro a hA
 refine S.valg (dj := 12) hA (by kernel_rfl) rfl (R.ff (R.gtr rfl rfl) (by omega)) rfl ?_; clear hA a; intro a hA
 refine S.val hA (R.pickF rfl rfl) rfl ?_; clear hA a; intro a hA
 refine S.done ?_
 replace hA : St 58 [(0, _), (1, _), (4, _), (17, _)] a := hA.sub ((.cons rfl (.cons rfl (.cons rfl (.cons rfl .nil)))))
 refine Ends.condF hA rfl ?_
 refine Ends.skip (Ends.seq (Ends.region ?_))
 refine S.val hA (R.move rfl) rfl ?_; clear hA a; intro a hA
 refine S.val hA (R.move rfl) rfl ?_; clear hA a; intro a hA
 refine S.val hA (R.to (v := .string ((s.extract x s.size))) (R.sliceSL Tryd.underlying9 rfl rfl (by omega)) (by first | rfl | (congr 2; done) | (congr 2 <;> omega))) rfl ?_; clear hA a; intro a hA
 refine S.val hA (R.assign rfl) rfl ?_; clear hA a; intro a hA
 refine S.done ?_
 replace hA : St 58 [(1, _), (4, _), (7, _)] a := hA.sub ((.cons rfl (.cons rfl (.cons rfl .nil))))
 refine Ends.seq (Ends.region ?_)
 refine S.val hA (R.move rfl) rfl ?_; clear hA a; intro a hA
 refine S.val hA (R.move rfl) rfl ?_; clear hA a; intro a hA
 refine S.call hA (R.callF Tryd.func43 rfl rfl rfl) rfl (run_at s x _) ?_; clear hA a
 rintro e w1 ⟨rfl, hb⟩
 replace hM := hM.callB hb; clear hb
 refine ⟨.int .i64 ((dgs s x : Int)), rfl, fun a hA => ?_⟩
 obtain ⟨d, hd, hdsz, hdb⟩ : ∃ d, (s.extract x s.size).extract 0 (dgs s x) = d ∧ d.size = k ∧ ∀ j, j < k → byt d j = byt s (x + j) := by
  have hle := dgs_le s hx
  rw [hk] at hle ⊢
  have h1 : (s.extract x s.size).size = s.size - x := size_ext (Nat.le_refl _)
  refine ⟨_, rfl, by rw [size_ext (by omega)]; omega, fun j hj => ?_⟩
  rw [byt_ext (by omega) (by omega), Nat.zero_add, byt_ext (by omega) (Nat.le_refl _)]
 have hdg : ∀ j, j < k → dig s (x + j) := fun j hj => (dgs_spec s x).1 j (by omega)
 have hdd : ∀ j, j < k → dig d j := fun j hj => ⟨by omega, by rw [hdb j hj]; exact (hdg j hj).2⟩
 have hle := dgs_le s hx
 rw [hk] at hle
 have h1 : (s.extract x s.size).size = s.size - x := size_ext (Nat.le_refl _)
 refine S.val hA (R.to (v := .string d) (R.sliceSH Tryd.underlying9 rfl rfl (by rw [hk]; omega)) (congrArg Value.string hd)) rfl ?_; clear hA a; intro a hA
 refine S.val hA (R.assign rfl) rfl ?_; clear hA a; intro a hA
 refine S.done ?_
 replace hA : St 58 [(1, _), (4, _), (7, _)] a := hA.sub ((.cons rfl (.cons rfl (.cons rfl .nil))))
 refine Ends.seq (Ends.block (Ends.seq (Ends.region ?_)))
 refine S.val hA (R.move rfl) rfl ?_; clear hA a; intro a hA
 refine S.val hA (R.ff (R.eqlStr rfl rfl) (fun h => by rw [h] at hdsz; have h0 : (0 : Nat) = k := hdsz; omega)) rfl ?_; clear hA a; intro a hA
 refine S.val hA (R.move rfl) rfl ?_; clear hA a; intro a hA
 refine S.valg (dj := 28) hA (by kernel_rfl) rfl (R.move rfl) rfl ?_; clear hA a; intro a hA
 refine S.valg (dj := 28) hA (by kernel_rfl) rfl (R.lenStr Tryd.underlying9 rfl rfl) rfl ?_; clear hA a; intro a hA
 refine S.valg (dj := 28) hA (by kernel_rfl) rfl (R.ff (R.gtr rfl rfl) (by omega)) rfl ?_; clear hA a; intro a hA
 refine S.valg (dj := 28) hA (by kernel_rfl) rfl (R.move rfl) rfl ?_; clear hA a; intro a hA
 refine S.no (dj := 32) hA (by kernel_rfl) rfl rfl rfl ?_; clear hA a; intro a hA
 refine S.no (dj := 32) hA (by kernel_rfl) rfl rfl rfl ?_; clear hA a; intro a hA
 refine S.no (dj := 32) hA (by kernel_rfl) rfl rfl rfl ?_; clear hA a; intro a hA
 refine S.valg (dj := 28) hA (by kernel_rfl) rfl (R.pickF rfl rfl) rfl ?_; clear hA a; intro a hA
 refine S.val hA (R.pickF rfl rfl) rfl ?_; clear hA a; intro a hA
 refine S.val hA (R.assign rfl) rfl ?_; clear hA a; intro a hA
 refine S.done ?_
 replace hA : St 58 [(1, _), (4, _), (7, _), (25, _)] a := hA.sub ((.cons rfl (.cons rfl (.cons rfl (.cons rfl .nil)))))
 refine Ends.condF hA rfl ?_
 refine Ends.seq (Ends.region ?_)
 refine S.val hA (R.move rfl) rfl ?_; clear hA a; intro a hA
 refine S.val hA (R.lenStr Tryd.underlying9 rfl rfl) rfl ?_; clear hA a; intro a hA
 refine S.val hA (R.ff (R.gtr rfl rfl) (by omega)) rfl ?_; clear hA a; intro a hA
 refine S.val hA (R.assign rfl) rfl ?_; clear hA a; intro a hA
 refine S.done ?_
 replace hA : St 58 [(1, _), (4, _), (7, _), (38, _)] a := hA.sub ((.cons rfl (.cons rfl (.cons rfl (.cons rfl .nil)))))
 refine Ends.condF hA rfl ?_
 refine Ends.skip (Ends.inBlock (Ends.seq (Ends.seq (Ends.region ?_))))
 refine S.val hA (R.move rfl) rfl ?_; clear hA a; intro a hA
 refine S.rangeS hA hM Tryd.underlying9 rfl rfl ?_; clear hA hM a; intro b1 w2 hb2 hM a hA
 replace hM : Mem _ _ [itC b1 d 0] _ := hM
 refine S.done ?_
 refine Ends.block ?_
 refine Ends.loop (σ := Nat) (fun j (a : Act) (wv : World) => St 58 [(1, .int .i64 ((x : Int))), (4, .int .i64 (numv s x j)), (7, .string d), (43, .pointer (some ⟨b1, 0, none⟩))] a ∧ Mem w nof [itC b1 d j] wv ∧ (j ≤ k)) (fun j => d.size - j) 0 ⟨hA.sub ((.cons rfl (.cons rfl (.cons rfl (.cons rfl .nil))))), hM, (Nat.zero_le _)⟩ ?_
 clear hA hM a
 rintro j a w3 ⟨hA, hM, hj⟩ hNext
 refine Ends.seq (Ends.region ?_)
 by_cases hp3 : j < d.size
 ·
  refine S.nextT (k := 0) hA hM rfl rfl hp3 rfl ?_; clear hA hM a; intro w4 hM a hA
  replace hM : Mem _ _ [itC b1 d ((j + (Utf8.decode d j).2))] _ := hM
  refine S.val hA (R.extract (v := .bool true) rfl rfl) rfl ?_; clear hA a; intro a hA
  refine S.done ?_
  refine Ends.seq ?_
  refine Ends.condT hA rfl ?_
  refine Ends.skip (Ends.block (Ends.seq (Ends.region ?_)))
  refine S.val hA (R.extract (v := .int .i32 (((Utf8.decode d j).1 : Int))) rfl rfl) rfl ?_; clear hA a; intro a hA
  refine S.val hA (R.assign rfl) rfl ?_; clear hA a; intro a hA
  refine S.done ?_
  have hr : ((Utf8.decode d j).1 : Int) = byt s (x + j) := by rw [((dec_dig hp3).2 (hdd j (by omega))).2]; exact hdb j (by omega)
  have hnv := numv_lt (s := s) (x := x) (k := j) (fun i hi => hdg i (by omega)) (by omega)
  have hdj := (hdg j (by omega)).2
  refine Ends.region ?_
  refine S.val hA (R.move rfl) rfl ?_; clear hA a; intro a hA
  refine S.val hA (R.mulI rfl rfl (r := (numv s x j) * 10) rfl (by omega)) rfl ?_; clear hA a; intro a hA
  refine S.val hA (R.move rfl) rfl ?_; clear hA a; intro a hA
  refine S.val hA (R.to (v := .int .i32 (byt s (x + j) - 48)) (R.sub rfl rfl) (congrArg (Value.int .i32) (by rw [hr]; exact i32_wrap (by omega)))) rfl ?_; clear hA a; intro a hA
  refine S.val hA (R.to (v := .int .i64 (byt s (x + j) - 48)) (R.conv Tryd.underlying3 Tryd.underlying21 rfl) (congrArg (Value.int .i64) (i64_wrap (by omega)))) rfl ?_; clear hA a; intro a hA
  refine S.val hA (R.addI rfl rfl (r := ((numv s x j) * 10) + (byt s (x + j) - 48)) rfl (by omega)) rfl ?_; clear hA a; intro a hA
  refine S.val hA (R.assign rfl) rfl ?_; clear hA a; intro a hA
  refine S.done ?_
  replace hA : St 58 [(1, _), (4, _), (7, _), (43, _)] a := hA.sub ((.cons rfl (.cons rfl (.cons rfl (.cons rfl .nil)))))
  refine Ends.inBlock ?_
  rw [((dec_dig hp3).2 (hdd j (by omega))).1] at hM
  exact hNext ((j + 1)) _ _ ((by show d.size - (j + 1) < d.size - j; omega)) ⟨hA.sub ((.cons rfl (.cons rfl (.cons rfl (.cons rfl .nil))))), hM, (by omega)⟩
 ·
  refine S.val hA (R.nextF (k := 0) hM rfl rfl hp3) rfl ?_; clear hA a; intro a hA
  refine S.val hA (R.extract (v := .bool false) rfl rfl) rfl ?_; clear hA a; intro a hA
  refine S.done ?_
  refine Ends.seq ?_
  refine Ends.condF hA rfl ?_
  refine Ends.exit rfl ?_
  refine Ends.seq (Ends.region ?_)
  refine S.val hA (R.move rfl) rfl ?_; clear hA a; intro a hA
  refine S.val hA (R.move rfl) rfl ?_; clear hA a; intro a hA
  refine S.val hA (R.move rfl) rfl ?_; clear hA a; intro a hA
  refine S.val hA (R.lenStr Tryd.underlying9 rfl rfl) rfl ?_; clear hA a; intro a hA
  refine S.val hA (R.addI rfl rfl (r := ((x : Int)) + ((d.size : Int))) rfl (by omega)) rfl ?_; clear hA a; intro a hA
  refine S.val hA (R.assign rfl) rfl ?_; clear hA a; intro a hA
  refine S.val hA (R.assign rfl) rfl ?_; clear hA a; intro a hA
  refine S.val hA (R.assign rfl) rfl ?_; clear hA a; intro a hA
  refine S.done ?_
  replace hA : St 58 [(4, _), (5, _), (6, _)] a := hA.sub ((.cons rfl (.cons rfl (.cons rfl .nil))))
  refine Ends.ret3 Tryd.func38 Tryd.results38 hA rfl rfl rfl ?_
  have hje : j = k := by omega
  rw [hdsz, hje]
  exact ⟨rfl, hM.nilL.below⟩
set_option maxRecDepth 100000 in
set_option maxHeartbeats 400000 in
theorem read_num (s : ByteArray) (x k : Nat) (hx : x ≤ s.size) (hk : dgs s x = k) (hsz : s.size ≤ 9223372036854775807) (h : 1 < k ∧ k ≤ 18) (h0 : byt s x ≠ 48) (w : World) :
  Calls Tryd.prog 38 #[.string s, .int .i64 ((x : Int))] w fun e w' => e = .returned (.tuple #[.int .i64 (numv s x k), .int .i64 (x + k), .int .i64 (0)]) ∧ Below w.heap.size w w' := by
 have hM := Mem.start w
 refine Calls.of_ends (vs := [.string s, .int .i64 ((x : Int))]) Tryd.func38 rfl Tryd.ntmps38 rfl ?_
 intro a hA
 replace hA : St 58 [(0, _), (1, _)] a := hA
 refine Ends.seq (Ends.region ?_)
 refine S.val hA (R.assign rfl) rfl ?_; clear hA a; intro a hA
 refine S.val hA (R.assign rfl) rfl ?_; clear hA a; intro a hA
 refine S.val hA (R.assign rfl) rfl ?_; clear hA a; intro a hA
 refine S.done ?_
 refine Ends.seq (Ends.seq (Ends.region ?_))
 refine S.val hA (R.move rfl) rfl ?_; clear hA a; intro a hA
 refine S.val hA (R.ff (R.lss rfl rfl) (by omega)) rfl ?_; clear hA a; intro a hA
 refine S.val hA (R.move rfl) rfl ?_; clear hA a; intro a hA
 refine S.valg (dj := 12) hA (by kernel_rfl) rfl (R.move rfl) rfl ?_; clear hA a; intro a hA
 refine S.valg (dj := 12) hA (by kernel_rfl) rfl (R.move rfl) rfl ?_; clear hA a; intro a hA
 refine S.valg (dj := 12) hA (by kernel_rfl) rfl (R.lenStr Tryd.underlying9 rfl rfl) rfl ?_; clear hA a; intro a hA
 refine S.valg (dj := 12) hA (by kernel_rfl) rfl (R.ff (R.gtr rfl rfl) (by omega)) rfl ?_; clear hA a; intro a hA
 refine S.val hA (R.pickF rfl rfl) rfl ?_; clear hA a; intro a hA
 refine S.done ?_
 replace hA : St 58 [(0, _), (1, _), (4, _), (17, _)] a := hA.sub ((.cons rfl (.cons rfl (.cons rfl (.cons rfl .nil)))))
 refine Ends.condF hA rfl ?_
 refine Ends.skip (Ends.seq (Ends.region ?_))
 refine S.val hA (R.move rfl) rfl ?_; clear hA a; intro a hA
 refine S.val hA (R.move rfl) rfl ?_; clear hA a; intro a hA
 refine S.val hA (R.to (v := .string ((s.extract x s.size))) (R.sliceSL Tryd.underlying9 rfl rfl (by omega)) (by first | rfl | (congr 2; done) | (congr 2 <;> omega))) rfl ?_; clear hA a; intro a hA
 refine S.val hA (R.assign rfl) rfl ?_; clear hA a; intro a hA
 refine S.done ?_
 replace hA : St 58 [(1, _), (4, _), (7, _)] a := hA.sub ((.cons rfl (.cons rfl (.cons rfl .nil))))
 refine Ends.seq (Ends.region ?_)
 refine S.val hA (R.move rfl) rfl ?_; clear hA a; intro a hA
 refine S.val hA (R.move rfl) rfl ?_; clear hA a; intro a hA
 refine S.call hA (R.callF Tryd.func43 rfl rfl rfl) rfl (run_at s x _) ?_; clear hA a
 rintro e w1 ⟨rfl, hb⟩
 replace hM := hM.callB hb; clear hb
 refine ⟨.int .i64 ((dgs s x : Int)), rfl, fun a hA => ?_⟩
 obtain ⟨d, hd, hdsz, hdb⟩ : ∃ d, (s.extract x s.size).extract 0 (dgs s x) = d ∧ d.size = k ∧ ∀ j, j < k → byt d j = byt s (x + j) := by
  have hle := dgs_le s hx
  rw [hk] at hle ⊢
  have h1 : (s.extract x s.size).size = s.size - x := size_ext (Nat.le_refl _)
  refine ⟨_, rfl, by rw [size_ext (by omega)]; omega, fun j hj => ?_⟩
  rw [byt_ext (by omega) (by omega), Nat.zero_add, byt_ext (by omega) (Nat.le_refl _)]
 have hdg : ∀ j, j < k → dig s (x + j) := fun j hj => (dgs_spec s x).1 j (by omega)
 have hdd : ∀ j, j < k → dig d j := fun j hj => ⟨by omega, by rw [hdb j hj]; exact (hdg j hj).2⟩
 have hle := dgs_le s hx
 rw [hk] at hle
 have h1 : (s.extract x s.size).size = s.size - x := size_ext (Nat.le_refl _)
 refine S.val hA (R.to (v := .string d) (R.sliceSH Tryd.underlying9 rfl rfl (by rw [hk]; omega)) (congrArg Value.string hd)) rfl ?_; clear hA a; intro a hA
 refine S.val hA (R.assign rfl) rfl ?_; clear hA a; intro a hA
 refine S.done ?_
 replace hA : St 58 [(1, _), (4, _), (7, _)] a := hA.sub ((.cons rfl (.cons rfl (.cons rfl .nil))))
 refine Ends.seq (Ends.block (Ends.seq (Ends.region ?_)))
 refine S.val hA (R.move rfl) rfl ?_; clear hA a; intro a hA
 refine S.val hA (R.ff (R.eqlStr rfl rfl) (fun h => by rw [h] at hdsz; have h0 : (0 : Nat) = k := hdsz; omega)) rfl ?_; clear hA a; intro a hA
 refine S.val hA (R.move rfl) rfl ?_; clear hA a; intro a hA
 refine S.valg (dj := 28) hA (by kernel_rfl) rfl (R.move rfl) rfl ?_; clear hA a; intro a hA
 refine S.valg (dj := 28) hA (by kernel_rfl) rfl (R.lenStr Tryd.underlying9 rfl rfl) rfl ?_; clear hA a; intro a hA
 refine S.valg (dj := 28) hA (by kernel_rfl) rfl (R.tt (R.gtr rfl rfl) (by omega)) rfl ?_; clear hA a; intro a hA
 refine S.valg (dj := 28) hA (by kernel_rfl) rfl (R.move rfl) rfl ?_; clear hA a; intro a hA
 refine S.valg (dj := 32) hA (by kernel_rfl) rfl (R.move rfl) rfl ?_; clear hA a; intro a hA
 refine S.valg (dj := 32) hA (by kernel_rfl) rfl (R.to (v := .int .u8 (byt d 0)) (R.idxS Tryd.underlying9 rfl rfl (by omega)) (by first | rfl | (congr 2; done) | (congr 2; omega))) rfl ?_; clear hA a; intro a hA
 refine S.valg (dj := 32) hA (by kernel_rfl) rfl (R.ff (R.eql rfl rfl) (by rw [hdb 0 (by omega)]; exact h0)) rfl ?_; clear hA a; intro a hA
 refine S.valg (dj := 28) hA (by kernel_rfl) rfl (R.pickT rfl rfl) rfl ?_; clear hA a; intro a hA
 refine S.val hA (R.pickF rfl rfl) rfl ?_; clear hA a; intro a hA
 refine S.val hA (R.assign rfl) rfl ?_; clear hA a; intro a hA
 refine S.done ?_
 replace hA : St 58 [(1, _), (4, _), (7, _), (25, _)] a := hA.sub ((.cons rfl (.cons rfl (.cons rfl (.cons rfl .nil)))))
 refine Ends.condF hA rfl ?_
 refine Ends.seq (Ends.region ?_)
 refine S.val hA (R.move rfl) rfl ?_; clear hA a; intro a hA
 refine S.val hA (R.lenStr Tryd.underlying9 rfl rfl) rfl ?_; clear hA a; intro a hA
 refine S.val hA (R.ff (R.gtr rfl rfl) (by omega)) rfl ?_; clear hA a; intro a hA
 refine S.val hA (R.assign rfl) rfl ?_; clear hA a; intro a hA
 refine S.done ?_
 replace hA : St 58 [(1, _), (4, _), (7, _), (38, _)] a := hA.sub ((.cons rfl (.cons rfl (.cons rfl (.cons rfl .nil)))))
 refine Ends.condF hA rfl ?_
 refine Ends.skip (Ends.inBlock (Ends.seq (Ends.seq (Ends.region ?_))))
 refine S.val hA (R.move rfl) rfl ?_; clear hA a; intro a hA
 refine S.rangeS hA hM Tryd.underlying9 rfl rfl ?_; clear hA hM a; intro b1 w2 hb2 hM a hA
 replace hM : Mem _ _ [itC b1 d 0] _ := hM
 refine S.done ?_
 refine Ends.block ?_
 refine Ends.loop (σ := Nat) (fun j (a : Act) (wv : World) => St 58 [(1, .int .i64 ((x : Int))), (4, .int .i64 (numv s x j)), (7, .string d), (43, .pointer (some ⟨b1, 0, none⟩))] a ∧ Mem w nof [itC b1 d j] wv ∧ (j ≤ k)) (fun j => d.size - j) 0 ⟨hA.sub ((.cons rfl (.cons rfl (.cons rfl (.cons rfl .nil))))), hM, (Nat.zero_le _)⟩ ?_
 clear hA hM a
 rintro j a w3 ⟨hA, hM, hj⟩ hNext
 refine Ends.seq (Ends.region ?_)
 by_cases hp3 : j < d.size
 ·
  refine S.nextT (k := 0) hA hM rfl rfl hp3 rfl ?_; clear hA hM a; intro w4 hM a hA
  replace hM : Mem _ _ [itC b1 d ((j + (Utf8.decode d j).2))] _ := hM
  refine S.val hA (R.extract (v := .bool true) rfl rfl) rfl ?_; clear hA a; intro a hA
  refine S.done ?_
  refine Ends.seq ?_
  refine Ends.condT hA rfl ?_
  refine Ends.skip (Ends.block (Ends.seq (Ends.region ?_)))
  refine S.val hA (R.extract (v := .int .i32 (((Utf8.decode d j).1 : Int))) rfl rfl) rfl ?_; clear hA a; intro a hA
  refine S.val hA (R.assign rfl) rfl ?_; clear hA a; intro a hA
  refine S.done ?_
  have hr : ((Utf8.decode d j).1 : Int) = byt s (x + j) := by rw [((dec_dig hp3).2 (hdd j (by omega))).2]; exact hdb j (by omega)
  have hnv := numv_lt (s := s) (x := x) (k := j) (fun i hi => hdg i (by omega)) (by omega)
  have hdj := (hdg j (by omega)).2
  refine Ends.region ?_
  refine S.val hA (R.move rfl) rfl ?_; clear hA a; intro a hA
  refine S.val hA (R.mulI rfl rfl (r := (numv s x j) * 10) rfl (by omega)) rfl ?_; clear hA a; intro a hA
  refine S.val hA (R.move rfl) rfl ?_; clear hA a; intro a hA
  refine S.val hA (R.to (v := .int .i32 (byt s (x + j) - 48)) (R.sub rfl rfl) (congrArg (Value.int .i32) (by rw [hr]; exact i32_wrap (by omega)))) rfl ?_; clear hA a; intro a hA
  refine S.val hA (R.to (v := .int .i64 (byt s (x + j) - 48)) (R.conv Tryd.underlying3 Tryd.underlying21 rfl) (congrArg (Value.int .i64) (i64_wrap (by omega)))) rfl ?_; clear hA a; intro a hA
  refine S.val hA (R.addI rfl rfl (r := ((numv s x j) * 10) + (byt s (x + j) - 48)) rfl (by omega)) rfl ?_; clear hA a; intro a hA
  refine S.val hA (R.assign rfl) rfl ?_; clear hA a; intro a hA
  refine S.done ?_
  replace hA : St 58 [(1, _), (4, _), (7, _), (43, _)] a := hA.sub ((.cons rfl (.cons rfl (.cons rfl (.cons rfl .nil)))))
  refine Ends.inBlock ?_
  rw [((dec_dig hp3).2 (hdd j (by omega))).1] at hM
  exact hNext ((j + 1)) _ _ ((by show d.size - (j + 1) < d.size - j; omega)) ⟨hA.sub ((.cons rfl (.cons rfl (.cons rfl (.cons rfl .nil))))), hM, (by omega)⟩
 ·
  refine S.val hA (R.nextF (k := 0) hM rfl rfl hp3) rfl ?_; clear hA a; intro a hA
  refine S.val hA (R.extract (v := .bool false) rfl rfl) rfl ?_; clear hA a; intro a hA
  refine S.done ?_
  refine Ends.seq ?_
  refine Ends.condF hA rfl ?_
  refine Ends.exit rfl ?_
  refine Ends.seq (Ends.region ?_)
  refine S.val hA (R.move rfl) rfl ?_; clear hA a; intro a hA
  refine S.val hA (R.move rfl) rfl ?_; clear hA a; intro a hA
  refine S.val hA (R.move rfl) rfl ?_; clear hA a; intro a hA
  refine S.val hA (R.lenStr Tryd.underlying9 rfl rfl) rfl ?_; clear hA a; intro a hA
  refine S.val hA (R.addI rfl rfl (r := ((x : Int)) + ((d.size : Int))) rfl (by omega)) rfl ?_; clear hA a; intro a hA
  refine S.val hA (R.assign rfl) rfl ?_; clear hA a; intro a hA
  refine S.val hA (R.assign rfl) rfl ?_; clear hA a; intro a hA
  refine S.val hA (R.assign rfl) rfl ?_; clear hA a; intro a hA
  refine S.done ?_
  replace hA : St 58 [(4, _), (5, _), (6, _)] a := hA.sub ((.cons rfl (.cons rfl (.cons rfl .nil))))
  refine Ends.ret3 Tryd.func38 Tryd.results38 hA rfl rfl rfl ?_
  have hje : j = k := by omega
  rw [hdsz, hje]
  exact ⟨rfl, hM.nilL.below⟩
theorem read_any (s : ByteArray) (p : Int) (hsz : s.size ≤ 9223372036854775807) (w : World) : Calls Tryd.prog 38 #[.string s, .int .i64 p] w fun e w' => e = .returned (.tuple #[.int .i64 (readI s p).1, .int .i64 (readI s p).2.1, .int .i64 (readI s p).2.2]) ∧ Below w.heap.size w w' := by
  by_cases h : p < 0 ∨ (s.size : Int) < p
  · have e : readI s p = (0, 0, 1) := by unfold readI; rw [if_pos h]
    rw [e]; exact read_out s p h w
  · obtain ⟨x, rfl⟩ : ∃ x : Nat, p = x := ⟨p.toNat, by omega⟩
    have hx : x ≤ s.size := by omega
    have ex : ((x : Int)).toNat = x := rfl
    obtain ⟨k, hk⟩ : ∃ k, dgs s x = k := ⟨_, rfl⟩
    by_cases h1 : k = 0
    · have e : readI s x = (0, 0, 4) := by unfold readI; rw [if_neg h, ex, hk, if_pos (.inl h1)]
      rw [e]; exact read_none s x k hx hk hsz h1 w
    · by_cases h2 : 1 < k
      · by_cases h3 : byt s x = 48
        · have e : readI s x = (0, 0, 4) := by unfold readI; rw [if_neg h, ex, hk, if_pos (.inr ⟨h2, h3⟩)]
          rw [e]; exact read_nul s x k hx hk hsz h2 h3 w
        · have hn : ¬ (k = 0 ∨ 1 < k ∧ byt s x = 48) := fun hh => hh.elim h1 (fun g => h3 g.2)
          by_cases h4 : 18 < k
          · have e : readI s x = (0, 0, 5) := by unfold readI; rw [if_neg h, ex, hk, if_neg hn, if_pos h4]
            rw [e]; exact read_big s x k hx hk hsz h4 h3 w
          · have e : readI s x = (numv s x k, (x : Int) + (k : Int), 0) := by unfold readI; rw [if_neg h, ex, hk, if_neg hn, if_neg h4]
            rw [e]; exact read_num s x k hx hk hsz ⟨h2, by omega⟩ h3 w
      · have hn : ¬ (k = 0 ∨ 1 < k ∧ byt s x = 48) := fun hh => hh.elim h1 (fun g => h2 g.1)
        have e : readI s x = (numv s x k, (x : Int) + (k : Int), 0) := by unfold readI; rw [if_neg h, ex, hk, if_neg hn, if_neg (by omega)]
        rw [e]; exact read_num1 s x k hx hk hsz (by omega) w
theorem below_gr (w : World) (k : Nat) (os : Array Obj) : Below w.heap.size w (Sort.grow (w.drewN k) os) :=
  ⟨rfl, rfl, rfl, by simp [Sort.grow], fun b hb => by show (w.heap ++ os)[b]? = w.heap[b]?; rw [Array.getElem?_append_left hb]⟩
theorem itoa_any (n : Int) (h : -9223372036854775808 ≤ n ∧ n ≤ 9223372036854775807) (w : World) (htab : Lib.TabIs Tryd.prog w "internal/strconv.uint64pow10" .u64 Lib.pow10Tab) : Calls Tryd.prog 28 #[.int .i64 n] w fun e w' => e = .returned (.string ⟨(Lib.itoa n).toArray⟩) ∧ Below w.heap.size w w' :=
  (Tryd.strconv_Itoa n h.1 h.2 w htab).mono fun e w' ⟨he, k, os, hw⟩ => ⟨he, hw ▸ below_gr w k os⟩
set_option maxRecDepth 100000 in
set_option maxHeartbeats 400000 in
theorem write_any (n : Int) (h : -9223372036854775808 ≤ n ∧ n ≤ 9223372036854775807) (w : World) (htab : Lib.TabIs Tryd.prog w "internal/strconv.uint64pow10" .u64 Lib.pow10Tab) :
    Calls Tryd.prog 17 #[.int .i64 n] w fun e w' => e = .returned (.string ⟨(Lib.itoa n).toArray⟩) ∧ Below w.heap.size w w' := by
  have hM := Mem.start w
  refine Calls.of_ends (vs := [.int .i64 n]) Tryd.func17 rfl Tryd.ntmps17 rfl ?_
  intro a hA
  replace hA : St 5 [(0, _)] a := hA
  refine Ends.seq (Ends.region ?_)
  refine S.val hA (R.assign rfl) rfl ?_; clear hA a; intro a hA
  refine S.done ?_
  refine Ends.seq (Ends.region ?_)
  refine S.val hA (R.move rfl) rfl ?_; clear hA a; intro a hA
  refine S.call hA (R.callF Tryd.func28 rfl rfl rfl) rfl (itoa_any n (by omega) _ (tab_below htab hM.nilL.below)) ?_; clear hA a
  rintro e w1 ⟨rfl, hb⟩
  replace hM := hM.callB hb; clear hb
  refine ⟨.string (⟨(Lib.itoa n).toArray⟩), rfl, fun a hA => ?_⟩
  refine S.val hA (R.assign rfl) rfl ?_; clear hA a; intro a hA
  refine S.done ?_
  refine Ends.ret1 Tryd.func17 Tryd.results17 hA rfl ?_
  exact ⟨rfl, hM.nilL.below⟩
end Go.Proofs.YtnhnjjlfoajbgaaDoor
namespace Go.Proofs.YtnhnjjlfoajbgaaDoor
def ScB (l : List UInt8) (T : List Tok) : Prop := ∀ r : List UInt8, Going (bs (l ++ r)) 0 [] l.length T
def okN (r : List UInt8) : Prop := kb (bs r) 0 ≠ 2 ∧ kb (bs r) 0 ≠ 3
def ScN (l : List UInt8) (T : List Tok) : Prop := ∀ r : List UInt8, okN r → Going (bs (l ++ r)) 0 [] l.length T
theorem ScB.nil : ScB [] [] := fun _ => Going.refl _ _ _
theorem kb_mid (l r : List UInt8) (j : Nat) : kb (bs (l ++ r)) (l.length + j) = kb (bs r) j := by
  rw [← bs_app, show l.length = (bs l).size from (bs_size l).symm, kb_r]
theorem byt_mid {l r : List UInt8} {j : Nat} (h : j < r.length) : byt (bs (l ++ r)) (l.length + j) = byt (bs r) j := by
  rw [← bs_app, show l.length = (bs l).size from (bs_size l).symm, byt_r (by rw [bs_size]; exact h)]
theorem byt_left {l r : List UInt8} {j : Nat} (h : j < l.length) : byt (bs (l ++ r)) j = byt (bs l) j := by
  rw [← bs_app, byt_l (by rw [bs_size]; exact h)]
theorem kb_cons (c : UInt8) (r : List UInt8) : kb (bs (c :: r)) 0 = kindI (c.toNat : Int) := by
  rw [kb_in (by rw [bs_size]; simp), show bs (c :: r) = ⟨(c :: r).toArray⟩ from rfl, byt_mk (by simp)]; rfl
def blk1 (c : UInt8) : Prop := kindI (c.toNat : Int) = 1
theorem blk1_k {c : UInt8} (h : blk1 c) : kindI (c.toNat : Int) = 1 := h
theorem okN_blk {c : UInt8} (h : blk1 c) (r : List UInt8) : okN (c :: r) := by unfold okN; rw [kb_cons, blk1_k h]; decide
theorem ScN.blank {l : List UInt8} {T : List Tok} {c : UInt8} (h : ScN l T) (hc : blk1 c) : ScB (l ++ [c]) T := fun r => by
  have h1 := h (c :: r) (okN_blk hc r)
  have e : (l ++ [c]) ++ r = l ++ (c :: r) := by simp
  rw [e, List.length_append]
  refine h1.trans (Going.blank (by rw [bs_size]; simp) ?_)
  have := kb_mid l (c :: r) 0
  rw [Nat.add_zero] at this
  rw [this, kb_cons, blk1_k hc]
theorem dd_short : ∀ (k M : Nat), M < 10 ^ k → (dd M).length ≤ k
  | 0, M, h => by
    obtain rfl : M = 0 := by simpa using h
    simp [dd]
  | k + 1, M, h => by
    by_cases h0 : M = 0
    · subst h0; simp [dd]
    · rw [dd_step h0, List.length_append]
      have := dd_short k (M / 10) (by rw [Nat.pow_succ] at h; omega)
      simp only [List.length_cons, List.length_nil]; omega
theorem dig_short {A : Nat} (h : A < 1000000000000000000) : (Lib.decDigits A).length ≤ 18 := by
  by_cases h0 : A = 0
  · subst h0; decide +kernel
  · have := dd_short 18 A (by simpa using h)
    unfold dd at this; rwa [if_neg h0] at this
end Go.Proofs.YtnhnjjlfoajbgaaDoor
namespace Go.Proofs.YtnhnjjlfoajbgaaDoor
structure Crt where
  v : Int
  X : List Int
  t : ByteArray
def crz : Crt := ⟨0, [], ⟨#[]⟩⟩
def sgE (s : ByteArray) (p : Nat) (c : Int) : Int := if s.size ≤ p then 6 else if byt s p ≠ c then 2 else 0
def sgW (s : ByteArray) : List Int → Nat → Nat × Int
  | [], p => (p, 0)
  | c :: W, p => if sgE s p c ≠ 0 then (p, sgE s p c) else sgW s W (p + 1)
def nmE (s : ByteArray) (p : Nat) (most : Int) : Int × Nat × Int :=
  if s.size ≤ p then (0, p, 6) else if (readI s p).2.2 ≠ 0 then (0, p, (readI s p).2.2) else if most < (readI s p).1 then (0, p, 5) else ((readI s p).1, p + dgs s p, 0)
def aheadW : List Int := [67, 69, 82, 84, 32]
def cH1 (s : ByteArray) : Nat × Int := sgW s aheadW 0
def cH2 (s : ByteArray) : Int × Nat × Int := nmE s 5 1125899906842624
def cH3 (s : ByteArray) : Int × Nat × Int := nmE s ((cH2 s).2.1 + 1) 64
def cHd (s : ByteArray) : Nat × Int :=
  if (cH1 s).2 ≠ 0 then cH1 s else if (cH2 s).2.2 ≠ 0 then (cH2 s).2 else if sgE s (cH2 s).2.1 32 ≠ 0 then ((cH2 s).2.1, sgE s (cH2 s).2.1 32)
  else if (cH3 s).2.2 ≠ 0 then (cH3 s).2 else if (cH3 s).1 = 0 then ((cH2 s).2.1 + 1, 1) else if sgE s (cH3 s).2.1 10 ≠ 0 then ((cH3 s).2.1, sgE s (cH3 s).2.1 10) else ((cH3 s).2.1 + 1, 0)
def bhd (n k : Nat) : Int := if k + 1 = n then 10 else 32
def cNb (s : ByteArray) (n p : Nat) : Nat → List Int × Nat × Int
  | 0 => ([], p, 0)
  | k + 1 => if (cNb s n p k).2.2 ≠ 0 then cNb s n p k else if (nmE s (cNb s n p k).2.1 999).2.2 ≠ 0 then ([], (nmE s (cNb s n p k).2.1 999).2)
    else if sgE s (nmE s (cNb s n p k).2.1 999).2.1 (bhd n k) ≠ 0 then ([], (nmE s (cNb s n p k).2.1 999).2.1, sgE s (nmE s (cNb s n p k).2.1 999).2.1 (bhd n k))
    else ((cNb s n p k).1 ++ [(nmE s (cNb s n p k).2.1 999).1], (nmE s (cNb s n p k).2.1 999).2.1 + 1, 0)
def isT (c : Int) : Prop := c = 112 ∨ c = 98 ∨ c = 108
instance (c : Int) : Decidable (isT c) := by unfold isT; infer_instance
def isTb (s : ByteArray) (j : Nat) : Bool := decide (j < s.size ∧ isT (byt s j))
def cLt (s : ByteArray) (p : Nat) : Nat := runQ (isTb s) (s.size - p) p
def cTr (s : ByteArray) (p : Nat) : Nat × Int :=
  if 1048576 < cLt s p then (p + 1048576, 5) else if cLt s p = 0 ∧ p < s.size then (p, 2) else if sgE s (p + cLt s p) 10 ≠ 0 then (p + cLt s p, sgE s (p + cLt s p) 10) else (p + cLt s p + 1, 0)
def cN (s : ByteArray) : List Int × Nat × Int := cNb s (cH3 s).1.toNat (cHd s).1 (cH3 s).1.toNat
def cT (s : ByteArray) : Nat × Int := cTr s (cN s).2.1
def rdC (s : ByteArray) : Crt × Int × Int :=
  if (cHd s).2 ≠ 0 then (crz, ((cHd s).1 : Int), (cHd s).2) else if (cN s).2.2 ≠ 0 then (crz, ((cN s).2.1 : Int), (cN s).2.2)
  else if (cT s).2 ≠ 0 then (crz, ((cT s).1 : Int), (cT s).2) else if (cT s).1 < s.size then (crz, ((cT s).1 : Int), 7)
  else (⟨(cH2 s).1, (cN s).1, s.extract (cN s).2.1 ((cN s).2.1 + cLt s (cN s).2.1)⟩, 0, 0)
def frmC (c : Crt) : Prop := 0 ≤ c.v ∧ c.v ≤ 1125899906842624 ∧ 1 ≤ c.X.length ∧ c.X.length ≤ 64 ∧ 1 ≤ c.t.size ∧ c.t.size ≤ 1048576 ∧ (∀ k, k < c.X.length → 0 ≤ c.X.getD k 0 ∧ c.X.getD k 0 ≤ 999) ∧ ∀ j, j < c.t.size → isT (byt c.t j)
def headC (c : Crt) : List UInt8 := [67, 69, 82, 84, 32] ++ Lib.itoa c.v ++ [32] ++ Lib.itoa c.X.length ++ [10]
def txtC (c : Crt) : List UInt8 := headC c ++ Lib.join (c.X.map Lib.itoa) [32] ++ [10] ++ c.t.data.toList ++ [10]
theorem byt_at0 (A : List UInt8) (z : UInt8) (Z : List UInt8) : byt (bs (A ++ z :: Z)) A.length = (z.toNat : Int) := by
  have h : byt (bs (A ++ z :: Z)) (A.length + 0) = byt (bs (z :: Z)) 0 := byt_mid (by simp)
  rw [Nat.add_zero] at h
  rw [h]; exact byt_mk (l := z :: Z) (j := 0) (by simp)
theorem sgE_cons (A : List UInt8) (z : UInt8) (Z : List UInt8) (c : Int) : sgE (bs (A ++ z :: Z)) A.length c = if (z.toNat : Int) ≠ c then 2 else 0 := by
  unfold sgE
  rw [if_neg (by rw [bs_size, List.length_append, List.length_cons]; omega), byt_at0]
theorem sgE_hit (A : List UInt8) (z : UInt8) (Z : List UInt8) : sgE (bs (A ++ z :: Z)) A.length z.toNat = 0 := by rw [sgE_cons]; simp
theorem sgW_full : ∀ (W A R : List UInt8), sgW (bs (A ++ (W ++ R))) (W.map fun c => (c.toNat : Int)) A.length = (A.length + W.length, 0)
  | [], A, R => rfl
  | c :: W, A, R => by
    rw [List.map_cons, sgW, List.cons_append, sgE_hit, if_neg (by simp)]
    have h := sgW_full W (A ++ [c]) R
    rw [List.append_assoc, List.length_append] at h
    rw [show A ++ c :: (W ++ R) = A ++ ([c] ++ (W ++ R)) from rfl, show A.length + 1 = A.length + [c].length from rfl, h]
    simp only [List.length_cons, List.length_nil]
    rw [Nat.add_assoc, Nat.add_comm 1]
def dgL (c : UInt8) : Prop := 48 ≤ c.toNat ∧ c.toNat ≤ 57
instance (c : UInt8) : Decidable (dgL c) := by unfold dgL; infer_instance
def noD (R : List UInt8) : Prop := ∀ c r, R = c :: r → ¬ dgL c
theorem dig_mid {A Z : List UInt8} {j : Nat} : dig (bs (A ++ Z)) (A.length + j) ↔ ∃ h : j < Z.length, dgL Z[j] := by
  constructor
  · intro ⟨h1, h2⟩
    rw [bs_size, List.length_append] at h1
    have hj : j < Z.length := by omega
    rw [byt_mid hj, show bs Z = ⟨Z.toArray⟩ from rfl, byt_mk hj] at h2
    exact ⟨hj, by omega, by omega⟩
  · intro ⟨hj, h⟩
    refine ⟨by rw [bs_size, List.length_append]; omega, ?_⟩
    rw [byt_mid hj, show bs Z = ⟨Z.toArray⟩ from rfl, byt_mk hj]
    unfold dgL at h; omega
theorem dgs_mid {A D R : List UInt8} (hD : ∀ c ∈ D, dgL c) (hR : noD R) : dgs (bs (A ++ (D ++ R))) A.length = D.length := by
  refine dgs_uniq (fun j hj => dig_mid.2 ⟨by rw [List.length_append]; omega, ?_⟩) (fun h => ?_)
  · rw [List.getElem_append_left hj]; exact hD _ (List.getElem_mem hj)
  · obtain ⟨h1, h2⟩ := dig_mid.1 h
    rw [List.length_append] at h1
    cases R with
    | nil => simp at h1
    | cons c r =>
      rw [List.getElem_append_right (Nat.le_refl _)] at h2
      simp only [Nat.sub_self, List.getElem_cons_zero] at h2
      exact hR c r rfl h2
theorem numv_mid (A Z : List UInt8) : ∀ k, k ≤ Z.length → numv (bs (A ++ Z)) A.length k = valL (Z.take k)
  | 0, _ => by simp [numv, valL]
  | k + 1, h => by
    rw [numv, numv_mid A Z k (by omega), byt_mid (by omega), show bs Z = ⟨Z.toArray⟩ from rfl, byt_mk (by omega), List.take_succ_eq_append_getElem (by omega), valL_snoc]
theorem read_mid {A D R : List UInt8} (hD : ∀ c ∈ D, dgL c) (hR : noD R) : readI (bs (A ++ (D ++ R))) (A.length : Int) =
    if D = [] ∨ (1 < D.length ∧ D.head? = some 48) then (0, 0, 4) else if 18 < D.length then (0, 0, 5) else (valL D, ((A.length + D.length : Nat) : Int), 0) := by
  unfold readI
  rw [if_neg (by rw [bs_size, List.length_append]; omega), Int.toNat_natCast, dgs_mid hD hR, numv_mid _ _ _ (by rw [List.length_append]; omega), List.take_append_of_le_length (Nat.le_refl _), List.take_length]
  have e : (D.length = 0 ∨ 1 < D.length ∧ byt (bs (A ++ (D ++ R))) A.length = 48) ↔ (D = [] ∨ (1 < D.length ∧ D.head? = some 48)) := by
    cases D with
    | nil => simp
    | cons c r =>
      rw [List.cons_append, byt_at0]
      constructor
      · intro h
        rcases h with h | ⟨h1, h2⟩
        · rw [List.length_cons] at h; omega
        · exact Or.inr ⟨h1, congrArg some (UInt8.toNat_inj.1 (by rw [show (48 : UInt8).toNat = 48 from rfl]; omega))⟩
      · intro h
        rcases h with h | ⟨h1, h2⟩
        · cases h
        · have h3 : c = 48 := Option.some.inj h2
          subst h3
          exact Or.inr ⟨h1, rfl⟩
  by_cases h : D = [] ∨ (1 < D.length ∧ D.head? = some 48)
  · rw [if_pos (e.2 h), if_pos h]
  · rw [if_neg (fun g => h (e.1 g)), if_neg h]
    split
    · rfl
    · rw [Int.natCast_add]
theorem itoa_dd {m : Int} (h0 : 0 ≤ m) : ∃ M : Nat, m = (M : Int) ∧ Lib.itoa m = Lib.decDigits M := ⟨m.toNat, by omega, by
  rw [show m = (m.toNat : Int) by omega]; exact Lib.itoa_nonneg _⟩
theorem itoa_dg {m : Int} (h0 : 0 ≤ m) : ∀ c ∈ Lib.itoa m, dgL c := by
  obtain ⟨M, -, e⟩ := itoa_dd h0
  rw [e]; exact fun c hc => dd_dig M c hc
theorem itoa_val {m : Int} (h0 : 0 ≤ m) : valL (Lib.itoa m) = m := by
  obtain ⟨M, e1, e⟩ := itoa_dd h0
  rw [e, dd_val, e1]
theorem itoa_pos {m : Int} (h0 : 0 ≤ m) : 0 < (Lib.itoa m).length := by
  obtain ⟨M, -, e⟩ := itoa_dd h0
  rw [e]; exact dd_pos M
theorem itoa_18 {m : Int} (h0 : 0 ≤ m) (h1 : m < 1000000000000000000) : (Lib.itoa m).length ≤ 18 := by
  obtain ⟨M, e1, e⟩ := itoa_dd h0
  rw [e]; exact dig_short (by omega)
theorem itoa_head {m : Int} (h0 : 0 ≤ m) : m = 0 ∨ ∃ c r, Lib.itoa m = c :: r ∧ 49 ≤ c.toNat := by
  obtain ⟨M, e1, e⟩ := itoa_dd h0
  rcases Nat.eq_zero_or_pos M with h | h
  · exact .inl (by omega)
  · rw [e]; exact .inr (dd_head M h)
theorem itoa_zero : Lib.itoa 0 = [48] := by decide +kernel
theorem nmE_full {A R : List UInt8} {m most : Int} (h0 : 0 ≤ m) (h1 : m ≤ most) (h2 : most < 1000000000000000000) (hR : noD R) : nmE (bs (A ++ (Lib.itoa m ++ R))) A.length most = (m, A.length + (Lib.itoa m).length, 0) := by
  have hp := itoa_pos h0
  have hr := read_mid (A := A) (itoa_dg h0) hR
  rw [if_neg (fun h => by
    rcases h with h | ⟨g1, g2⟩
    · rw [h] at hp; exact absurd hp (Nat.lt_irrefl _)
    · rcases itoa_head h0 with e | ⟨c, r, e, hc⟩
      · rw [e, itoa_zero] at g1; simp at g1
      · rw [e] at g2; simp only [List.head?_cons, Option.some.injEq] at g2; rw [g2] at hc; exact absurd hc (by decide)), if_neg (by have := itoa_18 h0 (by omega); omega), itoa_val h0] at hr
  unfold nmE
  rw [if_neg (by rw [bs_size]; simp only [List.length_append]; omega), hr, if_neg (by simp), if_neg (by simp only; omega), dgs_mid (itoa_dg h0) hR]
theorem noD_cons {c : UInt8} {r : List UInt8} (h : ¬ dgL c) : noD (c :: r) := fun d q e => by cases e; exact h
end Go.Proofs.YtnhnjjlfoajbgaaDoor
namespace Go.Proofs.YtnhnjjlfoajbgaaDoor
def sb (n k : Nat) : UInt8 := if k + 1 = n then 10 else 32
theorem sb_nat (n k : Nat) : ((sb n k).toNat : Int) = bhd n k := by unfold sb bhd; split <;> rfl
theorem sb_noD (n k : Nat) (R : List UInt8) : noD (sb n k :: R) := noD_cons (by unfold sb; split <;> decide)
def nbT (X : List Int) (n : Nat) : Nat → List UInt8
  | 0 => []
  | k + 1 => nbT X n k ++ (Lib.itoa (X.getD k 0) ++ [sb n k])
def okX (X : List Int) : Prop := ∀ k, k < X.length → 0 ≤ X.getD k 0 ∧ X.getD k 0 ≤ 999
theorem cNb_full {X : List Int} (hX : okX X) (n : Nat) (A : List UInt8) : ∀ (k : Nat) (R : List UInt8), k ≤ X.length → cNb (bs (A ++ (nbT X n k ++ R))) n A.length k = (X.take k, A.length + (nbT X n k).length, 0)
  | 0, R, _ => rfl
  | k + 1, R, hk => by
    have e : A ++ (nbT X n (k + 1) ++ R) = A ++ (nbT X n k ++ (Lib.itoa (X.getD k 0) ++ (sb n k :: R))) := by simp [nbT]
    have ih := cNb_full hX n A k (Lib.itoa (X.getD k 0) ++ (sb n k :: R)) (by omega)
    have hx := hX k (by omega)
    have h1 := nmE_full (A := A ++ nbT X n k) (most := 999) hx.1 hx.2 (by decide) (sb_noD n k R)
    rw [List.append_assoc, List.length_append] at h1
    have h2 := sgE_hit (A ++ (nbT X n k ++ Lib.itoa (X.getD k 0))) (sb n k) R
    rw [sb_nat, List.length_append, List.length_append, show A ++ (nbT X n k ++ Lib.itoa (X.getD k 0)) ++ sb n k :: R = A ++ (nbT X n k ++ (Lib.itoa (X.getD k 0) ++ sb n k :: R)) by simp] at h2
    rw [e, cNb, ih]
    simp only [h1]
    rw [Nat.add_assoc, h2]
    simp only [ne_eq, not_true, if_false]
    refine Prod.ext ?_ (Prod.ext ?_ rfl)
    · rw [take_succ_getD X k (by omega)]
    · simp only [nbT, List.length_append, List.length_cons, List.length_nil]; omega
theorem cNb_stuck {s : ByteArray} {n p k : Nat} (h : (cNb s n p k).2.2 ≠ 0) : ∀ d, cNb s n p (k + d) = cNb s n p k
  | 0 => rfl
  | d + 1 => by
    rw [← Nat.add_assoc, cNb, cNb_stuck h d, if_pos h]
def isTL (c : UInt8) : Prop := isT (c.toNat : Int)
theorem isTb_mid {A Z : List UInt8} {j : Nat} : isTb (bs (A ++ Z)) (A.length + j) = true ↔ ∃ h : j < Z.length, isTL Z[j] := by
  unfold isTb
  rw [decide_eq_true_iff]
  constructor
  · intro ⟨h1, h2⟩
    rw [bs_size, List.length_append] at h1
    have hj : j < Z.length := by omega
    rw [byt_mid hj, show bs Z = ⟨Z.toArray⟩ from rfl, byt_mk hj] at h2
    exact ⟨hj, h2⟩
  · intro ⟨hj, h⟩
    refine ⟨by rw [bs_size, List.length_append]; omega, ?_⟩
    rw [byt_mid hj, show bs Z = ⟨Z.toArray⟩ from rfl, byt_mk hj]
    exact h
theorem cLt_uniq {s : ByteArray} {p k : Nat} (h1 : ∀ j, j < k → isTb s (p + j) = true) (h2 : isTb s (p + k) = false) : cLt s p = k :=
  runQ_uniq (fun j h => (of_decide_eq_true h).1) (by omega) h1 h2
theorem cLt_mid {A T R : List UInt8} (hT : ∀ c ∈ T, isTL c) (hR : ∀ c r, R = c :: r → ¬ isTL c) : cLt (bs (A ++ (T ++ R))) A.length = T.length := by
  refine cLt_uniq (fun j hj => isTb_mid.2 ⟨by rw [List.length_append]; omega, ?_⟩) (Bool.eq_false_iff.2 fun h => ?_)
  · rw [List.getElem_append_left hj]; exact hT _ (List.getElem_mem hj)
  · obtain ⟨h1, h2⟩ := isTb_mid.1 h
    rw [List.length_append] at h1
    cases R with
    | nil => simp at h1
    | cons c r =>
      rw [List.getElem_append_right (Nat.le_refl _)] at h2
      simp only [Nat.sub_self, List.getElem_cons_zero] at h2
      exact hR c r rfl h2
theorem noT10 (R : List UInt8) : ∀ c r, 10 :: R = c :: r → ¬ isTL c := fun c r h => by cases h; unfold isTL isT; decide
theorem cTr_full {A T R : List UInt8} (hT : ∀ c ∈ T, isTL c) (h1 : 1 ≤ T.length) (h2 : T.length ≤ 1048576) : cTr (bs (A ++ (T ++ 10 :: R))) A.length = (A.length + T.length + 1, 0) := by
  have hl := cLt_mid (A := A) hT (noT10 R)
  have hs := sgE_hit (A ++ T) 10 R
  rw [List.append_assoc, List.length_append] at hs
  unfold cTr
  rw [hl, if_neg (by omega), if_neg (by omega), show ((10 : Int)) = ((10 : UInt8).toNat : Int) from rfl, hs, if_neg (by simp)]
theorem cTr_long {A T R : List UInt8} (hT : ∀ c ∈ T, isTL c) (h2 : 1048576 < T.length) : cTr (bs (A ++ (T ++ 10 :: R))) A.length = (A.length + 1048576, 5) := by
  unfold cTr
  rw [cLt_mid (A := A) hT (noT10 R), if_pos h2]
def p1 : List UInt8 := [67, 69, 82, 84, 32]
def headV (v n : Int) : List UInt8 := p1 ++ ((Lib.itoa v ++ [32]) ++ (Lib.itoa n ++ [10]))
theorem headC_eq (c : Crt) : headC c = headV c.v c.X.length := by unfold headC headV p1; simp
theorem no32 (R : List UInt8) : noD (32 :: R) := noD_cons (by decide)
theorem no10 (R : List UInt8) : noD (10 :: R) := noD_cons (by decide)
section
variable {v n : Int} (hv0 : 0 ≤ v) (hv1 : v ≤ 1125899906842624) (hn0 : 1 ≤ n) (hn1 : n ≤ 64)
include hv0 hv1
theorem h2_full (R : List UInt8) : cH2 (bs (p1 ++ ((Lib.itoa v ++ [32]) ++ R))) = (v, 5 + (Lib.itoa v).length, 0) ∧ sgE (bs (p1 ++ ((Lib.itoa v ++ [32]) ++ R))) (5 + (Lib.itoa v).length) 32 = 0 := by
  have h := nmE_full (A := p1) (R := 32 :: R) hv0 hv1 (by decide) (no32 R)
  have h2 := sgE_hit (p1 ++ Lib.itoa v) 32 R
  rw [List.length_append] at h2
  have e : p1 ++ ((Lib.itoa v ++ [32]) ++ R) = p1 ++ (Lib.itoa v ++ 32 :: R) := by simp
  have e2 : p1 ++ Lib.itoa v ++ 32 :: R = p1 ++ (Lib.itoa v ++ 32 :: R) := by simp
  rw [e]
  rw [e2] at h2
  exact ⟨h, h2⟩
include hn0 hn1
theorem hd_full (R : List UInt8) : cHd (bs (headV v n ++ R)) = ((headV v n).length, 0) ∧ (cH2 (bs (headV v n ++ R))).1 = v ∧ (cH3 (bs (headV v n ++ R))).1 = n := by
  have e : headV v n ++ R = p1 ++ ((Lib.itoa v ++ [32]) ++ ((Lib.itoa n ++ [10]) ++ R)) := by unfold headV; simp
  obtain ⟨g1, g2⟩ := h2_full hv0 hv1 ((Lib.itoa n ++ [10]) ++ R)
  have g0 : cH1 (bs (p1 ++ ((Lib.itoa v ++ [32]) ++ ((Lib.itoa n ++ [10]) ++ R)))) = (5, 0) := by
    have := sgW_full p1 [] ((Lib.itoa v ++ [32]) ++ ((Lib.itoa n ++ [10]) ++ R))
    exact this
  have g3 := nmE_full (A := p1 ++ (Lib.itoa v ++ [32])) (R := 10 :: R) (m := n) (most := 64) (by omega) hn1 (by decide) (no10 R)
  have g4 := sgE_hit (p1 ++ (Lib.itoa v ++ [32]) ++ Lib.itoa n) 10 R
  have e3 : p1 ++ (Lib.itoa v ++ [32]) ++ (Lib.itoa n ++ 10 :: R) = p1 ++ ((Lib.itoa v ++ [32]) ++ ((Lib.itoa n ++ [10]) ++ R)) := by simp
  have e4 : p1 ++ (Lib.itoa v ++ [32]) ++ Lib.itoa n ++ 10 :: R = p1 ++ ((Lib.itoa v ++ [32]) ++ ((Lib.itoa n ++ [10]) ++ R)) := by simp
  have l3 : (p1 ++ (Lib.itoa v ++ [32])).length = 5 + (Lib.itoa v).length + 1 := by simp [p1]; omega
  have l4 : (p1 ++ (Lib.itoa v ++ [32]) ++ Lib.itoa n).length = 5 + (Lib.itoa v).length + 1 + (Lib.itoa n).length := by rw [List.length_append, l3]
  rw [e3, l3] at g3
  rw [e4, l4] at g4
  rw [e]
  generalize bs (p1 ++ ((Lib.itoa v ++ [32]) ++ ((Lib.itoa n ++ [10]) ++ R))) = s at g0 g1 g2 g3 g4
  have h3 : cH3 s = (n, 5 + (Lib.itoa v).length + 1 + (Lib.itoa n).length, 0) := by unfold cH3; rw [g1]; exact g3
  refine ⟨?_, by rw [g1], by rw [h3]⟩
  have g4' : sgE s (5 + (Lib.itoa v).length + 1 + (Lib.itoa n).length) 10 = 0 := g4
  have hl : (headV v n).length = 5 + (Lib.itoa v).length + 1 + (Lib.itoa n).length + 1 := by unfold headV; simp [p1]; omega
  unfold cHd
  rw [g0, g1, h3]
  simp only [g2, g4']
  rw [if_neg (by decide), if_neg (by decide), if_neg (by decide), if_neg (by decide), if_neg (by omega), if_neg (by decide), hl]
end
end Go.Proofs.YtnhnjjlfoajbgaaDoor
namespace Go.Proofs.YtnhnjjlfoajbgaaDoor
theorem join_snoc (x : List UInt8) : ∀ (l : List (List UInt8)), l ≠ [] → Lib.join (l ++ [x]) [32] = Lib.join l [32] ++ ([32] ++ x)
  | [], h => absurd rfl h
  | a :: l, _ => by
    rw [List.cons_append, Lib.join_cons, Lib.join_cons]
    simp [Lib.joinTail]
theorem nbT_join (X : List Int) (n : Nat) : ∀ k, k < X.length → k < n → nbT X n (k + 1) = Lib.join ((X.take (k + 1)).map Lib.itoa) [32] ++ [sb n k]
  | 0, h, _ => by
    rw [nbT, nbT, take_succ_getD X 0 h, List.take_zero, List.nil_append, List.nil_append]
    show _ = Lib.join [Lib.itoa (X.getD 0 0)] [32] ++ _
    rw [Lib.join_one]
  | k + 1, h, hn => by
    rw [nbT, nbT_join X n k (by omega) (by omega), take_succ_getD X (k + 1) h, List.map_append]
    show _ = Lib.join (_ ++ [Lib.itoa (X.getD (k + 1) 0)]) [32] ++ _
    rw [join_snoc _ _ (by
      intro e
      have := congrArg List.length e
      rw [List.length_map, List.length_take, List.length_nil] at this; omega), show sb n k = 32 by unfold sb; rw [if_neg (by omega)]]
    simp
theorem nbT_all {X : List Int} (h : 1 ≤ X.length) : nbT X X.length X.length = Lib.join (X.map Lib.itoa) [32] ++ [10] := by
  obtain ⟨k, hk⟩ : ∃ k, X.length = k + 1 := ⟨X.length - 1, by omega⟩
  have h1 := nbT_join X X.length k (by omega) (by omega)
  rw [← hk, List.take_length] at h1
  rw [h1, show sb X.length k = 10 by unfold sb; rw [if_pos hk.symm]]
theorem data_bs (t : ByteArray) : bs t.data.toList = t := by cases t; rfl
theorem txtC_eq {c : Crt} (h : 1 ≤ c.X.length) : txtC c = headV c.v c.X.length ++ (nbT c.X c.X.length c.X.length ++ (c.t.data.toList ++ 10 :: [])) := by
  unfold txtC
  rw [headC_eq, nbT_all h]; simp
theorem frm_tl (c : Crt) : c.t.data.toList.length = c.t.size := by rw [← bs_size, data_bs]
section
variable {c : Crt} (hf : frmC c)
include hf
theorem frm_t : ∀ b ∈ c.t.data.toList, isTL b := fun b hb => by
  obtain ⟨j, hj, rfl⟩ := List.getElem_of_mem hb
  have h := hf.2.2.2.2.2.2.2 j (by rw [← data_bs c.t, bs_size]; exact hj)
  rw [← data_bs c.t, show bs c.t.data.toList = ⟨c.t.data.toList.toArray⟩ from rfl, byt_mk hj] at h
  exact h
theorem rdC_rest (R : List UInt8) : cHd (bs (txtC c ++ R)) = ((headV c.v c.X.length).length, 0) ∧ (cH2 (bs (txtC c ++ R))).1 = c.v ∧
    cN (bs (txtC c ++ R)) = (c.X, (headV c.v c.X.length ++ nbT c.X c.X.length c.X.length).length, 0) ∧ cT (bs (txtC c ++ R)) = ((txtC c).length, 0) ∧ cLt (bs (txtC c ++ R)) (cN (bs (txtC c ++ R))).2.1 = c.t.size := by
  obtain ⟨h1, h2, h3, h4, h5, h6, h7, h8⟩ := hf
  have e := txtC_eq h3
  obtain ⟨g1, g2, g3⟩ := hd_full h1 h2 (n := (c.X.length : Int)) (by omega) (by omega) (nbT c.X c.X.length c.X.length ++ (c.t.data.toList ++ 10 :: R))
  have e1 : txtC c ++ R = headV c.v c.X.length ++ (nbT c.X c.X.length c.X.length ++ (c.t.data.toList ++ 10 :: R)) := by rw [e]; simp
  rw [← e1] at g1 g2 g3
  have g4 := cNb_full h7 c.X.length (headV c.v c.X.length) c.X.length (c.t.data.toList ++ 10 :: R) (Nat.le_refl _)
  rw [← e1, List.take_length] at g4
  have g5 : cN (bs (txtC c ++ R)) = (c.X, (headV c.v c.X.length ++ nbT c.X c.X.length c.X.length).length, 0) := by
    unfold cN; rw [g3, g1, Int.toNat_natCast, List.length_append]; exact g4
  have ht := frm_t ⟨h1, h2, h3, h4, h5, h6, h7, h8⟩
  have hl := frm_tl c
  have e2 : txtC c ++ R = (headV c.v c.X.length ++ nbT c.X c.X.length c.X.length) ++ (c.t.data.toList ++ 10 :: R) := by rw [e]; simp
  have g6 := cTr_full (A := headV c.v c.X.length ++ nbT c.X c.X.length c.X.length) (R := R) ht (by omega) (by omega)
  have g7 := cLt_mid (A := headV c.v c.X.length ++ nbT c.X c.X.length c.X.length) ht (noT10 R)
  rw [← e2] at g6 g7
  refine ⟨g1, g2, g5, ?_, by rw [g5]; exact g7.trans hl⟩
  unfold cT
  rw [g5]
  simp only
  rw [g6, e]
  refine Prod.ext ?_ rfl
  simp only [List.length_append, List.length_cons, List.length_nil]
  omega
theorem rdC_back : rdC (bs (txtC c)) = (c, 0, 0) := by
  obtain ⟨g1, g2, g3, g4, g5⟩ := rdC_rest hf []
  rw [List.append_nil] at g1 g2 g3 g4 g5
  unfold rdC
  rw [g5, g1, g3, g4, g2]
  simp only [ne_eq, not_true, if_false]
  rw [if_neg (by rw [bs_size]; omega)]
  refine Prod.ext ?_ rfl
  show (⟨c.v, c.X, _⟩ : Crt) = c
  have e : (bs (txtC c)).extract (headV c.v c.X.length ++ nbT c.X c.X.length c.X.length).length ((headV c.v c.X.length ++ nbT c.X c.X.length c.X.length).length + c.t.size) = c.t := by
    have hl := frm_tl c
    have e2 : txtC c = (headV c.v c.X.length ++ nbT c.X c.X.length c.X.length) ++ (c.t.data.toList ++ [10]) := by rw [txtC_eq hf.2.2.1]; simp
    rw [e2]
    generalize headV c.v c.X.length ++ nbT c.X c.X.length c.X.length = Q
    have hs : (bs (Q ++ (c.t.data.toList ++ [10]))).size = Q.length + c.t.size + 1 := by
      rw [bs_size]; simp only [List.length_append, List.length_singleton]; omega
    refine ba_ext ?_ fun j hj => ?_
    · rw [size_ext (by omega)]; omega
    · rw [size_ext (by omega)] at hj
      rw [byt_ext (by omega) (by omega), byt_mid (by rw [List.length_append]; omega), byt_left (by omega), data_bs]
  rw [e]
end
end Go.Proofs.YtnhnjjlfoajbgaaDoor
namespace Go.Proofs.YtnhnjjlfoajbgaaDoor
theorem sg_inv {L : List UInt8} {p : Nat} {c : UInt8} (h : sgE (bs L) p c.toNat = 0) : p < L.length ∧ L.drop p = c :: L.drop (p + 1) := by
  unfold sgE at h
  split at h
  · cases h
  · rename_i hp
    rw [bs_size] at hp
    split at h
    · cases h
    · rename_i hb
      have hb := Decidable.not_not.1 hb
      have hp' : p < L.length := by omega
      rw [show bs L = ⟨L.toArray⟩ from rfl, byt_mk hp'] at hb
      refine ⟨hp', ?_⟩
      rw [List.drop_eq_getElem_cons hp']
      congr 1
      exact UInt8.toNat_inj.1 (by omega)
theorem sgW_inv {L : List UInt8} : ∀ (W : List UInt8) (p q : Nat), sgW (bs L) (W.map fun c => (c.toNat : Int)) p = (q, 0) → q = p + W.length ∧ L.drop p = W ++ L.drop q
  | [], p, q, h => by cases h; exact ⟨rfl, rfl⟩
  | c :: W, p, q, h => by
    rw [List.map_cons, sgW] at h
    split at h
    · rename_i e; exact absurd (congrArg Prod.snd h) e
    · rename_i e
      obtain ⟨h1, h2⟩ := sg_inv (Decidable.not_not.1 e)
      obtain ⟨h3, h4⟩ := sgW_inv W (p + 1) q h
      refine ⟨by rw [List.length_cons]; omega, ?_⟩
      rw [h2, h4]; rfl
end Go.Proofs.YtnhnjjlfoajbgaaDoor
namespace Go.Proofs.YtnhnjjlfoajbgaaDoor
open Go.RowKit
theorem push_list (ns : List Int) : ∀ r : ByteArray, ns.foldl (fun r n => r.push (UInt8.ofNat n.toNat)) r = ⟨(r.data.toList ++ ns.map fun n => UInt8.ofNat n.toNat).toArray⟩ := by
  induction ns with
  | nil => intro r; simp
  | cons n ns ih =>
    intro r
    rw [List.foldl_cons, ih]
    congr 1
    simp [ByteArray.push]
def bys (l : List Int) : Array Value := (l.map (Value.int .u8)).toArray
theorem bys_get (l : List Int) (o : Nat) (h : o < l.length) : (bys l)[o]? = some (.int .u8 (l.getD o 0)) := by simp [bys, h]
theorem bys_set (l : List Int) (o : Nat) (v : Int) : (bys l).setIfInBounds o (.int .u8 v) = bys (l.set o v) := by simp [bys, List.map_set]
theorem made_bys (n : Nat) : madeCells #[.int .u8 0] n = bys (List.replicate n 0) := by
  apply Array.toList_inj.1
  rw [toList_madeCells_one]; simp [bys]
theorem rep_set (x y : Int) (i N : Nat) (h : i < N) : (List.replicate i x ++ List.replicate (N - i) y).set i x = List.replicate (i + 1) x ++ List.replicate (N - (i + 1)) y := by
  rw [List.set_append_right _ _ (by simp)]
  simp only [List.length_replicate, Nat.sub_self]
  rw [show N - i = (N - (i + 1)) + 1 by omega, List.replicate_succ (n := N - (i + 1)), List.set_cons_zero, List.replicate_succ', List.append_assoc]
  rfl
section
variable {P : Program} {l : List (Nat × Value)} {w w0 : World} {F : Nat → Prop} {L : List Ck} {ty src dst : TypeId} {x : Operand}
theorem R.bytesStr {e t' : TypeId} {b k : Nat} {ns : List Int} (hM : Mem w0 F L w) (hk : ith L k = some (pt b (ns.map (Value.int .u8)).toArray t')) (hs : P.underlying src = some (.slice e)) (he : P.underlying e = some (.int .u8)) (hd : P.underlying dst = some .string) (hx : opv l x = some (.slice (some ⟨b, 0, none⟩) ns.length ns.length)) :
    Run P l w (.convert src dst x) ty (.string ⟨(ns.map fun n => UInt8.ofNat n.toNat).toArray⟩) w := fun ev h _ _ _ _ => by
  have h1 := run_convert_bytes_string (P := P) w src dst e (some ⟨b, 0, none⟩) ns.length ns.length hs he hd
  have h2 : (Conv.bytesToString (.slice (some ⟨b, 0, none⟩) ns.length ns.length)).run P w = .ok (.string ⟨(ns.map fun n => UInt8.ofNat n.toNat).toArray⟩) w := by
    have hb := hM.block hk
    have h3 : (loadCells ⟨b, 0, none⟩ ns.length).run P w = .ok (ns.map (Value.int .u8)).toArray w := by
      have := run_loadCells_list (P := P) w ⟨b, 0, none⟩ (ns.map (Value.int .u8)) (fun j v hj => by
        rw [Addr.add_lit, Nat.zero_add]
        simp [World.cell?, hb]
        simpa using hj)
      rwa [List.length_map] at this
    have h4 := run_bytesToString w ⟨b, 0, none⟩ ns.length ns.length ns h3
    rw [h4, push_list]
    rfl
  simp [execOp, h _ _ hx, h1, h2]
end
end Go.Proofs.YtnhnjjlfoajbgaaDoor
