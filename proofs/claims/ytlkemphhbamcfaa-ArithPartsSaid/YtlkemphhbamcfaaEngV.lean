/-
  Slices that are read, wherever they lie; calls of function values. It holds of every program; nothing is assumed.
-/
import Derived.Test.YtlkemphhbamcfaaEngA
import Derived.Test.YtlkemphhbamcfaaEng6
import Derived.Test.YtlkemphhbamcfaaEngU
namespace Go.Proofs.Ytlkemphhbamcfaa
open Go.RowKit
/-- Where an element of a slice of one-celled elements lies. -/
def pI (a : Option Addr) (i : Nat) : Value := .pointer (match a with | some p => some ⟨p.block, p.off + i, none⟩ | none => none)
theorem IntSl.cutR {w : World} {a : Option Addr} {cap : Nat} {X : List Int} (h : IntSl w (.slice a X.length cap) X) (m : Nat) (hm : m ≤ X.length) : IntSl w (.slice a (X.take m).length cap) (X.take m) := by
  have := h.cut m hm
  rwa [show (X.take m).length = m by rw [List.length_take]; omega]
theorem IntSl.dropR {w : World} {b off cap lo : Nat} {X : List Int} (h : IntSl w (.slice (some ⟨b, off, none⟩) X.length cap) X) (hlo : lo ≤ X.length) :
    IntSl w (.slice (some ⟨b, if cap = lo then off else off + lo, none⟩) (X.drop lo).length (cap - lo)) (X.drop lo) := by
  obtain ⟨a', cap', he, h1, h2, h3, h4⟩ := h
  cases he
  refine ⟨_, _, rfl, by rw [List.length_drop]; omega, by omega, (fun e => nomatch e), fun hne => ?_⟩
  have hlt : lo < X.length := by
    rcases Nat.lt_or_ge lo X.length with g | g
    · exact g
    · rw [List.drop_eq_nil_of_le g] at hne; exact absurd rfl hne
  obtain ⟨b', off', e, hb, hc⟩ := h4 (by intro e; rw [e] at hlt; simp at hlt)
  cases e
  refine ⟨_, _, rfl, hb, fun i hi => ?_⟩
  rw [List.length_drop] at hi
  rw [if_neg (by omega), Nat.add_assoc, hc (lo + i) (by omega)]
  congr 2
  simp only [List.getD_eq_getElem?_getD, List.getElem?_drop]
theorem IntSl.lenB {w : World} {a : Option Addr} {n cap : Nat} {X : List Int} (h : IntSl w (.slice a n cap) X) : X.length ≤ 9223372036854775807 := by
  have := h.len; unfold maxLen at this; omega
theorem IntSl.nil (w : World) : IntSl w (.slice none ([] : List Int).length 0) [] := ⟨none, 0, rfl, Nat.le_refl _, Nat.zero_le _, fun _ => rfl, fun h => absurd rfl h⟩
section
variable {P : Program} {l : List (Nat × Value)} {w w0 : World} {ty : TypeId} {x y z : Operand} {k k' : IntKind} {m n : Int} {t yt e : TypeId}
theorem R.idxI {a : Option Addr} {cap j : Nat} {g : Bool} {i : Int} {X : List Int} (hX : IntSl w0 (.slice a X.length cap) X) (hi : slInfo P t = some (g, 1)) (hx : opv l x = some (.slice a X.length cap)) (hy : opv l y = some (.int k i)) (h0 : 0 ≤ i ∧ i < (X.length : Int)) (hj : i.toNat = j) :
    Run P l w (.indexAddr t x y) ty (pI a j) w := by
  obtain ⟨b, off, rfl, -⟩ := hX.at (i := i.toNat) (by omega)
  exact R.indexAddr hi hx hy h0 (by rw [Nat.mul_one, hj])
theorem R.loadI {a : Option Addr} {cap j : Nat} {X : List Int} (hX : IntSl w (.slice a X.length cap) X) (hi : szOf P t = some (false, 1)) (hx : opv l x = some (pI a j)) (hj : j < X.length) : Run P l w (.load t x) ty (.int .i64 (X.getD j 0)) w := by
  obtain ⟨b, off, rfl, hc⟩ := hX.at hj
  exact R.load hi hx hc
theorem IntSl.fromR {a : Option Addr} {cap : Nat} {X : List Int} (hX : IntSl w0 (.slice a X.length cap) X) (lo : Nat) (hc : lo ≤ X.length) (h0 : 0 < X.length) :
    ∃ a' c', IntSl w0 (.slice a' (X.drop lo).length c') (X.drop lo) ∧ ∀ (P : Program) (t e : TypeId) (j : TypeInfo) (l : List (Nat × Value)) (x y : Operand) (k : IntKind) (n : Int) (w : World) (ty : TypeId), P.underlying t = some (.slice e) → P.info? e = some j → j.size = 1 →
      opv l x = some (.slice a X.length cap) → opv l y = some (.int k n) → n = (lo : Int) → Run P l w (.slice t x (some y) none none) ty (.slice a' (X.drop lo).length c') w := by
  obtain ⟨b, off, rfl, -⟩ := hX.at (i := 0) h0
  have hl := hX.len
  refine ⟨_, _, hX.dropR hc, fun P t e j l x y k n w ty ht hj h1 hx hy hn => ?_⟩
  have := R.sliceL (P := P) (w := w) (ty := ty) ht hj h1 hx hy hn hc hl.2.1
  rwa [List.length_drop]
theorem R.sliceHI {a : Option Addr} {cap h : Nat} {j : TypeInfo} {X : List Int} (hX : IntSl w0 (.slice a X.length cap) X) (ht : P.underlying t = some (.slice e)) (hj : P.info? e = some j) (hx : opv l x = some (.slice a X.length cap)) (hy : opv l y = some (.int k n)) (hn : n = (h : Int)) (hc : h ≤ X.length) :
    Run P l w (.slice t x none (some y) none) ty (.slice a (X.take h).length cap) w := by
  have := R.sliceH (P := P) (w := w) (ty := ty) ht hj hx hy hn (Nat.le_trans hc hX.len.2.1)
  rwa [List.length_take, Nat.min_eq_left hc]
theorem opvs_map {ev : Operand → Value} (h : ∀ x u, opv l x = some u → ev x = u) : ∀ (os : List Operand) (vs : List Value), opvs l os = some vs → os.map ev = vs := by
  intro os
  induction os with
  | nil => intro vs hv; simp [opvs] at hv; subst hv; rfl
  | cons o os ih =>
    intro vs hv
    simp only [opvs] at hv
    split at hv
    · cases hv
    · rename_i v hv1
      split at hv
      · cases hv
      · rename_i us hus
        simp only [Option.some.injEq] at hv
        subst hv
        simp [ih us hus, h _ _ hv1]
theorem R.callV {f : FuncId} {fn : Func} {xs : Array Operand} {ats : Array TypeId} {vs : List Value} {cs : Array Value} (hf : P.funcs[f]? = some fn) (hname : (fn.name == "runtime.NumGoroutine") = false) (hb : fn.body.isNone = false) (hz : opv l z = some (.func (.func f) #[] cs)) (hp : opvs l xs.toList = some vs) :
    RunN P l w (.call { callee := .value z, args := xs, argTypes := ats }) ty (.enter f (vs.toArray ++ cs)) w := fun ev h _ _ _ _ => by
  have h1 : (xs.map ev) = vs.toArray := by
    have := opvs_map h _ _ hp
    apply Array.toList_inj.1
    simpa using this
  have hc : (callFunc f (vs.toArray ++ cs)).run P w = .ok (.enter f (vs.toArray ++ cs)) w := by
    simp only [callFunc, Sem.run_bind, run_program, Result.andThen_ok, hf, hname, hb, Bool.false_eq_true, if_false, Sem.run_pure]
  simp [execOp, resolve, h _ _ hz, Deferred.ofValue, invoke, h1, hc]
theorem R.makeFunc {f : FuncId} {cs : Array Operand} {vs : List Value} (hp : opvs l cs.toList = some vs) : Run P l w (.makeFunc (.func f) #[] cs) ty (.func (.func f) #[] vs.toArray) w := fun ev h _ _ _ _ => by
  have h1 : (cs.map ev) = vs.toArray := by
    have := opvs_map h _ _ hp
    apply Array.toList_inj.1
    simpa using this
  simp [execOp, Instr.makeFunc, h1]
end
section
variable {P : Program} {f : FuncId} {R : Ending → World → Prop} {a : Act} {w w0 : World} {n : Nat} {l : List (Nat × Value)} {F : Nat → Prop} {L : List Ck} {t : TypeId}
theorem loadVar_whole {b sz : Nat} {cs : List Value} {t' : TypeId} {k : Nat} (hM : Mem w0 F L w) (hk : ith L k = some (pt b cs.toArray t')) (hi : szOf P t = some (true, sz)) (hn : cs.length = sz) : (loadVar t ⟨b, 0, none⟩).run P w = .ok (.agg cs.toArray) w := by
  obtain ⟨d, j, hd, hj, hrow, hsz⟩ := szOf_spec hi
  exact run_loadVar_row w b t' t cs.toArray (0, 0) d (hM.block hk) hd (by cases d <;> first | rfl | cases hrow) (by simp [hj, hsz, hn])
theorem Ends.retC2 {fn : Func} {k b p sz u1 : Nat} {cs : List Value} {x : Value} {t' : TypeId} {kk : List Item} (hf : P.funcs[f]? = some fn) (hr : fn.results = #[.cell p t, .tmp u1]) (hA : St n l a) (hM : Mem w0 F L w) (hp : lk l p = some (.pointer (some ⟨b, 0, none⟩))) (h1 : lk l u1 = some x)
    (hk : ith L k = some (pt b cs.toArray t')) (hi : szOf P t = some (true, sz)) (hn : cs.length = sz) (hR : R (.returned (.tuple #[.agg cs.toArray, x])) w) : Ends P f R (.code .ret :: kk) a w := by
  have hl := loadVar_whole hM hk hi hn
  refine Ends.to_ret hf hA.defers (v := .tuple #[.agg cs.toArray, x]) ?_ hR
  simp [results, hr, hA.has _ _ hp, hA.has _ _ h1, asAddr, hl]
theorem Ends.retC3 {fn : Func} {k b p sz u1 u2 : Nat} {cs : List Value} {x y : Value} {t' : TypeId} {kk : List Item} (hf : P.funcs[f]? = some fn) (hr : fn.results = #[.cell p t, .tmp u1, .tmp u2]) (hA : St n l a) (hM : Mem w0 F L w) (hp : lk l p = some (.pointer (some ⟨b, 0, none⟩))) (h1 : lk l u1 = some x) (h2 : lk l u2 = some y)
    (hk : ith L k = some (pt b cs.toArray t')) (hi : szOf P t = some (true, sz)) (hn : cs.length = sz) (hR : R (.returned (.tuple #[.agg cs.toArray, x, y])) w) : Ends P f R (.code .ret :: kk) a w := by
  have hl := loadVar_whole hM hk hi hn
  refine Ends.to_ret hf hA.defers (v := .tuple #[.agg cs.toArray, x, y]) ?_ hR
  simp [results, hr, hA.has _ _ hp, hA.has _ _ h1, hA.has _ _ h2, asAddr, hl]
end
theorem Mem.oldRange {w0 w : World} {L : List Ck} {b : Nat} {cs : List Value} {t : TypeId} (hM : Mem w0 nof L w) (h : w0.heap[b]? = some (.cells cs.toArray t (0, 0))) : w.rangeAt b 0 cs := fun j v hv => by
  have := hM.cellB h (i := j) (v := v) (by simpa using hv)
  rw [Nat.zero_add]; exact this
theorem Mem.trans0 {w w1 w2 : World} {L : List Ck} (hb : Below w.heap.size w w1) (hM : Mem w1 nof L w2) : Below w.heap.size w w2 :=
  hb.trans (hM.below.mono hb.size)
/-- An own slice is read as its numbers. -/
theorem Mem.rsl {w0 w : World} {F : Nat → Prop} {L : List Ck} {k cap : Nat} {av : Option Addr} {X : List Int} {t : TypeId} (hM : Mem w0 F L w) (hk : ith L k = some (own t 1 (.slice av X.length cap) X.length (X.map (Value.int .i64)))) : IntSl w (.slice av X.length cap) X := by
  obtain ⟨a', cap', he, hn, hm, -, h1, h2⟩ := hM.ownForm hk
  cases he
  have ho : w.ownsRow 0 t 1 (.slice av X.length cap) X.length (X.map (Value.int .i64)) := hM.mem hk
  refine ⟨av, cap, rfl, hn, hm, fun hna => ?_, fun hne => ?_⟩
  · subst hna
    rcases ho.2 with ⟨h, -⟩ | ⟨g, c, cur, h, -⟩
    · injection h
    · cases h
  · have hpos : 0 < X.length := List.length_pos_iff.2 hne
    obtain ⟨g, rfl⟩ := hM.ownAt hk hpos
    refine ⟨g, 0, rfl, (hM.inb _ (List.mem_of_getElem? (by rwa [ith_eq] at hk)) g rfl).1, fun i hi => ?_⟩
    rw [Nat.zero_add]
    exact hM.ownCell hk (mapi_get X i hi)
/-- A block of ints that is known whole, as an own slice, or read. -/
theorem Mem.ptOwn {w0 w : World} {F : Nat → Prop} {L : List Ck} {e : TypeId} {b n : Nat} {X : List Int} (h : Mem w0 F (pt b (ints X) e :: L) w) (hl : X.length = n) (hm : n ≤ 1000000) : Mem w0 F (own e 1 (.slice (some ⟨b, 0, none⟩) X.length n) X.length (X.map (Value.int .i64)) :: L) w := by
  subst hl
  exact h.ownPt (cap := X.length) (n := X.length) (sz := 1) (xs := X.map (Value.int .i64)) (by simp [ints]) (by unfold maxLen; omega) (Nat.le_refl _) (by rw [Nat.mul_one]; simp only [ints]; rw [List.take_of_length_le (by simp)])
theorem Mem.ptRs {w0 w : World} {F : Nat → Prop} {L : List Ck} {k b : Nat} {X : List Int} {t : TypeId} (hM : Mem w0 F L w) (hk : ith L k = some (pt b (ints X) t)) (hm : X.length ≤ 1000000) : IntSl w (.slice (some ⟨b, 0, none⟩) X.length X.length) X := by
  refine ⟨_, _, rfl, Nat.le_refl _, by unfold maxLen; omega, (fun h => nomatch h), fun _ => ⟨b, 0, rfl, hM.lt hk, fun i hi => ?_⟩⟩
  rw [Nat.zero_add]
  exact hM.cell hk (by simp [ints, hi])
theorem rs_of {w w' : World} {t : TypeId} {a : Option Addr} {c : Nat} {X : List Int} (hM : Mem w nof [own t 1 (.slice a X.length c) X.length (X.map (Value.int .i64))] w') : IntSl w' (.slice a X.length c) X ∧ Below w.heap.size w w' := ⟨hM.rsl (k := 0) rfl, hM.nilL.below⟩
/-! ### blocks of bools -/
def boo (l : List Bool) : Array Value := (l.map Value.bool).toArray
theorem made_boo (n : Nat) : madeCells #[.bool false] n = boo (List.replicate n false) := by
  apply Array.ext'
  simp only [madeCells, boo, List.map_replicate]
  refine List.ext_getElem (by simp) fun i h1 h2 => ?_
  simp [Nat.mod_one]
theorem boo_get (l : List Bool) (o : Nat) (h : o < l.length) : (boo l)[o]? = some (.bool (l.getD o false)) := by simp [boo, h]
theorem boo_set (l : List Bool) (o : Nat) (v : Bool) : (boo l).setIfInBounds o (.bool v) = boo (l.set o v) := by simp [boo]
section
variable {P : Program} {l : List (Nat × Value)} {w w0 : World} {ty : TypeId} {x y z : Operand} {k k' : IntKind} {m n : Int} {t yt e : TypeId} {nn : Nat} {a : Act} {ops : Array Oper} {Q : Exit → Act → World → Prop} {rest : List Oper} {F : Nat → Prop} {L : List Ck} {d : Nat} {pos : String} {aft : Array Edge}
/-- make of m elements with room for n -/
theorem S.makeC {j : TypeInfo} {z : Value} (hA : St nn l a) (hM : Mem w0 F L w) (ht : P.underlying t = some (.slice e)) (hi : P.info? e = some j) (hz : j.zero = some z) (hx : opv l x = some (.int k m)) (hy : opv l y = some (.int k' n)) (h0 : 0 ≤ m ∧ m ≤ n) (hb : (j.bytes : Int) * n ≤ 281474976710656) (h1 : n ≤ 9223372036854775807) (hd : Nat.blt d nn = true)
    (h : ∀ b w', w0.heap.size ≤ b → Mem w0 F (pt b (madeCells z.cells (n.toNat * j.size)) e :: L) w' → ∀ a, St nn ((d, .slice (some ⟨b, 0, none⟩) m.toNat n.toNat) :: l) a → wpList P ops Q rest a w') :
    wpList P ops Q ({ dst := some d, op := .makeSlice t x y, type := ty, pos, after := aft, guard := none } :: rest) a w := by
  have hr := run_make (P := P) w t e j z ht hi hz k k' m n h0.1 h0.2 hb h1
  exact S.val hA (v := .slice (some ⟨w.heap.size, 0, none⟩) m.toNat n.toNat) (fun ev h _ _ _ _ => by simp [execOp, h _ _ hx, h _ _ hy, hr]) hd (h _ _ hM.size (hM.alloc _ _))
end
theorem Mem.keepB {w0 w : World} {L : List Ck} {b : Nat} {o : Obj} (hM : Mem w0 nof L w) (h : w0.heap[b]? = some o) : w.heap[b]? = some o := by
  rw [hM.below.block b (Array.getElem?_eq_some_iff.1 h).1]; exact h
end Go.Proofs.Ytlkemphhbamcfaa
