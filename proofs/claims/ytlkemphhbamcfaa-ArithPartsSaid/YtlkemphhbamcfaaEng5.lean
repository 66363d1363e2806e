/-
  Blocks whose cells are a term: read and written whole. It holds of every program; nothing is assumed.
-/
import Derived.Test.YtlkemphhbamcfaaEng4
namespace Go.Proofs.Ytlkemphhbamcfaa
open Go.RowKit

theorem spl_all : ∀ (pre vs : List Value) (cs : List Value), vs.length = cs.length → spl (pre ++ cs).toArray pre.length vs = (pre ++ vs).toArray
  | pre, [], [], _ => rfl
  | pre, v :: vs, c :: cs, h => by
    have h' : vs.length = cs.length := by simpa using h
    have e : (pre ++ c :: cs).toArray.setIfInBounds pre.length v = ((pre ++ [v]) ++ cs).toArray := by
      apply Array.toList_inj.1
      simp
    have := spl_all (pre ++ [v]) vs cs h'
    rw [spl, e]
    simp only [List.length_append, List.length_cons, List.length_nil, Nat.zero_add] at this
    rw [this]; simp
theorem spl_whole (cs vs : Array Value) (h : vs.size = cs.size) : spl cs 0 vs.toList = vs := by
  have := spl_all [] vs.toList cs.toList (by simpa using h)
  simpa using this

section
variable {P : Program} {R : Ending → World → Prop} {f : FuncId} {a : Act} {w w0 : World} {n : Nat} {l : List (Nat × Value)} {ops : Array Oper} {Q : Exit → Act → World → Prop} {rest : List Oper} {F : Nat → Prop} {L : List Ck}
  {S : World → Prop} {os : List Oper} {is : Ordt} {b0 : Bool} {i last : Nat} {d : Nat} {t ty : TypeId} {x y : Operand} {pos : String} {aft : Array Edge}
theorem R.loadW {k b sz : Nat} {cs : Array Value} {t' : TypeId} (hM : Mem w0 F L w) (hi : szOf P t = some (true, sz)) (hx : opv l x = some (.pointer (some ⟨b, 0, none⟩))) (hk : ith L k = some (pt b cs t')) (hn : cs.size = sz) : Run P l w (.load t x) ty (.agg cs) w := by
  have hk' : ith L k = some (pt b cs.toList.toArray t') := by simpa using hk
  have := R.loadA (P := P) (ty := ty) hi hx (hM.range hk') (by simpa using hn)
  simpa using this
theorem S.storeW {k b sz : Nat} {cs vs : Array Value} {t' : TypeId} (hA : St n l a) (hM : Mem w0 F L w) (hi : szOf P t = some (true, sz)) (hx : opv l x = some (.pointer (some ⟨b, 0, none⟩))) (hy : opv l y = some (.agg vs)) (hn : vs.size = sz) (h1 : allOne vs.toList = true)
    (hk : ith L k = some (pt b cs t')) (hs : cs.size = sz) (h : ∀ w', Mem w0 F (setAt L k (pt b vs t')) w' → wpList P ops Q rest a w') :
    wpList P ops Q ({ dst := none, op := .store t x y, type := ty, pos, after := aft, guard := none } :: rest) a w := by
  refine S.storeA (vs := vs.toList) hA hM hi hx (by simpa using hy) (by simpa using hn) h1 hk (by rw [Nat.zero_add, Array.length_toList, hn, hs]; simp) (fun w' hM' => h w' ?_)
  rwa [spl_whole _ _ (hn.trans hs.symm)] at hM'
theorem D.storeW {k b sz : Nat} {cs vs : Array Value} {t' : TypeId} (hA : St n l a) (hM : Mem w0 F L w) (ho : ith os i = some { dst := none, op := .store t x y, type := ty, pos, after := aft, guard := none })
    (hi : szOf P t = some (true, sz)) (hx : opv l x = some (.pointer (some ⟨b, 0, none⟩))) (hy : opv l y = some (.agg vs)) (hn : vs.size = sz) (h1 : allOne vs.toList = true)
    (hk : ith L k = some (pt b cs t')) (hs : cs.size = sz) (h : ∀ w', Mem w0 F (setAt L k (pt b vs t')) w' → (b0 = false → i ≠ last → S w') ∧ wpOrd P last os Q S (b0 || Nat.beq i last) is a w') : wpOrd P last os Q S b0 (.cons (i, false) is) a w := by
  refine D.storeA (vs := vs.toList) hA hM ho hi hx (by simpa using hy) (by simpa using hn) h1 hk (by rw [Nat.zero_add, Array.length_toList, hn, hs]; simp) (fun w' hM' => h w' ?_)
  rwa [spl_whole _ _ (hn.trans hs.symm)] at hM'
theorem Ends.retW {fn : Func} {k b p sz : Nat} {cs : Array Value} {t' : TypeId} {kk : List Item} (hf : P.funcs[f]? = some fn) (hr : fn.results = #[.cell p t]) (hA : St n l a) (hM : Mem w0 F L w) (hp : lk l p = some (.pointer (some ⟨b, 0, none⟩)))
    (hk : ith L k = some (pt b cs t')) (hi : szOf P t = some (true, sz)) (hn : cs.size = sz) (hR : R (.returned (.agg cs)) w) : Ends P f R (.code .ret :: kk) a w := by
  obtain ⟨e, j, hd, hj, hrow, hsz⟩ := szOf_spec hi
  refine Ends.to_ret hf hA.defers ?_ hR
  exact results_cell_row hr a.tmps w b t' cs (0, 0) e (hA.getD hp) (hM.block hk) hd (by cases e <;> first | rfl | cases hrow) (by simp [hj, hsz, hn])
end
end Go.Proofs.Ytlkemphhbamcfaa
