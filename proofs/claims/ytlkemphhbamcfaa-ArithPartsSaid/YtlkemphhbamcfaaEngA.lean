/-
  More of append and of parts of slices. It holds of every program; nothing is assumed.
-/
import Derived.Test.YtlkemphhbamcfaaTake
import Derived.Test.YtlkemphhbamcfaaEngO
namespace Go.Proofs.Ytlkemphhbamcfaa
open Go.RowKit
section
variable {P : Program} {l : List (Nat × Value)} {w : World} {ty : TypeId} {x y z : Operand} {k k' : IntKind} {m n : Int} {t yt : TypeId}
/-- s[lo:], of elements of one cell -/
theorem R.sliceL {e : TypeId} {g o len cap lo : Nat} {j : TypeInfo} (ht : P.underlying t = some (.slice e)) (hj : P.info? e = some j) (h1 : j.size = 1) (hx : opv l x = some (.slice (some ⟨g, o, none⟩) len cap)) (hy : opv l y = some (.int k n)) (hn : n = (lo : Int)) (hc : lo ≤ len) (hcc : len ≤ cap) :
    Run P l w (.slice t x (some y) none none) ty (.slice (some ⟨g, if cap = lo then o else o + lo, none⟩) (len - lo) (cap - lo)) w := fun ev hev _ _ _ _ => by
  subst hn
  have hlt : lo ≤ cap := by omega
  have h1' : (Instr.slice t (.slice (some ⟨g, o, none⟩) len cap) (some (.int k (lo : Int))) none none).run P w = .ok (.slice (some ⟨g, if cap = lo then o else o + lo, none⟩) (len - lo) (cap - lo)) w := by
    simp only [Instr.slice, Sem.run_bind, run_underlying ht, Result.andThen_ok, Instr.sliceBounds, Instr.sliceBound, asIntOf, Sem.run_pure]
    simp [hc, hcc, hlt, run_sizeOf_of hj, h1, Addr.add]
    repeat' split
    all_goals first | rfl | omega | (simp_all; done)
  have h2 : (Instr.sliceAt t (.slice (some ⟨g, o, none⟩) len cap) (some (.int k (lo : Int))) none none).run P w = .ok (.slice (some ⟨g, if cap = lo then o else o + lo, none⟩) (len - lo) (cap - lo)) w := by
    unfold Instr.sliceAt
    simp only [Sem.run_bind, run_underlying ht, Result.andThen_ok]
    exact h1'
  simp [execOp, hev _ _ hx, hev _ _ hy, h2]
end
section
variable {P : Program} {R : Ending → World → Prop} {f : FuncId} {a : Act} {w w0 : World} {nn : Nat} {l : List (Nat × Value)} {ops : Array Oper} {Q : Exit → Act → World → Prop} {rest : List Oper} {F : Nat → Prop} {L : List Ck}
  {S : World → Prop} {os : List Oper} {is : Ordt} {b0 : Bool} {i last : Nat} {d : Nat} {t e ty : TypeId} {x y : Operand} {pos : String} {aft : Array Edge}
theorem S.appendG {k n m c sz bytes : Nat} {v z : Value} {xs news : List Value} {p : Addr} {j : TypeInfo} (hA : St nn l a) (hM : Mem w0 F L w) (hk : ith L k = some (own e sz v n xs)) (ht : P.underlying t = some (.slice e)) (hi : P.info? e = some j) (hz : j.zero = some z) (hsz : j.size = sz) (hby : j.bytes = bytes) (hzs : z.cells.size = sz) (hps : Nat.blt 0 sz = true)
    (hx : opv l x = some v) (hy : opv l y = some (.slice (some p) m c)) (hl : news.length = m * sz) (hnews : ∀ j u, news[j]? = some u → w.cell? (p.add j) = some u) (h1 : allOne news = true) (hmax : n + m ≤ maxLen) (hbs : (n + m) * bytes ≤ 140737488355328) (hd : Nat.blt d nn = true)
    (h : ∀ a' cap' w', Mem w0 F (setAt L k (own e sz (.slice a' (n + m) cap') (n + m) (xs ++ news))) w' → ∀ a, St nn ((d, .slice a' (n + m) cap') :: l) a → wpList P ops Q rest a w') :
    wpList P ops Q ({ dst := some d, op := .call { callee := .builtin .append, args := #[x, y], argTypes := #[t, t] }, type := ty, pos, after := aft, guard := none } :: rest) a w := by
  obtain ⟨a', cap', w', hr, hM'⟩ := R.append (P := P) (ty := ty) (t := t) hM hk ht hi hz hsz hby hzs hps hx hy hl hnews h1 hmax hbs
  exact S.val hA hr hd (h a' cap' w' hM')
theorem D.appendG {k n m c sz bytes : Nat} {v z : Value} {xs news : List Value} {p : Addr} {j : TypeInfo} (hA : St nn l a) (hM : Mem w0 F L w) (ho : ith os i = some { dst := some d, op := .call { callee := .builtin .append, args := #[x, y], argTypes := #[t, t] }, type := ty, pos, after := aft, guard := none })
    (hk : ith L k = some (own e sz v n xs)) (ht : P.underlying t = some (.slice e)) (hi : P.info? e = some j) (hz : j.zero = some z) (hsz : j.size = sz) (hby : j.bytes = bytes) (hzs : z.cells.size = sz) (hps : Nat.blt 0 sz = true)
    (hx : opv l x = some v) (hy : opv l y = some (.slice (some p) m c)) (hl : news.length = m * sz) (hnews : ∀ j u, news[j]? = some u → w.cell? (p.add j) = some u) (h1 : allOne news = true) (hmax : n + m ≤ maxLen) (hbs : (n + m) * bytes ≤ 140737488355328) (hd : Nat.blt d nn = true)
    (h : ∀ a' cap' w', Mem w0 F (setAt L k (own e sz (.slice a' (n + m) cap') (n + m) (xs ++ news))) w' → S w' ∧ ∀ a, St nn ((d, .slice a' (n + m) cap') :: l) a → wpOrd P last os Q S b0 is a w') : wpOrd P last os Q S b0 (.cons (i, false) is) a w := by
  obtain ⟨a', cap', w', hr, hM'⟩ := R.append (P := P) (ty := ty) (t := t) hM hk ht hi hz hsz hby hzs hps hx hy hl hnews h1 hmax hbs
  have g := h a' cap' w' hM'
  exact D.eff hA ho hr hd g.1 g.2
theorem D.buildSl0 {j : TypeInfo} (hA : St nn l a) (hM : Mem w0 F L w) (ho : ith os i = some { dst := some d, op := .buildSlice t 0 #[], type := ty, pos, after := aft, guard := none }) (ht : P.underlying t = some (.slice e)) (hi : P.info? e = some j) (hd : Nat.blt d nn = true)
    (h : ∀ b w', w0.heap.size ≤ b → Mem w0 F (pt b #[] e :: L) w' → S w' ∧ ∀ a, St nn ((d, .slice (some ⟨b, 0, none⟩) 0 0) :: l) a → wpOrd P last os Q S b0 is a w') : wpOrd P last os Q S b0 (.cons (i, false) is) a w :=
  have g := h _ _ hM.size (hM.alloc _ _)
  D.eff hA ho (R.buildSl0 ht hi) hd g.1 g.2
theorem mapi_take (X : List Int) (j : Nat) (u : Value) (h : (X.map (Value.int .i64))[j]? = some u) : j < X.length ∧ u = .int .i64 (X.getD j 0) := by
  rw [List.getElem?_map] at h
  cases hx : X[j]? with
  | none => rw [hx] at h; cases h
  | some v =>
    rw [hx] at h
    obtain ⟨h1, h2⟩ := List.getElem?_eq_some_iff.1 hx
    refine ⟨h1, ?_⟩
    rw [List.getD_eq_getElem?_getD, hx]
    exact (Option.some.inj h).symm
/-- append of a slice of ints that is read. -/
theorem S.appendI {k n bytes cap : Nat} {v z : Value} {xs : List Value} {X : List Int} {ad : Option Addr} {j : TypeInfo} (hA : St nn l a) (hM : Mem w0 F L w) (hk : ith L k = some (own e 1 v n xs)) (hX : IntSl w (.slice ad X.length cap) X) (ht : P.underlying t = some (.slice e)) (hi : P.info? e = some j) (hz : j.zero = some z) (hsz : j.size = 1) (hby : j.bytes = bytes) (hzs : z.cells.size = 1)
    (hx : opv l x = some v) (hy : opv l y = some (.slice ad X.length cap)) (hmax : n + X.length ≤ maxLen) (hbs : (n + X.length) * bytes ≤ 140737488355328) (hd : Nat.blt d nn = true)
    (h : ∀ a' cap' w', Mem w0 F (setAt L k (own e 1 (.slice a' (n + X.length) cap') (n + X.length) (xs ++ X.map (Value.int .i64)))) w' → ∀ a, St nn ((d, .slice a' (n + X.length) cap') :: l) a → wpList P ops Q rest a w') :
    wpList P ops Q ({ dst := some d, op := .call { callee := .builtin .append, args := #[x, y], argTypes := #[t, t] }, type := ty, pos, after := aft, guard := none } :: rest) a w := by
  obtain ⟨ad', cap', he, hle, hmx, hnn, hc⟩ := hX
  injection he with he1 he2 he3
  subst he1 he3
  cases ad with
  | none =>
    have h0 := hnn rfl
    subst h0
    have hX0 : X = [] := List.length_eq_zero_iff.1 (by omega)
    subst hX0
    have hr := run_append_owned_none (P := P) w 0 t ty e j 1 ht hi v n xs (hM.mem hk)
    obtain ⟨a', c', rfl, -⟩ := own_form (hM.mem hk)
    refine S.val hA (v := .slice a' n c') (w' := w) (fun ev h _ _ _ _ => by simp only [List.length_nil] at hy; simp [execOp, resolve, invoke, builtin, h _ _ hx, h _ _ hy, hr]) hd ?_
    refine h a' c' w ?_
    have e1 : setAt L k (own e 1 (.slice a' (n + ([] : List Int).length) c') (n + ([] : List Int).length) (xs ++ List.map (Value.int .i64) [])) = L := by
      rw [List.map_nil, List.append_nil]
      have : ∀ (l : List Ck) (i : Nat) (x : Ck), ith l i = some x → setAt l i x = l := by
        intro l
        induction l with
        | nil => intro i x _; rfl
        | cons z zs ih =>
          intro i x hh
          cases i with
          | zero => have : z = x := by simpa [ith] using hh
                    rw [← this]; rfl
          | succ i => show z :: setAt zs i x = z :: zs; rw [ih i x hh]
      exact this L k _ hk
    rw [e1]; exact hM
  | some p =>
    refine S.appendG hA hM hk ht hi hz hsz hby hzs (by decide) hx hy (by simp) (fun j u hu => ?_) (allOne_ints X) hmax hbs hd h
    obtain ⟨hj, rfl⟩ := mapi_take X j u hu
    obtain ⟨b, off, hb, hlt, hcell⟩ := hc (by intro e0; rw [e0] at hj; simp at hj)
    cases hb
    rw [Addr.add_lit]; exact hcell j hj
end
end Go.Proofs.Ytlkemphhbamcfaa
