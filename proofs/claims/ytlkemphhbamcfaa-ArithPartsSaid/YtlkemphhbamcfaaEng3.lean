/-
  What is known of memory: chunks, each with the blocks that it stands on; what a step does to them. It holds of every program; nothing is assumed.
-/
import Derived.Test.YtlkemphhbamcfaaEng2
namespace Go.Proofs.Ytlkemphhbamcfaa
open Go.RowKit

/-- Something that is known of some blocks, and of them alone. -/
structure Ck where
  foot : Nat → Prop
  holds : World → Prop
  loc : ∀ w w' : World, (∀ b, foot b → w'.heap[b]? = w.heap[b]?) → holds w → holds w'

/-- A block that is known whole. -/
def pt (b : Nat) (cs : Array Value) (t : TypeId) : Ck :=
  ⟨fun c => c = b, fun w => w.heap[b]? = some (.cells cs t (0, 0)), fun w w' h hw => by rw [h b rfl]; exact hw⟩

/-- The blocks of a call that may write none of those that were there. -/
def nof : Nat → Prop := fun _ => False

/-- Of what was there at w0 only the blocks in F may have turned; the chunks hold, each on blocks of its own. -/
structure Mem (w0 : World) (F : Nat → Prop) (L : List Ck) (w : World) : Prop where
  os : w.os = w0.os
  tape : w.tape = w0.tape
  output : w.output = w0.output
  size : w0.heap.size ≤ w.heap.size
  old : ∀ b, b < w0.heap.size → ¬ F b → w.heap[b]? = w0.heap[b]?
  holds : ∀ c ∈ L, c.holds w
  inb : ∀ c ∈ L, ∀ b, c.foot b → b < w.heap.size ∧ (b < w0.heap.size → F b)
  apart : L.Pairwise fun c d => ∀ b, c.foot b → ¬ d.foot b

section
variable {w0 w w' : World} {F F' : Nat → Prop} {L L' : List Ck} {c d : Ck}

theorem Mem.start (w : World) : Mem w nof [] w := ⟨rfl, rfl, rfl, Nat.le_refl _, fun _ _ _ => rfl, fun _ h => (by cases h), fun _ h => (by cases h), .nil⟩
theorem Mem.below (h : Mem w0 nof L w) : Below w0.heap.size w0 w := ⟨h.os, h.tape, h.output, h.size, fun b hb => h.old b hb (fun f => f)⟩
theorem Mem.of_below (h : Below w0.heap.size w0 w) : Mem w0 nof [] w := ⟨h.os, h.tape, h.output, h.size, fun b hb _ => h.block b hb, fun _ h => (by cases h), fun _ h => (by cases h), .nil⟩
theorem Mem.drew (h : Mem w0 F L w) : Mem w0 F L w.drew := ⟨h.os, h.tape, h.output, h.size, h.old, fun c hc => c.loc w w.drew (fun _ _ => rfl) (h.holds c hc), h.inb, h.apart⟩
theorem Mem.undrew (h : Mem w0 F L w.drew) : Mem w0 F L w := ⟨h.os, h.tape, h.output, h.size, h.old, fun c hc => c.loc w.drew w (fun _ _ => rfl) (h.holds c hc), h.inb, h.apart⟩
theorem Mem.sub (h : Mem w0 F L w) (hs : L'.Sublist L) : Mem w0 F L' w :=
  ⟨h.os, h.tape, h.output, h.size, h.old, fun c hc => h.holds c (hs.mem hc), fun c hc => h.inb c (hs.mem hc), h.apart.sublist hs⟩
theorem Mem.tail (h : Mem w0 F (c :: L) w) : Mem w0 F L w := h.sub (List.sublist_cons_self _ _)
theorem Mem.nilL (h : Mem w0 F L w) : Mem w0 F [] w := h.sub (List.nil_sublist _)
theorem Mem.perm (h : Mem w0 F L w) (hp : L.Perm L') : Mem w0 F L' w :=
  ⟨h.os, h.tape, h.output, h.size, h.old, fun c hc => h.holds c (hp.mem_iff.2 hc), fun c hc => h.inb c (hp.mem_iff.2 hc), hp.pairwise h.apart (fun h b hc hd => h b hd hc)⟩
theorem Mem.mem (h : Mem w0 F L w) {k : Nat} (hk : ith L k = some c) : c.holds w :=
  h.holds c (List.mem_of_getElem? (by rw [← ith_eq]; exact hk))
theorem Mem.block (h : Mem w0 F L w) {k b : Nat} {cs : Array Value} {t : TypeId} (hk : ith L k = some (pt b cs t)) : w.heap[b]? = some (.cells cs t (0, 0)) := h.mem hk
theorem Mem.lt (h : Mem w0 F L w) {k b : Nat} {cs : Array Value} {t : TypeId} (hk : ith L k = some (pt b cs t)) : b < w.heap.size :=
  ((h.inb _ (List.mem_of_getElem? (by rw [← ith_eq]; exact hk))) b rfl).1
theorem Mem.new (h : Mem w0 nof L w) {k b : Nat} {cs : Array Value} {t : TypeId} (hk : ith L k = some (pt b cs t)) : w0.heap.size ≤ b := by
  rcases Nat.lt_or_ge b w0.heap.size with g | g
  · exact ((h.inb _ (List.mem_of_getElem? (by rw [← ith_eq]; exact hk))) b rfl).2 g |>.elim
  · exact g
theorem Mem.cell (h : Mem w0 F L w) {k b i : Nat} {cs : Array Value} {t : TypeId} {v : Value} (hk : ith L k = some (pt b cs t)) (hv : cs[i]? = some v) : w.cell? ⟨b, i, none⟩ = some v := by
  simp [World.cell?, h.block hk, hv]
theorem Mem.free (h : Mem w0 F L w) {k b : Nat} (i : Nat) {cs : Array Value} {t : TypeId} (hk : ith L k = some (pt b cs t)) : w.frozen? ⟨b, i, none⟩ = false := by
  simp [World.frozen?, h.block hk]
/-- A cell that was there at w0. -/
theorem Mem.cell0 (h : Mem w0 F L w) {b i : Nat} {v : Value} (hc : w0.cell? ⟨b, i, none⟩ = some v) (hF : ¬ F b) : w.cell? ⟨b, i, none⟩ = some v := by
  have hlt := World.block_lt_of_cell? w0 _ hc
  rw [← hc]
  exact World.cell?_of_block (h.old b hlt hF)
theorem Mem.range (h : Mem w0 F L w) {k b : Nat} {cs : List Value} {t : TypeId} (hk : ith L k = some (pt b cs.toArray t)) : w.rangeAt b 0 cs := fun j v hv => by
  rw [Nat.zero_add]; exact h.cell hk (by simpa using hv)

/-- A new block. -/
theorem Mem.alloc (h : Mem w0 F L w) (cs : Array Value) (t : TypeId) : Mem w0 F (pt w.heap.size cs t :: L) (w.alloc (.cells cs t)) := by
  have hold : ∀ b, b < w.heap.size → (w.alloc (.cells cs t)).heap[b]? = w.heap[b]? := fun b hb => Below.heap_alloc w _ b hb
  refine ⟨h.os, h.tape, h.output, by have := h.size; simp; omega, fun b hb hF => by rw [hold b (Nat.lt_of_lt_of_le hb h.size)]; exact h.old b hb hF, ?_, ?_, ?_⟩
  · intro c hc
    rcases List.mem_cons.1 hc with rfl | hc
    · exact heap_alloc_new w _
    · exact c.loc w _ (fun b hb => hold b (h.inb c hc b hb).1) (h.holds c hc)
  · intro c hc b hb
    rcases List.mem_cons.1 hc with rfl | hc
    · have e : b = w.heap.size := hb
      subst e
      exact ⟨by simp, fun g => absurd h.size (by omega)⟩
    · have := h.inb c hc b hb
      exact ⟨by simp; omega, this.2⟩
  · refine List.pairwise_cons.2 ⟨fun d hd b hb hdb => ?_, h.apart⟩
    have e : b = w.heap.size := hb
    have := (h.inb d hd b hdb).1
    omega

/-- The list with another chunk at a place. -/
def setAt {α : Type} : List α → Nat → α → List α
  | [], _, _ => []
  | _ :: xs, 0, y => y :: xs
  | x :: xs, i + 1, y => x :: setAt xs i y
theorem setAt_eq {α : Type} : ∀ (l : List α) (i : Nat) (y : α), setAt l i y = l.set i y
  | [], _, _ => rfl
  | _ :: _, 0, _ => rfl
  | x :: xs, i + 1, y => by simp [setAt, setAt_eq xs i y]

/-- A chunk turns into another on the same blocks; nothing else turns. -/
theorem Mem.turn (h : Mem w0 F L w) {k : Nat} (hk : ith L k = some c) (hf : ∀ b, d.foot b → c.foot b) (hd : d.holds w') (ho : w'.os = w.os) (ht : w'.tape = w.tape) (hu : w'.output = w.output) (hz : w'.heap.size = w.heap.size)
    (hb : ∀ b, b < w.heap.size → ¬ c.foot b → w'.heap[b]? = w.heap[b]?) : Mem w0 F (setAt L k d) w' := by
  rw [ith_eq] at hk
  rw [setAt_eq]
  obtain ⟨hlt, hck⟩ := List.getElem?_eq_some_iff.1 hk
  have hcm : c ∈ L := List.mem_of_getElem? hk
  have hother : ∀ j (hj : j < L.length), j ≠ k → ∀ b, L[j].foot b → ¬ c.foot b := by
    intro j hj hjk b hjb hcb
    rcases Nat.lt_or_gt_of_ne hjk with g | g
    · exact (List.pairwise_iff_getElem.1 h.apart j k hj hlt g) b hjb (hck ▸ hcb)
    · exact (List.pairwise_iff_getElem.1 h.apart k j hlt hj g) b (hck ▸ hcb) hjb
  have hmem : ∀ e ∈ L.set k d, e = d ∨ ∃ j, ∃ hj : j < L.length, j ≠ k ∧ L[j] = e := by
    intro e he
    obtain ⟨j, hj⟩ := List.getElem?_of_mem he
    rw [List.getElem?_set] at hj
    split at hj
    · left; simpa using hj.symm
    · rename_i hne
      obtain ⟨hj1, hj2⟩ := List.getElem?_eq_some_iff.1 hj
      exact .inr ⟨j, hj1, fun e => hne e.symm, hj2⟩
  refine ⟨ho.trans h.os, ht.trans h.tape, hu.trans h.output, by rw [hz]; exact h.size, fun b hlt' hF => ?_, ?_, ?_, ?_⟩
  · rw [hb b (Nat.lt_of_lt_of_le hlt' h.size) (fun hc => hF ((h.inb c hcm b hc).2 hlt'))]
    exact h.old b hlt' hF
  · intro e he
    rcases hmem e he with rfl | ⟨j, hj, hjk, rfl⟩
    · exact hd
    · exact L[j].loc w w' (fun b hjb => hb b (h.inb _ (List.getElem_mem hj) b hjb).1 (hother j hj hjk b hjb)) (h.holds _ (List.getElem_mem hj))
  · intro e he b heb
    rw [hz]
    rcases hmem e he with rfl | ⟨j, hj, hjk, rfl⟩
    · exact h.inb c hcm b (hf b heb)
    · exact h.inb _ (List.getElem_mem hj) b heb
  · refine List.pairwise_iff_getElem.2 fun i j hi hj hij b hb1 hb2 => ?_
    simp only [List.length_set] at hi hj
    rw [List.getElem_set] at hb1 hb2
    split at hb1
    · rename_i e; subst e
      split at hb2
      · omega
      · exact hother j hj (by omega) b hb2 (hf b hb1)
    · split at hb2
      · rename_i e; subst e
        exact hother i hi (by omega) b hb1 (hf b hb2)
      · exact (List.pairwise_iff_getElem.1 h.apart i j hi hj hij) b hb1 hb2

theorem heap_setCell_at {w : World} {b : Nat} {cs : Array Value} {t : TypeId} (h : w.heap[b]? = some (.cells cs t (0, 0))) (i : Nat) (v : Value) : (w.setCell ⟨b, i, none⟩ v).heap[b]? = some (.cells (cs.setIfInBounds i v) t (0, 0)) := by
  have hlt := lt_of_block h
  have h' : w.heap[b] = .cells cs t (0, 0) := by simpa [Array.getElem?_eq_getElem hlt] using h
  show (w.heap.modify b _)[b]? = _
  rw [Array.getElem?_eq_getElem (by simpa using hlt), Array.getElem_modify_self, h']
  rfl
/-- A store into a block that is known whole. -/
theorem Mem.store (h : Mem w0 F L w) {k b : Nat} {cs : Array Value} {t : TypeId} (hk : ith L k = some (pt b cs t)) (i : Nat) (v : Value) : Mem w0 F (setAt L k (pt b (cs.setIfInBounds i v) t)) (w.setCell ⟨b, i, none⟩ v) :=
  h.turn (c := pt b cs t) hk (fun _ h => h) (heap_setCell_at (h.block hk) i v) rfl rfl rfl (by simp) (fun c _ hc => Below.heap_setCell w _ _ _ hc)

/-- The cells from a place on are others. -/
def spl : Array Value → Nat → List Value → Array Value
  | cs, _, [] => cs
  | cs, o, v :: vs => spl (cs.setIfInBounds o v) (o + 1) vs
theorem spl_size : ∀ (vs : List Value) (cs : Array Value) (o : Nat), (spl cs o vs).size = cs.size
  | [], _, _ => rfl
  | v :: vs, cs, o => by rw [spl, spl_size vs]; simp
theorem setAt_setAt {α : Type} : ∀ (l : List α) (k : Nat) (x y : α), setAt (setAt l k x) k y = setAt l k y
  | [], _, _, _ => rfl
  | _ :: _, 0, _, _ => rfl
  | z :: zs, k + 1, x, y => by simp [setAt, setAt_setAt zs k x y]
theorem ith_setAt {α : Type} : ∀ (l : List α) (k : Nat) (x y : α), ith l k = some y → ith (setAt l k x) k = some x
  | [], _, _, _, h => by simp [ith] at h
  | _ :: _, 0, _, _, _ => rfl
  | _ :: zs, k + 1, x, y, h => ith_setAt zs k x y h
theorem Mem.storeA : ∀ (vs : List Value) {w0 w : World} {F : Nat → Prop} {L : List Ck} {k b : Nat} {cs : Array Value} {t : TypeId} (o : Nat), Mem w0 F L w → ith L k = some (pt b cs t) → Mem w0 F (setAt L k (pt b (spl cs o vs) t)) (w.setCells b o vs)
  | [], w0, w, F, L, k, b, cs, t, o, h, hk => by
    have e : setAt L k (pt b cs t) = L := by
      rw [setAt_eq]; rw [ith_eq] at hk
      exact List.ext_getElem? fun j => by
        rw [List.getElem?_set]
        split
        · rename_i e; subst e
          obtain ⟨hlt, -⟩ := List.getElem?_eq_some_iff.1 hk
          rw [hk]; simp [hlt]
        · rfl
    show Mem w0 F (setAt L k (pt b cs t)) w
    rw [e]; exact h
  | v :: vs, w0, w, F, L, k, b, cs, t, o, h, hk => by
    have h1 := h.store hk o v
    have h2 := Mem.storeA vs (o + 1) h1 (ith_setAt _ _ _ _ hk)
    rw [setAt_setAt] at h2
    exact h2
theorem Mem.part (h : Mem w0 F L w) {k b : Nat} {cs : List Value} {t : TypeId} (hk : ith L k = some (pt b cs.toArray t)) (o n : Nat) {ds : List Value} (hd : (cs.drop o).take n = ds) : w.rangeAt b o ds := fun j v hv => by
  subst hd
  refine h.cell hk ?_
  have hj : j < n := by
    rcases Nat.lt_or_ge j n with g | g
    · exact g
    · rw [List.getElem?_eq_none (by simp; omega)] at hv; cases hv
  rw [List.getElem?_take, if_pos hj, List.getElem?_drop] at hv
  simpa using hv
theorem Mem.there (h : Mem w0 F L w) {k b : Nat} {cs : Array Value} {t : TypeId} (hk : ith L k = some (pt b cs t)) {o n : Nat} (hn : Nat.ble (o + n) cs.size = true) : w.there b o n := fun j hj => by
  have hle : o + n ≤ cs.size := Nat.le_of_ble_eq_true hn
  refine ⟨?_, h.free _ hk⟩
  rw [h.cell hk (v := cs[o + j]'(by omega)) (by rw [Array.getElem?_eq_getElem])]
  rfl
def allOne : List Value → Bool
  | [] => true
  | v :: vs => v.oneCell' && allOne vs
theorem allOne_spec : ∀ (vs : List Value), allOne vs = true → vs.toArray.all (·.oneCell') = true
  | [], _ => by simp
  | v :: vs, h => by
    simp only [allOne, Bool.and_eq_true] at h
    have := allOne_spec vs h.2
    simp only [List.all_toArray, List.all_cons, h.1, Bool.true_and] at this ⊢
    exact this

/-- What a call leaves that may write nothing that was there: its new chunks beside the old ones. -/
theorem Mem.call (h : Mem w0 F L w) (hn : Mem w nof L' w') : Mem w0 F (L' ++ L) w' := by
  have hkeep : ∀ b, b < w.heap.size → w'.heap[b]? = w.heap[b]? := fun b hb => hn.old b hb (fun f => f)
  refine ⟨hn.os.trans h.os, hn.tape.trans h.tape, hn.output.trans h.output, Nat.le_trans h.size hn.size, fun b hb hF => by rw [hkeep b (Nat.lt_of_lt_of_le hb h.size)]; exact h.old b hb hF, ?_, ?_, ?_⟩
  · intro c hc
    rcases List.mem_append.1 hc with hc | hc
    · exact hn.holds c hc
    · exact c.loc w w' (fun b hb => hkeep b (h.inb c hc b hb).1) (h.holds c hc)
  · intro c hc b hb
    rcases List.mem_append.1 hc with hc | hc
    · have := hn.inb c hc b hb
      refine ⟨this.1, fun g => ?_⟩
      exact (this.2 (Nat.lt_of_lt_of_le g h.size)).elim
    · have := h.inb c hc b hb
      exact ⟨Nat.lt_of_lt_of_le this.1 hn.size, this.2⟩
  · refine List.pairwise_append.2 ⟨hn.apart, h.apart, fun c hc d hd b hcb hdb => ?_⟩
    have h1 := hn.inb c hc b hcb
    have h2 := h.inb d hd b hdb
    exact h1.2 h2.1
theorem Mem.callB (h : Mem w0 F L w) (hn : Below w.heap.size w w') : Mem w0 F L w' := h.call (Mem.of_below hn)
/-- What a call leaves that may write the chunk at a place, and nothing else that was there. -/
theorem Mem.callW (h : Mem w0 F L w) {k : Nat} (hk : ith L k = some c) (hn : Mem w F' L' w') (hF : ∀ b, F' b → c.foot b) : Mem w0 F (L' ++ L.eraseIdx k) w' := by
  rw [ith_eq] at hk
  obtain ⟨hlt, hck⟩ := List.getElem?_eq_some_iff.1 hk
  have hcm : c ∈ L := List.mem_of_getElem? hk
  have hkeep : ∀ b, b < w.heap.size → ¬ c.foot b → w'.heap[b]? = w.heap[b]? := fun b hb hc => hn.old b hb (fun f => hc (hF b f))
  have hother : ∀ e ∈ L.eraseIdx k, e ∈ L ∧ ∀ b, e.foot b → ¬ c.foot b := by
    intro e he
    obtain ⟨j, hj⟩ := List.getElem?_of_mem he
    rw [List.getElem?_eraseIdx] at hj
    split at hj
    · rename_i hjk
      obtain ⟨hj1, hj2⟩ := List.getElem?_eq_some_iff.1 hj
      exact ⟨List.mem_of_getElem? hj, fun b heb hcb => (List.pairwise_iff_getElem.1 h.apart j k hj1 hlt hjk) b (hj2 ▸ heb) (hck ▸ hcb)⟩
    · obtain ⟨hj1, hj2⟩ := List.getElem?_eq_some_iff.1 hj
      exact ⟨List.mem_of_getElem? hj, fun b heb hcb => (List.pairwise_iff_getElem.1 h.apart k (j + 1) hlt hj1 (by omega)) b (hck ▸ hcb) (hj2 ▸ heb)⟩
  refine ⟨hn.os.trans h.os, hn.tape.trans h.tape, hn.output.trans h.output, Nat.le_trans h.size hn.size, fun b hb hF0 => ?_, ?_, ?_, ?_⟩
  · rw [hkeep b (Nat.lt_of_lt_of_le hb h.size) (fun hc => hF0 ((h.inb c hcm b hc).2 hb))]; exact h.old b hb hF0
  · intro e he
    rcases List.mem_append.1 he with he | he
    · exact hn.holds e he
    · obtain ⟨h1, h2⟩ := hother e he
      exact e.loc w w' (fun b hb => hkeep b (h.inb e h1 b hb).1 (h2 b hb)) (h.holds e h1)
  · intro e he b hb
    rcases List.mem_append.1 he with he | he
    · have := hn.inb e he b hb
      refine ⟨this.1, fun g => ?_⟩
      exact (h.inb c hcm b (hF b (this.2 (Nat.lt_of_lt_of_le g h.size)))).2 g
    · have := h.inb e (hother e he).1 b hb
      exact ⟨Nat.lt_of_lt_of_le this.1 hn.size, this.2⟩
  · refine List.pairwise_append.2 ⟨hn.apart, h.apart.sublist (List.eraseIdx_sublist _ _), fun e he d hd b heb hdb => ?_⟩
    obtain ⟨h1, h2⟩ := hother d hd
    have g1 := hn.inb e he b heb
    have g2 := (h.inb d h1 b hdb).1
    exact h2 b hdb (hF b (g1.2 g2))
end

/-! ### The steps that write or make memory -/
section
variable {P : Program} {R : Ending → World → Prop} {f : FuncId} {a : Act} {w w0 : World} {n : Nat} {l : List (Nat × Value)} {ops : Array Oper} {Q : Exit → Act → World → Prop} {rest : List Oper} {F : Nat → Prop} {L : List Ck}
  {S : World → Prop} {os : List Oper} {is : Ordt} {b0 : Bool} {i last : Nat} {d : Nat} {t ty : TypeId} {x y : Operand} {pos : String} {aft : Array Edge}

theorem S.store {k b o : Nat} {cs : Array Value} {t' : TypeId} {u v : Value} (hA : St n l a) (hM : Mem w0 F L w) (hi : szOf P t = some (false, 1)) (hx : opv l x = some (.pointer (some ⟨b, o, none⟩))) (hy : opv l y = some v) (hv : v.oneCell' = true)
    (hk : ith L k = some (pt b cs t')) (hu : cs[o]? = some u) (h : ∀ w', Mem w0 F (setAt L k (pt b (cs.setIfInBounds o v) t')) w' → wpList P ops Q rest a w') :
    wpList P ops Q ({ dst := none, op := .store t x y, type := ty, pos, after := aft, guard := none } :: rest) a w :=
  S.skip hA (R.store hi hx hy hv (hM.cell hk hu) (hM.free _ hk)) (h _ (hM.store hk o v))
theorem S.storeA {k b o sz : Nat} {cs : Array Value} {t' : TypeId} {vs : List Value} (hA : St n l a) (hM : Mem w0 F L w) (hi : szOf P t = some (true, sz)) (hx : opv l x = some (.pointer (some ⟨b, o, none⟩))) (hy : opv l y = some (.agg vs.toArray)) (hn : vs.length = sz) (h1 : allOne vs = true)
    (hk : ith L k = some (pt b cs t')) (hfit : Nat.ble (o + vs.length) cs.size = true) (h : ∀ w', Mem w0 F (setAt L k (pt b (spl cs o vs) t')) w' → wpList P ops Q rest a w') :
    wpList P ops Q ({ dst := none, op := .store t x y, type := ty, pos, after := aft, guard := none } :: rest) a w :=
  S.skip hA (R.storeA hi hx hy (by simpa using hn) (allOne_spec _ h1) (hM.there hk (by simpa using hfit))) (h _ (by simpa using hM.storeA vs o hk))
theorem S.box {v : Value} (hA : St n l a) (hM : Mem w0 F L w) (hx : opv l x = some v) (hd : Nat.blt d n = true) (h : ∀ b w', w0.heap.size ≤ b → Mem w0 F (pt b v.cells t :: L) w' → ∀ a, St n ((d, .pointer (some ⟨b, 0, none⟩)) :: l) a → wpList P ops Q rest a w') :
    wpList P ops Q ({ dst := some d, op := .box t x, type := ty, pos, after := aft, guard := none } :: rest) a w :=
  S.val hA (R.box hx) hd (h _ _ hM.size (hM.alloc _ _))
theorem S.alloc {j : TypeInfo} {z : Value} (hA : St n l a) (hM : Mem w0 F L w) (hj : P.info? t = some j) (hz : j.zero = some z) (hd : Nat.blt d n = true) (h : ∀ b w', w0.heap.size ≤ b → Mem w0 F (pt b z.cells t :: L) w' → ∀ a, St n ((d, .pointer (some ⟨b, 0, none⟩)) :: l) a → wpList P ops Q rest a w') :
    wpList P ops Q ({ dst := some d, op := .alloc t, type := ty, pos, after := aft, guard := none } :: rest) a w :=
  S.val hA (R.alloc hj hz) hd (h _ _ hM.size (hM.alloc _ _))
theorem D.store {k b o : Nat} {cs : Array Value} {t' : TypeId} {u v : Value} (hA : St n l a) (hM : Mem w0 F L w) (ho : ith os i = some { dst := none, op := .store t x y, type := ty, pos, after := aft, guard := none })
    (hi : szOf P t = some (false, 1)) (hx : opv l x = some (.pointer (some ⟨b, o, none⟩))) (hy : opv l y = some v) (hv : v.oneCell' = true)
    (hk : ith L k = some (pt b cs t')) (hu : cs[o]? = some u) (h : ∀ w', Mem w0 F (setAt L k (pt b (cs.setIfInBounds o v) t')) w' → (b0 = false → i ≠ last → S w') ∧ wpOrd P last os Q S (b0 || Nat.beq i last) is a w') : wpOrd P last os Q S b0 (.cons (i, false) is) a w :=
  have g := h _ (hM.store hk o v)
  D.skip hA ho (R.store hi hx hy hv (hM.cell hk hu) (hM.free _ hk)) g.1 g.2
theorem D.storeA {k b o sz : Nat} {cs : Array Value} {t' : TypeId} {vs : List Value} (hA : St n l a) (hM : Mem w0 F L w) (ho : ith os i = some { dst := none, op := .store t x y, type := ty, pos, after := aft, guard := none })
    (hi : szOf P t = some (true, sz)) (hx : opv l x = some (.pointer (some ⟨b, o, none⟩))) (hy : opv l y = some (.agg vs.toArray)) (hn : vs.length = sz) (h1 : allOne vs = true)
    (hk : ith L k = some (pt b cs t')) (hfit : Nat.ble (o + vs.length) cs.size = true) (h : ∀ w', Mem w0 F (setAt L k (pt b (spl cs o vs) t')) w' → (b0 = false → i ≠ last → S w') ∧ wpOrd P last os Q S (b0 || Nat.beq i last) is a w') : wpOrd P last os Q S b0 (.cons (i, false) is) a w :=
  have g := h (w.setCells b o vs) (hM.storeA vs o hk)
  D.skip hA ho (by simpa using R.storeA hi hx hy (by simpa using hn) (allOne_spec _ h1) (hM.there hk (by simpa using hfit))) g.1 g.2
theorem Ends.retC {fn : Func} {k b p sz : Nat} {cs : List Value} {t' : TypeId} {kk : List Item} (hf : P.funcs[f]? = some fn) (hr : fn.results = #[.cell p t]) (hA : St n l a) (hM : Mem w0 F L w) (hp : lk l p = some (.pointer (some ⟨b, 0, none⟩)))
    (hk : ith L k = some (pt b cs.toArray t')) (hi : szOf P t = some (true, sz)) (hn : cs.length = sz) (hR : R (.returned (.agg cs.toArray)) w) : Ends P f R (.code .ret :: kk) a w := by
  obtain ⟨d, j, hd, hj, hrow, hsz⟩ := szOf_spec hi
  refine Ends.to_ret hf hA.defers ?_ hR
  exact results_cell_row hr a.tmps w b t' cs.toArray (0, 0) d (hA.getD hp) (hM.block hk) hd (by cases d <;> first | rfl | cases hrow) (by simp [hj, hsz, hn])
theorem D.box {v : Value} (hA : St n l a) (hM : Mem w0 F L w) (ho : ith os i = some { dst := some d, op := .box t x, type := ty, pos, after := aft, guard := none }) (hx : opv l x = some v) (hd : Nat.blt d n = true)
    (h : ∀ b w', w0.heap.size ≤ b → Mem w0 F (pt b v.cells t :: L) w' → S w' ∧ ∀ a, St n ((d, .pointer (some ⟨b, 0, none⟩)) :: l) a → wpOrd P last os Q S b0 is a w') : wpOrd P last os Q S b0 (.cons (i, false) is) a w :=
  have g := h _ _ hM.size (hM.alloc _ _)
  D.eff hA ho (R.box hx) hd g.1 g.2
theorem D.alloc {j : TypeInfo} {z : Value} (hA : St n l a) (hM : Mem w0 F L w) (ho : ith os i = some { dst := some d, op := .alloc t, type := ty, pos, after := aft, guard := none }) (hj : P.info? t = some j) (hz : j.zero = some z) (hd : Nat.blt d n = true)
    (h : ∀ b w', w0.heap.size ≤ b → Mem w0 F (pt b z.cells t :: L) w' → S w' ∧ ∀ a, St n ((d, .pointer (some ⟨b, 0, none⟩)) :: l) a → wpOrd P last os Q S b0 is a w') : wpOrd P last os Q S b0 (.cons (i, false) is) a w :=
  have g := h _ _ hM.size (hM.alloc _ _)
  D.eff hA ho (R.alloc hj hz) hd g.1 g.2
end
end Go.Proofs.Ytlkemphhbamcfaa
