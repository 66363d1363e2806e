/-
  Slices of the call's own as chunks: make, append, reads, stores. It holds of every program; nothing is assumed.
-/
import Derived.Test.YtlkemphhbamcfaaEng3
import Derived.Laws.OwnMore
import Derived.Great.BuildSlice
namespace Go.Proofs.Ytlkemphhbamcfaa
open Go.RowKit

/-- A slice of the call's own: n elements of sz cells, the cells xs. -/
def own (e : TypeId) (sz : Nat) (v : Value) (n : Nat) (xs : List Value) : Ck :=
  ⟨fun b => v.ownBlock = some b, fun w => w.ownsRow 0 e sz v n xs, fun w w' h hw => by
    refine ⟨hw.1, ?_⟩
    rcases hw.2 with hn | ⟨g, cap, cur, rfl, hb, hg, rest⟩
    · exact .inl hn
    · exact .inr ⟨g, cap, cur, rfl, hb, by rw [h g rfl]; exact hg, rest⟩⟩

section
variable {w0 w w' : World} {F : Nat → Prop} {L L' : List Ck} {e t : TypeId} {sz n m cap g k b : Nat} {v v' : Value} {xs news : List Value}

theorem Mem.consNo (h : Mem w0 F L w) {c : Ck} (hc : c.holds w) (hf : ∀ b, ¬ c.foot b) : Mem w0 F (c :: L) w :=
  ⟨h.os, h.tape, h.output, h.size, h.old, fun d hd => (List.mem_cons.1 hd).elim (fun e => e ▸ hc) (h.holds d),
    fun d hd b hb => (List.mem_cons.1 hd).elim (fun e => (hf b (e ▸ hb)).elim) (fun hd => h.inb d hd b hb), List.pairwise_cons.2 ⟨fun _ _ b hb => (hf b hb).elim, h.apart⟩⟩
theorem Mem.ownNil (h : Mem w0 F L w) (e : TypeId) (sz : Nat) : Mem w0 F (own e sz (.slice none 0 0) 0 [] :: L) w :=
  h.consNo (World.ownsRow_nil w 0 e sz) (fun b hb => by cases hb)
/-- The first chunk told in another way, of the same blocks or fewer. -/
theorem Mem.head {c : Ck} (h : Mem w0 F (c :: L) w) {d : Ck} (hd : d.holds w) (hf : ∀ b, d.foot b → c.foot b) : Mem w0 F (d :: L) w := by
  have := h.turn (k := 0) (c := c) (d := d) (w' := w) rfl hf hd rfl rfl rfl rfl (fun _ _ _ => rfl)
  exact this
theorem Mem.ownPt {cs : Array Value} (h : Mem w0 F (pt b cs e :: L) w) (hs : cs.size = cap * sz) (hm : cap ≤ maxLen) (hn : n ≤ cap) (hx : cs.toList.take (n * sz) = xs) : Mem w0 F (own e sz (.slice (some ⟨b, 0, none⟩) n cap) n xs :: L) w := by
  refine h.head ⟨?_, .inr ⟨b, cap, cs, rfl, Nat.zero_le _, h.block (k := 0) rfl, hn, hm, hs, hx⟩⟩ (fun c hc => ?_)
  · rw [← hx, List.length_take, Array.length_toList, hs, Nat.min_eq_left (Nat.mul_le_mul_right _ hn)]
  · have e : some b = some c := hc
    exact (Option.some.inj e).symm
theorem Mem.ofOwn (h : Below w.heap.size w w') (ho : w'.ownsRow w.heap.size e sz v n xs) : Mem w nof [own e sz v n xs] w' := by
  have h0 := Mem.of_below h
  have hx : w'.ownsRow 0 e sz v n xs := ⟨ho.1, ho.2.imp id fun ⟨g, cap, cur, r1, _, r3⟩ => ⟨g, cap, cur, r1, Nat.zero_le _, r3⟩⟩
  refine ⟨h0.os, h0.tape, h0.output, h0.size, h0.old, fun d hd => ?_, fun d hd b hb => ?_, List.pairwise_singleton _ _⟩
  · obtain rfl : d = own e sz v n xs := by simpa using hd
    exact hx
  · obtain rfl : d = own e sz v n xs := by simpa using hd
    have := ho.lt b hb
    exact ⟨this.2, fun g => by omega⟩
theorem own_form {w : World} (h : w.ownsRow 0 e sz v n xs) : ∃ a cap, v = .slice a n cap ∧ n ≤ cap ∧ cap ≤ maxLen ∧ xs.length = n * sz ∧ (a = none → n = 0) ∧ ∀ p, a = some p → ∃ g, p = ⟨g, 0, none⟩ := by
  obtain ⟨h1, h2⟩ := h
  rcases h2 with ⟨rfl, rfl⟩ | ⟨g, cap, cur, rfl, _, _, hn, hm, _⟩
  · exact ⟨none, 0, rfl, Nat.le_refl _, Nat.zero_le _, h1, fun _ => rfl, fun p hp => by cases hp⟩
  · exact ⟨_, cap, rfl, hn, hm, h1, fun h => (nomatch h), fun p hp => ⟨g, (Option.some.inj hp).symm⟩⟩
theorem Mem.ownForm (h : Mem w0 F L w) (hk : ith L k = some (own e sz v n xs)) : ∃ a cap, v = .slice a n cap ∧ n ≤ cap ∧ cap ≤ maxLen ∧ xs.length = n * sz ∧ (a = none → n = 0) ∧ ∀ p, a = some p → ∃ g, p = ⟨g, 0, none⟩ :=
  own_form (h.mem hk)
/-- Where the elements lie, if there are any. -/
theorem Mem.ownAt (h : Mem w0 F L w) {a : Option Addr} (hk : ith L k = some (own e sz (.slice a n cap) n xs)) (hn : 0 < n) : ∃ g, a = some ⟨g, 0, none⟩ := by
  obtain ⟨a', cap', he, -, -, -, h1, h2⟩ := h.ownForm hk
  cases he
  cases a with
  | none => have := h1 rfl; omega
  | some p => obtain ⟨g, rfl⟩ := h2 p rfl; exact ⟨g, rfl⟩
theorem Mem.ownLe (h : Mem w0 F L w) {a : Option Addr} (hk : ith L k = some (own e sz (.slice a n cap) n xs)) : n ≤ cap ∧ cap ≤ maxLen := by
  obtain ⟨a', cap', he, h1, h2, -⟩ := h.ownForm hk
  cases he
  exact ⟨h1, h2⟩
theorem Mem.ownCell (h : Mem w0 F L w) (hk : ith L k = some (own e sz (.slice (some ⟨g, 0, none⟩) n cap) n xs)) {i : Nat} {u : Value} (hx : xs[i]? = some u) : w.cell? ⟨g, i, none⟩ = some u := by
  have h0 : w.ownsRow 0 e sz (.slice (some ⟨g, 0, none⟩) n cap) n xs := h.mem hk
  have := h0.cells (g := g) rfl i u hx
  rwa [Addr.add_lit, Nat.zero_add] at this
theorem Mem.ownFree (h : Mem w0 F L w) (hk : ith L k = some (own e sz (.slice (some ⟨g, 0, none⟩) n cap) n xs)) (i : Nat) : w.frozen? ⟨g, i, none⟩ = false := by
  have h0 : w.ownsRow 0 e sz (.slice (some ⟨g, 0, none⟩) n cap) n xs := h.mem hk
  rcases h0.2 with ⟨h1, _⟩ | ⟨g', cap', cur, h1, _, hg, _⟩
  · cases h1
  · cases h1; simp [World.frozen?, hg]
theorem Mem.ownStore (h : Mem w0 F L w) (hk : ith L k = some (own e sz (.slice (some ⟨g, 0, none⟩) n cap) n xs)) (i : Nat) (u : Value) :
    Mem w0 F (setAt L k (own e sz (.slice (some ⟨g, 0, none⟩) n cap) n (xs.set i u))) (w.setCell ⟨g, i, none⟩ u) := by
  have h0 : w.ownsRow 0 e sz (.slice (some ⟨g, 0, none⟩) n cap) n xs := h.mem hk
  exact h.turn hk (fun _ hb => hb) (h0.stored i u).1 rfl rfl rfl (by simp) (fun c _ hc => Below.heap_setCell w _ _ _ (fun e => hc (by rw [e]; rfl)))

/-- A chunk less. -/
def dropAt {α : Type} : List α → Nat → List α
  | [], _ => []
  | _ :: xs, 0 => xs
  | x :: xs, i + 1 => x :: dropAt xs i
theorem dropAt_sub {α : Type} : ∀ (l : List α) (i : Nat), (dropAt l i).Sublist l
  | [], _ => List.Sublist.refl _
  | _ :: _, 0 => List.sublist_cons_self _ _
  | _ :: xs, i + 1 => (dropAt_sub xs i).cons_cons _
theorem Mem.drop (h : Mem w0 F L w) (k : Nat) : Mem w0 F (dropAt L k) w := h.sub (dropAt_sub L k)
/-- A chunk to the head. -/
theorem dropAt_perm {α : Type} : ∀ (l : List α) (i : Nat) (x : α), ith l i = some x → l.Perm (x :: dropAt l i)
  | [], _, _, h => by simp [ith] at h
  | y :: ys, 0, x, h => by
    have e : y = x := by simpa [ith] using h
    subst e; exact List.Perm.refl _
  | y :: ys, i + 1, x, h => ((dropAt_perm ys i x h).cons y).trans (List.Perm.swap _ _ _)
theorem Mem.front (h : Mem w0 F L w) {k : Nat} {c : Ck} (hk : ith L k = some c) : Mem w0 F (c :: dropAt L k) w := h.perm (dropAt_perm L k c hk)

/-- What append does with a slice of the call's own. -/
theorem append_form {P : Program} (w : World) (t ty e : TypeId) (i : TypeInfo) (z : Value) (size bytes : Nat) (ht : P.underlying t = some (.slice e)) (hi : P.info? e = some i) (hz : i.zero = some z)
    (hsize : i.size = size) (hby : i.bytes = bytes) (hzs : z.cells.size = size) (hsz : 0 < size)
    (v : Value) (n : Nat) (xs : List Value) (hown : w.ownsRow 0 e size v n xs)
    (a : Addr) (m c : Nat) (news : List Value) (hl : news.length = m * size) (hnews : ∀ j u, news[j]? = some u → w.cell? (a.add j) = some u) (h1 : ∀ u ∈ news, u.oneCell' = true)
    (h63 : n + m ≤ maxLen) (hbytes : (n + m) * bytes ≤ 140737488355328) :
    ∃ v' w', (Builtin.append_ #[t, t] ty #[v, .slice (some a) m c]).run P w = .ok v' w' ∧ w'.ownsRow 0 e size v' (n + m) (xs ++ news) ∧ w.grownBy w' v.ownBlock ∧
      (∀ b, v'.ownBlock = some b → v.ownBlock = some b ∨ w.heap.size ≤ b) := by
  obtain ⟨v', w', hr, h2, h3, -⟩ := run_append_own (P := P) w 0 t ty e i z size bytes ht hi hz hsize hby hzs hsz v n xs hown a m c news hl hnews h1 h63 hbytes (Nat.zero_le _)
  refine ⟨v', w', hr, h2, h3, fun b hb => ?_⟩
  rcases hown.2 with ⟨rfl, rfl⟩ | ⟨g, cap, cur, rfl, hbg, hg, hnc, hcm, hcs, htake⟩
  · obtain ⟨v2, w2, hr2, g2, -, -⟩ := run_append_own (P := P) w w.heap.size t ty e i z size bytes ht hi hz hsize hby hzs hsz (.slice none 0 0) 0 xs
      ⟨hown.1, .inl ⟨rfl, rfl⟩⟩ a m c news hl hnews h1 h63 hbytes (Nat.le_refl _)
    rw [hr] at hr2
    obtain ⟨rfl, rfl⟩ := (Result.ok.injEq .. ▸ hr2 : v' = v2 ∧ w' = w2)
    exact .inr (g2.lt b hb).1
  · by_cases hroom : n + m ≤ cap
    · obtain ⟨w2, hr2, -, -⟩ := run_append_fits (P := P) w 0 t ty e i size ht hi hsize g n cap xs hown a m c news hl hnews h1 hroom
      rw [hr] at hr2
      obtain ⟨rfl, rfl⟩ := (Result.ok.injEq .. ▸ hr2 : v' = _ ∧ w' = w2)
      exact .inl hb
    · have holds : ∀ j u, xs[j]? = some u → w.cell? ((⟨g, 0, none⟩ : Addr).add j) = some u := hown.cells (g := g) rfl
      have hl' := hown.1
      subst hsize
      subst hby
      have hr2 := run_append_grow (P := P) w t ty e i z ht hi hz ⟨g, 0, none⟩ n cap xs hl' holds a m c news hl hnews (by omega) (by unfold maxLen at h63; omega) (growslice_fits (by omega) hbytes)
      rw [hr] at hr2
      obtain ⟨rfl, rfl⟩ := (Result.ok.injEq .. ▸ hr2 : v' = _ ∧ w' = _)
      have e : some w.heap.size = some b := hb
      exact .inr (by rw [← Option.some.inj e]; exact Nat.le_refl _)

/-- What is known behind an append. -/
theorem Mem.grown (h : Mem w0 F L w) (hk : ith L k = some (own e sz v n xs)) (h2 : w'.ownsRow 0 e sz v' m news) (h3 : w.grownBy w' v.ownBlock) (h4 : ∀ b, v'.ownBlock = some b → v.ownBlock = some b ∨ w.heap.size ≤ b) :
    Mem w0 F (setAt L k (own e sz v' m news)) w' := by
  have hfr := h.front hk
  have hperm : (setAt L k (own e sz v' m news)).Perm (own e sz v' m news :: dropAt L k) := by
    have : ∀ (l : List Ck) (i : Nat) (x y : Ck), ith l i = some x → (setAt l i y).Perm (y :: dropAt l i) := by
      intro l
      induction l with
      | nil => intro i x y h; simp [ith] at h
      | cons z zs ih =>
        intro i x y h
        cases i with
        | zero => exact List.Perm.refl _
        | succ i => exact ((ih i x y h).cons z).trans (List.Perm.swap _ _ _)
    exact this L k _ _ hk
  refine Mem.perm ?_ hperm.symm
  have hap := List.pairwise_cons.1 hfr.apart
  refine ⟨h3.os.trans h.os, h3.tape.trans h.tape, h3.output.trans h.output, Nat.le_trans h.size h3.size, fun b hb hF => ?_, fun d hd => ?_, fun d hd b hb => ?_, List.pairwise_cons.2 ⟨fun d hd b hb hdb => ?_, hap.2⟩⟩
  · rw [h3.block b (Nat.lt_of_lt_of_le hb h.size) (fun e => hF ((hfr.inb _ (List.mem_cons_self ..) b e.symm).2 hb))]
    exact h.old b hb hF
  · rcases List.mem_cons.1 hd with rfl | hd
    · exact h2
    · refine d.loc w w' (fun b hb => h3.block b (hfr.inb d (by simp [hd]) b hb).1 (fun e => hap.1 d hd b e.symm hb)) (hfr.holds d (by simp [hd]))
  · rcases List.mem_cons.1 hd with rfl | hd
    · refine ⟨(h2.lt b hb).2, fun hlt => ?_⟩
      rcases h4 b hb with h4 | h4
      · exact (hfr.inb _ (List.mem_cons_self ..) b h4).2 hlt
      · have := h.size; omega
    · have := hfr.inb d (by simp [hd]) b hb
      exact ⟨Nat.lt_of_lt_of_le this.1 h3.size, this.2⟩
  · rcases h4 b hb with h4 | h4
    · exact hap.1 d hd b h4 hdb
    · have := (hfr.inb d (by simp [hd]) b hdb).1; omega
end

/-! ### The operations -/
section
variable {P : Program} {l : List (Nat × Value)} {w : World} {ty : TypeId} {x y : Operand} {t e : TypeId}
theorem R.make {k k' : IntKind} {n : Int} {i : TypeInfo} {z : Value} (ht : P.underlying t = some (.slice e)) (hi : P.info? e = some i) (hz : i.zero = some z) (hx : opv l x = some (.int k n)) (hy : opv l y = some (.int k' n)) (h0 : 0 ≤ n) (hb : (i.bytes : Int) * n ≤ 281474976710656) (h1 : n ≤ 9223372036854775807) :
    Run P l w (.makeSlice t x y) ty (.slice (some ⟨w.heap.size, 0, none⟩) n.toNat n.toNat) (w.alloc (.cells (madeCells z.cells (n.toNat * i.size)) e)) := fun ev h _ _ _ _ => by
  have hr := run_make (P := P) w t e i z ht hi hz k k' n n h0 (Int.le_refl _) hb h1
  simp [execOp, h _ _ hx, h _ _ hy, hr]
theorem mapi_get (l : List Int) (i : Nat) (h : i < l.length) : (l.map (Value.int .i64))[i]? = some (.int .i64 (l.getD i 0)) := by simp [h]
theorem mapi_set (l : List Int) (i : Nat) (v : Int) : (l.map (Value.int .i64)).set i (.int .i64 v) = (l.set i v).map (Value.int .i64) := by rw [List.map_set]
theorem made_ints (n : Nat) : madeCells #[.int .i64 0] n = ints (List.replicate n 0) := by
  apply Array.toList_inj.1
  rw [toList_madeCells_one]; simp [ints]
theorem R.buildSl {len : Nat} {ps : Array (Nat × Operand)} {vs : List Value} {cells : Array Value} {i : TypeInfo} {z : Value} (ht : P.underlying t = some (.slice e)) (hi : P.info? e = some i) (hz : i.zero = some z) (hp : opvs l (ps.toList.map (·.2)) = some vs)
    (hsm : Nat.ble (len * i.size) 1000 = true) (hps : Nat.beq (len * i.size) 0 = false) (hf : Instr.fill (fun j => some (j * i.size, i.size)) ((Array.range (len * i.size)).map (z.cells[· % z.cells.size]!)) ((ps.toList.map (·.1)).zip vs) = some cells) :
    Run P l w (.buildSlice t len ps) ty (.slice (some ⟨w.heap.size, 0, none⟩) len len) (w.alloc (.cells cells e)) := fun ev h _ _ _ _ => by
  have key : ∀ (os : List (Nat × Operand)) (vs : List Value), opvs l (os.map (·.2)) = some vs → os.map (fun (i, x) => (i, ev x)) = (os.map (·.1)).zip vs := by
    intro os
    induction os with
    | nil => intro vs hv; simp [opvs] at hv; subst hv; rfl
    | cons o os ih =>
      intro vs hv
      simp only [List.map_cons, opvs] at hv
      split at hv
      · cases hv
      · rename_i v hv1
        split at hv
        · cases hv
        · rename_i us hus
          simp only [Option.some.injEq] at hv
          subst hv
          simp [ih us hus, h _ _ hv1]
  have h1 : (ps.map fun (i, x) => (i, ev x)).toList = (ps.toList.map (·.1)).zip vs := by simpa using key _ _ hp
  have hle : len * i.size ≤ 1000 := Nat.le_of_ble_eq_true hsm
  have hne : ¬ len * i.size = 0 := by intro e; rw [e] at hps; cases hps
  simp only [execOp]
  rw [Sem.run_bind, run_buildSlice w t e len _ cells i z ht hi hz (by omega) hne (by rw [h1]; exact hf)]
  rfl
end
section
variable {P : Program} {R : Ending → World → Prop} {f : FuncId} {a : Act} {w w0 : World} {nn : Nat} {l : List (Nat × Value)} {ops : Array Oper} {Q : Exit → Act → World → Prop} {rest : List Oper} {F : Nat → Prop} {L : List Ck}
  {S : World → Prop} {os : List Oper} {is : Ordt} {b0 : Bool} {i last : Nat} {d : Nat} {t e ty : TypeId} {x y : Operand} {pos : String} {aft : Array Edge}

theorem S.make {k k' : IntKind} {n : Int} {j : TypeInfo} {z : Value} (hA : St nn l a) (hM : Mem w0 F L w) (ht : P.underlying t = some (.slice e)) (hi : P.info? e = some j) (hz : j.zero = some z) (hx : opv l x = some (.int k n)) (hy : opv l y = some (.int k' n)) (h0 : 0 ≤ n) (hb : (j.bytes : Int) * n ≤ 281474976710656) (h1 : n ≤ 9223372036854775807) (hd : Nat.blt d nn = true)
    (h : ∀ b w', w0.heap.size ≤ b → Mem w0 F (pt b (madeCells z.cells (n.toNat * j.size)) e :: L) w' → ∀ a, St nn ((d, .slice (some ⟨b, 0, none⟩) n.toNat n.toNat) :: l) a → wpList P ops Q rest a w') :
    wpList P ops Q ({ dst := some d, op := .makeSlice t x y, type := ty, pos, after := aft, guard := none } :: rest) a w :=
  S.val hA (R.make ht hi hz hx hy h0 hb h1) hd (h _ _ hM.size (hM.alloc _ _))
theorem S.buildSl {len : Nat} {ps : Array (Nat × Operand)} {vs : List Value} {cells : Array Value} {j : TypeInfo} {z : Value} (hA : St nn l a) (hM : Mem w0 F L w) (ht : P.underlying t = some (.slice e)) (hi : P.info? e = some j) (hz : j.zero = some z) (hp : opvs l (ps.toList.map (·.2)) = some vs)
    (hsm : Nat.ble (len * j.size) 1000 = true) (hps : Nat.beq (len * j.size) 0 = false) (hf : Instr.fill (fun i => some (i * j.size, j.size)) ((Array.range (len * j.size)).map (z.cells[· % z.cells.size]!)) ((ps.toList.map (·.1)).zip vs) = some cells) (hd : Nat.blt d nn = true)
    (h : ∀ b w', w0.heap.size ≤ b → Mem w0 F (pt b cells e :: L) w' → ∀ a, St nn ((d, .slice (some ⟨b, 0, none⟩) len len) :: l) a → wpList P ops Q rest a w') :
    wpList P ops Q ({ dst := some d, op := .buildSlice t len ps, type := ty, pos, after := aft, guard := none } :: rest) a w :=
  S.val hA (R.buildSl ht hi hz hp hsm hps hf) hd (h _ _ hM.size (hM.alloc _ _))
theorem D.buildSl {len : Nat} {ps : Array (Nat × Operand)} {vs : List Value} {cells : Array Value} {j : TypeInfo} {z : Value} (hA : St nn l a) (hM : Mem w0 F L w) (ho : ith os i = some { dst := some d, op := .buildSlice t len ps, type := ty, pos, after := aft, guard := none })
    (ht : P.underlying t = some (.slice e)) (hi : P.info? e = some j) (hz : j.zero = some z) (hp : opvs l (ps.toList.map (·.2)) = some vs)
    (hsm : Nat.ble (len * j.size) 1000 = true) (hps : Nat.beq (len * j.size) 0 = false) (hf : Instr.fill (fun i => some (i * j.size, j.size)) ((Array.range (len * j.size)).map (z.cells[· % z.cells.size]!)) ((ps.toList.map (·.1)).zip vs) = some cells) (hd : Nat.blt d nn = true)
    (h : ∀ b w', w0.heap.size ≤ b → Mem w0 F (pt b cells e :: L) w' → S w' ∧ ∀ a, St nn ((d, .slice (some ⟨b, 0, none⟩) len len) :: l) a → wpOrd P last os Q S b0 is a w') : wpOrd P last os Q S b0 (.cons (i, false) is) a w :=
  have g := h _ _ hM.size (hM.alloc _ _)
  D.eff hA ho (R.buildSl ht hi hz hp hsm hps hf) hd g.1 g.2
theorem D.make {k k' : IntKind} {n : Int} {j : TypeInfo} {z : Value} (hA : St nn l a) (hM : Mem w0 F L w) (ho : ith os i = some { dst := some d, op := .makeSlice t x y, type := ty, pos, after := aft, guard := none })
    (ht : P.underlying t = some (.slice e)) (hi : P.info? e = some j) (hz : j.zero = some z) (hx : opv l x = some (.int k n)) (hy : opv l y = some (.int k' n)) (h0 : 0 ≤ n) (hb : (j.bytes : Int) * n ≤ 281474976710656) (h1 : n ≤ 9223372036854775807) (hd : Nat.blt d nn = true)
    (h : ∀ b w', w0.heap.size ≤ b → Mem w0 F (pt b (madeCells z.cells (n.toNat * j.size)) e :: L) w' → S w' ∧ ∀ a, St nn ((d, .slice (some ⟨b, 0, none⟩) n.toNat n.toNat) :: l) a → wpOrd P last os Q S b0 is a w') : wpOrd P last os Q S b0 (.cons (i, false) is) a w :=
  have g := h _ _ hM.size (hM.alloc _ _)
  D.eff hA ho (R.make ht hi hz hx hy h0 hb h1) hd g.1 g.2
/-- append to a slice of the call's own. -/
theorem R.append {P : Program} {l : List (Nat × Value)} {w w0 : World} {F : Nat → Prop} {L : List Ck} {k n m c sz bytes : Nat} {v z : Value} {xs news : List Value} {p : Addr} {j : TypeInfo} (hM : Mem w0 F L w) (hk : ith L k = some (own e sz v n xs)) (ht : P.underlying t = some (.slice e)) (hi : P.info? e = some j) (hz : j.zero = some z) (hsz : j.size = sz) (hby : j.bytes = bytes) (hzs : z.cells.size = sz) (hps : Nat.blt 0 sz = true)
    (hx : opv l x = some v) (hy : opv l y = some (.slice (some p) m c)) (hl : news.length = m * sz) (hnews : ∀ j u, news[j]? = some u → w.cell? (p.add j) = some u) (h1 : allOne news = true) (hmax : n + m ≤ maxLen) (hbs : (n + m) * bytes ≤ 140737488355328) :
    ∃ a' cap' w', Run P l w (.call { callee := .builtin .append, args := #[x, y], argTypes := #[t, t] }) ty (.slice a' (n + m) cap') w' ∧ Mem w0 F (setAt L k (own e sz (.slice a' (n + m) cap') (n + m) (xs ++ news))) w' := by
  have hone : ∀ u ∈ news, u.oneCell' = true := by
    clear hl hnews
    induction news with
    | nil => intro u hu; cases hu
    | cons v vs ih =>
      simp only [allOne, Bool.and_eq_true] at h1
      intro u hu
      rcases List.mem_cons.1 hu with rfl | hu
      · exact h1.1
      · exact ih h1.2 u hu
  obtain ⟨v', w', hr, h2, h3, h4⟩ := append_form (P := P) w t ty e j z sz bytes ht hi hz hsz hby hzs (Nat.le_of_ble_eq_true hps) v n xs (hM.mem hk) p m c news hl hnews hone hmax hbs
  obtain ⟨a', cap', rfl, -⟩ := own_form h2
  exact ⟨a', cap', w', fun ev h _ _ _ _ => by simp [execOp, resolve, invoke, builtin, h _ _ hx, h _ _ hy, hr], hM.grown hk h2 h3 h4⟩
theorem S.append {k k2 n m c sz bytes b : Nat} {v z : Value} {xs news : List Value} {j : TypeInfo} (hA : St nn l a) (hM : Mem w0 F L w) (hk : ith L k = some (own e sz v n xs)) (hk2 : ith L k2 = some (pt b news.toArray e)) (ht : P.underlying t = some (.slice e)) (hi : P.info? e = some j) (hz : j.zero = some z) (hsz : j.size = sz) (hby : j.bytes = bytes) (hzs : z.cells.size = sz) (hps : Nat.blt 0 sz = true)
    (hx : opv l x = some v) (hy : opv l y = some (.slice (some ⟨b, 0, none⟩) m c)) (hl : news.length = m * sz) (h1 : allOne news = true) (hmax : n + m ≤ maxLen) (hbs : (n + m) * bytes ≤ 140737488355328) (hd : Nat.blt d nn = true)
    (h : ∀ a' cap' w', Mem w0 F (setAt L k (own e sz (.slice a' (n + m) cap') (n + m) (xs ++ news))) w' → ∀ a, St nn ((d, .slice a' (n + m) cap') :: l) a → wpList P ops Q rest a w') :
    wpList P ops Q ({ dst := some d, op := .call { callee := .builtin .append, args := #[x, y], argTypes := #[t, t] }, type := ty, pos, after := aft, guard := none } :: rest) a w := by
  obtain ⟨a', cap', w', hr, hM'⟩ := R.append (P := P) (ty := ty) (t := t) hM hk ht hi hz hsz hby hzs hps hx hy hl (fun j u hu => by rw [Addr.add_lit]; exact hM.cell hk2 (by simpa using hu)) h1 hmax hbs
  exact S.val hA hr hd (h a' cap' w' hM')
theorem D.append {k k2 n m c sz bytes b : Nat} {v z : Value} {xs news : List Value} {j : TypeInfo} (hA : St nn l a) (hM : Mem w0 F L w) (ho : ith os i = some { dst := some d, op := .call { callee := .builtin .append, args := #[x, y], argTypes := #[t, t] }, type := ty, pos, after := aft, guard := none })
    (hk : ith L k = some (own e sz v n xs)) (hk2 : ith L k2 = some (pt b news.toArray e)) (ht : P.underlying t = some (.slice e)) (hi : P.info? e = some j) (hz : j.zero = some z) (hsz : j.size = sz) (hby : j.bytes = bytes) (hzs : z.cells.size = sz) (hps : Nat.blt 0 sz = true)
    (hx : opv l x = some v) (hy : opv l y = some (.slice (some ⟨b, 0, none⟩) m c)) (hl : news.length = m * sz) (h1 : allOne news = true) (hmax : n + m ≤ maxLen) (hbs : (n + m) * bytes ≤ 140737488355328) (hd : Nat.blt d nn = true)
    (h : ∀ a' cap' w', Mem w0 F (setAt L k (own e sz (.slice a' (n + m) cap') (n + m) (xs ++ news))) w' → S w' ∧ ∀ a, St nn ((d, .slice a' (n + m) cap') :: l) a → wpOrd P last os Q S b0 is a w') : wpOrd P last os Q S b0 (.cons (i, false) is) a w := by
  obtain ⟨a', cap', w', hr, hM'⟩ := R.append (P := P) (ty := ty) (t := t) hM hk ht hi hz hsz hby hzs hps hx hy hl (fun j u hu => by rw [Addr.add_lit]; exact hM.cell hk2 (by simpa using hu)) h1 hmax hbs
  have g := h a' cap' w' hM'
  exact D.eff hA ho hr hd g.1 g.2
end
end Go.Proofs.Ytlkemphhbamcfaa
