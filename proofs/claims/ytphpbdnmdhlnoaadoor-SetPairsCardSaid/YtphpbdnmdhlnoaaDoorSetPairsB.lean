/-
  SetPairs, part 2 of 2: what the code computes, and plain laws; no condition beside those that each theorem tells.
-/
import Derived.Test.YtphpbdnmdhlnoaaDoorSetPairsA
import Derived.OpenShut
import Derived.ProofKit
namespace Go.Proofs.YtphpbdnmdhlnoaaDoor
open Go.RowKit
section
variable {P : Program} {l : List (Nat × Value)} {w w' : World}
theorem R.yield {z x : Operand} {ats : Array TypeId} {ty : TypeId} {q : Nat} {v : Value} {nx : Next} (hz : opv l z = some (.func (.yield q) #[] #[])) (hx : opv l x = some v) (hy : (Instr.yield q #[v]).run P w = .ok nx w') : RunN P l w (.call { callee := .value z, args := #[x], argTypes := ats }) ty nx w' := fun ev h _ _ _ _ => by
  simp [execOp, resolve, h _ _ hz, h _ _ hx, Deferred.ofValue, invoke, hy]
end
section
variable {P : Program} {r : Option Nat} {n m : Nat} {ds : List Deferred} {Q : Exit → Act → World → Prop} {k : List KI} {a : Act} {w w' : World} {l : List (Nat × Value)} {ops : Array Oper} {rest : List Oper}
theorem EndsW.regionI {id : Nat} {os : List Oper} (h : wpListIn (wideR r) m P os.toArray (KW P r m Q k) os (suf ds a) w) : EndsW P r m Q ds (.code (.region id os.toArray false) :: k) a w := wpIn_region_lit h
theorem SI.done (h : EndsW P r m Q ds k a w) : wpListIn (wideR r) m P ops (KW P r m Q k) [] (suf ds a) w := h
theorem SI.val {d : Nat} {op : Op} {ty : TypeId} {pos : String} {aft : Array Edge} {v : Value} (hA : St n l a) (hr : Run P l w op ty v w') (hd : Nat.blt d n = true)
    (h : ∀ a, St n ((d, v) :: l) a → wpListIn (wideR r) m P ops Q rest (suf ds a) w') (hnd : noDef { dst := some d, op, type := ty, pos, after := aft, guard := none } = true := by rfl) :
    wpListIn (wideR r) m P ops Q ({ dst := some d, op, type := ty, pos, after := aft, guard := none } :: rest) (suf ds a) w := by
  unfold wpListIn
  rw [if_pos (by simp [Region.wanted])]
  refine ⟨fun _ _ => trivial, ?_⟩
  rw [Oper.semAt_eq _ _ _ (noDef_ne hnd), suf_eval, hr a.eval (fun x u hx => hA.eval hx)]
  show wpListIn (wideR r) m P ops Q rest ((suf ds a).put (some d) v) w'
  rw [suf_put]
  exact h _ (hA.put hd v)
theorem SI.yield {d q : Nat} {z x : Operand} {ats : Array TypeId} {ty : TypeId} {pos : String} {aft : Array Edge} {v : Value} {Rr : Ending → World → Prop} (hA : St n l a) (hz : opv l z = some (.func (.yield q) #[] #[])) (hx : opv l x = some v) (hd : Nat.blt d n = true)
    (hY : YieldAt Fence.wide (m - 1) P q #[v] w Rr) (h : ∀ e w', Rr e w' → ∃ u, e = .returned u ∧ ∀ a, St n ((d, u) :: l) a → wpListIn (wideR none) m P ops Q rest (suf ds a) w') :
    wpListIn (wideR none) m P ops Q ({ dst := some d, op := .call { callee := .value z, args := #[x], argTypes := ats }, type := ty, pos, after := aft, guard := none } :: rest) (suf ds a) w := by
  obtain ⟨fn, tmps, assign, body, hy, hR⟩ := hY
  unfold wpListIn
  rw [if_pos (by simp [Region.wanted])]
  refine ⟨fun _ _ => trivial, ?_⟩
  rw [Oper.semAt_eq _ _ _ (fun c e => by cases e), suf_eval, R.yield hz hx hy a.eval (fun x u hx => hA.eval hx)]
  refine ⟨fun g => by simp [wideR] at g, ?_⟩
  refine RoundIn.mono hR fun e w2 he => ?_
  obtain ⟨u, rfl, hu⟩ := h e w2 he
  show wpListIn (wideR none) m P ops Q rest ((suf ds a).put (some d) u) w2
  rw [suf_put]
  exact hu _ (hA.put hd u)
end
def Ck.cellsy (c : Ck) : Prop := ∀ w b, c.holds w → c.foot b → ∃ o, w.heap[b]? = some o ∧ o.isCells = true
theorem pt_cellsy (b : Nat) (cs : Array Value) (t : TypeId) : (pt b cs t).cellsy := fun w c h hc => by cases hc; exact ⟨_, h, rfl⟩
theorem own_cellsy (e : TypeId) (sz : Nat) (v : Value) (n : Nat) (xs : List Value) : (own e sz v n xs).cellsy := fun w b h hb => by
  rcases h.2 with ⟨hn, -⟩ | ⟨g, cap, cur, rfl, hb', hg, -⟩
  · subst hn; cases hb
  · cases hb; exact ⟨_, hg, rfl⟩
def dfr (D : Nat) : Ck := ⟨fun b => b = D, fun w => w.heap[D]? = some (.deferred (some [])), fun w w' h hw => by rw [h D rfl]; exact hw⟩
section
variable {w0 w w' : World} {F : Nat → Prop} {L L' : List Ck}
theorem Mem.grow {row : Option Nat} (h : Mem w0 F L w) (hg : w.grownBy w' row) (hr : ∀ r, row = some r → (w0.heap.size ≤ r ∨ F r) ∧ ∀ c ∈ L, ¬ c.foot r) : Mem w0 F L w' := by
  have hk : ∀ b, b < w.heap.size → some b ≠ row → w'.heap[b]? = w.heap[b]? := fun b hb hne => hg.block b hb hne
  refine ⟨hg.os.trans h.os, hg.tape.trans h.tape, hg.output.trans h.output, Nat.le_trans h.size hg.size, fun b hb hF => ?_, fun c hc => ?_, fun c hc b hb => ⟨Nat.lt_of_lt_of_le (h.inb c hc b hb).1 hg.size, (h.inb c hc b hb).2⟩, h.apart⟩
  · rw [hk b (Nat.lt_of_lt_of_le hb h.size) (fun e => ?_)]
    · exact h.old b hb hF
    · rcases (hr b e.symm).1 with g | g
      · omega
      · exact hF g
  · refine c.loc w w' (fun b hb => hk b (h.inb c hc b hb).1 fun e => (hr b e.symm).2 c hc hb) (h.holds c hc)
theorem Mem.shut {P : Program} {D : Nat} (h : Mem w0 nof (dfr D :: L) w) : (Instr.takeDeferred D).run P w = .ok [] (w.putObj D (.deferred none)) ∧ Mem w0 nof L (w.putObj D (.deferred none)) := by
  have hD : w.heap[D]? = some (.deferred (some [])) := h.holds _ (.head _)
  refine ⟨run_takeDeferred hD, h.tail.grow (grownBy_putObj' w D _) fun r e => ?_⟩
  cases e
  refine ⟨.inl ?_, fun c hc hf => (List.pairwise_cons.1 h.apart).1 c hc D rfl hf⟩
  rcases Nat.lt_or_ge D w0.heap.size with g | g
  · exact ((h.inb _ (.head _) D rfl).2 g).elim
  · exact g
theorem Mem.foot_new (h : Mem w0 nof L w) {c : Ck} (hc : c ∈ L) {b : Nat} (hb : c.foot b) : w0.heap.size ≤ b := by
  rcases Nat.lt_or_ge b w0.heap.size with g | g
  · exact ((h.inb c hc b hb).2 g).elim
  · exact g
theorem Mem.keepsOthers (h : Mem w (feet L) L' w') (hL : ∀ c ∈ L, c.cellsy) (hh : ∀ c ∈ L, c.holds w) : KeepsOthers w w' :=
  ⟨h.size, fun k o hk ho => by
    have hlt := (Array.getElem?_eq_some_iff.1 hk).1
    rw [h.old k hlt (fun ⟨c, hc, hf⟩ => by
      obtain ⟨o', h1, h2⟩ := hL c hc w k (hh c hc) hf
      rw [hk] at h1; cases h1
      rw [ho] at h2; cases h2)]
    exact hk⟩
end
def mark (D : Nat) : Deferred := { target := .collected D, args := #[] }
def KpB (G : Nat → Prop) (A B : World) : Prop := ∀ b, G b → B.heap[b]? = A.heap[b]?
theorem KpB.trans {G : Nat → Prop} {A B C : World} (h : KpB G A B) (k : KpB G B C) : KpB G A C := fun b hb => (k b hb).trans (h b hb)
def bodyQ {α σ : Type} (C : σ → List Ck) (Inv : List α → σ → Prop) (Ivx : Code → List α → σ → Prop) (xs : List α) (L : List Ck) (W : World) : Exit → Act → World → Prop
  | .normal, _, W' => ∃ s, Inv xs s ∧ Mem W (feet L) (C s) W'
  | .ret, _, W' => ∃ s, Ivx .ret xs s ∧ Mem W (feet L) (C s) W'
  | .exit id, _, W' => ∃ s, Ivx (.exit id) xs s ∧ Mem W (feet L) (C s) W'
  | _, _, _ => False
section
variable {P : Program} {n m : Nat} {ds : List Deferred} {Q : Exit → Act → World → Prop} {k : List KI} {a : Act} {w w0 : World} {l : List (Nat × Value)} {F : Nat → Prop}
theorem St.params (hA : St n l a) {p : Nat} {v : Value} (hp : Nat.blt p n = true) : St n ((p, v) :: l) { tmps := a.tmps.setIfInBounds p v, defers := [] } := by
  have h := hA.put hp v
  exact ⟨h.size, rfl, h.has⟩
theorem EndsW.rangeF {α σ : Type} {g : Operand} {p d id gf NN : Nat} {Kb : Nat → Prop} {ty : TypeId} {pos : String} {aft : Array Edge} {body : Code} {lb : Array Value} {enc : α → Value} {S Sp : List α → Prop} {L M : List Ck}
  (C : σ → List Ck) (Inv : List α → σ → Prop) (Ivx : Code → List α → σ → Prop) (s0 : σ)
  (hA : St n l a) (hM : Mem w0 F (L ++ M) w) (h1 : 1 ≤ m) (hg : opv l g = some (.func (.func gf) #[] lb)) (hp : Nat.blt p n = true) (hd : Nat.blt d n = true) (eg : ∀ args w, (callFunc gf args).run P w = .ok (.enter gf args) w)
  (hseq : SeqStopsK Fence.wide (m - 1) P gf lb (fun x => #[enc x]) (KpB Kb) S Sp NN w) (hKb : ∀ b, Kb b → b < w.heap.size ∧ ¬ feet L b)
  (hcell : ∀ s, ∀ c ∈ C s, c.cellsy) (h0 : Inv [] s0) (hC0 : C s0 = L)
  (hbody : ∀ l' pre x s W, Inv pre s → pre.length < NN → Mem w (feet L) (C s) W → ∀ a, St n ((d, enc x) :: (p, enc x) :: l) a → EndsW P (some l') (m - 1 - 1) (bodyQ C Inv Ivx (pre ++ [x]) (C s) W) [] [.code body] a W)
  (hdone : ∀ D xs s W, S xs → Inv xs s → Mem w0 F (dfr D :: (C s ++ M)) W → EndsW P none m Q (mark D :: ds) k a W)
  (hstop : ∀ D c pre s W, Sp pre → Ivx c pre s → Mem w0 F (dfr D :: (C s ++ M)) W → EndsW P none m Q (mark D :: ds) (.code c :: k) a W) :
  EndsW P none m Q ds (.code (.rangeFunc g #[p] (.region id #[{ dst := some d, op := .assign (.tmp p), type := ty, pos, after := aft, guard := none }] false) body) :: k) a w := by
 have hML : Mem w (feet L) L w := by
  have := hM.hereN L.length
  rwa [List.take_left] at this
 have hcl : ∀ c ∈ L, c.cellsy := fun c hc => hcell s0 c (by rw [hC0]; exact hc)
 have hOwn : ∀ (J : List α → σ → Prop), OwnFrom w.heap.size fun pre W => ∃ s, J pre s ∧ Mem w (feet L) (C s) W := by
  rintro J pre A B row ⟨s, hs, hm⟩ hg' hr
  refine ⟨s, hs, hm.grow hg' fun r e => ?_⟩
  obtain ⟨h2, o, h3, h4⟩ := hr r e
  refine ⟨.inl h2, fun c hc hf => ?_⟩
  obtain ⟨o', h5, h6⟩ := hcell s c hc A r (hm.holds c hc) hf
  rw [h3] at h5; cases h5
  rw [h4] at h6; cases h6
 have back : ∀ (D : Nat) (s : σ) (W : World), w.heap.size ≤ D → Mem w (feet L) (C s) W → W.heap[D]? = some (.deferred (some [])) → Mem w0 F (dfr D :: (C s ++ M)) W := by
  intro D s W hD hm hk
  have h2 : Mem w0 F (C s ++ M) W := by
   have h3 := hM.callL (L' := C s) (w' := W) L.length (by rw [List.take_left]; exact hm)
   rwa [List.drop_left] at h3
  refine ⟨h2.os, h2.tape, h2.output, h2.size, h2.old, fun c hc => ?_, fun c hc b hb => ?_, List.pairwise_cons.2 ⟨fun c hc b hb hf => ?_, h2.apart⟩⟩
  ·
   rcases List.mem_cons.1 hc with rfl | hc
   · exact hk
   · exact h2.holds c hc
  ·
   rcases List.mem_cons.1 hc with rfl | hc
   ·
    cases hb
    exact ⟨(Array.getElem?_eq_some_iff.1 hk).1, fun g => absurd (Nat.lt_of_lt_of_le g hM.size) (by omega)⟩
   · exact h2.inb c hc b hb
  ·
   cases hb
   rcases List.mem_append.1 hc with hc | hc
   ·
    obtain ⟨o, h5, h6⟩ := hcell s c hc W D (hm.holds c hc) hf
    rw [hk] at h5; cases h5; cases h6
   ·
    have := (hM.inb c (List.mem_append_right _ hc) D hf).1
    omega
 have hsz : (suf ds a).defers = ds := by show a.defers ++ ds = ds; rw [hA.defers]; rfl
 have hact : ∀ D, ({ suf ds a with defers := { target := .collected D, args := #[] } :: (suf ds a).defers } : Act) = suf (mark D :: ds) a := fun D => by
  rw [hsz]
  show ({ a with defers := mark D :: ds } : Act) = { a with defers := a.defers ++ mark D :: ds }
  rw [hA.defers]; rfl
 show (Code.rangeFunc g #[p] _ body).wpIn (wideR none) m P (KW P none m Q k) (suf ds a) w
 refine wpIn_rangeFunc_ownF (F := Fence.wide) rfl h1 (gf := gf) (lb := lb) (by rw [suf_eval]; exact hA.eval hg) trivial eg hseq KpB.trans (fun W l' o o' hl h2 h3 h4 b hb => World.putObj_heap_other (by have := (hKb b hb).1; omega)) (Below.refl _ _) (fun _ => rfl)
  (fun pre W => ∃ s, Inv pre s ∧ Mem w (feet L) (C s) W) (fun c pre W => ∃ s, Ivx c pre s ∧ Mem w (feet L) (C s) W) (hOwn _) (fun c => hOwn _) ⟨s0, h0, by rw [hC0]; exact hML⟩
  (fun x => ({ tmps := a.tmps.setIfInBounds p (enc x), defers := [] } : Act).put (some d) (enc x)) ?_ ?_ ?_ ?_
 ·
  -- the assignment
  intro l' x W K hK
  have hA1 : St n ((p, enc x) :: l) { tmps := a.tmps.setIfInBounds p (enc x), defers := [] } := hA.params hp
  have e : ({ tmps := (#[p].zip #[enc x]).foldl (fun t (p, v) => t.setIfInBounds p v) (suf ds a).tmps, defers := [] } : Act) = { tmps := a.tmps.setIfInBounds p (enc x), defers := [] } := by simp [suf]
  rw [e]
  refine wpIn_region_lit (l := [_]) ?_
  unfold wpListIn
  rw [if_pos (by simp [Region.wanted])]
  refine ⟨fun _ _ => trivial, ?_⟩
  rw [Oper.semAt_eq _ _ _ (fun c e => by cases e)]
  show Oper.uponIn _ _ _ _ _ _ _ ((execOp (({ tmps := a.tmps.setIfInBounds p (enc x), defers := [] } : Act).eval) _).run P W)
  rw [R.assign (P := P) (w := W) (l := (p, enc x) :: l) (x := .tmp p) (v := enc x) (by simp [opv, lk]) _ (fun y u hy => hA1.eval hy)]
  exact hK
 ·
  -- a body
  rintro l' pre x W ⟨s, hs, hm⟩ hlen
  have hA1 := (hA.params (v := enc x) hp).put hd (enc x)
  have hb := hbody l' pre x s W hs hlen hm _ hA1
  unfold EndsW at hb
  rw [suf_nil] at hb
  have hW : ∀ c ∈ C s, c.holds W := hm.holds
  have kp : ∀ (s' : σ) (W' : World), Mem W (feet (C s)) (C s') W' → KeepsOthers W W' ∧ KpB Kb W W' ∧ Mem w (feet L) (C s') W' := fun s' W' hm' => by
   have hall : Mem w (feet L) (C s') W' := by
    have h3 := hm.callL (L' := C s') (w' := W') (C s).length (by rw [List.take_length]; exact hm')
    rwa [List.drop_length, List.append_nil] at h3
   exact ⟨hm'.keepsOthers (hcell s) hW, fun b hb => (hall.old b (hKb b hb).1 (hKb b hb).2).trans (hm.old b (hKb b hb).1 (hKb b hb).2).symm, hall⟩
  refine wpIn_mono hb fun e a' W' h => ?_
  cases e with
  | normal => obtain ⟨s', h2, h3⟩ := h; obtain ⟨k1, k2, k3⟩ := kp s' W' h3; exact ⟨k1, k2, s', h2, k3⟩
  | ret => obtain ⟨s', h2, h3⟩ := h; obtain ⟨k1, k2, k3⟩ := kp s' W' h3; exact ⟨k1, s', h2, k3⟩
  | exit id => obtain ⟨s', h2, h3⟩ := h; obtain ⟨k1, k2, k3⟩ := kp s' W' h3; exact ⟨k1, s', h2, k3⟩
  | goto t => exact h.elim
  | panic c => exact h.elim
  | outgrown => exact h.elim
 ·
  rintro D xs W hD hS ⟨s, hs, hm⟩ hk
  have := hdone D xs s W hS hs (back D s W hD hm hk)
  rw [hact]
  exact this
 ·
  rintro D c pre W hD hS ⟨s, hs, hm⟩ hk
  have := hstop D c pre s W hS hs (back D s W hD hm hk)
  rw [hact]
  exact this
end
section
variable {P : Program} {n m : Nat} {ds : List Deferred} {R : Ending → World → Prop} {k : List KI} {a : Act} {w w0 : World} {l : List (Nat × Value)} {L : List Ck} {fn : Func}
theorem leave0 {v : Value} (hA : a.defers = []) (hv : (results fn a.tmps).run P w = .ok v w) (hR : R (.returned v) w) : LeavesInM Fence.wide m P fn (suf [] a).tmps R (suf [] a).defers .returning w := by
  show LeavesInM Fence.wide m P fn a.tmps R (a.defers ++ []) .returning w
  rw [hA]
  exact ⟨v, hv, hR⟩
theorem leave1 {D : Nat} {v : Value} (hA : a.defers = []) (hM : Mem w0 nof (dfr D :: L) w) (hR : ∀ w', Mem w0 nof L w' → (results fn a.tmps).run P w' = .ok v w' ∧ R (.returned v) w') : LeavesInM Fence.wide m P fn (suf [mark D] a).tmps R (suf [mark D] a).defers .returning w := by
  show LeavesInM Fence.wide m P fn a.tmps R (a.defers ++ [mark D]) .returning w
  rw [hA]
  obtain ⟨h1, h2⟩ := hM.shut (P := P)
  exact ⟨by simp, .inl ⟨D, _, rfl, h1, ⟨v, hR _ h2⟩⟩⟩
end
end Go.Proofs.YtphpbdnmdhlnoaaDoor
namespace Go.Proofs.YtphpbdnmdhlnoaaDoor
open Go.RowKit
def frs (B : Nat) (a : Option Addr) : Prop := ∀ p, a = some p → B ≤ p.block
theorem frs.mono {B C : Nat} {a : Option Addr} (h : frs C a) (hb : B ≤ C) : frs B a := fun p hp => Nat.le_trans hb (h p hp)
theorem Mem.ownFresh {w0 w : World} {L : List Ck} {k n m sz : Nat} {c : Nat} {e : TypeId} {a : Option Addr} {xs : List Value} (hM : Mem w0 nof L w) (hk : ith L k = some (own e sz (.slice a n c) m xs)) : frs w0.heap.size a := fun p hp => by
  subst hp
  rw [ith_eq] at hk
  have hm := List.mem_of_getElem? hk
  exact Nat.le_of_not_lt fun h => (hM.inb _ hm p.block rfl).2 h
end Go.Proofs.YtphpbdnmdhlnoaaDoor
namespace Go.Proofs.YtphpbdnmdhlnoaaDoor
open Go.RowKit
theorem grown_of {A B : World} (h : Below A.heap.size A B) : A.grownBy B none := ⟨h.os, h.tape, h.output, h.size, fun i hi _ => h.block i hi⟩
theorem tab_at {P : Program} {w w' : World} {name : String} {k : IntKind} {zs : List Int} {g : Nat} (h : Lib.TabIs P w name k zs) (hg : P.globalNamed name = some g) (hb : w'.heap[g]? = w.heap[g]?) : Lib.TabIs P w' name k zs := by
  unfold Lib.TabIs World.var? at *
  rw [hg] at h ⊢
  simp only [Option.bind_some] at h ⊢
  rw [hb]; exact h
theorem tab_lt {P : Program} {w : World} {name : String} {k : IntKind} {zs : List Int} {g : Nat} (h : Lib.TabIs P w name k zs) (hg : P.globalNamed name = some g) : g < w.heap.size := by
  unfold Lib.TabIs World.var? at h
  rw [hg] at h
  simp only [Option.bind_some] at h
  cases ho : w.heap[g]? with
  | none => rw [ho] at h; cases h
  | some o => exact (Array.getElem?_eq_some_iff.1 ho).1
set_option maxRecDepth 100000 in
set_option maxHeartbeats 400000 in
theorem all02 (f : Nat → Bool) (w : World) :
    Calls Tryd.prog 9 #[.agg #[.int .u64 (loW f), .int .u64 (hiW f)]] w fun e w' => ∃ b, e = .returned (.func (.func 24) #[] #[.pointer (some ⟨b, 0, none⟩)]) ∧ Mem w nof [pt b #[.int .u64 (loW f), .int .u64 (hiW f)] 24] w' := by
  have hbs := Below.refl (B := w.heap.size) w
  have hM := Mem.start w
  refine Calls.of_ends (vs := [.agg #[.int .u64 (loW f), .int .u64 (hiW f)]]) Tryd.func9 rfl Tryd.ntmps9 rfl ?_
  intro a hA
  replace hA : St 4 [(0, _)] a := hA
  refine Ends.seq (Ends.region ?_)
  refine S.box hA hM rfl rfl ?_; clear hA hM a; intro b1 w1 hb2 hM a hA
  replace hM : Mem _ _ [pt b1 #[.int .u64 (loW f), .int .u64 (hiW f)] 24] _ := hM
  refine S.val hA (R.assign rfl) rfl ?_; clear hA a; intro a hA
  refine S.done ?_
  refine Ends.seq (Ends.region ?_)
  refine S.val hA (R.to (v := .func (.func 24) #[] #[.pointer (some ⟨b1, 0, none⟩)]) (R.makeFunc rfl) rfl) rfl ?_; clear hA a; intro a hA
  refine S.val hA (R.assign rfl) rfl ?_; clear hA a; intro a hA
  refine S.done ?_
  refine Ends.ret1 Tryd.func9 Tryd.results9 hA rfl ?_
  exact ⟨b1, rfl, hM⟩
set_option maxRecDepth 100000 in
set_option maxHeartbeats 400000 in
theorem seq02 (f : Nat → Bool) (bx : Nat) (G : Nat → Prop) (hGx : G bx) (hGt : G 0) (w : World) (hq : w.heap[bx]? = some (.cells #[.int .u64 (loW f), .int .u64 (hiW f)] 24 (0, 0))) (htab : Lib.TabIs Tryd.prog w "math/bits.deBruijn64tab" .u8 debT) :
  SeqStopsK Fence.wide 8 Tryd.prog 24 #[.pointer (some ⟨bx, 0, none⟩)] (fun x : Int => #[.int .i64 x]) (KpB G) (fun xs => xs = eL f 0) (fun pre => pre = (eL f 0).take pre.length ∧ pre.length ≤ (eL f 0).length) 128 w := by
 intro l J Jx wi hbW hJ hJx hY h0
 have hqb := (hbW.block bx (Array.getElem?_eq_some_iff.1 hq).1).trans hq
 have ht9 := tab_below htab hbW
 have hM := Mem.start wi
 refine CallsIn.of_endsW (vs := [.func (.yield l) #[] #[], .pointer (some ⟨bx, 0, none⟩)]) Tryd.func24 rfl Tryd.ntmps24 rfl ?_
 intro a hA
 replace hA : St 15 [(0, _), (1, _)] a := hA
 refine EndsW.seq ?_
 refine EndsW.region ?_
 refine S.val hA (R.loadA sz24 rfl (hM.oldRange hqb) rfl) rfl ?_; clear hA a; intro a hA
 refine S.call hA (R.callF Tryd.func16 rfl rfl rfl) rfl (first02 f _ (tab_below ht9 hM.nilL.below)) ?_; clear hA a
 rintro e w1 ⟨rfl, hb⟩
 replace hM := hM.callB hb; clear hb
 refine ⟨.int .i64 (nx f 0), rfl, fun a hA => ?_⟩
 refine S.val hA (R.assign rfl) rfl ?_; clear hA a; intro a hA
 refine S.doneW ?_
 refine EndsW.block ?_
 refine EndsW.loop (σ := Nat) (fun b (a : Act) (wv : World) => St 15 [(0, .func (.yield l) #[] #[]), (1, .pointer (some ⟨bx, 0, none⟩)), (3, .int .i64 (nx f b))] a ∧ wv.heap[bx]? = some (.cells #[.int .u64 (loW f), .int .u64 (hiW f)] 24 (0, 0)) ∧ Lib.TabIs Tryd.prog wv "math/bits.deBruijn64tab" .u8 debT ∧ J ((eL f 0).take (cnt f b)) wv ∧ b ≤ 128) (fun b => 128 - b) 0 ⟨hA.sub ((.cons rfl (.cons rfl (.cons rfl .nil)))), hM.keepB hqb, (tab_below ht9 hM.nilL.below), hJ _ _ _ none h0 (grown_of hM.nilL.below) (fun r e => by cases e), by omega⟩ ?_
 clear hA hM a hqb ht9 h0
 rintro b a w2 ⟨hA, hqb, ht9, h0, hb9⟩ J9 hNext
 have hM := Mem.start w2
 refine EndsW.seq ?_
 refine EndsW.seq ?_
 refine EndsW.region ?_
 refine S.val hA (R.move rfl) rfl ?_; clear hA a; intro a hA
 refine S.val hA (R.geq rfl rfl) rfl ?_; clear hA a; intro a hA
 refine S.doneW ?_
 refine EndsW.ite hA rfl (fun hc1 => ?_) (fun hc1 => ?_)
 ·
  obtain ⟨mm, hmm⟩ : ∃ mm : Nat, nx f b = (mm : Int) := ⟨(nx f b).toNat, by omega⟩
  have hcm := eL_cons hmm
  have htk := eL_take hb9 hmm
  have hmm2 : mm < 128 := hcm.2.2.1
  have hbm := hcm.2.1
  have hcl := cnt_le f b
  rw [hmm] at hA
  refine EndsW.skip ?_
  refine EndsW.seq ?_
  refine EndsW.block ?_
  refine EndsW.seq ?_
  have hlt := (List.length_take_le (cnt f b) (eL f 0))
  have h1 := hJ _ _ _ none h0 (grown_of hM.nilL.below) (fun r e => by cases e)
  have hqb1 := hM.keepB hqb
  have ht1 := (tab_below ht9 hM.nilL.below)
  refine EndsW.regionI ?_
  refine SI.val hA (R.move rfl) rfl ?_; clear hA a; intro a hA
  refine SI.val hA (R.move rfl) rfl ?_; clear hA a; intro a hA
  refine SI.yield hA rfl rfl rfl (hY _ (mm : Int) _ h1 (by rw [List.length_take]; omega)) ?_; clear hA hM a h0 hqb ht9
  rintro e w3 (⟨rfl, h0, hK⟩ | ⟨rfl, hx0⟩)
  ·
   refine ⟨.bool true, rfl, fun a hA => ?_⟩
   refine SI.val hA (R.not rfl) rfl ?_; clear hA a; intro a hA
   refine SI.done ?_
   rw [htk.1] at h0
   have hqb := (hK bx hGx).trans hqb1
   have ht9 := tab_at ht1 (g := 0) (by kernel_rfl) (hK _ hGt)
   have hM := Mem.start w3
   replace hA : St 15 [(0, .func (.yield l) #[] #[]), (1, .pointer (some ⟨bx, 0, none⟩)), (3, .int .i64 ((mm : Int))), (14, .bool false)] a := hA.sub (.cons rfl (.cons rfl (.cons rfl (.cons rfl .nil))))
   refine EndsW.condF hA rfl ?_
   refine EndsW.skip ?_
   refine EndsW.inBlock ?_
   refine EndsW.region ?_
   refine S.val hA (R.loadA sz24 rfl (hM.oldRange hqb) rfl) rfl ?_; clear hA a; intro a hA
   refine S.val hA (R.move rfl) rfl ?_; clear hA a; intro a hA
   refine S.call hA (R.callF Tryd.func17 rfl rfl rfl) rfl (next_at f mm hmm2 _ (tab_below ht9 hM.nilL.below)) ?_; clear hA a
   rintro e w4 ⟨rfl, hb⟩
   replace hM := hM.callB hb; clear hb
   refine ⟨.int .i64 (nx f (mm + 1)), rfl, fun a hA => ?_⟩
   refine S.val hA (R.assign rfl) rfl ?_; clear hA a; intro a hA
   refine S.doneW ?_
   replace hA : St 15 [(0, _), (1, _), (3, _)] a := hA.sub ((.cons rfl (.cons rfl (.cons rfl .nil))))
   exact hNext (mm + 1) _ _ (by show 128 - (mm + 1) < 128 - b; omega) ⟨hA.sub ((.cons rfl (.cons rfl (.cons rfl .nil)))), hM.keepB hqb, (tab_below ht9 hM.nilL.below), hJ _ _ _ none h0 (grown_of hM.nilL.below) (fun r e => by cases e), by omega⟩
  ·
   refine ⟨.bool false, rfl, fun a hA => ?_⟩
   refine SI.val hA (R.not rfl) rfl ?_; clear hA a; intro a hA
   refine SI.done ?_
   replace hA : St 15 [(0, .func (.yield l) #[] #[]), (1, .pointer (some ⟨bx, 0, none⟩)), (3, .int .i64 ((mm : Int))), (14, .bool true)] a := hA.sub (.cons rfl (.cons rfl (.cons rfl (.cons rfl .nil))))
   refine EndsW.condT hA rfl ?_
   refine EndsW.retQ ?_
   refine leave0 hA.defers (results_none Tryd.results24 _ _ _) ?_
   refine ⟨⟨_, rfl⟩, .inr ⟨_, ?_, hx0⟩⟩
   rw [htk.1]
   refine ⟨?_, ?_⟩
   ·
    rw [List.length_take]; rcases Nat.le_total (cnt f (mm + 1)) (eL f 0).length with g | g
    · rw [Nat.min_eq_left g]
    · rw [Nat.min_eq_right g, List.take_length, List.take_of_length_le g]
   · rw [List.length_take]; exact Nat.min_le_right _ _
 ·
  have hn1 : nx f b = -1 := by have := nx_bd f b; omega
  have hend := eL_end hb9 hn1
  rw [hend.1] at h0
  refine EndsW.exit rfl ?_
  replace hA : St 15 [] a := hA.sub (.nil)
  refine EndsW.endQ ?_
  refine leave0 hA.defers (results_none Tryd.results24 _ _ _) ?_
  exact ⟨⟨_, rfl⟩, .inl ⟨_, rfl, hJ _ _ _ none h0 (grown_of hM.nilL.below) (fun r e => by cases e)⟩⟩
theorem Mem.apartL {w0 w : World} {F : Nat → Prop} {L M : List Ck} (h : Mem w0 F (L ++ M) w) {c : Ck} (hc : c ∈ M) {b : Nat} (hb : c.foot b) : ¬ feet L b := fun ⟨d, hd, hf⟩ => (List.pairwise_append.1 h.apart).2.2 d hd c hc b hf hb
theorem Mem.notOld {w0 w : World} {L M : List Ck} (h : Mem w0 nof (L ++ M) w) {b : Nat} (hb : b < w0.heap.size) : ¬ feet L b := fun ⟨d, hd, hf⟩ => by
  have := h.foot_new (List.mem_append_left M hd) hf
  omega
theorem enters_fn {P : Program} {f : FuncId} {fn : Func} {c : Code} (hf : P.funcs[f]? = some fn) (hname : (fn.name == "runtime.NumGoroutine") = false) (hb : fn.body = some c) : ∀ args w, (callFunc f args).run P w = .ok (.enter f args) w := by
  intro args w
  have h1 : fn.name ≠ "runtime.NumGoroutine" := by simpa using hname
  simp [callFunc, hf, h1, hb]
set_option maxRecDepth 100000 in
set_option maxHeartbeats 400000 in
theorem list02F (f : Nat → Bool) (w : World) (htab : Lib.TabIs Tryd.prog w "math/bits.deBruijn64tab" .u8 debT) :
  Calls Tryd.prog 11 #[.agg #[.int .u64 (loW f), .int .u64 (hiW f)]] w fun e w' => ∃ a c, e = .returned (.slice a ((eL f 0)).length c) ∧ IntSl w' (.slice a ((eL f 0)).length c) ((eL f 0)) ∧ frs w.heap.size a ∧ Below w.heap.size w w' := by
 have hbs := Below.refl (B := w.heap.size) w
 have hM := Mem.start w
 refine Calls.of_endsW (vs := [.agg #[.int .u64 (loW f), .int .u64 (hiW f)]]) 9 Tryd.func11 rfl Tryd.ntmps11 rfl ?_
 intro a hA
 replace hA : St 13 [(0, _)] a := hA
 refine EndsW.seq ?_
 refine EndsW.region ?_
 refine S.box hA hM rfl rfl ?_; clear hA hM a; intro b1 w1 hb2 hM a hA
 replace hM : Mem _ _ [pt b1 #[.int .u64 (loW f), .int .u64 (hiW f)] 24] _ := hM
 refine S.val hA (R.assign rfl) rfl ?_; clear hA a; intro a hA
 refine S.doneW ?_
 refine EndsW.seq ?_
 refine EndsW.region ?_
 refine S.alloc hA hM info26 rfl rfl ?_; clear hA hM a; intro b3 w2 hb4 hM a hA
 replace hM : Mem _ _ [pt b3 #[.slice none 0 0] 26, pt b1 #[.int .u64 (loW f), .int .u64 (hiW f)] 24] _ := hM
 refine S.doneW ?_
 refine EndsW.seq ?_
 refine EndsW.seq ?_
 refine EndsW.region ?_
 refine S.val hA (R.loadA sz24 rfl (hM.range (k := 1) rfl) rfl) rfl ?_; clear hA a; intro a hA
 refine S.call hA (R.callF Tryd.func9 rfl rfl rfl) rfl (all02 f _) ?_; clear hA a
 rintro e w3 ⟨bx5, rfl, hn⟩
 replace hM : Mem _ _ [pt bx5 #[.int .u64 (loW f), .int .u64 (hiW f)] 24, pt b3 #[.slice none 0 0] 26, pt b1 #[.int .u64 (loW f), .int .u64 (hiW f)] 24] _ := hM.call hn; clear hn
 refine ⟨.func (.func 24) #[] #[.pointer (some ⟨bx5, 0, none⟩)], rfl, fun a hA => ?_⟩
 refine S.doneW ?_
 replace hA : St 13 [(3, _), (6, _)] a := hA.sub ((.cons rfl (.cons rfl .nil)))
 refine EndsW.block ?_
 replace hM := hM.ownNil 3 1
 replace hM : Mem _ _ [own 3 1 (.slice none ((([] : List Int)).length) 0) ((([] : List Int)).length) ((([] : List Int)).map (Value.int .i64)), pt bx5 #[.int .u64 (loW f), .int .u64 (hiW f)] 24, pt b3 #[.slice none 0 0] 26, pt b1 #[.int .u64 (loW f), .int .u64 (hiW f)] 24] _ := hM
 replace hM := hM.front (k := 2) rfl
 replace hM : Mem _ _ [pt b3 #[.slice none (([] : List Int).length) 0] 26, own 3 1 (.slice none ((([] : List Int)).length) 0) ((([] : List Int)).length) ((([] : List Int)).map (Value.int .i64)), pt bx5 #[.int .u64 (loW f), .int .u64 (hiW f)] 24, pt b1 #[.int .u64 (loW f), .int .u64 (hiW f)] 24] _ := hM
 have hqx := hM.block (k := 2) rfl
 have htx := (tab_below htab (Mem.trans0 hbs hM.nilL))
 refine EndsW.rangeF (σ := List Int × Option Addr × Nat) (enc := fun x : Int => .int .i64 x) (NN := 128) (Kb := fun q => q = bx5 ∨ q = 0) (L := [pt b3 #[.slice none (([] : List Int).length) 0] 26, own 3 1 (.slice none ((([] : List Int)).length) 0) ((([] : List Int)).length) ((([] : List Int)).map (Value.int .i64))]) (M := [pt bx5 #[.int .u64 (loW f), .int .u64 (hiW f)] 24, pt b1 #[.int .u64 (loW f), .int .u64 (hiW f)] 24]) (fun (X, oa, oc) => [pt b3 #[.slice oa X.length oc] 26, own 3 1 (.slice oa X.length oc) X.length (X.map (Value.int .i64))]) (fun pre s => s.1 = pre) (fun _ _ _ => False) ([], none, 0) hA hM (by decide) rfl rfl rfl (enters_fn Tryd.func24 (by kernel_rfl) rfl) (seq02 f bx5 _ (.inl rfl) (.inr rfl) _ hqx htx) ?_ ?_ rfl rfl ?_ ?_ ?_
 ·
  rintro q (e9 | e9)
  · rw [e9]; exact ⟨(Array.getElem?_eq_some_iff.1 hqx).1, Mem.apartL (L := [pt b3 #[.slice none (([] : List Int).length) 0] 26, own 3 1 (.slice none ((([] : List Int)).length) 0) ((([] : List Int)).length) ((([] : List Int)).map (Value.int .i64))]) (M := [pt bx5 #[.int .u64 (loW f), .int .u64 (hiW f)] 24, pt b1 #[.int .u64 (loW f), .int .u64 (hiW f)] 24]) hM (.head _) rfl⟩
  · rw [e9]; exact ⟨tab_lt htx (by kernel_rfl), Mem.notOld (L := [pt b3 #[.slice none (([] : List Int).length) 0] 26, own 3 1 (.slice none ((([] : List Int)).length) 0) ((([] : List Int)).length) ((([] : List Int)).map (Value.int .i64))]) (M := [pt bx5 #[.int .u64 (loW f), .int .u64 (hiW f)] 24, pt b1 #[.int .u64 (loW f), .int .u64 (hiW f)] 24]) hM (tab_lt (tab_below htab hbs) (by kernel_rfl))⟩
 ·
  rintro ⟨X, oa, oc⟩ c9 hc9
  rcases List.mem_cons.1 hc9 with rfl | hc9
  · exact pt_cellsy _ _ _
  rcases List.mem_cons.1 hc9 with rfl | hc9
  · exact own_cellsy _ _ _ _ _
  cases hc9
 ·
  clear hA hM a hqx htx
  rintro l9 pre x ⟨X, oa, oc⟩ w4 hs9 hlen hM0 a hA
  have hM := hM0.here
  replace hM : Mem _ (feet [pt b3 #[.slice oa X.length oc] 26, own 3 1 (.slice oa X.length oc) X.length (X.map (Value.int .i64))]) [pt b3 #[.slice oa X.length oc] 26, own 3 1 (.slice oa X.length oc) X.length (X.map (Value.int .i64))] _ := hM
  replace hA : St 13 [(3, .pointer (some ⟨b3, 0, none⟩)), (4, .int .i64 x), (7, .int .i64 x)] a := hA.sub ((.cons rfl (.cons rfl (.cons rfl .nil))))
  have hXl : X.length < 128 := by rw [show X = pre from hs9]; exact hlen
  refine EndsW.block ?_
  refine EndsW.region ?_
  refine S.val hA (R.load sz26 rfl (hM.cell (k := 0) rfl rfl)) rfl ?_; clear hA a; intro a hA
  refine S.val hA (R.move rfl) rfl ?_; clear hA a; intro a hA
  refine S.buildSl (cells := #[.int .i64 x]) hA hM Tryd.underlying26 info3 rfl rfl rfl rfl (by kernel_rfl) rfl ?_; clear hA hM a; intro b6 w5 hb7 hM a hA
  replace hM : Mem _ _ [pt b6 #[.int .i64 x] 3, pt b3 #[.slice oa X.length oc] 26, own 3 1 (.slice oa X.length oc) X.length (X.map (Value.int .i64))] _ := hM
  refine S.append (k := 2) (k2 := 0) hA hM rfl rfl Tryd.underlying26 info3 rfl rfl rfl rfl rfl rfl rfl rfl rfl (by first | omega | (unfold maxLen; omega) | (show (_ + 1) * 8 ≤ (140737488355328 : Nat); omega) | (show (_ + _) * 8 ≤ (140737488355328 : Nat); omega)) (by first | omega | (unfold maxLen; omega) | (show (_ + 1) * 8 ≤ (140737488355328 : Nat); omega) | (show (_ + _) * 8 ≤ (140737488355328 : Nat); omega)) rfl ?_; clear hA hM a; intro a8 c9 w6 hM a hA
  replace hM : Mem _ _ [pt b6 #[.int .i64 x] 3, pt b3 #[.slice oa X.length oc] 26, own 3 1 (.slice a8 (X.length + 1) c9) (X.length + 1) (X.map (Value.int .i64) ++ [.int .i64 x])] _ := hM
  have hl10 : X.length + 1 = (X ++ [x]).length := by simp
  rw [hl10, show X.map (Value.int .i64) ++ [.int .i64 x] = (X ++ [x]).map (Value.int .i64) by simp] at hM; rw [hl10] at hA
  clear hl10
  replace hM := hM.drop 0
  replace hM : Mem _ _ [pt b3 #[.slice oa X.length oc] 26, own 3 1 (.slice a8 (((X ++ [x])).length) c9) (((X ++ [x])).length) (((X ++ [x])).map (Value.int .i64))] _ := hM
  refine S.store (k := 0) hA hM sz26 rfl rfl rfl rfl rfl ?_; clear hM
  intro w7 hM
  replace hM : Mem _ _ [pt b3 #[.slice a8 (((X ++ [x])).length) c9] 26, own 3 1 (.slice a8 (((X ++ [x])).length) c9) (((X ++ [x])).length) (((X ++ [x])).map (Value.int .i64))] _ := hM
  refine S.doneW ?_
  replace hA : St 13 [] a := hA.sub (.nil)
  refine EndsW.inBlock ?_
  refine EndsW.endQ ?_
  replace hM := hM.front (k := 1) rfl
  replace hM := hM.front (k := 1) rfl
  replace hM := hM.firstN 2
  exact ⟨((X ++ [x]), a8, c9), by rw [← (show X = pre from hs9)], hM⟩
 ·
  clear hM hqx htx
  rintro D11 xs ⟨X, oa, oc⟩ w8 hS9 hs9 hM
  replace hM : Mem _ _ [dfr D11, pt b3 #[.slice oa X.length oc] 26, own 3 1 (.slice oa X.length oc) X.length (X.map (Value.int .i64)), pt bx5 #[.int .u64 (loW f), .int .u64 (hiW f)] 24, pt b1 #[.int .u64 (loW f), .int .u64 (hiW f)] 24] _ := hM
  obtain rfl : X = xs := hs9
  have hXe : X = eL f 0 := hS9
  subst hXe
  replace hM : Mem _ _ [dfr D11, pt b3 #[.slice oa ((eL f 0).length) oc] 26, own 3 1 (.slice oa (((eL f 0)).length) oc) (((eL f 0)).length) (((eL f 0)).map (Value.int .i64)), pt bx5 #[.int .u64 (loW f), .int .u64 (hiW f)] 24, pt b1 #[.int .u64 (loW f), .int .u64 (hiW f)] 24] _ := hM
  refine EndsW.inBlock ?_
  refine EndsW.seq ?_
  refine EndsW.region ?_
  refine S.val hA (R.load sz26 rfl (hM.cell (k := 1) rfl rfl)) rfl ?_; clear hA a; intro a hA
  refine S.val hA (R.assign rfl) rfl ?_; clear hA a; intro a hA
  refine S.doneW ?_
  refine EndsW.retQ ?_
  refine leave1 hA.defers hM (fun w9 hM => ⟨by rw [results_tmp Tryd.results11, hA.getD (t := 2) rfl], ?_⟩)
  replace hM : Mem _ _ [pt b3 #[.slice oa ((eL f 0).length) oc] 26, own 3 1 (.slice oa (((eL f 0)).length) oc) (((eL f 0)).length) (((eL f 0)).map (Value.int .i64)), pt bx5 #[.int .u64 (loW f), .int .u64 (hiW f)] 24, pt b1 #[.int .u64 (loW f), .int .u64 (hiW f)] 24] _ := hM
  have hr9 := hM.rsl (k := 1) rfl
  have hf9 := hM.ownFresh (k := 1) rfl
  exact ⟨_, _, rfl, hr9, hf9, Mem.trans0 hbs hM.nilL⟩
 ·
  clear hM hqx htx
  rintro D12 c9 pre ⟨X, oa, oc⟩ w10 hS9 hx9 hM
  exact False.elim hx9
theorem list02 (f : Nat → Bool) (w : World) (htab : Lib.TabIs Tryd.prog w "math/bits.deBruijn64tab" .u8 debT) : Calls Tryd.prog 11 #[.agg #[.int .u64 (loW f), .int .u64 (hiW f)]] w (fun e w' => ∃ a c, e = .returned (.slice a ((eL f 0)).length c) ∧ IntSl w' (.slice a ((eL f 0)).length c) ((eL f 0)) ∧ Below w.heap.size w w') :=
  (list02F f w htab).mono fun e w' ⟨a, c, h1, h2, _, h3⟩ => ⟨a, c, h1, h2, h3⟩
theorem eL_s : eL (memF [3, 200, 1]) 0 = [1, 3] := by decide +kernel
theorem list_s (w : World) (htab : Lib.TabIs Tryd.prog w "math/bits.deBruijn64tab" .u8 debT) : Calls Tryd.prog 11 #[.agg #[.int .u64 (loW (memF [3, 200, 1])), .int .u64 (hiW (memF [3, 200, 1]))]] w (fun e w' => ∃ a c, e = .returned (.slice a (([1, 3] : List Int)).length c) ∧ IntSl w' (.slice a (([1, 3] : List Int)).length c) (([1, 3] : List Int)) ∧ Below w.heap.size w w') := by
  have h := list02 (memF [3, 200, 1]) w htab
  rwa [eL_s] at h
set_option maxRecDepth 100000 in
set_option maxHeartbeats 400000 in
theorem sets_any  (w : World) (htab : Lib.TabIs Tryd.prog w "math/bits.deBruijn64tab" .u8 debT) :
  Calls Tryd.prog 6 #[] w fun e w' => e = .returned (.bool true) ∧ Below w.heap.size w w' := by
 have hbs := Below.refl (B := w.heap.size) w
 have hM := Mem.start w
 refine Calls.of_ends (vs := []) Tryd.func6 rfl Tryd.ntmps6 rfl ?_
 intro a hA
 replace hA : St 31 [] a := hA
 refine Ends.seq (Ends.region ?_)
 refine S.val hA (R.assign rfl) rfl ?_; clear hA a; intro a hA
 refine S.done ?_
 refine Ends.seq (Ends.region ?_)
 refine S.buildSl (cells := #[.int .i64 3, .int .i64 200, .int .i64 1]) hA hM Tryd.underlying26 info3 rfl rfl rfl rfl (by kernel_rfl) rfl ?_; clear hA hM a; intro b1 w1 hb2 hM a hA
 replace hM : Mem _ _ [pt b1 #[.int .i64 3, .int .i64 200, .int .i64 1] 3] _ := hM
 have hq9 := hM.ptRs (k := 0) (X := ([3, 200, 1] : List Int)) rfl (by decide)
 refine S.call hA (R.callF Tryd.func22 rfl rfl rfl) rfl (of02 (some ⟨b1, 0, none⟩) [3, 200, 1] 3 _ hq9) ?_; clear hA a
 rintro e w2 ⟨rfl, hb⟩
 replace hM := hM.callB hb; clear hb
 refine ⟨.agg #[.int .u64 (loW (memF [3, 200, 1])), .int .u64 (hiW (memF [3, 200, 1]))], rfl, fun a hA => ?_⟩
 refine S.call hA (R.callF Tryd.func11 rfl rfl rfl) rfl (list_s _ (tab_below htab (Mem.trans0 hbs hM.nilL))) ?_; clear hA a
 rintro e w3 ⟨ra3, rc4, rfl, rh5, hb⟩
 replace hM := hM.callB hb; clear hb
 have hbx6 := hM.block (k := 0) rfl
 have hbs := hbs.trans (hM.below.mono hbs.size)
 replace hM := Mem.start w3
 refine ⟨.slice ra3 ((([1, 3] : List Int)).length) rc4, rfl, fun a hA => ?_⟩
 refine S.val hA (R.assign rfl) rfl ?_; clear hA a; intro a hA
 refine S.done ?_
 replace hA : St 31 [(1, _)] a := hA.sub ((.cons rfl .nil))
 refine Ends.seq (Ends.region ?_)
 refine S.val hA (R.move rfl) rfl ?_; clear hA a; intro a hA
 refine S.val hA (R.lenS Tryd.underlying26 rfl rfl) rfl ?_; clear hA a; intro a hA
 refine S.val hA (R.tt (R.eql rfl rfl) (by rfl)) rfl ?_; clear hA a; intro a hA
 refine S.val hA (R.move rfl) rfl ?_; clear hA a; intro a hA
 refine S.valg (dj := 8) hA (by kernel_rfl) rfl (R.move rfl) rfl ?_; clear hA a; intro a hA
 refine S.valg (dj := 8) hA (by kernel_rfl) rfl (R.idxI rh5 (j := 0) sl26 rfl rfl (by first | omega | decide) (rfl)) rfl ?_; clear hA a; intro a hA
 refine S.valg (dj := 8) hA (by kernel_rfl) rfl (R.loadI (rh5.mem hM) sz3 rfl (by first | omega | decide)) rfl ?_; clear hA a; intro a hA
 refine S.valg (dj := 8) hA (by kernel_rfl) rfl (R.tt (R.eql rfl rfl) (by rfl)) rfl ?_; clear hA a; intro a hA
 refine S.val hA (R.pickT rfl rfl) rfl ?_; clear hA a; intro a hA
 refine S.val hA (R.move rfl) rfl ?_; clear hA a; intro a hA
 refine S.valg (dj := 14) hA (by kernel_rfl) rfl (R.move rfl) rfl ?_; clear hA a; intro a hA
 refine S.valg (dj := 14) hA (by kernel_rfl) rfl (R.idxI rh5 (j := 1) sl26 rfl rfl (by first | omega | decide) (rfl)) rfl ?_; clear hA a; intro a hA
 refine S.valg (dj := 14) hA (by kernel_rfl) rfl (R.loadI (rh5.mem hM) sz3 rfl (by first | omega | decide)) rfl ?_; clear hA a; intro a hA
 refine S.valg (dj := 14) hA (by kernel_rfl) rfl (R.tt (R.eql rfl rfl) (by rfl)) rfl ?_; clear hA a; intro a hA
 refine S.val hA (R.pickT rfl rfl) rfl ?_; clear hA a; intro a hA
 refine S.val hA (R.move rfl) rfl ?_; clear hA a; intro a hA
 refine S.callg (dj := 20) hA (by kernel_rfl) rfl (R.callF Tryd.func23 rfl rfl rfl) rfl (full02 70 (by omega) (by omega) _) ?_; clear hA a
 rintro e w4 ⟨rfl, hb⟩
 replace hM := hM.callB hb; clear hb
 refine ⟨.agg #[.int .u64 (loW (lessF (70 : Int).toNat)), .int .u64 (hiW (lessF (70 : Int).toNat))], rfl, fun a hA => ?_⟩
 refine S.callg (dj := 20) hA (by kernel_rfl) rfl (R.callF Tryd.func21 rfl rfl rfl) rfl (count02 ((lessF (70 : Int).toNat)) _) ?_; clear hA a
 rintro e w5 ⟨rfl, hb⟩
 replace hM := hM.callB hb; clear hb
 refine ⟨.int .i64 (((cnt ((lessF (70 : Int).toNat)) 128 : Nat) : Int)), rfl, fun a hA => ?_⟩
 refine S.valg (dj := 20) hA (by kernel_rfl) rfl (R.tt (R.eql rfl rfl) (by decide +kernel)) rfl ?_; clear hA a; intro a hA
 refine S.val hA (R.pickT rfl rfl) rfl ?_; clear hA a; intro a hA
 refine S.val hA (R.move rfl) rfl ?_; clear hA a; intro a hA
 refine S.buildSlg (dj := 25) (cells := #[.int .i64 5, .int .i64 9]) hA hM (by kernel_rfl) rfl Tryd.underlying26 info3 rfl rfl rfl rfl (by kernel_rfl) rfl ?_; clear hA hM a; intro b7 w6 hb8 hM a hA
 replace hM : Mem _ _ [pt b7 #[.int .i64 5, .int .i64 9] 3] _ := hM
 have hq9 := hM.ptRs (k := 0) (X := ([5, 9] : List Int)) rfl (by decide)
 refine S.callg (dj := 25) hA (by kernel_rfl) rfl (R.callF Tryd.func22 rfl rfl rfl) rfl (of02 (some ⟨b7, 0, none⟩) [5, 9] 2 _ hq9) ?_; clear hA a
 rintro e w7 ⟨rfl, hb⟩
 replace hM := hM.callB hb; clear hb
 refine ⟨.agg #[.int .u64 (loW (memF [5, 9])), .int .u64 (hiW (memF [5, 9]))], rfl, fun a hA => ?_⟩
 refine S.callg (dj := 25) hA (by kernel_rfl) rfl (R.callF Tryd.func17 rfl rfl rfl) rfl (next02 ((memF [5, 9])) 5 (by omega) (by omega) _ (tab_below htab (Mem.trans0 hbs hM.nilL))) ?_; clear hA a
 rintro e w8 ⟨rfl, hb⟩
 replace hM := hM.callB hb; clear hb
 refine ⟨.int .i64 (nxI ((memF [5, 9])) 5), rfl, fun a hA => ?_⟩
 refine S.valg (dj := 25) hA (by kernel_rfl) rfl (R.tt (R.eql rfl rfl) (by decide +kernel)) rfl ?_; clear hA a; intro a hA
 refine S.val hA (R.pickT rfl rfl) rfl ?_; clear hA a; intro a hA
 refine S.val hA (R.assign rfl) rfl ?_; clear hA a; intro a hA
 refine S.done ?_
 replace hA : St 31 [(0, _)] a := hA.sub ((.cons rfl .nil))
 refine Ends.ret1 Tryd.func6 Tryd.results6 hA rfl ?_
 exact ⟨rfl, Mem.trans0 hbs hM.nilL⟩
def bL (f : Nat → Bool) : List Bool := (List.range 128).map f
def bK (f : Nat → Bool) (k : Nat) : List Bool := (List.range 128).map fun q => decide (q < k) && f q
theorem bL_len (f : Nat → Bool) : (bL f).length = 128 := by simp [bL]
theorem bK_len (f : Nat → Bool) (k : Nat) : (bK f k).length = 128 := by simp [bK]
theorem bL_get {f : Nat → Bool} {k : Nat} (h : k < 128) : (bL f).getD k false = f k := by simp [bL, List.getD, h]
theorem bK_zero (f : Nat → Bool) : List.replicate 128 false = bK f 0 := by
  refine List.ext_getElem (by simp [bK]) fun i h1 h2 => ?_
  rw [List.getElem_replicate]
  simp [bK]
theorem bK_all (f : Nat → Bool) : bK f 128 = bL f := List.map_congr_left fun i hi => by rw [decide_eq_true (List.mem_range.1 hi), Bool.true_and]
theorem bK_set {f : Nat → Bool} {k : Nat} (h : k < 128) : (bK f k).set k (f k) = bK f (k + 1) := by
  refine List.ext_getElem (by simp [bK]) fun i h1 h2 => ?_
  simp only [bK, List.getElem_set, List.getElem_map, List.getElem_range]
  by_cases e : k = i
  · subst e; rw [if_pos rfl, decide_eq_true (by omega), Bool.true_and]
  · rw [if_neg e]; congr 1; exact decide_eq_decide.2 (by omega)
theorem bitv {g : Nat → Bool} {m : Nat} (hm : m < 64) : decide (((wdB g 64 / 2 ^ m % 2 : Nat) : Int) = 1) = g m := by
  have e2 := wdB_bit g 64 m hm
  rw [Nat.testBit_eq_decide_div_mod_eq] at e2
  rw [← e2]; exact decide_eq_decide.2 (by omega)
theorem boo_size (f : Nat → Bool) : (boo (bL f)).size = 128 := by simp [boo, bL]
theorem boo_one0 : ∀ l : List Bool, allOne (l.map Value.bool) = true
  | [] => rfl
  | b :: l => by show ((Value.bool b).oneCell' && allOne (l.map Value.bool)) = true; rw [boo_one0 l]; rfl
theorem boo_one (l : List Bool) : allOne (boo l).toList = true := by
  have e : (boo l).toList = l.map Value.bool := by simp [boo]
  rw [e]; exact boo_one0 l
set_option maxRecDepth 100000 in
set_option maxHeartbeats 400000 in
theorem rof02 (f : Nat → Bool) (w : World) :
  Calls Tryd.prog 8 #[.agg #[.int .u64 (loW f), .int .u64 (hiW f)]] w fun e w' => e = .returned (.agg (boo (bL f))) ∧ Below w.heap.size w w' := by
 have hbs := Below.refl (B := w.heap.size) w
 have hM := Mem.start w
 refine Calls.of_ends (vs := [.agg #[.int .u64 (loW f), .int .u64 (hiW f)]]) Tryd.func8 rfl Tryd.ntmps8 rfl ?_
 intro a hA
 replace hA : St 21 [(0, _)] a := hA
 refine Ends.seq (Ends.region ?_)
 refine S.box hA hM rfl rfl ?_; clear hA hM a; intro b1 w1 hb2 hM a hA
 replace hM : Mem _ _ [pt b1 #[.int .u64 (loW f), .int .u64 (hiW f)] 23] _ := hM
 refine S.alloc hA hM info29 rfl rfl ?_; clear hA hM a; intro b3 w2 hb4 hM a hA
 replace hM : Mem _ _ [pt b3 cz0 29, pt b1 #[.int .u64 (loW f), .int .u64 (hiW f)] 23] _ := hM
 refine S.done ?_
 refine Ends.seq (Ends.region ?_)
 refine S.alloc hA hM info29 rfl rfl ?_; clear hA hM a; intro b5 w3 hb6 hM a hA
 replace hM : Mem _ _ [pt b5 cz0 29, pt b3 cz0 29, pt b1 #[.int .u64 (loW f), .int .u64 (hiW f)] 23] _ := hM
 refine S.done ?_
 refine Ends.seq (Ends.seq (Ends.region ?_))
 refine S.val hA (R.assign rfl) rfl ?_; clear hA a; intro a hA
 refine S.done ?_
 refine Ends.block ?_
 replace hM := Mem.eqM (L2 := [pt b5 ((boo (bK f 0))) 29, pt b3 cz0 29, pt b1 #[.int .u64 (loW f), .int .u64 (hiW f)] 23]) hM (by rw [← bK_zero]; rfl)
 refine Ends.loop (σ := Nat) (fun k (a : Act) (wv : World) => St 21 [(1, .pointer (some ⟨b1, 0, none⟩)), (2, .pointer (some ⟨b3, 0, none⟩)), (3, .pointer (some ⟨b5, 0, none⟩)), (4, .int .i64 ((k : Int)))] a ∧ Mem w nof [pt b5 ((boo (bK f k))) 29, pt b3 cz0 29, pt b1 #[.int .u64 (loW f), .int .u64 (hiW f)] 23] wv ∧ (k ≤ 128)) (fun k => 128 - k) 0 ⟨hA.sub ((.cons rfl (.cons rfl (.cons rfl (.cons rfl .nil))))), hM, (Nat.zero_le _)⟩ ?_
 clear hA hM a
 rintro k a w4 ⟨hA, hM, hk⟩ hNext
 refine Ends.seq (Ends.seq (Ends.region ?_))
 refine S.val hA (R.move rfl) rfl ?_; clear hA a; intro a hA
 refine S.val hA (R.lss rfl rfl) rfl ?_; clear hA a; intro a hA
 refine S.done ?_
 refine Ends.ite hA rfl (fun hc7 => ?_) (fun hc7 => ?_)
 ·
  have hbl := bK_len f k
  refine Ends.skip (Ends.seq (Ends.block ?_))
  by_cases hs8 : k < 64
  ·
   obtain ⟨m, hm, hmk⟩ : ∃ m : Nat, m < 64 ∧ k = m := ⟨k, by omega, by omega⟩
   have e9 : ((k : Int) % 64).toNat = m := by omega
   refine Ends.region ?_
   refine S.val hA (R.move rfl) rfl ?_; clear hA a; intro a hA
   refine S.val hA (R.move rfl) rfl ?_; clear hA a; intro a hA
   refine S.val hA (R.quoI rfl rfl (r := 0) (by omega) (by omega)) rfl ?_; clear hA a; intro a hA
   refine S.val hA (R.indexAddrA (q := 0) ar23 rfl rfl (by omega) (by omega)) rfl ?_; clear hA a; intro a hA
   refine S.val hA (R.load sz22 rfl (hM.cell (k := 2) rfl rfl)) rfl ?_; clear hA a; intro a hA
   refine S.val hA (R.move rfl) rfl ?_; clear hA a; intro a hA
   refine S.val hA (R.remI rfl rfl rfl (by omega)) rfl ?_; clear hA a; intro a hA
   refine S.val hA (R.to (v := .int .u64 ((wdB f 64 / 2 ^ m : Nat) : Int)) (R.shr rfl rfl (by omega)) (congrArg (Value.int .u64) (by rw [e9]; exact sh_n (X := wdB f 64) m (by omega)))) rfl ?_; clear hA a; intro a hA
   refine S.val hA (R.remI rfl rfl (r := ((wdB f 64 / 2 ^ m % 2 : Nat) : Int)) (by omega) ⟨Int.natCast_nonneg _, by decide⟩) rfl ?_; clear hA a; intro a hA
   refine S.val hA (R.to (v := .bool (f k)) (R.eql rfl rfl) (congrArg Value.bool ((bitv (g := f) hm).trans (by rw [hmk])))) rfl ?_; clear hA a; intro a hA
   refine S.val hA (R.indexAddrA (q := k) ar29 rfl rfl (by omega) (by omega)) rfl ?_; clear hA a; intro a hA
   refine S.store (k := 0) hA hM sz4 rfl rfl rfl rfl (boo_get _ _ (by omega)) ?_; clear hM
   intro w5 hM
   rw [boo_set] at hM
   replace hM : Mem _ _ [pt b5 ((boo (((bK f k)).set k (f k)))) 29, pt b3 cz0 29, pt b1 #[.int .u64 (loW f), .int .u64 (hiW f)] 23] _ := hM
   refine S.done ?_
   replace hA : St 21 [(1, _), (2, _), (3, _), (4, _)] a := hA.sub ((.cons rfl (.cons rfl (.cons rfl (.cons rfl .nil)))))
   refine Ends.inBlock (Ends.region ?_)
   refine S.val hA (R.move rfl) rfl ?_; clear hA a; intro a hA
   refine S.val hA (R.addI rfl rfl (r := ((k : Int)) + 1) rfl (by omega)) rfl ?_; clear hA a; intro a hA
   refine S.val hA (R.assign rfl) rfl ?_; clear hA a; intro a hA
   refine S.done ?_
   rw [bK_set (by omega)] at hM
   replace hM : Mem _ _ [pt b5 ((boo (bK f (k + 1)))) 29, pt b3 cz0 29, pt b1 #[.int .u64 (loW f), .int .u64 (hiW f)] 23] _ := hM
   exact hNext ((k + 1)) _ _ ((by show 128 - (k + 1) < 128 - k; omega)) ⟨hA.sub ((.cons rfl (.cons rfl (.cons rfl (.cons rfl .nil))))), hM, (by omega)⟩
  ·
   obtain ⟨m, hm, hmk⟩ : ∃ m : Nat, m < 64 ∧ k = 64 + m := ⟨k - 64, by omega, by omega⟩
   have e9 : ((k : Int) % 64).toNat = m := by omega
   refine Ends.region ?_
   refine S.val hA (R.move rfl) rfl ?_; clear hA a; intro a hA
   refine S.val hA (R.move rfl) rfl ?_; clear hA a; intro a hA
   refine S.val hA (R.quoI rfl rfl (r := 1) (by omega) (by omega)) rfl ?_; clear hA a; intro a hA
   refine S.val hA (R.indexAddrA (q := 1) ar23 rfl rfl (by omega) (by omega)) rfl ?_; clear hA a; intro a hA
   refine S.val hA (R.load sz22 rfl (hM.cell (k := 2) rfl rfl)) rfl ?_; clear hA a; intro a hA
   refine S.val hA (R.move rfl) rfl ?_; clear hA a; intro a hA
   refine S.val hA (R.remI rfl rfl rfl (by omega)) rfl ?_; clear hA a; intro a hA
   refine S.val hA (R.to (v := .int .u64 ((wdB (fun b => f (64 + b)) 64 / 2 ^ m : Nat) : Int)) (R.shr rfl rfl (by omega)) (congrArg (Value.int .u64) (by rw [e9]; exact sh_n (X := wdB (fun b => f (64 + b)) 64) m (by omega)))) rfl ?_; clear hA a; intro a hA
   refine S.val hA (R.remI rfl rfl (r := ((wdB (fun b => f (64 + b)) 64 / 2 ^ m % 2 : Nat) : Int)) (by omega) ⟨Int.natCast_nonneg _, by decide⟩) rfl ?_; clear hA a; intro a hA
   refine S.val hA (R.to (v := .bool (f k)) (R.eql rfl rfl) (congrArg Value.bool ((bitv (g := (fun b => f (64 + b))) hm).trans (by rw [hmk])))) rfl ?_; clear hA a; intro a hA
   refine S.val hA (R.indexAddrA (q := k) ar29 rfl rfl (by omega) (by omega)) rfl ?_; clear hA a; intro a hA
   refine S.store (k := 0) hA hM sz4 rfl rfl rfl rfl (boo_get _ _ (by omega)) ?_; clear hM
   intro w6 hM
   rw [boo_set] at hM
   replace hM : Mem _ _ [pt b5 ((boo (((bK f k)).set k (f k)))) 29, pt b3 cz0 29, pt b1 #[.int .u64 (loW f), .int .u64 (hiW f)] 23] _ := hM
   refine S.done ?_
   replace hA : St 21 [(1, _), (2, _), (3, _), (4, _)] a := hA.sub ((.cons rfl (.cons rfl (.cons rfl (.cons rfl .nil)))))
   refine Ends.inBlock (Ends.region ?_)
   refine S.val hA (R.move rfl) rfl ?_; clear hA a; intro a hA
   refine S.val hA (R.addI rfl rfl (r := ((k : Int)) + 1) rfl (by omega)) rfl ?_; clear hA a; intro a hA
   refine S.val hA (R.assign rfl) rfl ?_; clear hA a; intro a hA
   refine S.done ?_
   rw [bK_set (by omega)] at hM
   replace hM : Mem _ _ [pt b5 ((boo (bK f (k + 1)))) 29, pt b3 cz0 29, pt b1 #[.int .u64 (loW f), .int .u64 (hiW f)] 23] _ := hM
   exact hNext ((k + 1)) _ _ ((by show 128 - (k + 1) < 128 - k; omega)) ⟨hA.sub ((.cons rfl (.cons rfl (.cons rfl (.cons rfl .nil))))), hM, (by omega)⟩
 ·
  rw [show k = 128 by omega, bK_all] at hM
  refine Ends.exit rfl ?_
  refine Ends.seq (Ends.region ?_)
  refine S.val hA (R.loadW (k := 0) hM sz29 rfl rfl (boo_size _)) rfl ?_; clear hA a; intro a hA
  refine S.storeW (k := 1) hA hM sz29 rfl rfl (boo_size _) (boo_one _) rfl rfl ?_; clear hM
  intro w7 hM
  replace hM : Mem _ _ [pt b5 ((boo (bL f))) 29, pt b3 ((boo (bL f))) 29, pt b1 #[.int .u64 (loW f), .int .u64 (hiW f)] 23] _ := hM
  refine S.done ?_
  refine Ends.retW (k := 1) Tryd.func8 Tryd.results8 hA hM rfl rfl sz29 (boo_size _) ?_
  exact ⟨rfl, Mem.trans0 hbs hM.nilL⟩
end Go.Proofs.YtphpbdnmdhlnoaaDoor
namespace Go.Proofs.YtphpbdnmdhlnoaaDoor
open Go.RowKit
theorem two_of {l : List Int} (h : l.length = 2) : ∃ x y, l = [x, y] := by
  match l, h with
  | [x, y], _ => exact ⟨x, y, rfl⟩
theorem set_of {l : List Int} (h : l.length = 2) (hw : ∀ x ∈ l, (Lit.int .u64 x).wf = true) : ∃ f, Value.agg (l.map (Value.int .u64)).toArray = .agg #[.int .u64 (loW f), .int .u64 (hiW f)] := by
  obtain ⟨x, y, rfl⟩ := two_of h
  exact ⟨setF x y, by rw [lo_set (bd_u64 (hw x (by simp))), hi_set (bd_u64 (hw y (by simp)))]; rfl⟩
end Go.Proofs.YtphpbdnmdhlnoaaDoor
namespace Go.Proofs.YtphpbdnmdhlnoaaDoor
open Go.RowKit
theorem eq_bool1 (d : Nat) (b : Bool) (w : World) : (Op.equalIn (d + 1) 4 (.bool b) (.bool b)).run Tryd.prog w = .ok true w := by
  have u3 := Tryd.underlying4
  simp only [Op.equalIn, Sem.run_bind, run_underlying u3, Result.andThen_ok]
  simp
theorem eq_booL (X : List Bool) (w : World) : ∀ is : List Nat, (∀ i ∈ is, i < X.length) → (Op.eqItems 9999 4 1 (boo X) (boo X) is).run Tryd.prog w = .ok true w
  | [], _ => by simp [Op.eqItems]
  | i :: is, h => by
    have h0 := h i List.mem_cons_self
    have ih := eq_booL X w is fun j hj => h j (List.mem_cons_of_mem _ hj)
    have hg : (boo X)[i]? = some (.bool (X.getD i false)) := boo_get X i h0
    have u3 := Tryd.underlying4
    have q3 := Tryd.isAgg4
    have z3 := Tryd.sizeOf4
    have hp : (part 4 (boo X) (i * 1)).run Tryd.prog w = .ok (.bool (X.getD i false)) w := run_part_plain (P := Tryd.prog) w (by kernel_rfl) (by rw [Nat.mul_one]; exact hg)
    have he := eq_bool1 9998 (X.getD i false) w
    simp only [Op.eqItems, Sem.run_bind, hp, Result.andThen_ok, he]
    simpa using ih
theorem eq_boo (f : Nat → Bool) (w : World) : (Op.equalIn 10000 29 (.agg (boo (bL f))) (.agg (boo (bL f)))).run Tryd.prog w = .ok true w := by
  rw [show (10000 : Nat) = 9999 + 1 from rfl, run_equalIn_array (P := Tryd.prog) w 9999 _ _ Tryd.underlying29 info4]
  rw [show Tryd.prog.cellsOf 4 = 1 by kernel_rfl]
  exact eq_booL _ w _ fun i hi => by rw [bL_len]; exact List.mem_range.1 hi
def inK (f g : Nat → Bool) (k : Nat) : Prop := ∀ b, b < k → f b = true → g b = true
instance (f g : Nat → Bool) (k : Nat) : Decidable (inK f g k) := by unfold inK; infer_instance
theorem inK_step {f g : Nat → Bool} {k : Nat} : inK f g (k + 1) ↔ (inK f g k ∧ (f k = false ∨ g k = true)) := by
  unfold inK
  constructor
  · intro h
    refine ⟨fun b hb => h b (by omega), ?_⟩
    have := h k (by omega)
    cases hf : f k with
    | false => exact .inl rfl
    | true => exact .inr (this hf)
  · rintro ⟨h1, h2⟩ b hb hf
    rcases Nat.lt_or_ge b k with g1 | g1
    · exact h1 b g1 hf
    · obtain rfl : b = k := by omega
      rcases h2 with g2 | g2
      · rw [g2] at hf; cases hf
      · exact g2
set_option maxRecDepth 100000 in
set_option maxHeartbeats 400000 in
theorem setPairs_w (f g : Nat → Bool) (w : World) (htab : Lib.TabIs Tryd.prog w "math/bits.deBruijn64tab" .u8 debT) :
  Calls Tryd.prog 4 #[.agg #[.int .u64 (loW f), .int .u64 (hiW f)], .agg #[.int .u64 (loW g), .int .u64 (hiW g)]] w fun e w' => e = .returned (.bool true) ∧ Below w.heap.size w w' := by
 have hbs := Below.refl (B := w.heap.size) w
 have hM := Mem.start w
 refine Calls.of_ends (vs := [.agg #[.int .u64 (loW f), .int .u64 (hiW f)], .agg #[.int .u64 (loW g), .int .u64 (hiW g)]]) Tryd.func4 rfl Tryd.ntmps4 rfl ?_
 intro a hA
 replace hA : St 95 [(0, _), (1, _)] a := hA
 refine Ends.seq (Ends.region ?_)
 refine S.box hA hM rfl rfl ?_; clear hA hM a; intro b1 w1 hb2 hM a hA
 replace hM : Mem _ _ [pt b1 #[.int .u64 (loW f), .int .u64 (hiW f)] 24] _ := hM
 refine S.box hA hM rfl rfl ?_; clear hA hM a; intro b3 w2 hb4 hM a hA
 replace hM : Mem _ _ [pt b3 #[.int .u64 (loW g), .int .u64 (hiW g)] 24, pt b1 #[.int .u64 (loW f), .int .u64 (hiW f)] 24] _ := hM
 refine S.val hA (R.assign rfl) rfl ?_; clear hA a; intro a hA
 refine S.done ?_
 refine Ends.seq ?_
 refine Ends.cut (fun (a : Act) (wv : World) => ∃ ba bb : Nat, St 95 [(2, .pointer (some ⟨b1, 0, none⟩)), (3, .pointer (some ⟨b3, 0, none⟩)), (5, .pointer (some ⟨ba, 0, none⟩)), (6, .pointer (some ⟨bb, 0, none⟩))] a ∧ Mem w nof [pt ba ((boo (bL f))) 29, pt bb ((boo (bL g))) 29, pt b3 #[.int .u64 (loW g), .int .u64 (hiW g)] 24, pt b1 #[.int .u64 (loW f), .int .u64 (hiW f)] 24] wv) ?_ (fun k2 hJ => ?_)
 ·
  clear hA hM a; rintro a w3 ⟨ba, bb, hA, hM⟩
  refine Ends.seq (Ends.region ?_)
  refine S.alloc hA hM info29 rfl rfl ?_; clear hA hM a; intro b5 w4 hb6 hM a hA
  replace hM : Mem _ _ [pt b5 cz0 29, pt ba ((boo (bL f))) 29, pt bb ((boo (bL g))) 29, pt b3 #[.int .u64 (loW g), .int .u64 (hiW g)] 24, pt b1 #[.int .u64 (loW f), .int .u64 (hiW f)] 24] _ := hM
  refine S.alloc hA hM info29 rfl rfl ?_; clear hA hM a; intro b7 w5 hb8 hM a hA
  replace hM : Mem _ _ [pt b7 cz0 29, pt b5 cz0 29, pt ba ((boo (bL f))) 29, pt bb ((boo (bL g))) 29, pt b3 #[.int .u64 (loW g), .int .u64 (hiW g)] 24, pt b1 #[.int .u64 (loW f), .int .u64 (hiW f)] 24] _ := hM
  refine S.alloc hA hM info29 rfl rfl ?_; clear hA hM a; intro b9 w6 hb10 hM a hA
  replace hM : Mem _ _ [pt b9 cz0 29, pt b7 cz0 29, pt b5 cz0 29, pt ba ((boo (bL f))) 29, pt bb ((boo (bL g))) 29, pt b3 #[.int .u64 (loW g), .int .u64 (hiW g)] 24, pt b1 #[.int .u64 (loW f), .int .u64 (hiW f)] 24] _ := hM
  refine S.done ?_
  refine Ends.seq (Ends.region ?_)
  refine S.val hA (R.assign rfl) rfl ?_; clear hA a; intro a hA
  refine S.done ?_
  refine Ends.seq (Ends.seq (Ends.region ?_))
  refine S.val hA (R.assign rfl) rfl ?_; clear hA a; intro a hA
  refine S.done ?_
  refine Ends.block ?_
  replace hM := Mem.eqM (L2 := [pt b9 ((boo (bK (miF f g) 0))) 29, pt b7 ((boo (bK (orF f g) 0))) 29, pt b5 ((boo (bK (anF f g) 0))) 29, pt ba ((boo (bL f))) 29, pt bb ((boo (bL g))) 29, pt b3 #[.int .u64 (loW g), .int .u64 (hiW g)] 24, pt b1 #[.int .u64 (loW f), .int .u64 (hiW f)] 24]) hM (by rw [← bK_zero, ← bK_zero, ← bK_zero]; rfl)
  rw [show (Value.bool true) = .bool (decide (inK f g 0)) by rw [decide_eq_true (show inK f g 0 from fun b hb => absurd hb (Nat.not_lt_zero _))]] at hA
  refine Ends.loop (σ := Nat) (fun k (a : Act) (wv : World) => St 95 [(2, .pointer (some ⟨b1, 0, none⟩)), (3, .pointer (some ⟨b3, 0, none⟩)), (5, .pointer (some ⟨ba, 0, none⟩)), (6, .pointer (some ⟨bb, 0, none⟩)), (7, .pointer (some ⟨b5, 0, none⟩)), (8, .pointer (some ⟨b7, 0, none⟩)), (9, .pointer (some ⟨b9, 0, none⟩)), (10, .bool (decide (inK f g k))), (11, .int .i64 ((k : Int)))] a ∧ Mem w nof [pt b9 ((boo (bK (miF f g) k))) 29, pt b7 ((boo (bK (orF f g) k))) 29, pt b5 ((boo (bK (anF f g) k))) 29, pt ba ((boo (bL f))) 29, pt bb ((boo (bL g))) 29, pt b3 #[.int .u64 (loW g), .int .u64 (hiW g)] 24, pt b1 #[.int .u64 (loW f), .int .u64 (hiW f)] 24] wv ∧ (k ≤ 128)) (fun k => 128 - k) 0 ⟨hA.sub ((.cons rfl (.cons rfl (.cons rfl (.cons rfl (.cons rfl (.cons rfl (.cons rfl (.cons rfl (.cons rfl .nil)))))))))), hM, (Nat.zero_le _)⟩ ?_
  clear hA hM a
  rintro k a w7 ⟨hA, hM, hk⟩ hNext
  refine Ends.seq (Ends.seq (Ends.region ?_))
  refine S.val hA (R.move rfl) rfl ?_; clear hA a; intro a hA
  refine S.val hA (R.lss rfl rfl) rfl ?_; clear hA a; intro a hA
  refine S.done ?_
  refine Ends.ite hA rfl (fun hc11 => ?_) (fun hc11 => ?_)
  ·
   refine Ends.skip (Ends.seq (Ends.block (Ends.seq ?_)))
   by_cases hs12 : f k = true
   ·
    by_cases hs13 : g k = true
    ·
     have hfv : f k = true := hs12
     have hgv : g k = true := hs13
     have e1 : anF f g k = true := by unfold anF; rw [hfv, hgv]; rfl
     have e2 : orF f g k = true := by unfold orF; rw [hfv, hgv]; rfl
     have e3 : miF f g k = false := by unfold miF; rw [hfv, hgv]; rfl
     have q1 := bK_len (anF f g) k
     have q2 := bK_len (orF f g) k
     have q3 := bK_len (miF f g) k
     have q4 := bL_len f
     have q5 := bL_len g
     refine Ends.drawn (Mem w nof [pt ba ((boo (bL f))) 29, pt bb ((boo (bL g))) 29, pt b3 #[.int .u64 (loW g), .int .u64 (hiW g)] 24, pt b1 #[.int .u64 (loW f), .int .u64 (hiW f)] 24]) (.cons (0, true) (.cons (1, true) (.cons (2, true) (.cons (3, true) (.cons (4, true) (.cons (5, true) (.cons (6, true) (.cons (7, true) (.cons (8, true) (.cons (9, true) (.cons (10, true) (.cons (11, true) (.cons (12, true) (.cons (13, true) (.cons (14, true) (.cons (15, true) (.cons (16, true) (.cons (17, true) (.cons (18, true) (.cons (19, true) (.cons (20, true) (.cons (21, true) (.cons (22, true) (.cons (23, true) (.cons (24, true) (.cons (25, true) (.cons (26, true) (.cons (27, true) (.cons (28, true) (.cons (29, false) (.cons (30, true) (.cons (31, false) (.cons (32, true) (.cons (33, false) .nil)))))))))))))))))))))))))))))))))) 33 mixed (by kernel_rfl) (by kernel_rfl) (by kernel_rfl) (((hM.drop 2).drop 1).drop 0).drew ?_
     replace hM := hM.drew
     refine D.valF hA rfl (fun _ => R.move rfl) rfl ?_; clear hA a; intro a hA
     refine D.valF hA rfl (fun _ => R.move rfl) rfl ?_; clear hA a; intro a hA
     refine D.valF hA rfl (fun _ => R.move rfl) rfl ?_; clear hA a; intro a hA
     refine D.valF hA rfl (fun _ => R.move rfl) rfl ?_; clear hA a; intro a hA
     refine D.valF hA rfl (fun _ => R.indexAddrA (q := k) ar29 rfl rfl (by omega) (by omega)) rfl ?_; clear hA a; intro a hA
     refine D.val hA rfl (by kernel_rfl) (fun _ hM => R.to (v := .bool true) (R.load sz4 rfl (hM.cell (k := 0) rfl (boo_get (bL f) k (by omega)))) (congrArg Value.bool ((bL_get (show k < 128 by omega)).trans hfv))) rfl ?_; clear hA a; intro a hA
     refine D.valF hA rfl (fun _ => R.move rfl) rfl ?_; clear hA a; intro a hA
     refine D.valgF (dj := 26) hA rfl (by kernel_rfl) rfl (fun _ => R.move rfl) rfl ?_; clear hA a; intro a hA
     refine D.valgF (dj := 26) hA rfl (by kernel_rfl) rfl (fun _ => R.indexAddrA (q := k) ar29 rfl rfl (by omega) (by omega)) rfl ?_; clear hA a; intro a hA
     refine D.valg (dj := 26) hA rfl (by kernel_rfl) (by kernel_rfl) rfl (fun _ hM => R.to (v := .bool true) (R.load sz4 rfl (hM.cell (k := 1) rfl (boo_get (bL g) k (by omega)))) (congrArg Value.bool ((bL_get (show k < 128 by omega)).trans hgv))) rfl ?_; clear hA a; intro a hA
     refine D.valF hA rfl (fun _ => R.pickT rfl rfl) rfl ?_; clear hA a; intro a hA
     refine D.valF hA rfl (fun _ => R.move rfl) rfl ?_; clear hA a; intro a hA
     refine D.valF hA rfl (fun _ => R.indexAddrA (q := k) ar29 rfl rfl (by omega) (by omega)) rfl ?_; clear hA a; intro a hA
     refine D.val hA rfl (by kernel_rfl) (fun _ hM => R.to (v := .bool true) (R.load sz4 rfl (hM.cell (k := 0) rfl (boo_get (bL f) k (by omega)))) (congrArg Value.bool ((bL_get (show k < 128 by omega)).trans hfv))) rfl ?_; clear hA a; intro a hA
     refine D.valF hA rfl (fun _ => R.move rfl) rfl ?_; clear hA a; intro a hA
     refine D.no (dj := 34) hA rfl (by kernel_rfl) rfl rfl rfl ?_; clear hA a; intro a hA
     refine D.no (dj := 34) hA rfl (by kernel_rfl) rfl rfl rfl ?_; clear hA a; intro a hA
     refine D.no (dj := 34) hA rfl (by kernel_rfl) rfl rfl rfl ?_; clear hA a; intro a hA
     refine D.valF hA rfl (fun _ => R.pickT rfl rfl) rfl ?_; clear hA a; intro a hA
     refine D.valF hA rfl (fun _ => R.move rfl) rfl ?_; clear hA a; intro a hA
     refine D.valF hA rfl (fun _ => R.indexAddrA (q := k) ar29 rfl rfl (by omega) (by omega)) rfl ?_; clear hA a; intro a hA
     refine D.val hA rfl (by kernel_rfl) (fun _ hM => R.to (v := .bool true) (R.load sz4 rfl (hM.cell (k := 0) rfl (boo_get (bL f) k (by omega)))) (congrArg Value.bool ((bL_get (show k < 128 by omega)).trans hfv))) rfl ?_; clear hA a; intro a hA
     refine D.valF hA rfl (fun _ => R.move rfl) rfl ?_; clear hA a; intro a hA
     refine D.valgF (dj := 42) hA rfl (by kernel_rfl) rfl (fun _ => R.move rfl) rfl ?_; clear hA a; intro a hA
     refine D.valgF (dj := 42) hA rfl (by kernel_rfl) rfl (fun _ => R.indexAddrA (q := k) ar29 rfl rfl (by omega) (by omega)) rfl ?_; clear hA a; intro a hA
     refine D.valg (dj := 42) hA rfl (by kernel_rfl) (by kernel_rfl) rfl (fun _ hM => R.to (v := .bool true) (R.load sz4 rfl (hM.cell (k := 1) rfl (boo_get (bL g) k (by omega)))) (congrArg Value.bool ((bL_get (show k < 128 by omega)).trans hgv))) rfl ?_; clear hA a; intro a hA
     refine D.valgF (dj := 42) hA rfl (by kernel_rfl) rfl (fun _ => R.not rfl) rfl ?_; clear hA a; intro a hA
     refine D.valF hA rfl (fun _ => R.pickT rfl rfl) rfl ?_; clear hA a; intro a hA
     refine D.valF hA rfl (fun _ => R.indexAddrA (q := k) ar29 rfl rfl (by omega) (by omega)) rfl ?_; clear hA a; intro a hA
     refine D.store (k := 2) hA hM rfl sz4 rfl rfl rfl rfl (boo_get _ _ (by omega)) ?_; clear hM
     intro w8 hM; refine ⟨fun _ _ => (((hM.drop 2).drop 1).drop 0), ?_⟩
     rw [boo_set] at hM
     replace hM : Mem _ _ [pt b9 ((boo (bK (miF f g) k))) 29, pt b7 ((boo (bK (orF f g) k))) 29, pt b5 ((boo (((bK (anF f g) k)).set k true))) 29, pt ba ((boo (bL f))) 29, pt bb ((boo (bL g))) 29, pt b3 #[.int .u64 (loW g), .int .u64 (hiW g)] 24, pt b1 #[.int .u64 (loW f), .int .u64 (hiW f)] 24] _ := hM
     refine D.valF hA rfl (fun _ => R.indexAddrA (q := k) ar29 rfl rfl (by omega) (by omega)) rfl ?_; clear hA a; intro a hA
     refine D.store (k := 1) hA hM rfl sz4 rfl rfl rfl rfl (boo_get _ _ (by omega)) ?_; clear hM
     intro w9 hM; refine ⟨fun _ _ => (((hM.drop 2).drop 1).drop 0), ?_⟩
     rw [boo_set] at hM
     replace hM : Mem _ _ [pt b9 ((boo (bK (miF f g) k))) 29, pt b7 ((boo (((bK (orF f g) k)).set k true))) 29, pt b5 ((boo (((bK (anF f g) k)).set k true))) 29, pt ba ((boo (bL f))) 29, pt bb ((boo (bL g))) 29, pt b3 #[.int .u64 (loW g), .int .u64 (hiW g)] 24, pt b1 #[.int .u64 (loW f), .int .u64 (hiW f)] 24] _ := hM
     refine D.valF hA rfl (fun _ => R.indexAddrA (q := k) ar29 rfl rfl (by omega) (by omega)) rfl ?_; clear hA a; intro a hA
     refine D.store (k := 0) hA hM rfl sz4 rfl rfl rfl rfl (boo_get _ _ (by omega)) ?_; clear hM
     intro w10 hM; refine ⟨fun _ hne => absurd rfl hne, ?_⟩
     rw [boo_set] at hM
     replace hM : Mem _ _ [pt b9 ((boo (((bK (miF f g) k)).set k false))) 29, pt b7 ((boo (((bK (orF f g) k)).set k true))) 29, pt b5 ((boo (((bK (anF f g) k)).set k true))) 29, pt ba ((boo (bL f))) 29, pt bb ((boo (bL g))) 29, pt b3 #[.int .u64 (loW g), .int .u64 (hiW g)] 24, pt b1 #[.int .u64 (loW f), .int .u64 (hiW f)] 24] _ := hM
     refine D.done ?_
     rw [show (bK (anF f g) k).set k true = bK (anF f g) (k + 1) by rw [← e1]; exact bK_set (by omega)] at hM
     rw [show (bK (orF f g) k).set k true = bK (orF f g) (k + 1) by rw [← e2]; exact bK_set (by omega)] at hM
     rw [show (bK (miF f g) k).set k false = bK (miF f g) (k + 1) by rw [← e3]; exact bK_set (by omega)] at hM
     replace hM : Mem _ _ [pt b9 ((boo (bK (miF f g) (k + 1)))) 29, pt b7 ((boo (bK (orF f g) (k + 1)))) 29, pt b5 ((boo (bK (anF f g) (k + 1)))) 29, pt ba ((boo (bL f))) 29, pt bb ((boo (bL g))) 29, pt b3 #[.int .u64 (loW g), .int .u64 (hiW g)] 24, pt b1 #[.int .u64 (loW f), .int .u64 (hiW f)] 24] _ := hM
     replace hA : St 95 [(2, _), (3, _), (5, _), (6, _), (7, _), (8, _), (9, _), (10, _), (11, _)] a := hA.sub ((.cons rfl (.cons rfl (.cons rfl (.cons rfl (.cons rfl (.cons rfl (.cons rfl (.cons rfl (.cons rfl .nil))))))))))
     refine Ends.cut (fun (a : Act) (wv : World) => St 95 [(2, .pointer (some ⟨b1, 0, none⟩)), (3, .pointer (some ⟨b3, 0, none⟩)), (5, .pointer (some ⟨ba, 0, none⟩)), (6, .pointer (some ⟨bb, 0, none⟩)), (7, .pointer (some ⟨b5, 0, none⟩)), (8, .pointer (some ⟨b7, 0, none⟩)), (9, .pointer (some ⟨b9, 0, none⟩)), (10, .bool (decide ((inK f g k ∨ False)))), (11, .int .i64 ((k : Int)))] a ∧ Mem w nof [pt b9 ((boo (bK (miF f g) (k + 1)))) 29, pt b7 ((boo (bK (orF f g) (k + 1)))) 29, pt b5 ((boo (bK (anF f g) (k + 1)))) 29, pt ba ((boo (bL f))) 29, pt bb ((boo (bL g))) 29, pt b3 #[.int .u64 (loW g), .int .u64 (hiW g)] 24, pt b1 #[.int .u64 (loW f), .int .u64 (hiW f)] 24] wv) ?_ (fun k2 hJ => ?_)
     ·
      clear hA hM a; rintro a w11 ⟨hA, hM⟩
      refine Ends.inBlock (Ends.region ?_)
      refine S.val hA (R.move rfl) rfl ?_; clear hA a; intro a hA
      refine S.val hA (R.addI rfl rfl (r := ((k : Int)) + 1) rfl (by omega)) rfl ?_; clear hA a; intro a hA
      refine S.val hA (R.assign rfl) rfl ?_; clear hA a; intro a hA
      refine S.done ?_
      rw [show decide ((inK f g k ∨ False)) = decide (inK f g (k + 1)) from decide_eq_decide.2 (by rw [inK_step, hfv, hgv]; simp)] at hA
      exact hNext ((k + 1)) _ _ ((by show 128 - (k + 1) < 128 - k; omega)) ⟨hA.sub ((.cons rfl (.cons rfl (.cons rfl (.cons rfl (.cons rfl (.cons rfl (.cons rfl (.cons rfl (.cons rfl .nil)))))))))), hM, (by omega)⟩
     ·
      refine Ends.region ?_
      refine S.val hA (R.move rfl) rfl ?_; clear hA a; intro a hA
      refine S.val hA (R.move rfl) rfl ?_; clear hA a; intro a hA
      refine hA.split (d := 52) rfl ?_ ?_
      ·
       clear hA; intro hg14 hA
       refine S.valg (dj := 52) hA (by kernel_rfl) rfl (R.move rfl) rfl ?_; clear hA a; intro a hA
       refine S.valg (dj := 52) hA (by kernel_rfl) rfl (R.indexAddrA (q := k) ar29 rfl rfl (by omega) (by omega)) rfl ?_; clear hA a; intro a hA
       refine S.valg (dj := 52) hA (by kernel_rfl) rfl (R.to (v := .bool true) (R.load sz4 rfl (hM.cell (k := 3) rfl (boo_get (bL f) k (by omega)))) (congrArg Value.bool ((bL_get (show k < 128 by omega)).trans hfv))) rfl ?_; clear hA a; intro a hA
       refine S.valg (dj := 52) hA (by kernel_rfl) rfl (R.not rfl) rfl ?_; clear hA a; intro a hA
       refine S.valg (dj := 52) hA (by kernel_rfl) rfl (R.move rfl) rfl ?_; clear hA a; intro a hA
       refine S.valg (dj := 57) hA (by kernel_rfl) rfl (R.move rfl) rfl ?_; clear hA a; intro a hA
       refine S.valg (dj := 57) hA (by kernel_rfl) rfl (R.indexAddrA (q := k) ar29 rfl rfl (by omega) (by omega)) rfl ?_; clear hA a; intro a hA
       refine S.valg (dj := 57) hA (by kernel_rfl) rfl (R.to (v := .bool true) (R.load sz4 rfl (hM.cell (k := 4) rfl (boo_get (bL g) k (by omega)))) (congrArg Value.bool ((bL_get (show k < 128 by omega)).trans hgv))) rfl ?_; clear hA a; intro a hA
       refine S.valg (dj := 52) hA (by kernel_rfl) rfl (R.pickF rfl rfl) rfl ?_; clear hA a; intro a hA
       refine S.val hA (R.pickT rfl rfl) rfl ?_; clear hA a; intro a hA
       refine S.val hA (R.assign rfl) rfl ?_; clear hA a; intro a hA
       refine S.done ?_
       replace hA : St 95 [(2, _), (3, _), (5, _), (6, _), (7, _), (8, _), (9, _), (10, _), (11, _)] a := hA.sub ((.cons rfl (.cons rfl (.cons rfl (.cons rfl (.cons rfl (.cons rfl (.cons rfl (.cons rfl (.cons rfl .nil))))))))))
       exact hJ _ _ ⟨hA.sub (.cons rfl (.cons rfl (.cons rfl (.cons rfl (.cons rfl (.cons rfl (.cons rfl (.cons (by first | rfl | exact congrArg (fun b => some (Value.bool b)) (by first | exact decide_eq_decide.2 (by omega) | exact or_bool (by omega) | exact and_bool (by omega) | (simp; done) | (simp [hg14]; done) | (have h80 := hg14; (try simp at h80); simp [h80]; done) | exact (decide_eq_false (fun h9 => hg14 h9.1)).symm)) (.cons rfl .nil))))))))), hM⟩
      ·
       clear hA; intro hg14 hA
       refine S.no (dj := 52) hA (by kernel_rfl) rfl rfl rfl ?_; clear hA a; intro a hA
       refine S.no (dj := 52) hA (by kernel_rfl) rfl rfl rfl ?_; clear hA a; intro a hA
       refine S.no (dj := 52) hA (by kernel_rfl) rfl rfl rfl ?_; clear hA a; intro a hA
       refine S.no (dj := 52) hA (by kernel_rfl) rfl rfl rfl ?_; clear hA a; intro a hA
       refine S.no (dj := 52) hA (by kernel_rfl) rfl rfl rfl ?_; clear hA a; intro a hA
       refine S.noU (dj := 57) hA (by kernel_rfl) rfl rfl ?_; clear hA a; intro a hA
       refine S.noU (dj := 57) hA (by kernel_rfl) rfl rfl ?_; clear hA a; intro a hA
       refine S.noU (dj := 57) hA (by kernel_rfl) rfl rfl ?_; clear hA a; intro a hA
       refine S.no (dj := 52) hA (by kernel_rfl) rfl rfl rfl ?_; clear hA a; intro a hA
       refine S.val hA (R.pickF rfl rfl) rfl ?_; clear hA a; intro a hA
       refine S.val hA (R.assign rfl) rfl ?_; clear hA a; intro a hA
       refine S.done ?_
       replace hA : St 95 [(2, _), (3, _), (5, _), (6, _), (7, _), (8, _), (9, _), (10, _), (11, _)] a := hA.sub ((.cons rfl (.cons rfl (.cons rfl (.cons rfl (.cons rfl (.cons rfl (.cons rfl (.cons rfl (.cons rfl .nil))))))))))
       exact hJ _ _ ⟨hA.sub (.cons rfl (.cons rfl (.cons rfl (.cons rfl (.cons rfl (.cons rfl (.cons rfl (.cons (by first | rfl | exact congrArg (fun b => some (Value.bool b)) (by first | exact decide_eq_decide.2 (by omega) | exact or_bool (by omega) | exact and_bool (by omega) | (simp; done) | (simp [hg14]; done) | (have h80 := hg14; (try simp at h80); simp [h80]; done) | exact (decide_eq_false (fun h9 => hg14 h9.1)).symm)) (.cons rfl .nil))))))))), hM⟩
    ·
     have hfv : f k = true := hs12
     have hgv : g k = false := by simpa using hs13
     have e1 : anF f g k = false := by unfold anF; rw [hfv, hgv]; rfl
     have e2 : orF f g k = true := by unfold orF; rw [hfv, hgv]; rfl
     have e3 : miF f g k = true := by unfold miF; rw [hfv, hgv]; rfl
     have q1 := bK_len (anF f g) k
     have q2 := bK_len (orF f g) k
     have q3 := bK_len (miF f g) k
     have q4 := bL_len f
     have q5 := bL_len g
     refine Ends.drawn (Mem w nof [pt ba ((boo (bL f))) 29, pt bb ((boo (bL g))) 29, pt b3 #[.int .u64 (loW g), .int .u64 (hiW g)] 24, pt b1 #[.int .u64 (loW f), .int .u64 (hiW f)] 24]) (.cons (0, true) (.cons (1, true) (.cons (2, true) (.cons (3, true) (.cons (4, true) (.cons (5, true) (.cons (6, true) (.cons (7, true) (.cons (8, true) (.cons (9, true) (.cons (10, true) (.cons (11, true) (.cons (12, true) (.cons (13, true) (.cons (14, true) (.cons (15, true) (.cons (16, true) (.cons (17, true) (.cons (18, true) (.cons (19, true) (.cons (20, true) (.cons (21, true) (.cons (22, true) (.cons (23, true) (.cons (24, true) (.cons (25, true) (.cons (26, true) (.cons (27, true) (.cons (28, true) (.cons (29, false) (.cons (30, true) (.cons (31, false) (.cons (32, true) (.cons (33, false) .nil)))))))))))))))))))))))))))))))))) 33 mixed (by kernel_rfl) (by kernel_rfl) (by kernel_rfl) (((hM.drop 2).drop 1).drop 0).drew ?_
     replace hM := hM.drew
     refine D.valF hA rfl (fun _ => R.move rfl) rfl ?_; clear hA a; intro a hA
     refine D.valF hA rfl (fun _ => R.move rfl) rfl ?_; clear hA a; intro a hA
     refine D.valF hA rfl (fun _ => R.move rfl) rfl ?_; clear hA a; intro a hA
     refine D.valF hA rfl (fun _ => R.move rfl) rfl ?_; clear hA a; intro a hA
     refine D.valF hA rfl (fun _ => R.indexAddrA (q := k) ar29 rfl rfl (by omega) (by omega)) rfl ?_; clear hA a; intro a hA
     refine D.val hA rfl (by kernel_rfl) (fun _ hM => R.to (v := .bool true) (R.load sz4 rfl (hM.cell (k := 0) rfl (boo_get (bL f) k (by omega)))) (congrArg Value.bool ((bL_get (show k < 128 by omega)).trans hfv))) rfl ?_; clear hA a; intro a hA
     refine D.valF hA rfl (fun _ => R.move rfl) rfl ?_; clear hA a; intro a hA
     refine D.valgF (dj := 26) hA rfl (by kernel_rfl) rfl (fun _ => R.move rfl) rfl ?_; clear hA a; intro a hA
     refine D.valgF (dj := 26) hA rfl (by kernel_rfl) rfl (fun _ => R.indexAddrA (q := k) ar29 rfl rfl (by omega) (by omega)) rfl ?_; clear hA a; intro a hA
     refine D.valg (dj := 26) hA rfl (by kernel_rfl) (by kernel_rfl) rfl (fun _ hM => R.to (v := .bool false) (R.load sz4 rfl (hM.cell (k := 1) rfl (boo_get (bL g) k (by omega)))) (congrArg Value.bool ((bL_get (show k < 128 by omega)).trans hgv))) rfl ?_; clear hA a; intro a hA
     refine D.valF hA rfl (fun _ => R.pickT rfl rfl) rfl ?_; clear hA a; intro a hA
     refine D.valF hA rfl (fun _ => R.move rfl) rfl ?_; clear hA a; intro a hA
     refine D.valF hA rfl (fun _ => R.indexAddrA (q := k) ar29 rfl rfl (by omega) (by omega)) rfl ?_; clear hA a; intro a hA
     refine D.val hA rfl (by kernel_rfl) (fun _ hM => R.to (v := .bool true) (R.load sz4 rfl (hM.cell (k := 0) rfl (boo_get (bL f) k (by omega)))) (congrArg Value.bool ((bL_get (show k < 128 by omega)).trans hfv))) rfl ?_; clear hA a; intro a hA
     refine D.valF hA rfl (fun _ => R.move rfl) rfl ?_; clear hA a; intro a hA
     refine D.no (dj := 34) hA rfl (by kernel_rfl) rfl rfl rfl ?_; clear hA a; intro a hA
     refine D.no (dj := 34) hA rfl (by kernel_rfl) rfl rfl rfl ?_; clear hA a; intro a hA
     refine D.no (dj := 34) hA rfl (by kernel_rfl) rfl rfl rfl ?_; clear hA a; intro a hA
     refine D.valF hA rfl (fun _ => R.pickT rfl rfl) rfl ?_; clear hA a; intro a hA
     refine D.valF hA rfl (fun _ => R.move rfl) rfl ?_; clear hA a; intro a hA
     refine D.valF hA rfl (fun _ => R.indexAddrA (q := k) ar29 rfl rfl (by omega) (by omega)) rfl ?_; clear hA a; intro a hA
     refine D.val hA rfl (by kernel_rfl) (fun _ hM => R.to (v := .bool true) (R.load sz4 rfl (hM.cell (k := 0) rfl (boo_get (bL f) k (by omega)))) (congrArg Value.bool ((bL_get (show k < 128 by omega)).trans hfv))) rfl ?_; clear hA a; intro a hA
     refine D.valF hA rfl (fun _ => R.move rfl) rfl ?_; clear hA a; intro a hA
     refine D.valgF (dj := 42) hA rfl (by kernel_rfl) rfl (fun _ => R.move rfl) rfl ?_; clear hA a; intro a hA
     refine D.valgF (dj := 42) hA rfl (by kernel_rfl) rfl (fun _ => R.indexAddrA (q := k) ar29 rfl rfl (by omega) (by omega)) rfl ?_; clear hA a; intro a hA
     refine D.valg (dj := 42) hA rfl (by kernel_rfl) (by kernel_rfl) rfl (fun _ hM => R.to (v := .bool false) (R.load sz4 rfl (hM.cell (k := 1) rfl (boo_get (bL g) k (by omega)))) (congrArg Value.bool ((bL_get (show k < 128 by omega)).trans hgv))) rfl ?_; clear hA a; intro a hA
     refine D.valgF (dj := 42) hA rfl (by kernel_rfl) rfl (fun _ => R.not rfl) rfl ?_; clear hA a; intro a hA
     refine D.valF hA rfl (fun _ => R.pickT rfl rfl) rfl ?_; clear hA a; intro a hA
     refine D.valF hA rfl (fun _ => R.indexAddrA (q := k) ar29 rfl rfl (by omega) (by omega)) rfl ?_; clear hA a; intro a hA
     refine D.store (k := 2) hA hM rfl sz4 rfl rfl rfl rfl (boo_get _ _ (by omega)) ?_; clear hM
     intro w12 hM; refine ⟨fun _ _ => (((hM.drop 2).drop 1).drop 0), ?_⟩
     rw [boo_set] at hM
     replace hM : Mem _ _ [pt b9 ((boo (bK (miF f g) k))) 29, pt b7 ((boo (bK (orF f g) k))) 29, pt b5 ((boo (((bK (anF f g) k)).set k false))) 29, pt ba ((boo (bL f))) 29, pt bb ((boo (bL g))) 29, pt b3 #[.int .u64 (loW g), .int .u64 (hiW g)] 24, pt b1 #[.int .u64 (loW f), .int .u64 (hiW f)] 24] _ := hM
     refine D.valF hA rfl (fun _ => R.indexAddrA (q := k) ar29 rfl rfl (by omega) (by omega)) rfl ?_; clear hA a; intro a hA
     refine D.store (k := 1) hA hM rfl sz4 rfl rfl rfl rfl (boo_get _ _ (by omega)) ?_; clear hM
     intro w13 hM; refine ⟨fun _ _ => (((hM.drop 2).drop 1).drop 0), ?_⟩
     rw [boo_set] at hM
     replace hM : Mem _ _ [pt b9 ((boo (bK (miF f g) k))) 29, pt b7 ((boo (((bK (orF f g) k)).set k true))) 29, pt b5 ((boo (((bK (anF f g) k)).set k false))) 29, pt ba ((boo (bL f))) 29, pt bb ((boo (bL g))) 29, pt b3 #[.int .u64 (loW g), .int .u64 (hiW g)] 24, pt b1 #[.int .u64 (loW f), .int .u64 (hiW f)] 24] _ := hM
     refine D.valF hA rfl (fun _ => R.indexAddrA (q := k) ar29 rfl rfl (by omega) (by omega)) rfl ?_; clear hA a; intro a hA
     refine D.store (k := 0) hA hM rfl sz4 rfl rfl rfl rfl (boo_get _ _ (by omega)) ?_; clear hM
     intro w14 hM; refine ⟨fun _ hne => absurd rfl hne, ?_⟩
     rw [boo_set] at hM
     replace hM : Mem _ _ [pt b9 ((boo (((bK (miF f g) k)).set k true))) 29, pt b7 ((boo (((bK (orF f g) k)).set k true))) 29, pt b5 ((boo (((bK (anF f g) k)).set k false))) 29, pt ba ((boo (bL f))) 29, pt bb ((boo (bL g))) 29, pt b3 #[.int .u64 (loW g), .int .u64 (hiW g)] 24, pt b1 #[.int .u64 (loW f), .int .u64 (hiW f)] 24] _ := hM
     refine D.done ?_
     rw [show (bK (anF f g) k).set k false = bK (anF f g) (k + 1) by rw [← e1]; exact bK_set (by omega)] at hM
     rw [show (bK (orF f g) k).set k true = bK (orF f g) (k + 1) by rw [← e2]; exact bK_set (by omega)] at hM
     rw [show (bK (miF f g) k).set k true = bK (miF f g) (k + 1) by rw [← e3]; exact bK_set (by omega)] at hM
     replace hM : Mem _ _ [pt b9 ((boo (bK (miF f g) (k + 1)))) 29, pt b7 ((boo (bK (orF f g) (k + 1)))) 29, pt b5 ((boo (bK (anF f g) (k + 1)))) 29, pt ba ((boo (bL f))) 29, pt bb ((boo (bL g))) 29, pt b3 #[.int .u64 (loW g), .int .u64 (hiW g)] 24, pt b1 #[.int .u64 (loW f), .int .u64 (hiW f)] 24] _ := hM
     replace hA : St 95 [(2, _), (3, _), (5, _), (6, _), (7, _), (8, _), (9, _), (10, _), (11, _)] a := hA.sub ((.cons rfl (.cons rfl (.cons rfl (.cons rfl (.cons rfl (.cons rfl (.cons rfl (.cons rfl (.cons rfl .nil))))))))))
     refine Ends.cut (fun (a : Act) (wv : World) => St 95 [(2, .pointer (some ⟨b1, 0, none⟩)), (3, .pointer (some ⟨b3, 0, none⟩)), (5, .pointer (some ⟨ba, 0, none⟩)), (6, .pointer (some ⟨bb, 0, none⟩)), (7, .pointer (some ⟨b5, 0, none⟩)), (8, .pointer (some ⟨b7, 0, none⟩)), (9, .pointer (some ⟨b9, 0, none⟩)), (10, .bool (decide ((inK f g k ∧ False)))), (11, .int .i64 ((k : Int)))] a ∧ Mem w nof [pt b9 ((boo (bK (miF f g) (k + 1)))) 29, pt b7 ((boo (bK (orF f g) (k + 1)))) 29, pt b5 ((boo (bK (anF f g) (k + 1)))) 29, pt ba ((boo (bL f))) 29, pt bb ((boo (bL g))) 29, pt b3 #[.int .u64 (loW g), .int .u64 (hiW g)] 24, pt b1 #[.int .u64 (loW f), .int .u64 (hiW f)] 24] wv) ?_ (fun k2 hJ => ?_)
     ·
      clear hA hM a; rintro a w15 ⟨hA, hM⟩
      refine Ends.inBlock (Ends.region ?_)
      refine S.val hA (R.move rfl) rfl ?_; clear hA a; intro a hA
      refine S.val hA (R.addI rfl rfl (r := ((k : Int)) + 1) rfl (by omega)) rfl ?_; clear hA a; intro a hA
      refine S.val hA (R.assign rfl) rfl ?_; clear hA a; intro a hA
      refine S.done ?_
      rw [show decide ((inK f g k ∧ False)) = decide (inK f g (k + 1)) from decide_eq_decide.2 (by rw [inK_step, hfv, hgv]; simp)] at hA
      exact hNext ((k + 1)) _ _ ((by show 128 - (k + 1) < 128 - k; omega)) ⟨hA.sub ((.cons rfl (.cons rfl (.cons rfl (.cons rfl (.cons rfl (.cons rfl (.cons rfl (.cons rfl (.cons rfl .nil)))))))))), hM, (by omega)⟩
     ·
      refine Ends.region ?_
      refine S.val hA (R.move rfl) rfl ?_; clear hA a; intro a hA
      refine S.val hA (R.move rfl) rfl ?_; clear hA a; intro a hA
      refine hA.split (d := 52) rfl ?_ ?_
      ·
       clear hA; intro hg15 hA
       refine S.valg (dj := 52) hA (by kernel_rfl) rfl (R.move rfl) rfl ?_; clear hA a; intro a hA
       refine S.valg (dj := 52) hA (by kernel_rfl) rfl (R.indexAddrA (q := k) ar29 rfl rfl (by omega) (by omega)) rfl ?_; clear hA a; intro a hA
       refine S.valg (dj := 52) hA (by kernel_rfl) rfl (R.to (v := .bool true) (R.load sz4 rfl (hM.cell (k := 3) rfl (boo_get (bL f) k (by omega)))) (congrArg Value.bool ((bL_get (show k < 128 by omega)).trans hfv))) rfl ?_; clear hA a; intro a hA
       refine S.valg (dj := 52) hA (by kernel_rfl) rfl (R.not rfl) rfl ?_; clear hA a; intro a hA
       refine S.valg (dj := 52) hA (by kernel_rfl) rfl (R.move rfl) rfl ?_; clear hA a; intro a hA
       refine S.valg (dj := 57) hA (by kernel_rfl) rfl (R.move rfl) rfl ?_; clear hA a; intro a hA
       refine S.valg (dj := 57) hA (by kernel_rfl) rfl (R.indexAddrA (q := k) ar29 rfl rfl (by omega) (by omega)) rfl ?_; clear hA a; intro a hA
       refine S.valg (dj := 57) hA (by kernel_rfl) rfl (R.to (v := .bool false) (R.load sz4 rfl (hM.cell (k := 4) rfl (boo_get (bL g) k (by omega)))) (congrArg Value.bool ((bL_get (show k < 128 by omega)).trans hgv))) rfl ?_; clear hA a; intro a hA
       refine S.valg (dj := 52) hA (by kernel_rfl) rfl (R.pickF rfl rfl) rfl ?_; clear hA a; intro a hA
       refine S.val hA (R.pickT rfl rfl) rfl ?_; clear hA a; intro a hA
       refine S.val hA (R.assign rfl) rfl ?_; clear hA a; intro a hA
       refine S.done ?_
       replace hA : St 95 [(2, _), (3, _), (5, _), (6, _), (7, _), (8, _), (9, _), (10, _), (11, _)] a := hA.sub ((.cons rfl (.cons rfl (.cons rfl (.cons rfl (.cons rfl (.cons rfl (.cons rfl (.cons rfl (.cons rfl .nil))))))))))
       exact hJ _ _ ⟨hA.sub (.cons rfl (.cons rfl (.cons rfl (.cons rfl (.cons rfl (.cons rfl (.cons rfl (.cons (by first | rfl | exact congrArg (fun b => some (Value.bool b)) (by first | exact decide_eq_decide.2 (by omega) | exact or_bool (by omega) | exact and_bool (by omega) | (simp; done) | (simp [hg15]; done) | (have h80 := hg15; (try simp at h80); simp [h80]; done) | exact (decide_eq_false (fun h9 => hg15 h9.1)).symm)) (.cons rfl .nil))))))))), hM⟩
      ·
       clear hA; intro hg15 hA
       refine S.no (dj := 52) hA (by kernel_rfl) rfl rfl rfl ?_; clear hA a; intro a hA
       refine S.no (dj := 52) hA (by kernel_rfl) rfl rfl rfl ?_; clear hA a; intro a hA
       refine S.no (dj := 52) hA (by kernel_rfl) rfl rfl rfl ?_; clear hA a; intro a hA
       refine S.no (dj := 52) hA (by kernel_rfl) rfl rfl rfl ?_; clear hA a; intro a hA
       refine S.no (dj := 52) hA (by kernel_rfl) rfl rfl rfl ?_; clear hA a; intro a hA
       refine S.noU (dj := 57) hA (by kernel_rfl) rfl rfl ?_; clear hA a; intro a hA
       refine S.noU (dj := 57) hA (by kernel_rfl) rfl rfl ?_; clear hA a; intro a hA
       refine S.noU (dj := 57) hA (by kernel_rfl) rfl rfl ?_; clear hA a; intro a hA
       refine S.no (dj := 52) hA (by kernel_rfl) rfl rfl rfl ?_; clear hA a; intro a hA
       refine S.val hA (R.pickF rfl rfl) rfl ?_; clear hA a; intro a hA
       refine S.val hA (R.assign rfl) rfl ?_; clear hA a; intro a hA
       refine S.done ?_
       replace hA : St 95 [(2, _), (3, _), (5, _), (6, _), (7, _), (8, _), (9, _), (10, _), (11, _)] a := hA.sub ((.cons rfl (.cons rfl (.cons rfl (.cons rfl (.cons rfl (.cons rfl (.cons rfl (.cons rfl (.cons rfl .nil))))))))))
       exact hJ _ _ ⟨hA.sub (.cons rfl (.cons rfl (.cons rfl (.cons rfl (.cons rfl (.cons rfl (.cons rfl (.cons (by first | rfl | exact congrArg (fun b => some (Value.bool b)) (by first | exact decide_eq_decide.2 (by omega) | exact or_bool (by omega) | exact and_bool (by omega) | (simp; done) | (simp [hg15]; done) | (have h80 := hg15; (try simp at h80); simp [h80]; done) | exact (decide_eq_false (fun h9 => hg15 h9.1)).symm)) (.cons rfl .nil))))))))), hM⟩
   ·
    by_cases hs16 : g k = true
    ·
     have hfv : f k = false := by simpa using hs12
     have hgv : g k = true := hs16
     have e1 : anF f g k = false := by unfold anF; rw [hfv, hgv]; rfl
     have e2 : orF f g k = true := by unfold orF; rw [hfv, hgv]; rfl
     have e3 : miF f g k = false := by unfold miF; rw [hfv, hgv]; rfl
     have q1 := bK_len (anF f g) k
     have q2 := bK_len (orF f g) k
     have q3 := bK_len (miF f g) k
     have q4 := bL_len f
     have q5 := bL_len g
     refine Ends.drawn (Mem w nof [pt ba ((boo (bL f))) 29, pt bb ((boo (bL g))) 29, pt b3 #[.int .u64 (loW g), .int .u64 (hiW g)] 24, pt b1 #[.int .u64 (loW f), .int .u64 (hiW f)] 24]) (.cons (0, true) (.cons (1, true) (.cons (2, true) (.cons (3, true) (.cons (4, true) (.cons (5, true) (.cons (6, true) (.cons (7, true) (.cons (8, true) (.cons (9, true) (.cons (10, true) (.cons (11, true) (.cons (12, true) (.cons (13, true) (.cons (14, true) (.cons (15, true) (.cons (16, true) (.cons (17, true) (.cons (18, true) (.cons (19, true) (.cons (20, true) (.cons (21, true) (.cons (22, true) (.cons (23, true) (.cons (24, true) (.cons (25, true) (.cons (26, true) (.cons (27, true) (.cons (28, true) (.cons (29, false) (.cons (30, true) (.cons (31, false) (.cons (32, true) (.cons (33, false) .nil)))))))))))))))))))))))))))))))))) 33 mixed (by kernel_rfl) (by kernel_rfl) (by kernel_rfl) (((hM.drop 2).drop 1).drop 0).drew ?_
     replace hM := hM.drew
     refine D.valF hA rfl (fun _ => R.move rfl) rfl ?_; clear hA a; intro a hA
     refine D.valF hA rfl (fun _ => R.move rfl) rfl ?_; clear hA a; intro a hA
     refine D.valF hA rfl (fun _ => R.move rfl) rfl ?_; clear hA a; intro a hA
     refine D.valF hA rfl (fun _ => R.move rfl) rfl ?_; clear hA a; intro a hA
     refine D.valF hA rfl (fun _ => R.indexAddrA (q := k) ar29 rfl rfl (by omega) (by omega)) rfl ?_; clear hA a; intro a hA
     refine D.val hA rfl (by kernel_rfl) (fun _ hM => R.to (v := .bool false) (R.load sz4 rfl (hM.cell (k := 0) rfl (boo_get (bL f) k (by omega)))) (congrArg Value.bool ((bL_get (show k < 128 by omega)).trans hfv))) rfl ?_; clear hA a; intro a hA
     refine D.valF hA rfl (fun _ => R.move rfl) rfl ?_; clear hA a; intro a hA
     refine D.no (dj := 26) hA rfl (by kernel_rfl) rfl rfl rfl ?_; clear hA a; intro a hA
     refine D.no (dj := 26) hA rfl (by kernel_rfl) rfl rfl rfl ?_; clear hA a; intro a hA
     refine D.no (dj := 26) hA rfl (by kernel_rfl) rfl rfl rfl ?_; clear hA a; intro a hA
     refine D.valF hA rfl (fun _ => R.pickF rfl rfl) rfl ?_; clear hA a; intro a hA
     refine D.valF hA rfl (fun _ => R.move rfl) rfl ?_; clear hA a; intro a hA
     refine D.valF hA rfl (fun _ => R.indexAddrA (q := k) ar29 rfl rfl (by omega) (by omega)) rfl ?_; clear hA a; intro a hA
     refine D.val hA rfl (by kernel_rfl) (fun _ hM => R.to (v := .bool false) (R.load sz4 rfl (hM.cell (k := 0) rfl (boo_get (bL f) k (by omega)))) (congrArg Value.bool ((bL_get (show k < 128 by omega)).trans hfv))) rfl ?_; clear hA a; intro a hA
     refine D.valF hA rfl (fun _ => R.move rfl) rfl ?_; clear hA a; intro a hA
     refine D.valgF (dj := 34) hA rfl (by kernel_rfl) rfl (fun _ => R.move rfl) rfl ?_; clear hA a; intro a hA
     refine D.valgF (dj := 34) hA rfl (by kernel_rfl) rfl (fun _ => R.indexAddrA (q := k) ar29 rfl rfl (by omega) (by omega)) rfl ?_; clear hA a; intro a hA
     refine D.valg (dj := 34) hA rfl (by kernel_rfl) (by kernel_rfl) rfl (fun _ hM => R.to (v := .bool true) (R.load sz4 rfl (hM.cell (k := 1) rfl (boo_get (bL g) k (by omega)))) (congrArg Value.bool ((bL_get (show k < 128 by omega)).trans hgv))) rfl ?_; clear hA a; intro a hA
     refine D.valF hA rfl (fun _ => R.pickF rfl rfl) rfl ?_; clear hA a; intro a hA
     refine D.valF hA rfl (fun _ => R.move rfl) rfl ?_; clear hA a; intro a hA
     refine D.valF hA rfl (fun _ => R.indexAddrA (q := k) ar29 rfl rfl (by omega) (by omega)) rfl ?_; clear hA a; intro a hA
     refine D.val hA rfl (by kernel_rfl) (fun _ hM => R.to (v := .bool false) (R.load sz4 rfl (hM.cell (k := 0) rfl (boo_get (bL f) k (by omega)))) (congrArg Value.bool ((bL_get (show k < 128 by omega)).trans hfv))) rfl ?_; clear hA a; intro a hA
     refine D.valF hA rfl (fun _ => R.move rfl) rfl ?_; clear hA a; intro a hA
     refine D.no (dj := 42) hA rfl (by kernel_rfl) rfl rfl rfl ?_; clear hA a; intro a hA
     refine D.no (dj := 42) hA rfl (by kernel_rfl) rfl rfl rfl ?_; clear hA a; intro a hA
     refine D.no (dj := 42) hA rfl (by kernel_rfl) rfl rfl rfl ?_; clear hA a; intro a hA
     refine D.no (dj := 42) hA rfl (by kernel_rfl) rfl rfl rfl ?_; clear hA a; intro a hA
     refine D.valF hA rfl (fun _ => R.pickF rfl rfl) rfl ?_; clear hA a; intro a hA
     refine D.valF hA rfl (fun _ => R.indexAddrA (q := k) ar29 rfl rfl (by omega) (by omega)) rfl ?_; clear hA a; intro a hA
     refine D.store (k := 2) hA hM rfl sz4 rfl rfl rfl rfl (boo_get _ _ (by omega)) ?_; clear hM
     intro w16 hM; refine ⟨fun _ _ => (((hM.drop 2).drop 1).drop 0), ?_⟩
     rw [boo_set] at hM
     replace hM : Mem _ _ [pt b9 ((boo (bK (miF f g) k))) 29, pt b7 ((boo (bK (orF f g) k))) 29, pt b5 ((boo (((bK (anF f g) k)).set k false))) 29, pt ba ((boo (bL f))) 29, pt bb ((boo (bL g))) 29, pt b3 #[.int .u64 (loW g), .int .u64 (hiW g)] 24, pt b1 #[.int .u64 (loW f), .int .u64 (hiW f)] 24] _ := hM
     refine D.valF hA rfl (fun _ => R.indexAddrA (q := k) ar29 rfl rfl (by omega) (by omega)) rfl ?_; clear hA a; intro a hA
     refine D.store (k := 1) hA hM rfl sz4 rfl rfl rfl rfl (boo_get _ _ (by omega)) ?_; clear hM
     intro w17 hM; refine ⟨fun _ _ => (((hM.drop 2).drop 1).drop 0), ?_⟩
     rw [boo_set] at hM
     replace hM : Mem _ _ [pt b9 ((boo (bK (miF f g) k))) 29, pt b7 ((boo (((bK (orF f g) k)).set k true))) 29, pt b5 ((boo (((bK (anF f g) k)).set k false))) 29, pt ba ((boo (bL f))) 29, pt bb ((boo (bL g))) 29, pt b3 #[.int .u64 (loW g), .int .u64 (hiW g)] 24, pt b1 #[.int .u64 (loW f), .int .u64 (hiW f)] 24] _ := hM
     refine D.valF hA rfl (fun _ => R.indexAddrA (q := k) ar29 rfl rfl (by omega) (by omega)) rfl ?_; clear hA a; intro a hA
     refine D.store (k := 0) hA hM rfl sz4 rfl rfl rfl rfl (boo_get _ _ (by omega)) ?_; clear hM
     intro w18 hM; refine ⟨fun _ hne => absurd rfl hne, ?_⟩
     rw [boo_set] at hM
     replace hM : Mem _ _ [pt b9 ((boo (((bK (miF f g) k)).set k false))) 29, pt b7 ((boo (((bK (orF f g) k)).set k true))) 29, pt b5 ((boo (((bK (anF f g) k)).set k false))) 29, pt ba ((boo (bL f))) 29, pt bb ((boo (bL g))) 29, pt b3 #[.int .u64 (loW g), .int .u64 (hiW g)] 24, pt b1 #[.int .u64 (loW f), .int .u64 (hiW f)] 24] _ := hM
     refine D.done ?_
     rw [show (bK (anF f g) k).set k false = bK (anF f g) (k + 1) by rw [← e1]; exact bK_set (by omega)] at hM
     rw [show (bK (orF f g) k).set k true = bK (orF f g) (k + 1) by rw [← e2]; exact bK_set (by omega)] at hM
     rw [show (bK (miF f g) k).set k false = bK (miF f g) (k + 1) by rw [← e3]; exact bK_set (by omega)] at hM
     replace hM : Mem _ _ [pt b9 ((boo (bK (miF f g) (k + 1)))) 29, pt b7 ((boo (bK (orF f g) (k + 1)))) 29, pt b5 ((boo (bK (anF f g) (k + 1)))) 29, pt ba ((boo (bL f))) 29, pt bb ((boo (bL g))) 29, pt b3 #[.int .u64 (loW g), .int .u64 (hiW g)] 24, pt b1 #[.int .u64 (loW f), .int .u64 (hiW f)] 24] _ := hM
     replace hA : St 95 [(2, _), (3, _), (5, _), (6, _), (7, _), (8, _), (9, _), (10, _), (11, _)] a := hA.sub ((.cons rfl (.cons rfl (.cons rfl (.cons rfl (.cons rfl (.cons rfl (.cons rfl (.cons rfl (.cons rfl .nil))))))))))
     refine Ends.cut (fun (a : Act) (wv : World) => St 95 [(2, .pointer (some ⟨b1, 0, none⟩)), (3, .pointer (some ⟨b3, 0, none⟩)), (5, .pointer (some ⟨ba, 0, none⟩)), (6, .pointer (some ⟨bb, 0, none⟩)), (7, .pointer (some ⟨b5, 0, none⟩)), (8, .pointer (some ⟨b7, 0, none⟩)), (9, .pointer (some ⟨b9, 0, none⟩)), (10, .bool (decide ((inK f g k ∨ False)))), (11, .int .i64 ((k : Int)))] a ∧ Mem w nof [pt b9 ((boo (bK (miF f g) (k + 1)))) 29, pt b7 ((boo (bK (orF f g) (k + 1)))) 29, pt b5 ((boo (bK (anF f g) (k + 1)))) 29, pt ba ((boo (bL f))) 29, pt bb ((boo (bL g))) 29, pt b3 #[.int .u64 (loW g), .int .u64 (hiW g)] 24, pt b1 #[.int .u64 (loW f), .int .u64 (hiW f)] 24] wv) ?_ (fun k2 hJ => ?_)
     ·
      clear hA hM a; rintro a w19 ⟨hA, hM⟩
      refine Ends.inBlock (Ends.region ?_)
      refine S.val hA (R.move rfl) rfl ?_; clear hA a; intro a hA
      refine S.val hA (R.addI rfl rfl (r := ((k : Int)) + 1) rfl (by omega)) rfl ?_; clear hA a; intro a hA
      refine S.val hA (R.assign rfl) rfl ?_; clear hA a; intro a hA
      refine S.done ?_
      rw [show decide ((inK f g k ∨ False)) = decide (inK f g (k + 1)) from decide_eq_decide.2 (by rw [inK_step, hfv, hgv]; simp)] at hA
      exact hNext ((k + 1)) _ _ ((by show 128 - (k + 1) < 128 - k; omega)) ⟨hA.sub ((.cons rfl (.cons rfl (.cons rfl (.cons rfl (.cons rfl (.cons rfl (.cons rfl (.cons rfl (.cons rfl .nil)))))))))), hM, (by omega)⟩
     ·
      refine Ends.region ?_
      refine S.val hA (R.move rfl) rfl ?_; clear hA a; intro a hA
      refine S.val hA (R.move rfl) rfl ?_; clear hA a; intro a hA
      refine hA.split (d := 52) rfl ?_ ?_
      ·
       clear hA; intro hg17 hA
       refine S.valg (dj := 52) hA (by kernel_rfl) rfl (R.move rfl) rfl ?_; clear hA a; intro a hA
       refine S.valg (dj := 52) hA (by kernel_rfl) rfl (R.indexAddrA (q := k) ar29 rfl rfl (by omega) (by omega)) rfl ?_; clear hA a; intro a hA
       refine S.valg (dj := 52) hA (by kernel_rfl) rfl (R.to (v := .bool false) (R.load sz4 rfl (hM.cell (k := 3) rfl (boo_get (bL f) k (by omega)))) (congrArg Value.bool ((bL_get (show k < 128 by omega)).trans hfv))) rfl ?_; clear hA a; intro a hA
       refine S.valg (dj := 52) hA (by kernel_rfl) rfl (R.not rfl) rfl ?_; clear hA a; intro a hA
       refine S.valg (dj := 52) hA (by kernel_rfl) rfl (R.move rfl) rfl ?_; clear hA a; intro a hA
       refine S.no (dj := 57) hA (by kernel_rfl) rfl rfl rfl ?_; clear hA a; intro a hA
       refine S.no (dj := 57) hA (by kernel_rfl) rfl rfl rfl ?_; clear hA a; intro a hA
       refine S.no (dj := 57) hA (by kernel_rfl) rfl rfl rfl ?_; clear hA a; intro a hA
       refine S.valg (dj := 52) hA (by kernel_rfl) rfl (R.pickT rfl rfl) rfl ?_; clear hA a; intro a hA
       refine S.val hA (R.pickT rfl rfl) rfl ?_; clear hA a; intro a hA
       refine S.val hA (R.assign rfl) rfl ?_; clear hA a; intro a hA
       refine S.done ?_
       replace hA : St 95 [(2, _), (3, _), (5, _), (6, _), (7, _), (8, _), (9, _), (10, _), (11, _)] a := hA.sub ((.cons rfl (.cons rfl (.cons rfl (.cons rfl (.cons rfl (.cons rfl (.cons rfl (.cons rfl (.cons rfl .nil))))))))))
       exact hJ _ _ ⟨hA.sub (.cons rfl (.cons rfl (.cons rfl (.cons rfl (.cons rfl (.cons rfl (.cons rfl (.cons (by first | rfl | exact congrArg (fun b => some (Value.bool b)) (by first | exact decide_eq_decide.2 (by omega) | exact or_bool (by omega) | exact and_bool (by omega) | (simp; done) | (simp [hg17]; done) | (have h80 := hg17; (try simp at h80); simp [h80]; done) | exact (decide_eq_false (fun h9 => hg17 h9.1)).symm)) (.cons rfl .nil))))))))), hM⟩
      ·
       clear hA; intro hg17 hA
       refine S.no (dj := 52) hA (by kernel_rfl) rfl rfl rfl ?_; clear hA a; intro a hA
       refine S.no (dj := 52) hA (by kernel_rfl) rfl rfl rfl ?_; clear hA a; intro a hA
       refine S.no (dj := 52) hA (by kernel_rfl) rfl rfl rfl ?_; clear hA a; intro a hA
       refine S.no (dj := 52) hA (by kernel_rfl) rfl rfl rfl ?_; clear hA a; intro a hA
       refine S.no (dj := 52) hA (by kernel_rfl) rfl rfl rfl ?_; clear hA a; intro a hA
       refine S.noU (dj := 57) hA (by kernel_rfl) rfl rfl ?_; clear hA a; intro a hA
       refine S.noU (dj := 57) hA (by kernel_rfl) rfl rfl ?_; clear hA a; intro a hA
       refine S.noU (dj := 57) hA (by kernel_rfl) rfl rfl ?_; clear hA a; intro a hA
       refine S.no (dj := 52) hA (by kernel_rfl) rfl rfl rfl ?_; clear hA a; intro a hA
       refine S.val hA (R.pickF rfl rfl) rfl ?_; clear hA a; intro a hA
       refine S.val hA (R.assign rfl) rfl ?_; clear hA a; intro a hA
       refine S.done ?_
       replace hA : St 95 [(2, _), (3, _), (5, _), (6, _), (7, _), (8, _), (9, _), (10, _), (11, _)] a := hA.sub ((.cons rfl (.cons rfl (.cons rfl (.cons rfl (.cons rfl (.cons rfl (.cons rfl (.cons rfl (.cons rfl .nil))))))))))
       exact hJ _ _ ⟨hA.sub (.cons rfl (.cons rfl (.cons rfl (.cons rfl (.cons rfl (.cons rfl (.cons rfl (.cons (by first | rfl | exact congrArg (fun b => some (Value.bool b)) (by first | exact decide_eq_decide.2 (by omega) | exact or_bool (by omega) | exact and_bool (by omega) | (simp; done) | (simp [hg17]; done) | (have h80 := hg17; (try simp at h80); simp [h80]; done) | exact (decide_eq_false (fun h9 => hg17 h9.1)).symm)) (.cons rfl .nil))))))))), hM⟩
    ·
     have hfv : f k = false := by simpa using hs12
     have hgv : g k = false := by simpa using hs16
     have e1 : anF f g k = false := by unfold anF; rw [hfv, hgv]; rfl
     have e2 : orF f g k = false := by unfold orF; rw [hfv, hgv]; rfl
     have e3 : miF f g k = false := by unfold miF; rw [hfv, hgv]; rfl
     have q1 := bK_len (anF f g) k
     have q2 := bK_len (orF f g) k
     have q3 := bK_len (miF f g) k
     have q4 := bL_len f
     have q5 := bL_len g
     refine Ends.drawn (Mem w nof [pt ba ((boo (bL f))) 29, pt bb ((boo (bL g))) 29, pt b3 #[.int .u64 (loW g), .int .u64 (hiW g)] 24, pt b1 #[.int .u64 (loW f), .int .u64 (hiW f)] 24]) (.cons (0, true) (.cons (1, true) (.cons (2, true) (.cons (3, true) (.cons (4, true) (.cons (5, true) (.cons (6, true) (.cons (7, true) (.cons (8, true) (.cons (9, true) (.cons (10, true) (.cons (11, true) (.cons (12, true) (.cons (13, true) (.cons (14, true) (.cons (15, true) (.cons (16, true) (.cons (17, true) (.cons (18, true) (.cons (19, true) (.cons (20, true) (.cons (21, true) (.cons (22, true) (.cons (23, true) (.cons (24, true) (.cons (25, true) (.cons (26, true) (.cons (27, true) (.cons (28, true) (.cons (29, false) (.cons (30, true) (.cons (31, false) (.cons (32, true) (.cons (33, false) .nil)))))))))))))))))))))))))))))))))) 33 mixed (by kernel_rfl) (by kernel_rfl) (by kernel_rfl) (((hM.drop 2).drop 1).drop 0).drew ?_
     replace hM := hM.drew
     refine D.valF hA rfl (fun _ => R.move rfl) rfl ?_; clear hA a; intro a hA
     refine D.valF hA rfl (fun _ => R.move rfl) rfl ?_; clear hA a; intro a hA
     refine D.valF hA rfl (fun _ => R.move rfl) rfl ?_; clear hA a; intro a hA
     refine D.valF hA rfl (fun _ => R.move rfl) rfl ?_; clear hA a; intro a hA
     refine D.valF hA rfl (fun _ => R.indexAddrA (q := k) ar29 rfl rfl (by omega) (by omega)) rfl ?_; clear hA a; intro a hA
     refine D.val hA rfl (by kernel_rfl) (fun _ hM => R.to (v := .bool false) (R.load sz4 rfl (hM.cell (k := 0) rfl (boo_get (bL f) k (by omega)))) (congrArg Value.bool ((bL_get (show k < 128 by omega)).trans hfv))) rfl ?_; clear hA a; intro a hA
     refine D.valF hA rfl (fun _ => R.move rfl) rfl ?_; clear hA a; intro a hA
     refine D.no (dj := 26) hA rfl (by kernel_rfl) rfl rfl rfl ?_; clear hA a; intro a hA
     refine D.no (dj := 26) hA rfl (by kernel_rfl) rfl rfl rfl ?_; clear hA a; intro a hA
     refine D.no (dj := 26) hA rfl (by kernel_rfl) rfl rfl rfl ?_; clear hA a; intro a hA
     refine D.valF hA rfl (fun _ => R.pickF rfl rfl) rfl ?_; clear hA a; intro a hA
     refine D.valF hA rfl (fun _ => R.move rfl) rfl ?_; clear hA a; intro a hA
     refine D.valF hA rfl (fun _ => R.indexAddrA (q := k) ar29 rfl rfl (by omega) (by omega)) rfl ?_; clear hA a; intro a hA
     refine D.val hA rfl (by kernel_rfl) (fun _ hM => R.to (v := .bool false) (R.load sz4 rfl (hM.cell (k := 0) rfl (boo_get (bL f) k (by omega)))) (congrArg Value.bool ((bL_get (show k < 128 by omega)).trans hfv))) rfl ?_; clear hA a; intro a hA
     refine D.valF hA rfl (fun _ => R.move rfl) rfl ?_; clear hA a; intro a hA
     refine D.valgF (dj := 34) hA rfl (by kernel_rfl) rfl (fun _ => R.move rfl) rfl ?_; clear hA a; intro a hA
     refine D.valgF (dj := 34) hA rfl (by kernel_rfl) rfl (fun _ => R.indexAddrA (q := k) ar29 rfl rfl (by omega) (by omega)) rfl ?_; clear hA a; intro a hA
     refine D.valg (dj := 34) hA rfl (by kernel_rfl) (by kernel_rfl) rfl (fun _ hM => R.to (v := .bool false) (R.load sz4 rfl (hM.cell (k := 1) rfl (boo_get (bL g) k (by omega)))) (congrArg Value.bool ((bL_get (show k < 128 by omega)).trans hgv))) rfl ?_; clear hA a; intro a hA
     refine D.valF hA rfl (fun _ => R.pickF rfl rfl) rfl ?_; clear hA a; intro a hA
     refine D.valF hA rfl (fun _ => R.move rfl) rfl ?_; clear hA a; intro a hA
     refine D.valF hA rfl (fun _ => R.indexAddrA (q := k) ar29 rfl rfl (by omega) (by omega)) rfl ?_; clear hA a; intro a hA
     refine D.val hA rfl (by kernel_rfl) (fun _ hM => R.to (v := .bool false) (R.load sz4 rfl (hM.cell (k := 0) rfl (boo_get (bL f) k (by omega)))) (congrArg Value.bool ((bL_get (show k < 128 by omega)).trans hfv))) rfl ?_; clear hA a; intro a hA
     refine D.valF hA rfl (fun _ => R.move rfl) rfl ?_; clear hA a; intro a hA
     refine D.no (dj := 42) hA rfl (by kernel_rfl) rfl rfl rfl ?_; clear hA a; intro a hA
     refine D.no (dj := 42) hA rfl (by kernel_rfl) rfl rfl rfl ?_; clear hA a; intro a hA
     refine D.no (dj := 42) hA rfl (by kernel_rfl) rfl rfl rfl ?_; clear hA a; intro a hA
     refine D.no (dj := 42) hA rfl (by kernel_rfl) rfl rfl rfl ?_; clear hA a; intro a hA
     refine D.valF hA rfl (fun _ => R.pickF rfl rfl) rfl ?_; clear hA a; intro a hA
     refine D.valF hA rfl (fun _ => R.indexAddrA (q := k) ar29 rfl rfl (by omega) (by omega)) rfl ?_; clear hA a; intro a hA
     refine D.store (k := 2) hA hM rfl sz4 rfl rfl rfl rfl (boo_get _ _ (by omega)) ?_; clear hM
     intro w20 hM; refine ⟨fun _ _ => (((hM.drop 2).drop 1).drop 0), ?_⟩
     rw [boo_set] at hM
     replace hM : Mem _ _ [pt b9 ((boo (bK (miF f g) k))) 29, pt b7 ((boo (bK (orF f g) k))) 29, pt b5 ((boo (((bK (anF f g) k)).set k false))) 29, pt ba ((boo (bL f))) 29, pt bb ((boo (bL g))) 29, pt b3 #[.int .u64 (loW g), .int .u64 (hiW g)] 24, pt b1 #[.int .u64 (loW f), .int .u64 (hiW f)] 24] _ := hM
     refine D.valF hA rfl (fun _ => R.indexAddrA (q := k) ar29 rfl rfl (by omega) (by omega)) rfl ?_; clear hA a; intro a hA
     refine D.store (k := 1) hA hM rfl sz4 rfl rfl rfl rfl (boo_get _ _ (by omega)) ?_; clear hM
     intro w21 hM; refine ⟨fun _ _ => (((hM.drop 2).drop 1).drop 0), ?_⟩
     rw [boo_set] at hM
     replace hM : Mem _ _ [pt b9 ((boo (bK (miF f g) k))) 29, pt b7 ((boo (((bK (orF f g) k)).set k false))) 29, pt b5 ((boo (((bK (anF f g) k)).set k false))) 29, pt ba ((boo (bL f))) 29, pt bb ((boo (bL g))) 29, pt b3 #[.int .u64 (loW g), .int .u64 (hiW g)] 24, pt b1 #[.int .u64 (loW f), .int .u64 (hiW f)] 24] _ := hM
     refine D.valF hA rfl (fun _ => R.indexAddrA (q := k) ar29 rfl rfl (by omega) (by omega)) rfl ?_; clear hA a; intro a hA
     refine D.store (k := 0) hA hM rfl sz4 rfl rfl rfl rfl (boo_get _ _ (by omega)) ?_; clear hM
     intro w22 hM; refine ⟨fun _ hne => absurd rfl hne, ?_⟩
     rw [boo_set] at hM
     replace hM : Mem _ _ [pt b9 ((boo (((bK (miF f g) k)).set k false))) 29, pt b7 ((boo (((bK (orF f g) k)).set k false))) 29, pt b5 ((boo (((bK (anF f g) k)).set k false))) 29, pt ba ((boo (bL f))) 29, pt bb ((boo (bL g))) 29, pt b3 #[.int .u64 (loW g), .int .u64 (hiW g)] 24, pt b1 #[.int .u64 (loW f), .int .u64 (hiW f)] 24] _ := hM
     refine D.done ?_
     rw [show (bK (anF f g) k).set k false = bK (anF f g) (k + 1) by rw [← e1]; exact bK_set (by omega)] at hM
     rw [show (bK (orF f g) k).set k false = bK (orF f g) (k + 1) by rw [← e2]; exact bK_set (by omega)] at hM
     rw [show (bK (miF f g) k).set k false = bK (miF f g) (k + 1) by rw [← e3]; exact bK_set (by omega)] at hM
     replace hM : Mem _ _ [pt b9 ((boo (bK (miF f g) (k + 1)))) 29, pt b7 ((boo (bK (orF f g) (k + 1)))) 29, pt b5 ((boo (bK (anF f g) (k + 1)))) 29, pt ba ((boo (bL f))) 29, pt bb ((boo (bL g))) 29, pt b3 #[.int .u64 (loW g), .int .u64 (hiW g)] 24, pt b1 #[.int .u64 (loW f), .int .u64 (hiW f)] 24] _ := hM
     replace hA : St 95 [(2, _), (3, _), (5, _), (6, _), (7, _), (8, _), (9, _), (10, _), (11, _)] a := hA.sub ((.cons rfl (.cons rfl (.cons rfl (.cons rfl (.cons rfl (.cons rfl (.cons rfl (.cons rfl (.cons rfl .nil))))))))))
     refine Ends.cut (fun (a : Act) (wv : World) => St 95 [(2, .pointer (some ⟨b1, 0, none⟩)), (3, .pointer (some ⟨b3, 0, none⟩)), (5, .pointer (some ⟨ba, 0, none⟩)), (6, .pointer (some ⟨bb, 0, none⟩)), (7, .pointer (some ⟨b5, 0, none⟩)), (8, .pointer (some ⟨b7, 0, none⟩)), (9, .pointer (some ⟨b9, 0, none⟩)), (10, .bool (decide ((inK f g k ∨ False)))), (11, .int .i64 ((k : Int)))] a ∧ Mem w nof [pt b9 ((boo (bK (miF f g) (k + 1)))) 29, pt b7 ((boo (bK (orF f g) (k + 1)))) 29, pt b5 ((boo (bK (anF f g) (k + 1)))) 29, pt ba ((boo (bL f))) 29, pt bb ((boo (bL g))) 29, pt b3 #[.int .u64 (loW g), .int .u64 (hiW g)] 24, pt b1 #[.int .u64 (loW f), .int .u64 (hiW f)] 24] wv) ?_ (fun k2 hJ => ?_)
     ·
      clear hA hM a; rintro a w23 ⟨hA, hM⟩
      refine Ends.inBlock (Ends.region ?_)
      refine S.val hA (R.move rfl) rfl ?_; clear hA a; intro a hA
      refine S.val hA (R.addI rfl rfl (r := ((k : Int)) + 1) rfl (by omega)) rfl ?_; clear hA a; intro a hA
      refine S.val hA (R.assign rfl) rfl ?_; clear hA a; intro a hA
      refine S.done ?_
      rw [show decide ((inK f g k ∨ False)) = decide (inK f g (k + 1)) from decide_eq_decide.2 (by rw [inK_step, hfv, hgv]; simp)] at hA
      exact hNext ((k + 1)) _ _ ((by show 128 - (k + 1) < 128 - k; omega)) ⟨hA.sub ((.cons rfl (.cons rfl (.cons rfl (.cons rfl (.cons rfl (.cons rfl (.cons rfl (.cons rfl (.cons rfl .nil)))))))))), hM, (by omega)⟩
     ·
      refine Ends.region ?_
      refine S.val hA (R.move rfl) rfl ?_; clear hA a; intro a hA
      refine S.val hA (R.move rfl) rfl ?_; clear hA a; intro a hA
      refine hA.split (d := 52) rfl ?_ ?_
      ·
       clear hA; intro hg18 hA
       refine S.valg (dj := 52) hA (by kernel_rfl) rfl (R.move rfl) rfl ?_; clear hA a; intro a hA
       refine S.valg (dj := 52) hA (by kernel_rfl) rfl (R.indexAddrA (q := k) ar29 rfl rfl (by omega) (by omega)) rfl ?_; clear hA a; intro a hA
       refine S.valg (dj := 52) hA (by kernel_rfl) rfl (R.to (v := .bool false) (R.load sz4 rfl (hM.cell (k := 3) rfl (boo_get (bL f) k (by omega)))) (congrArg Value.bool ((bL_get (show k < 128 by omega)).trans hfv))) rfl ?_; clear hA a; intro a hA
       refine S.valg (dj := 52) hA (by kernel_rfl) rfl (R.not rfl) rfl ?_; clear hA a; intro a hA
       refine S.valg (dj := 52) hA (by kernel_rfl) rfl (R.move rfl) rfl ?_; clear hA a; intro a hA
       refine S.no (dj := 57) hA (by kernel_rfl) rfl rfl rfl ?_; clear hA a; intro a hA
       refine S.no (dj := 57) hA (by kernel_rfl) rfl rfl rfl ?_; clear hA a; intro a hA
       refine S.no (dj := 57) hA (by kernel_rfl) rfl rfl rfl ?_; clear hA a; intro a hA
       refine S.valg (dj := 52) hA (by kernel_rfl) rfl (R.pickT rfl rfl) rfl ?_; clear hA a; intro a hA
       refine S.val hA (R.pickT rfl rfl) rfl ?_; clear hA a; intro a hA
       refine S.val hA (R.assign rfl) rfl ?_; clear hA a; intro a hA
       refine S.done ?_
       replace hA : St 95 [(2, _), (3, _), (5, _), (6, _), (7, _), (8, _), (9, _), (10, _), (11, _)] a := hA.sub ((.cons rfl (.cons rfl (.cons rfl (.cons rfl (.cons rfl (.cons rfl (.cons rfl (.cons rfl (.cons rfl .nil))))))))))
       exact hJ _ _ ⟨hA.sub (.cons rfl (.cons rfl (.cons rfl (.cons rfl (.cons rfl (.cons rfl (.cons rfl (.cons (by first | rfl | exact congrArg (fun b => some (Value.bool b)) (by first | exact decide_eq_decide.2 (by omega) | exact or_bool (by omega) | exact and_bool (by omega) | (simp; done) | (simp [hg18]; done) | (have h80 := hg18; (try simp at h80); simp [h80]; done) | exact (decide_eq_false (fun h9 => hg18 h9.1)).symm)) (.cons rfl .nil))))))))), hM⟩
      ·
       clear hA; intro hg18 hA
       refine S.no (dj := 52) hA (by kernel_rfl) rfl rfl rfl ?_; clear hA a; intro a hA
       refine S.no (dj := 52) hA (by kernel_rfl) rfl rfl rfl ?_; clear hA a; intro a hA
       refine S.no (dj := 52) hA (by kernel_rfl) rfl rfl rfl ?_; clear hA a; intro a hA
       refine S.no (dj := 52) hA (by kernel_rfl) rfl rfl rfl ?_; clear hA a; intro a hA
       refine S.no (dj := 52) hA (by kernel_rfl) rfl rfl rfl ?_; clear hA a; intro a hA
       refine S.noU (dj := 57) hA (by kernel_rfl) rfl rfl ?_; clear hA a; intro a hA
       refine S.noU (dj := 57) hA (by kernel_rfl) rfl rfl ?_; clear hA a; intro a hA
       refine S.noU (dj := 57) hA (by kernel_rfl) rfl rfl ?_; clear hA a; intro a hA
       refine S.no (dj := 52) hA (by kernel_rfl) rfl rfl rfl ?_; clear hA a; intro a hA
       refine S.val hA (R.pickF rfl rfl) rfl ?_; clear hA a; intro a hA
       refine S.val hA (R.assign rfl) rfl ?_; clear hA a; intro a hA
       refine S.done ?_
       replace hA : St 95 [(2, _), (3, _), (5, _), (6, _), (7, _), (8, _), (9, _), (10, _), (11, _)] a := hA.sub ((.cons rfl (.cons rfl (.cons rfl (.cons rfl (.cons rfl (.cons rfl (.cons rfl (.cons rfl (.cons rfl .nil))))))))))
       exact hJ _ _ ⟨hA.sub (.cons rfl (.cons rfl (.cons rfl (.cons rfl (.cons rfl (.cons rfl (.cons rfl (.cons (by first | rfl | exact congrArg (fun b => some (Value.bool b)) (by first | exact decide_eq_decide.2 (by omega) | exact or_bool (by omega) | exact and_bool (by omega) | (simp; done) | (simp [hg18]; done) | (have h80 := hg18; (try simp at h80); simp [h80]; done) | exact (decide_eq_false (fun h9 => hg18 h9.1)).symm)) (.cons rfl .nil))))))))), hM⟩
  ·
   rw [show k = 128 by omega, bK_all, bK_all, bK_all] at hM
   rw [show k = 128 by omega] at hA
   refine Ends.exit rfl ?_
   refine Ends.seq ?_
   refine Ends.drawn (Mem w nof [pt b9 ((boo (bL (miF f g)))) 29, pt b7 ((boo (bL (orF f g)))) 29, pt b5 ((boo (bL (anF f g)))) 29, pt ba ((boo (bL f))) 29, pt bb ((boo (bL g))) 29, pt b3 #[.int .u64 (loW g), .int .u64 (hiW g)] 24, pt b1 #[.int .u64 (loW f), .int .u64 (hiW f)] 24]) (.cons (0, false) (.cons (1, true) (.cons (2, true) (.cons (3, true) (.cons (6, true) (.cons (4, false) (.cons (5, false) (.cons (7, true) (.cons (8, true) (.cons (9, true) (.cons (10, true) (.cons (11, true) (.cons (14, true) (.cons (12, false) (.cons (13, false) (.cons (15, true) (.cons (16, true) (.cons (17, true) (.cons (18, true) (.cons (19, true) (.cons (22, true) (.cons (20, false) (.cons (21, false) (.cons (23, true) (.cons (24, true) (.cons (25, true) (.cons (26, true) (.cons (27, true) (.cons (29, true) (.cons (28, false) (.cons (30, true) (.cons (31, true) (.cons (32, true) .nil))))))))))))))))))))))))))))))))) 33 mixed (by kernel_rfl) (by kernel_rfl) (by kernel_rfl) hM.drew ?_
   replace hM := hM.drew
   refine D.call hA rfl (R.callF Tryd.func6 rfl rfl rfl) rfl (sets_any _ (tab_below htab (Mem.trans0 hbs hM.nilL))) ?_; clear hA a
   rintro e w24 ⟨rfl, hb⟩
   replace hM := hM.callB hb; clear hb
   refine ⟨.bool true, rfl, hM, fun a hA => ?_⟩
   refine D.valF hA rfl (fun _ => R.move rfl) rfl ?_; clear hA a; intro a hA
   refine D.valg (dj := 64) hA rfl (by kernel_rfl) (by kernel_rfl) rfl (fun _ hM => R.loadA sz24 rfl (hM.range (k := 6) rfl) rfl) rfl ?_; clear hA a; intro a hA
   refine D.valg (dj := 64) hA rfl (by kernel_rfl) (by kernel_rfl) rfl (fun _ hM => R.loadA sz24 rfl (hM.range (k := 5) rfl) rfl) rfl ?_; clear hA a; intro a hA
   refine D.valg (dj := 64) hA rfl (by kernel_rfl) (by kernel_rfl) rfl (fun _ hM => R.loadW (k := 2) hM sz29 rfl rfl (boo_size _)) rfl ?_; clear hA a; intro a hA
   refine D.callg (dj := 64) hA rfl (by kernel_rfl) rfl (R.callF Tryd.func12 rfl rfl rfl) rfl (and02 f g _) ?_; clear hA a
   rintro e w25 ⟨rfl, hb⟩
   replace hM := hM.callB hb; clear hb
   refine ⟨.agg #[.int .u64 (loW (anF f g)), .int .u64 (hiW (anF f g))], rfl, hM, fun a hA => ?_⟩
   refine D.callg (dj := 64) hA rfl (by kernel_rfl) rfl (R.callF Tryd.func8 rfl rfl rfl) rfl (rof02 ((anF f g)) _) ?_; clear hA a
   rintro e w26 ⟨rfl, hb⟩
   replace hM := hM.callB hb; clear hb
   refine ⟨.agg ((boo (bL ((anF f g))))), rfl, hM, fun a hA => ?_⟩
   refine D.valgF (dj := 64) hA rfl (by kernel_rfl) rfl (fun _ => R.eqlS (b := true) Tryd.eqGuardType29 (fun w => eq_boo ((anF f g)) w) rfl rfl) rfl ?_; clear hA a; intro a hA
   refine D.valF hA rfl (fun _ => R.pickT rfl rfl) rfl ?_; clear hA a; intro a hA
   refine D.valF hA rfl (fun _ => R.move rfl) rfl ?_; clear hA a; intro a hA
   refine D.valg (dj := 72) hA rfl (by kernel_rfl) (by kernel_rfl) rfl (fun _ hM => R.loadA sz24 rfl (hM.range (k := 6) rfl) rfl) rfl ?_; clear hA a; intro a hA
   refine D.valg (dj := 72) hA rfl (by kernel_rfl) (by kernel_rfl) rfl (fun _ hM => R.loadA sz24 rfl (hM.range (k := 5) rfl) rfl) rfl ?_; clear hA a; intro a hA
   refine D.valg (dj := 72) hA rfl (by kernel_rfl) (by kernel_rfl) rfl (fun _ hM => R.loadW (k := 1) hM sz29 rfl rfl (boo_size _)) rfl ?_; clear hA a; intro a hA
   refine D.callg (dj := 72) hA rfl (by kernel_rfl) rfl (R.callF Tryd.func13 rfl rfl rfl) rfl (or02 f g _) ?_; clear hA a
   rintro e w27 ⟨rfl, hb⟩
   replace hM := hM.callB hb; clear hb
   refine ⟨.agg #[.int .u64 (loW (orF f g)), .int .u64 (hiW (orF f g))], rfl, hM, fun a hA => ?_⟩
   refine D.callg (dj := 72) hA rfl (by kernel_rfl) rfl (R.callF Tryd.func8 rfl rfl rfl) rfl (rof02 ((orF f g)) _) ?_; clear hA a
   rintro e w28 ⟨rfl, hb⟩
   replace hM := hM.callB hb; clear hb
   refine ⟨.agg ((boo (bL ((orF f g))))), rfl, hM, fun a hA => ?_⟩
   refine D.valgF (dj := 72) hA rfl (by kernel_rfl) rfl (fun _ => R.eqlS (b := true) Tryd.eqGuardType29 (fun w => eq_boo ((orF f g)) w) rfl rfl) rfl ?_; clear hA a; intro a hA
   refine D.valF hA rfl (fun _ => R.pickT rfl rfl) rfl ?_; clear hA a; intro a hA
   refine D.valF hA rfl (fun _ => R.move rfl) rfl ?_; clear hA a; intro a hA
   refine D.valg (dj := 80) hA rfl (by kernel_rfl) (by kernel_rfl) rfl (fun _ hM => R.loadA sz24 rfl (hM.range (k := 6) rfl) rfl) rfl ?_; clear hA a; intro a hA
   refine D.valg (dj := 80) hA rfl (by kernel_rfl) (by kernel_rfl) rfl (fun _ hM => R.loadA sz24 rfl (hM.range (k := 5) rfl) rfl) rfl ?_; clear hA a; intro a hA
   refine D.valg (dj := 80) hA rfl (by kernel_rfl) (by kernel_rfl) rfl (fun _ hM => R.loadW (k := 0) hM sz29 rfl rfl (boo_size _)) rfl ?_; clear hA a; intro a hA
   refine D.callg (dj := 80) hA rfl (by kernel_rfl) rfl (R.callF Tryd.func14 rfl rfl rfl) rfl (mi02 f g _) ?_; clear hA a
   rintro e w29 ⟨rfl, hb⟩
   replace hM := hM.callB hb; clear hb
   refine ⟨.agg #[.int .u64 (loW (miF f g)), .int .u64 (hiW (miF f g))], rfl, hM, fun a hA => ?_⟩
   refine D.callg (dj := 80) hA rfl (by kernel_rfl) rfl (R.callF Tryd.func8 rfl rfl rfl) rfl (rof02 ((miF f g)) _) ?_; clear hA a
   rintro e w30 ⟨rfl, hb⟩
   replace hM := hM.callB hb; clear hb
   refine ⟨.agg ((boo (bL ((miF f g))))), rfl, hM, fun a hA => ?_⟩
   refine D.valgF (dj := 80) hA rfl (by kernel_rfl) rfl (fun _ => R.eqlS (b := true) Tryd.eqGuardType29 (fun w => eq_boo ((miF f g)) w) rfl rfl) rfl ?_; clear hA a; intro a hA
   refine D.valF hA rfl (fun _ => R.pickT rfl rfl) rfl ?_; clear hA a; intro a hA
   refine D.valF hA rfl (fun _ => R.move rfl) rfl ?_; clear hA a; intro a hA
   refine D.valg (dj := 88) hA rfl (by kernel_rfl) (by kernel_rfl) rfl (fun _ hM => R.loadA sz24 rfl (hM.range (k := 6) rfl) rfl) rfl ?_; clear hA a; intro a hA
   refine D.valg (dj := 88) hA rfl (by kernel_rfl) (by kernel_rfl) rfl (fun _ hM => R.loadA sz24 rfl (hM.range (k := 5) rfl) rfl) rfl ?_; clear hA a; intro a hA
   refine D.valgF (dj := 88) hA rfl (by kernel_rfl) rfl (fun _ => R.move rfl) rfl ?_; clear hA a; intro a hA
   refine D.callg (dj := 88) hA rfl (by kernel_rfl) rfl (R.callF Tryd.func15 rfl rfl rfl) rfl (in02 f g _) ?_; clear hA a
   rintro e w31 ⟨rfl, hb⟩
   replace hM := hM.callB hb; clear hb
   refine ⟨.bool (decide (inP f g)), rfl, hM, fun a hA => ?_⟩
   refine D.valgF (dj := 88) hA rfl (by kernel_rfl) rfl (fun _ => R.to (v := .bool true) (R.eqlB Tryd.underlying4 rfl rfl) (congrArg Value.bool (by rw [show decide (inP f g) = decide (inK f g 128) from decide_eq_decide.2 Iff.rfl]; simp))) rfl ?_; clear hA a; intro a hA
   refine D.valF hA rfl (fun _ => R.pickT rfl rfl) rfl ?_; clear hA a; intro a hA
   refine D.valF hA rfl (fun _ => R.assign rfl) rfl ?_; clear hA a; intro a hA
   refine D.done ?_
   replace hA : St 95 [(4, _)] a := hA.sub ((.cons rfl .nil))
   refine Ends.ret1 Tryd.func4 Tryd.results4 hA rfl ?_
   exact ⟨rfl, Mem.trans0 hbs hM.nilL⟩
 ·
  refine Ends.drawn (Mem w nof [pt b3 #[.int .u64 (loW g), .int .u64 (hiW g)] 24, pt b1 #[.int .u64 (loW f), .int .u64 (hiW f)] 24]) (.cons (0, true) (.cons (2, true) (.fork3 1 4 5 (.fork3 3 4 5 (.fork 4 5 (.cons (5, false) (.cons (6, false) (.cons (7, false) .nil))) (.cons (4, false) (.cons (6, false) (.cons (7, false) .nil)))) (.fork 3 5 (.cons (5, false) (.cons (6, false) (.cons (7, false) .nil))) (.cons (3, false) (.cons (6, false) (.cons (7, false) .nil)))) (.fork 3 4 (.cons (4, false) (.cons (6, false) (.cons (7, false) .nil))) (.cons (3, false) (.cons (6, false) (.cons (7, false) .nil))))) (.fork 1 5 (.fork 3 5 (.cons (5, false) (.cons (6, false) (.cons (7, false) .nil))) (.cons (3, false) (.cons (6, false) (.cons (7, false) .nil)))) (.cons (1, false) (.cons (3, false) (.cons (6, false) (.cons (7, false) .nil))))) (.fork 1 4 (.fork 3 4 (.cons (4, false) (.cons (6, false) (.cons (7, false) .nil))) (.cons (3, false) (.cons (6, false) (.cons (7, false) .nil)))) (.cons (1, false) (.cons (3, false) (.cons (6, false) (.cons (7, false) .nil)))))))) 7 mixed (by kernel_rfl) (by kernel_rfl) (by kernel_rfl) hM.drew ?_
  replace hM := hM.drew
  refine D.val hA rfl (by kernel_rfl) (fun _ hM => R.loadA sz24 rfl (hM.range (k := 1) rfl) rfl) rfl ?_; clear hA a; intro a hA
  refine D.val hA rfl (by kernel_rfl) (fun _ hM => R.loadA sz24 rfl (hM.range (k := 0) rfl) rfl) rfl ?_; clear hA a; intro a hA
  refine D.fork3 rfl rfl rfl ?_ ?_ ?_
  ·
   refine D.call hA rfl (R.callF Tryd.func8 rfl rfl rfl) rfl (rof02 f _) ?_; clear hA a
   rintro e w32 ⟨rfl, hb⟩
   replace hM := hM.callB hb; clear hb
   refine ⟨.agg ((boo (bL f))), rfl, hM, fun a hA => ?_⟩
   refine D.fork3 rfl rfl rfl ?_ ?_ ?_
   ·
    refine D.call hA rfl (R.callF Tryd.func8 rfl rfl rfl) rfl (rof02 g _) ?_; clear hA a
    rintro e w33 ⟨rfl, hb⟩
    replace hM := hM.callB hb; clear hb
    refine ⟨.agg ((boo (bL g))), rfl, hM, fun a hA => ?_⟩
    refine D.fork rfl rfl ?_ ?_
    ·
     refine D.alloc hA hM rfl info29 rfl rfl ?_; clear hA hM a; intro b19 w34 hb20 hM; refine ⟨(fun hM => hM) hM.tail, fun a hA => ?_⟩
     replace hM : Mem _ _ [pt b19 cz0 29, pt b3 #[.int .u64 (loW g), .int .u64 (hiW g)] 24, pt b1 #[.int .u64 (loW f), .int .u64 (hiW f)] 24] _ := hM
     refine D.alloc hA hM rfl info29 rfl rfl ?_; clear hA hM a; intro b21 w35 hb22 hM; refine ⟨(fun hM => (hM.drop 0)) hM.tail, fun a hA => ?_⟩
     replace hM : Mem _ _ [pt b21 cz0 29, pt b19 cz0 29, pt b3 #[.int .u64 (loW g), .int .u64 (hiW g)] 24, pt b1 #[.int .u64 (loW f), .int .u64 (hiW f)] 24] _ := hM
     refine D.storeW (k := 1) hA hM rfl sz29 rfl rfl (boo_size _) (boo_one _) rfl rfl ?_; clear hM
     intro w36 hM; refine ⟨fun _ _ => ((hM.drop 1).drop 0), ?_⟩
     replace hM : Mem _ _ [pt b21 cz0 29, pt b19 ((boo (bL f))) 29, pt b3 #[.int .u64 (loW g), .int .u64 (hiW g)] 24, pt b1 #[.int .u64 (loW f), .int .u64 (hiW f)] 24] _ := hM
     refine D.storeW (k := 0) hA hM rfl sz29 rfl rfl (boo_size _) (boo_one _) rfl rfl ?_; clear hM
     intro w37 hM; refine ⟨fun _ hne => absurd rfl hne, ?_⟩
     replace hM : Mem _ _ [pt b21 ((boo (bL g))) 29, pt b19 ((boo (bL f))) 29, pt b3 #[.int .u64 (loW g), .int .u64 (hiW g)] 24, pt b1 #[.int .u64 (loW f), .int .u64 (hiW f)] 24] _ := hM
     refine D.done ?_
     replace hA : St 95 [(2, _), (3, _), (5, _), (6, _)] a := hA.sub ((.cons rfl (.cons rfl (.cons rfl (.cons rfl .nil)))))
     replace hM := hM.front (k := 3) rfl
     replace hM := hM.front (k := 3) rfl
     replace hM := hM.front (k := 2) rfl
     replace hM := hM.front (k := 3) rfl
     exact hJ _ _ ⟨b19, b21, hA.sub ((.cons rfl (.cons rfl (.cons rfl (.cons rfl .nil))))), hM⟩
    ·
     refine D.alloc hA hM rfl info29 rfl rfl ?_; clear hA hM a; intro b23 w38 hb24 hM; refine ⟨(fun hM => hM) hM.tail, fun a hA => ?_⟩
     replace hM : Mem _ _ [pt b23 cz0 29, pt b3 #[.int .u64 (loW g), .int .u64 (hiW g)] 24, pt b1 #[.int .u64 (loW f), .int .u64 (hiW f)] 24] _ := hM
     refine D.alloc hA hM rfl info29 rfl rfl ?_; clear hA hM a; intro b25 w39 hb26 hM; refine ⟨(fun hM => (hM.drop 0)) hM.tail, fun a hA => ?_⟩
     replace hM : Mem _ _ [pt b25 cz0 29, pt b23 cz0 29, pt b3 #[.int .u64 (loW g), .int .u64 (hiW g)] 24, pt b1 #[.int .u64 (loW f), .int .u64 (hiW f)] 24] _ := hM
     refine D.storeW (k := 0) hA hM rfl sz29 rfl rfl (boo_size _) (boo_one _) rfl rfl ?_; clear hM
     intro w40 hM; refine ⟨fun _ _ => ((hM.drop 1).drop 0), ?_⟩
     replace hM : Mem _ _ [pt b25 ((boo (bL f))) 29, pt b23 cz0 29, pt b3 #[.int .u64 (loW g), .int .u64 (hiW g)] 24, pt b1 #[.int .u64 (loW f), .int .u64 (hiW f)] 24] _ := hM
     refine D.storeW (k := 1) hA hM rfl sz29 rfl rfl (boo_size _) (boo_one _) rfl rfl ?_; clear hM
     intro w41 hM; refine ⟨fun _ hne => absurd rfl hne, ?_⟩
     replace hM : Mem _ _ [pt b25 ((boo (bL f))) 29, pt b23 ((boo (bL g))) 29, pt b3 #[.int .u64 (loW g), .int .u64 (hiW g)] 24, pt b1 #[.int .u64 (loW f), .int .u64 (hiW f)] 24] _ := hM
     refine D.done ?_
     replace hA : St 95 [(2, _), (3, _), (5, _), (6, _)] a := hA.sub ((.cons rfl (.cons rfl (.cons rfl (.cons rfl .nil)))))
     replace hM := hM.front (k := 3) rfl
     replace hM := hM.front (k := 3) rfl
     replace hM := hM.front (k := 3) rfl
     replace hM := hM.front (k := 3) rfl
     exact hJ _ _ ⟨b25, b23, hA.sub ((.cons rfl (.cons rfl (.cons rfl (.cons rfl .nil))))), hM⟩
   ·
    refine D.alloc hA hM rfl info29 rfl rfl ?_; clear hA hM a; intro b27 w42 hb28 hM; refine ⟨(fun hM => hM) hM.tail, fun a hA => ?_⟩
    replace hM : Mem _ _ [pt b27 cz0 29, pt b3 #[.int .u64 (loW g), .int .u64 (hiW g)] 24, pt b1 #[.int .u64 (loW f), .int .u64 (hiW f)] 24] _ := hM
    refine D.fork rfl rfl ?_ ?_
    ·
     refine D.call hA rfl (R.callF Tryd.func8 rfl rfl rfl) rfl (rof02 g _) ?_; clear hA a
     rintro e w43 ⟨rfl, hb⟩
     replace hM := hM.callB hb; clear hb
     refine ⟨.agg ((boo (bL g))), rfl, (hM.drop 0), fun a hA => ?_⟩
     refine D.alloc hA hM rfl info29 rfl rfl ?_; clear hA hM a; intro b29 w44 hb30 hM; refine ⟨(fun hM => (hM.drop 0)) hM.tail, fun a hA => ?_⟩
     replace hM : Mem _ _ [pt b29 cz0 29, pt b27 cz0 29, pt b3 #[.int .u64 (loW g), .int .u64 (hiW g)] 24, pt b1 #[.int .u64 (loW f), .int .u64 (hiW f)] 24] _ := hM
     refine D.storeW (k := 1) hA hM rfl sz29 rfl rfl (boo_size _) (boo_one _) rfl rfl ?_; clear hM
     intro w45 hM; refine ⟨fun _ _ => ((hM.drop 1).drop 0), ?_⟩
     replace hM : Mem _ _ [pt b29 cz0 29, pt b27 ((boo (bL f))) 29, pt b3 #[.int .u64 (loW g), .int .u64 (hiW g)] 24, pt b1 #[.int .u64 (loW f), .int .u64 (hiW f)] 24] _ := hM
     refine D.storeW (k := 0) hA hM rfl sz29 rfl rfl (boo_size _) (boo_one _) rfl rfl ?_; clear hM
     intro w46 hM; refine ⟨fun _ hne => absurd rfl hne, ?_⟩
     replace hM : Mem _ _ [pt b29 ((boo (bL g))) 29, pt b27 ((boo (bL f))) 29, pt b3 #[.int .u64 (loW g), .int .u64 (hiW g)] 24, pt b1 #[.int .u64 (loW f), .int .u64 (hiW f)] 24] _ := hM
     refine D.done ?_
     replace hA : St 95 [(2, _), (3, _), (5, _), (6, _)] a := hA.sub ((.cons rfl (.cons rfl (.cons rfl (.cons rfl .nil)))))
     replace hM := hM.front (k := 3) rfl
     replace hM := hM.front (k := 3) rfl
     replace hM := hM.front (k := 2) rfl
     replace hM := hM.front (k := 3) rfl
     exact hJ _ _ ⟨b27, b29, hA.sub ((.cons rfl (.cons rfl (.cons rfl (.cons rfl .nil))))), hM⟩
    ·
     refine D.alloc hA hM rfl info29 rfl rfl ?_; clear hA hM a; intro b31 w47 hb32 hM; refine ⟨(fun hM => (hM.drop 0)) hM.tail, fun a hA => ?_⟩
     replace hM : Mem _ _ [pt b31 cz0 29, pt b27 cz0 29, pt b3 #[.int .u64 (loW g), .int .u64 (hiW g)] 24, pt b1 #[.int .u64 (loW f), .int .u64 (hiW f)] 24] _ := hM
     refine D.call hA rfl (R.callF Tryd.func8 rfl rfl rfl) rfl (rof02 g _) ?_; clear hA a
     rintro e w48 ⟨rfl, hb⟩
     replace hM := hM.callB hb; clear hb
     refine ⟨.agg ((boo (bL g))), rfl, ((hM.drop 1).drop 0), fun a hA => ?_⟩
     refine D.storeW (k := 1) hA hM rfl sz29 rfl rfl (boo_size _) (boo_one _) rfl rfl ?_; clear hM
     intro w49 hM; refine ⟨fun _ _ => ((hM.drop 1).drop 0), ?_⟩
     replace hM : Mem _ _ [pt b31 cz0 29, pt b27 ((boo (bL f))) 29, pt b3 #[.int .u64 (loW g), .int .u64 (hiW g)] 24, pt b1 #[.int .u64 (loW f), .int .u64 (hiW f)] 24] _ := hM
     refine D.storeW (k := 0) hA hM rfl sz29 rfl rfl (boo_size _) (boo_one _) rfl rfl ?_; clear hM
     intro w50 hM; refine ⟨fun _ hne => absurd rfl hne, ?_⟩
     replace hM : Mem _ _ [pt b31 ((boo (bL g))) 29, pt b27 ((boo (bL f))) 29, pt b3 #[.int .u64 (loW g), .int .u64 (hiW g)] 24, pt b1 #[.int .u64 (loW f), .int .u64 (hiW f)] 24] _ := hM
     refine D.done ?_
     replace hA : St 95 [(2, _), (3, _), (5, _), (6, _)] a := hA.sub ((.cons rfl (.cons rfl (.cons rfl (.cons rfl .nil)))))
     replace hM := hM.front (k := 3) rfl
     replace hM := hM.front (k := 3) rfl
     replace hM := hM.front (k := 2) rfl
     replace hM := hM.front (k := 3) rfl
     exact hJ _ _ ⟨b27, b31, hA.sub ((.cons rfl (.cons rfl (.cons rfl (.cons rfl .nil))))), hM⟩
   ·
    refine D.alloc hA hM rfl info29 rfl rfl ?_; clear hA hM a; intro b33 w51 hb34 hM; refine ⟨(fun hM => hM) hM.tail, fun a hA => ?_⟩
    replace hM : Mem _ _ [pt b33 cz0 29, pt b3 #[.int .u64 (loW g), .int .u64 (hiW g)] 24, pt b1 #[.int .u64 (loW f), .int .u64 (hiW f)] 24] _ := hM
    refine D.fork rfl rfl ?_ ?_
    ·
     refine D.call hA rfl (R.callF Tryd.func8 rfl rfl rfl) rfl (rof02 g _) ?_; clear hA a
     rintro e w52 ⟨rfl, hb⟩
     replace hM := hM.callB hb; clear hb
     refine ⟨.agg ((boo (bL g))), rfl, (hM.drop 0), fun a hA => ?_⟩
     refine D.alloc hA hM rfl info29 rfl rfl ?_; clear hA hM a; intro b35 w53 hb36 hM; refine ⟨(fun hM => (hM.drop 0)) hM.tail, fun a hA => ?_⟩
     replace hM : Mem _ _ [pt b35 cz0 29, pt b33 cz0 29, pt b3 #[.int .u64 (loW g), .int .u64 (hiW g)] 24, pt b1 #[.int .u64 (loW f), .int .u64 (hiW f)] 24] _ := hM
     refine D.storeW (k := 0) hA hM rfl sz29 rfl rfl (boo_size _) (boo_one _) rfl rfl ?_; clear hM
     intro w54 hM; refine ⟨fun _ _ => ((hM.drop 1).drop 0), ?_⟩
     replace hM : Mem _ _ [pt b35 ((boo (bL f))) 29, pt b33 cz0 29, pt b3 #[.int .u64 (loW g), .int .u64 (hiW g)] 24, pt b1 #[.int .u64 (loW f), .int .u64 (hiW f)] 24] _ := hM
     refine D.storeW (k := 1) hA hM rfl sz29 rfl rfl (boo_size _) (boo_one _) rfl rfl ?_; clear hM
     intro w55 hM; refine ⟨fun _ hne => absurd rfl hne, ?_⟩
     replace hM : Mem _ _ [pt b35 ((boo (bL f))) 29, pt b33 ((boo (bL g))) 29, pt b3 #[.int .u64 (loW g), .int .u64 (hiW g)] 24, pt b1 #[.int .u64 (loW f), .int .u64 (hiW f)] 24] _ := hM
     refine D.done ?_
     replace hA : St 95 [(2, _), (3, _), (5, _), (6, _)] a := hA.sub ((.cons rfl (.cons rfl (.cons rfl (.cons rfl .nil)))))
     replace hM := hM.front (k := 3) rfl
     replace hM := hM.front (k := 3) rfl
     replace hM := hM.front (k := 3) rfl
     replace hM := hM.front (k := 3) rfl
     exact hJ _ _ ⟨b35, b33, hA.sub ((.cons rfl (.cons rfl (.cons rfl (.cons rfl .nil))))), hM⟩
    ·
     refine D.alloc hA hM rfl info29 rfl rfl ?_; clear hA hM a; intro b37 w56 hb38 hM; refine ⟨(fun hM => (hM.drop 0)) hM.tail, fun a hA => ?_⟩
     replace hM : Mem _ _ [pt b37 cz0 29, pt b33 cz0 29, pt b3 #[.int .u64 (loW g), .int .u64 (hiW g)] 24, pt b1 #[.int .u64 (loW f), .int .u64 (hiW f)] 24] _ := hM
     refine D.call hA rfl (R.callF Tryd.func8 rfl rfl rfl) rfl (rof02 g _) ?_; clear hA a
     rintro e w57 ⟨rfl, hb⟩
     replace hM := hM.callB hb; clear hb
     refine ⟨.agg ((boo (bL g))), rfl, ((hM.drop 1).drop 0), fun a hA => ?_⟩
     refine D.storeW (k := 0) hA hM rfl sz29 rfl rfl (boo_size _) (boo_one _) rfl rfl ?_; clear hM
     intro w58 hM; refine ⟨fun _ _ => ((hM.drop 1).drop 0), ?_⟩
     replace hM : Mem _ _ [pt b37 ((boo (bL f))) 29, pt b33 cz0 29, pt b3 #[.int .u64 (loW g), .int .u64 (hiW g)] 24, pt b1 #[.int .u64 (loW f), .int .u64 (hiW f)] 24] _ := hM
     refine D.storeW (k := 1) hA hM rfl sz29 rfl rfl (boo_size _) (boo_one _) rfl rfl ?_; clear hM
     intro w59 hM; refine ⟨fun _ hne => absurd rfl hne, ?_⟩
     replace hM : Mem _ _ [pt b37 ((boo (bL f))) 29, pt b33 ((boo (bL g))) 29, pt b3 #[.int .u64 (loW g), .int .u64 (hiW g)] 24, pt b1 #[.int .u64 (loW f), .int .u64 (hiW f)] 24] _ := hM
     refine D.done ?_
     replace hA : St 95 [(2, _), (3, _), (5, _), (6, _)] a := hA.sub ((.cons rfl (.cons rfl (.cons rfl (.cons rfl .nil)))))
     replace hM := hM.front (k := 3) rfl
     replace hM := hM.front (k := 3) rfl
     replace hM := hM.front (k := 3) rfl
     replace hM := hM.front (k := 3) rfl
     exact hJ _ _ ⟨b37, b33, hA.sub ((.cons rfl (.cons rfl (.cons rfl (.cons rfl .nil))))), hM⟩
  ·
   refine D.alloc hA hM rfl info29 rfl rfl ?_; clear hA hM a; intro b39 w60 hb40 hM; refine ⟨(fun hM => hM) hM.tail, fun a hA => ?_⟩
   replace hM : Mem _ _ [pt b39 cz0 29, pt b3 #[.int .u64 (loW g), .int .u64 (hiW g)] 24, pt b1 #[.int .u64 (loW f), .int .u64 (hiW f)] 24] _ := hM
   refine D.fork rfl rfl ?_ ?_
   ·
    refine D.call hA rfl (R.callF Tryd.func8 rfl rfl rfl) rfl (rof02 f _) ?_; clear hA a
    rintro e w61 ⟨rfl, hb⟩
    replace hM := hM.callB hb; clear hb
    refine ⟨.agg ((boo (bL f))), rfl, (hM.drop 0), fun a hA => ?_⟩
    refine D.fork rfl rfl ?_ ?_
    ·
     refine D.call hA rfl (R.callF Tryd.func8 rfl rfl rfl) rfl (rof02 g _) ?_; clear hA a
     rintro e w62 ⟨rfl, hb⟩
     replace hM := hM.callB hb; clear hb
     refine ⟨.agg ((boo (bL g))), rfl, (hM.drop 0), fun a hA => ?_⟩
     refine D.alloc hA hM rfl info29 rfl rfl ?_; clear hA hM a; intro b41 w63 hb42 hM; refine ⟨(fun hM => (hM.drop 0)) hM.tail, fun a hA => ?_⟩
     replace hM : Mem _ _ [pt b41 cz0 29, pt b39 cz0 29, pt b3 #[.int .u64 (loW g), .int .u64 (hiW g)] 24, pt b1 #[.int .u64 (loW f), .int .u64 (hiW f)] 24] _ := hM
     refine D.storeW (k := 1) hA hM rfl sz29 rfl rfl (boo_size _) (boo_one _) rfl rfl ?_; clear hM
     intro w64 hM; refine ⟨fun _ _ => ((hM.drop 1).drop 0), ?_⟩
     replace hM : Mem _ _ [pt b41 cz0 29, pt b39 ((boo (bL f))) 29, pt b3 #[.int .u64 (loW g), .int .u64 (hiW g)] 24, pt b1 #[.int .u64 (loW f), .int .u64 (hiW f)] 24] _ := hM
     refine D.storeW (k := 0) hA hM rfl sz29 rfl rfl (boo_size _) (boo_one _) rfl rfl ?_; clear hM
     intro w65 hM; refine ⟨fun _ hne => absurd rfl hne, ?_⟩
     replace hM : Mem _ _ [pt b41 ((boo (bL g))) 29, pt b39 ((boo (bL f))) 29, pt b3 #[.int .u64 (loW g), .int .u64 (hiW g)] 24, pt b1 #[.int .u64 (loW f), .int .u64 (hiW f)] 24] _ := hM
     refine D.done ?_
     replace hA : St 95 [(2, _), (3, _), (5, _), (6, _)] a := hA.sub ((.cons rfl (.cons rfl (.cons rfl (.cons rfl .nil)))))
     replace hM := hM.front (k := 3) rfl
     replace hM := hM.front (k := 3) rfl
     replace hM := hM.front (k := 2) rfl
     replace hM := hM.front (k := 3) rfl
     exact hJ _ _ ⟨b39, b41, hA.sub ((.cons rfl (.cons rfl (.cons rfl (.cons rfl .nil))))), hM⟩
    ·
     refine D.alloc hA hM rfl info29 rfl rfl ?_; clear hA hM a; intro b43 w66 hb44 hM; refine ⟨(fun hM => (hM.drop 0)) hM.tail, fun a hA => ?_⟩
     replace hM : Mem _ _ [pt b43 cz0 29, pt b39 cz0 29, pt b3 #[.int .u64 (loW g), .int .u64 (hiW g)] 24, pt b1 #[.int .u64 (loW f), .int .u64 (hiW f)] 24] _ := hM
     refine D.call hA rfl (R.callF Tryd.func8 rfl rfl rfl) rfl (rof02 g _) ?_; clear hA a
     rintro e w67 ⟨rfl, hb⟩
     replace hM := hM.callB hb; clear hb
     refine ⟨.agg ((boo (bL g))), rfl, ((hM.drop 1).drop 0), fun a hA => ?_⟩
     refine D.storeW (k := 1) hA hM rfl sz29 rfl rfl (boo_size _) (boo_one _) rfl rfl ?_; clear hM
     intro w68 hM; refine ⟨fun _ _ => ((hM.drop 1).drop 0), ?_⟩
     replace hM : Mem _ _ [pt b43 cz0 29, pt b39 ((boo (bL f))) 29, pt b3 #[.int .u64 (loW g), .int .u64 (hiW g)] 24, pt b1 #[.int .u64 (loW f), .int .u64 (hiW f)] 24] _ := hM
     refine D.storeW (k := 0) hA hM rfl sz29 rfl rfl (boo_size _) (boo_one _) rfl rfl ?_; clear hM
     intro w69 hM; refine ⟨fun _ hne => absurd rfl hne, ?_⟩
     replace hM : Mem _ _ [pt b43 ((boo (bL g))) 29, pt b39 ((boo (bL f))) 29, pt b3 #[.int .u64 (loW g), .int .u64 (hiW g)] 24, pt b1 #[.int .u64 (loW f), .int .u64 (hiW f)] 24] _ := hM
     refine D.done ?_
     replace hA : St 95 [(2, _), (3, _), (5, _), (6, _)] a := hA.sub ((.cons rfl (.cons rfl (.cons rfl (.cons rfl .nil)))))
     replace hM := hM.front (k := 3) rfl
     replace hM := hM.front (k := 3) rfl
     replace hM := hM.front (k := 2) rfl
     replace hM := hM.front (k := 3) rfl
     exact hJ _ _ ⟨b39, b43, hA.sub ((.cons rfl (.cons rfl (.cons rfl (.cons rfl .nil))))), hM⟩
   ·
    refine D.alloc hA hM rfl info29 rfl rfl ?_; clear hA hM a; intro b45 w70 hb46 hM; refine ⟨(fun hM => (hM.drop 0)) hM.tail, fun a hA => ?_⟩
    replace hM : Mem _ _ [pt b45 cz0 29, pt b39 cz0 29, pt b3 #[.int .u64 (loW g), .int .u64 (hiW g)] 24, pt b1 #[.int .u64 (loW f), .int .u64 (hiW f)] 24] _ := hM
    refine D.call hA rfl (R.callF Tryd.func8 rfl rfl rfl) rfl (rof02 f _) ?_; clear hA a
    rintro e w71 ⟨rfl, hb⟩
    replace hM := hM.callB hb; clear hb
    refine ⟨.agg ((boo (bL f))), rfl, ((hM.drop 1).drop 0), fun a hA => ?_⟩
    refine D.call hA rfl (R.callF Tryd.func8 rfl rfl rfl) rfl (rof02 g _) ?_; clear hA a
    rintro e w72 ⟨rfl, hb⟩
    replace hM := hM.callB hb; clear hb
    refine ⟨.agg ((boo (bL g))), rfl, ((hM.drop 1).drop 0), fun a hA => ?_⟩
    refine D.storeW (k := 1) hA hM rfl sz29 rfl rfl (boo_size _) (boo_one _) rfl rfl ?_; clear hM
    intro w73 hM; refine ⟨fun _ _ => ((hM.drop 1).drop 0), ?_⟩
    replace hM : Mem _ _ [pt b45 cz0 29, pt b39 ((boo (bL f))) 29, pt b3 #[.int .u64 (loW g), .int .u64 (hiW g)] 24, pt b1 #[.int .u64 (loW f), .int .u64 (hiW f)] 24] _ := hM
    refine D.storeW (k := 0) hA hM rfl sz29 rfl rfl (boo_size _) (boo_one _) rfl rfl ?_; clear hM
    intro w74 hM; refine ⟨fun _ hne => absurd rfl hne, ?_⟩
    replace hM : Mem _ _ [pt b45 ((boo (bL g))) 29, pt b39 ((boo (bL f))) 29, pt b3 #[.int .u64 (loW g), .int .u64 (hiW g)] 24, pt b1 #[.int .u64 (loW f), .int .u64 (hiW f)] 24] _ := hM
    refine D.done ?_
    replace hA : St 95 [(2, _), (3, _), (5, _), (6, _)] a := hA.sub ((.cons rfl (.cons rfl (.cons rfl (.cons rfl .nil)))))
    replace hM := hM.front (k := 3) rfl
    replace hM := hM.front (k := 3) rfl
    replace hM := hM.front (k := 2) rfl
    replace hM := hM.front (k := 3) rfl
    exact hJ _ _ ⟨b39, b45, hA.sub ((.cons rfl (.cons rfl (.cons rfl (.cons rfl .nil))))), hM⟩
  ·
   refine D.alloc hA hM rfl info29 rfl rfl ?_; clear hA hM a; intro b47 w75 hb48 hM; refine ⟨(fun hM => hM) hM.tail, fun a hA => ?_⟩
   replace hM : Mem _ _ [pt b47 cz0 29, pt b3 #[.int .u64 (loW g), .int .u64 (hiW g)] 24, pt b1 #[.int .u64 (loW f), .int .u64 (hiW f)] 24] _ := hM
   refine D.fork rfl rfl ?_ ?_
   ·
    refine D.call hA rfl (R.callF Tryd.func8 rfl rfl rfl) rfl (rof02 f _) ?_; clear hA a
    rintro e w76 ⟨rfl, hb⟩
    replace hM := hM.callB hb; clear hb
    refine ⟨.agg ((boo (bL f))), rfl, (hM.drop 0), fun a hA => ?_⟩
    refine D.fork rfl rfl ?_ ?_
    ·
     refine D.call hA rfl (R.callF Tryd.func8 rfl rfl rfl) rfl (rof02 g _) ?_; clear hA a
     rintro e w77 ⟨rfl, hb⟩
     replace hM := hM.callB hb; clear hb
     refine ⟨.agg ((boo (bL g))), rfl, (hM.drop 0), fun a hA => ?_⟩
     refine D.alloc hA hM rfl info29 rfl rfl ?_; clear hA hM a; intro b49 w78 hb50 hM; refine ⟨(fun hM => (hM.drop 0)) hM.tail, fun a hA => ?_⟩
     replace hM : Mem _ _ [pt b49 cz0 29, pt b47 cz0 29, pt b3 #[.int .u64 (loW g), .int .u64 (hiW g)] 24, pt b1 #[.int .u64 (loW f), .int .u64 (hiW f)] 24] _ := hM
     refine D.storeW (k := 0) hA hM rfl sz29 rfl rfl (boo_size _) (boo_one _) rfl rfl ?_; clear hM
     intro w79 hM; refine ⟨fun _ _ => ((hM.drop 1).drop 0), ?_⟩
     replace hM : Mem _ _ [pt b49 ((boo (bL f))) 29, pt b47 cz0 29, pt b3 #[.int .u64 (loW g), .int .u64 (hiW g)] 24, pt b1 #[.int .u64 (loW f), .int .u64 (hiW f)] 24] _ := hM
     refine D.storeW (k := 1) hA hM rfl sz29 rfl rfl (boo_size _) (boo_one _) rfl rfl ?_; clear hM
     intro w80 hM; refine ⟨fun _ hne => absurd rfl hne, ?_⟩
     replace hM : Mem _ _ [pt b49 ((boo (bL f))) 29, pt b47 ((boo (bL g))) 29, pt b3 #[.int .u64 (loW g), .int .u64 (hiW g)] 24, pt b1 #[.int .u64 (loW f), .int .u64 (hiW f)] 24] _ := hM
     refine D.done ?_
     replace hA : St 95 [(2, _), (3, _), (5, _), (6, _)] a := hA.sub ((.cons rfl (.cons rfl (.cons rfl (.cons rfl .nil)))))
     replace hM := hM.front (k := 3) rfl
     replace hM := hM.front (k := 3) rfl
     replace hM := hM.front (k := 3) rfl
     replace hM := hM.front (k := 3) rfl
     exact hJ _ _ ⟨b49, b47, hA.sub ((.cons rfl (.cons rfl (.cons rfl (.cons rfl .nil))))), hM⟩
    ·
     refine D.alloc hA hM rfl info29 rfl rfl ?_; clear hA hM a; intro b51 w81 hb52 hM; refine ⟨(fun hM => (hM.drop 0)) hM.tail, fun a hA => ?_⟩
     replace hM : Mem _ _ [pt b51 cz0 29, pt b47 cz0 29, pt b3 #[.int .u64 (loW g), .int .u64 (hiW g)] 24, pt b1 #[.int .u64 (loW f), .int .u64 (hiW f)] 24] _ := hM
     refine D.call hA rfl (R.callF Tryd.func8 rfl rfl rfl) rfl (rof02 g _) ?_; clear hA a
     rintro e w82 ⟨rfl, hb⟩
     replace hM := hM.callB hb; clear hb
     refine ⟨.agg ((boo (bL g))), rfl, ((hM.drop 1).drop 0), fun a hA => ?_⟩
     refine D.storeW (k := 0) hA hM rfl sz29 rfl rfl (boo_size _) (boo_one _) rfl rfl ?_; clear hM
     intro w83 hM; refine ⟨fun _ _ => ((hM.drop 1).drop 0), ?_⟩
     replace hM : Mem _ _ [pt b51 ((boo (bL f))) 29, pt b47 cz0 29, pt b3 #[.int .u64 (loW g), .int .u64 (hiW g)] 24, pt b1 #[.int .u64 (loW f), .int .u64 (hiW f)] 24] _ := hM
     refine D.storeW (k := 1) hA hM rfl sz29 rfl rfl (boo_size _) (boo_one _) rfl rfl ?_; clear hM
     intro w84 hM; refine ⟨fun _ hne => absurd rfl hne, ?_⟩
     replace hM : Mem _ _ [pt b51 ((boo (bL f))) 29, pt b47 ((boo (bL g))) 29, pt b3 #[.int .u64 (loW g), .int .u64 (hiW g)] 24, pt b1 #[.int .u64 (loW f), .int .u64 (hiW f)] 24] _ := hM
     refine D.done ?_
     replace hA : St 95 [(2, _), (3, _), (5, _), (6, _)] a := hA.sub ((.cons rfl (.cons rfl (.cons rfl (.cons rfl .nil)))))
     replace hM := hM.front (k := 3) rfl
     replace hM := hM.front (k := 3) rfl
     replace hM := hM.front (k := 3) rfl
     replace hM := hM.front (k := 3) rfl
     exact hJ _ _ ⟨b51, b47, hA.sub ((.cons rfl (.cons rfl (.cons rfl (.cons rfl .nil))))), hM⟩
   ·
    refine D.alloc hA hM rfl info29 rfl rfl ?_; clear hA hM a; intro b53 w85 hb54 hM; refine ⟨(fun hM => (hM.drop 0)) hM.tail, fun a hA => ?_⟩
    replace hM : Mem _ _ [pt b53 cz0 29, pt b47 cz0 29, pt b3 #[.int .u64 (loW g), .int .u64 (hiW g)] 24, pt b1 #[.int .u64 (loW f), .int .u64 (hiW f)] 24] _ := hM
    refine D.call hA rfl (R.callF Tryd.func8 rfl rfl rfl) rfl (rof02 f _) ?_; clear hA a
    rintro e w86 ⟨rfl, hb⟩
    replace hM := hM.callB hb; clear hb
    refine ⟨.agg ((boo (bL f))), rfl, ((hM.drop 1).drop 0), fun a hA => ?_⟩
    refine D.call hA rfl (R.callF Tryd.func8 rfl rfl rfl) rfl (rof02 g _) ?_; clear hA a
    rintro e w87 ⟨rfl, hb⟩
    replace hM := hM.callB hb; clear hb
    refine ⟨.agg ((boo (bL g))), rfl, ((hM.drop 1).drop 0), fun a hA => ?_⟩
    refine D.storeW (k := 0) hA hM rfl sz29 rfl rfl (boo_size _) (boo_one _) rfl rfl ?_; clear hM
    intro w88 hM; refine ⟨fun _ _ => ((hM.drop 1).drop 0), ?_⟩
    replace hM : Mem _ _ [pt b53 ((boo (bL f))) 29, pt b47 cz0 29, pt b3 #[.int .u64 (loW g), .int .u64 (hiW g)] 24, pt b1 #[.int .u64 (loW f), .int .u64 (hiW f)] 24] _ := hM
    refine D.storeW (k := 1) hA hM rfl sz29 rfl rfl (boo_size _) (boo_one _) rfl rfl ?_; clear hM
    intro w89 hM; refine ⟨fun _ hne => absurd rfl hne, ?_⟩
    replace hM : Mem _ _ [pt b53 ((boo (bL f))) 29, pt b47 ((boo (bL g))) 29, pt b3 #[.int .u64 (loW g), .int .u64 (hiW g)] 24, pt b1 #[.int .u64 (loW f), .int .u64 (hiW f)] 24] _ := hM
    refine D.done ?_
    replace hA : St 95 [(2, _), (3, _), (5, _), (6, _)] a := hA.sub ((.cons rfl (.cons rfl (.cons rfl (.cons rfl .nil)))))
    replace hM := hM.front (k := 3) rfl
    replace hM := hM.front (k := 3) rfl
    replace hM := hM.front (k := 3) rfl
    replace hM := hM.front (k := 3) rfl
    exact hJ _ _ ⟨b53, b47, hA.sub ((.cons rfl (.cons rfl (.cons rfl (.cons rfl .nil))))), hM⟩
theorem setPairs_any (l m : List Int) (h1 : l.length = 2) (h2 : ∀ x ∈ l, (Lit.int .u64 x).wf = true) (h3 : m.length = 2) (h4 : ∀ x ∈ m, (Lit.int .u64 x).wf = true) (w : World) (htab : Lib.TabIs Tryd.prog w "math/bits.deBruijn64tab" .u8 debT) : Calls Tryd.prog 4 #[.agg (l.map (Value.int .u64)).toArray, .agg (m.map (Value.int .u64)).toArray] w fun e w' => e = .returned (.bool true) ∧ Below w.heap.size w w' := by
  obtain ⟨f, hf⟩ := set_of h1 h2
  obtain ⟨g, hg⟩ := set_of h3 h4
  rw [hf, hg]
  exact setPairs_w f g w htab
end Go.Proofs.YtphpbdnmdhlnoaaDoor
namespace Go.Proofs.YtphpbdnmdhlnoaaDoor
open Go.RowKit Go.WideShapes Go.ChangeShapes
section
variable {H : Type} {enc : TypeId × Value → H} {P : Program} {w : World} {base : Nat} {spare : Nat → Bool} {held : Bool}
theorem open_arri {r : Reach} {b0 n : Nat} {t e : TypeId} {k : IntKind} {v : Value} {d : DataW H} {p : List MemPlace} (ht : P.underlying t = some (.array n e)) (he : P.underlying e = some (.int k)) (hce : P.cellsOf e = 1)
    (hct : P.cellsOf t = n) (hv : Value.okWide P w r b0 t v) (h : DataW.Trod enc P w base spare held t v d p) :
    ∃ l : List Int, v = .agg (l.map (Value.int k)).toArray ∧ l.length = n ∧ ∀ x ∈ l, (Lit.int k x).wf = true := by
  simp only [Value.okWide, ht] at hv
  obtain ⟨cs, rfl, hsz, -⟩ := hv
  rw [hct] at hsz
  obtain ⟨fuel, hf⟩ := h
  obtain ⟨xs, m, -, -, -, hlen, hall⟩ := DataW.trod_array ht hf
  have each : ∀ i, i < n → ∃ x : Int, cs[i]? = some (.int k x) ∧ (Lit.int k x).wf = true := by
    intro i hi
    have h1 := hall i hi
    rw [hce, Nat.mul_one, List.getElem?_eq_getElem (by omega)] at h1
    obtain ⟨x, hx, -, hw⟩ := DataW.trod_int he h1
    refine ⟨x, ?_, hw⟩
    have h2 : (List.take 1 (List.drop i cs.toList))[0]? = some (.int k x) := by
      rw [show (Value.agg cs).cells.toList = cs.toList from rfl] at hx
      rw [hx]; rfl
    rw [List.getElem?_take] at h2
    simpa using h2
  refine ⟨cs.toList.map intOf, ?_, by simp [hsz], ?_⟩
  · congr 1
    apply Array.ext_getElem?
    intro i
    by_cases hi : i < n
    · obtain ⟨x, hx, -⟩ := each i hi
      simp [hx, intOf]
    · rw [Array.getElem?_eq_none (by omega), Array.getElem?_eq_none (by simp; omega)]
  · intro x hx
    obtain ⟨y, hy, rfl⟩ := List.mem_map.1 hx
    obtain ⟨i, hi, rfl⟩ := List.getElem_of_mem hy
    obtain ⟨x, hx, hw⟩ := each i (by simpa [hsz] using hi)
    have h3 : cs.toList[i] = .int k x := by
      have : cs.toList[i]? = some (.int k x) := by simpa using hx
      rw [List.getElem?_eq_getElem hi] at this
      simpa using this
    rw [h3]; exact hw
end
end Go.Proofs.YtphpbdnmdhlnoaaDoor
