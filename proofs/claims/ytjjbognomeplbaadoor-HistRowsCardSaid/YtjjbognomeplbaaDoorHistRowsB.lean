/-
  HistRows, part 2 of 2: what the code computes, and plain laws; no condition beside those that each theorem tells.
-/
import Derived.Test.YtjjbognomeplbaaDoorHistRowsA
import Derived.Shelf.Slices.Turned
import Derived.Ground.Names2Prog
import Derived.Shelf.Slices.Clone
import Derived.Shelf.Slices.Delete
import Derived.Shelf.Slices.Cells
import Derived.Shelf.Slices.Empties
import Derived.Test.YtjjbognomeplbaaDoorProg
import Derived.OpenShut
import Derived.ProofKit
namespace Go.Proofs.YtjjbognomeplbaaDoor
open Go.RowKit
theorem sz56 : szOf Tryd.prog 56 = some (false, 1) := by kernel_rfl
def kvV (p : Int × Int) : Value := .agg #[.int .u64 p.1, .int .u64 p.2]
def mpO (d : Ded) (es : Array MapEntry) : Prop := es.toList.map (fun e => (e.key, e.val)) = d.map (fun p => (kvV p, Value.bool true))
def mpc (b : Nat) (d : Ded) : Ck := ⟨fun c => c = b, fun w => ∃ es clock, w.heap[b]? = some (.map es clock) ∧ mpO d es, fun w w' h hw => by rw [h b rfl]; exact hw⟩
theorem run_gm {P : Program} {w : World} {r : Nat} {es : Array MapEntry} {clock : Nat} (hb : w.heap[r]? = some (.map es clock)) : (getObj r).run P w = .ok (.map es clock) w := by simp [getObj, Sem.run, hb]
theorem run_sm {P : Program} {w : World} {r : Nat} {es : Array MapEntry} {clock : Nat} (o : Obj) (hb : w.heap[r]? = some (.map es clock)) : (setObj r o).run P w = .ok () { w with heap := w.heap.setIfInBounds r o } := by simp [setObj, Sem.run, hb]
theorem eq_key (p q : Int × Int) (w : World) : (Op.equal 61 (kvV p) (kvV q)).run Tryd.prog w = .ok (decide (p = q)) w := by
  have h := eq_set p.1 p.2 q.1 q.2 w
  show (Op.equalIn 10000 61 (.agg #[.int .u64 p.1, .int .u64 p.2]) (.agg #[.int .u64 q.1, .int .u64 q.2])).run Tryd.prog w = _
  rw [h]
  congr 1
  exact decide_eq_decide.2 ⟨fun ⟨a, b⟩ => Prod.ext a b, fun e => by rw [e]; exact ⟨rfl, rfl⟩⟩
theorem chk_key (p : Int × Int) (e : Bool) (w : World) : (Instr.checkKey e 10000 61 (kvV p)).run Tryd.prog w = .ok () w := by
  have u1 := Tryd.underlying61
  have u3 := Tryd.underlying24
  have q3 := Tryd.isAgg24
  have z3 := Tryd.sizeOf24
  have h1 : ∀ a : Int, (Instr.checkKey e 9999 24 (.int .u64 a)).run Tryd.prog w = .ok () w := fun a => by
    rw [show (9999 : Nat) = 9998 + 1 from rfl]
    unfold Instr.checkKey
    go_simp
  unfold kvV
  rw [show (10000 : Nat) = 9999 + 1 from rfl]
  unfold Instr.checkKey
  have hr : List.range' 0 2 = [0, 1] := rfl
  go_simp
theorem find_asks (p : Int × Int) (w : World) : ∀ (es : List MapEntry) (d : Ded) (i : Nat), es.map (fun e => (e.key, e.val)) = d.map (fun p => (kvV p, Value.bool true)) →
    (p ∈ d → ∃ j e, es[j]? = some e ∧ e.key = kvV p ∧ e.val = .bool true ∧ (Instr.findAsking 61 (kvV p) es i).run Tryd.prog w = .ok (some (i + j, .bool true)) w) ∧
    (p ∉ d → (Instr.findAsking 61 (kvV p) es i).run Tryd.prog w = .ok none w)
  | [], [], i, _ => ⟨fun h => (by cases h), fun _ => rfl⟩
  | [], _ :: _, _, h => by simp at h
  | _ :: _, [], _, h => by simp at h
  | e :: es, q :: d, i, h => by
    simp only [List.map_cons, List.cons.injEq, Prod.mk.injEq] at h
    obtain ⟨⟨h1, h2⟩, h3⟩ := h
    obtain ⟨g1, g2⟩ := find_asks p w es d (i + 1) h3
    unfold Instr.findAsking
    simp only [Sem.run_bind, h1, h2, eq_key, Result.andThen]
    by_cases hq : p = q
    · subst hq
      refine ⟨fun _ => ⟨0, e, rfl, h1, h2, ?_⟩, fun hn => absurd (.head _) hn⟩
      simp
    · refine ⟨fun hm => ?_, fun hn => ?_⟩
      · have hm' : p ∈ d := by
          cases hm with
          | head => exact absurd rfl hq
          | tail _ hm => exact hm
        obtain ⟨j, e', k1, k2, k3, k4⟩ := g1 hm'
        refine ⟨j + 1, e', k1, k2, k3, ?_⟩
        simp only [hq, decide_false, Bool.false_eq_true, if_false]
        rw [k4, show i + 1 + j = i + (j + 1) by omega]
      · simp only [hq, decide_false, Bool.false_eq_true, if_false]
        exact g2 fun hm => hn (.tail _ hm)
theorem find_key (p : Int × Int) (w : World) (es : List MapEntry) (d : Ded) (h : es.map (fun e => (e.key, e.val)) = d.map (fun p => (kvV p, Value.bool true))) :
    (p ∈ d → ∃ j e, es[j]? = some e ∧ e.key = kvV p ∧ e.val = .bool true ∧ (Instr.findKey 61 (kvV p) es).run Tryd.prog w = .ok (some (j, .bool true)) w) ∧
    (p ∉ d → (Instr.findKey 61 (kvV p) es).run Tryd.prog w = .ok none w) := by
  have u1 := Tryd.underlying61
  obtain ⟨g1, g2⟩ := find_asks p w es d 0 h
  have hk : ∀ r, (match Instr.findNow (.array 2 24) (kvV p) es 0 with | some r => pure r | none => Instr.findAsking 61 (kvV p) es : Sem (Option (Nat × Value))).run Tryd.prog w = r → (Instr.findKey 61 (kvV p) es).run Tryd.prog w = r := fun r h => by
    unfold Instr.findKey
    simp only [Sem.run_bind, run_underlying u1, Result.andThen]
    exact h
  cases es with
  | nil =>
    cases d with
    | nil => exact ⟨fun h => (by cases h), fun _ => hk _ (by simp [Instr.findNow])⟩
    | cons _ _ => simp at h
  | cons e es =>
    have hn : Instr.findNow (.array 2 24) (kvV p) (e :: es) 0 = none := by
      show Instr.findNow (.array 2 24) (.agg #[.int .u64 p.1, .int .u64 p.2]) (e :: es) 0 = none
      simp only [Instr.findNow, Instr.sameNow]
    simp only [hn] at hk
    exact ⟨fun hm => by
      obtain ⟨j, e', k1, k2, k3, k4⟩ := g1 hm
      exact ⟨j, e', k1, k2, k3, hk _ (by rw [k4, Nat.zero_add])⟩, fun hm => hk _ (g2 hm)⟩
section
variable {l : List (Nat × Value)} {w w0 : World} {F : Nat → Prop} {L : List Ck} {b k : Nat} {d : Ded} {p : Int × Int} {x y : Operand} {ty : TypeId}
theorem R.lookM (hM : Mem w0 F L w) (hk : ith L k = some (mpc b d)) (hx : opv l x = some (.map (some b))) (hy : opv l y = some (kvV p)) :
    Run Tryd.prog l w (.lookup 56 x y false) ty (.bool (decide (p ∈ d))) w := fun ev h _ _ _ _ => by
  obtain ⟨es, clock, hb, ho⟩ := hM.mem hk
  have um := Tryd.underlying56
  obtain ⟨g1, g2⟩ := find_key p w es.toList d ho
  have hz : (zeroValue 4).run Tryd.prog w = .ok (.bool false) w := by have := info4; go_simp
  simp only [execOp, h _ _ hx, h _ _ hy]
  unfold Instr.lookup
  by_cases hm : p ∈ d
  · obtain ⟨j, e', -, -, -, g⟩ := g1 hm
    simp [um, Result.andThen, run_gm hb, chk_key, g, hm]
  · simp [um, Result.andThen, run_gm hb, chk_key, g2 hm, hm, hz]
theorem updM_all (hM : Mem w0 F L w) (hk : ith L k = some (mpc b d)) :
  ∃ w', (∀ (l : List (Nat × Value)) (x y z : Operand) (ty : TypeId), opv l x = some (.map (some b)) → opv l y = some (kvV p) → opv l z = some (.bool true) → RunN Tryd.prog l w (.mapUpdate 56 x y z) ty .skip w') ∧ (mpc b (addK p d)).holds w' ∧ w.grownBy w' (some b) := by
 obtain ⟨es, clock, hb, ho⟩ := hM.mem hk
 have um := Tryd.underlying56
 obtain ⟨g1, g2⟩ := find_key p w es.toList d ho
 have hlt := (Array.getElem?_eq_some_iff.1 hb).1
 by_cases hm : p ∈ d
 ·
  obtain ⟨j, e', k1, k2, k3, g⟩ := g1 hm
  have hstay : (Instr.keyThatStays (((es[j]?).map (·.key)).getD (kvV p)) (kvV p)).run Tryd.prog w = .ok (kvV p) w := by
   have e1 : es[j]? = some e' := by simpa using k1
   rw [e1]
   show (Instr.keyThatStays e'.key (kvV p)).run Tryd.prog w = _
   rw [k2]
   unfold Instr.keyThatStays kvV
   simp [Instr.sameBits]
  refine ⟨{ w with heap := w.heap.setIfInBounds b (.map (es.modify j fun e => { e with key := kvV p, val := .bool true }) clock) }, ?_, Exists.intro (es.modify j fun e => { e with key := kvV p, val := .bool true }) (Exists.intro clock (And.intro ?_ ?_)), ?_⟩
  ·
   intro l x y z ty hx hy hz ev h _ _ _ _
   simp only [execOp, h _ _ hx, h _ _ hy, h _ _ hz]
   unfold Instr.mapUpdate
   simp [um, Result.andThen, run_gm hb, chk_key, g, hstay, run_sm _ hb]
  · simp [hlt]
  ·
   unfold mpO addK
   rw [if_pos hm, ← ho]
   refine List.ext_getElem? fun i => ?_
   simp only [Array.toList_modify, List.getElem?_map, List.getElem?_modify]
   by_cases hi : j = i
   · subst hi; rw [k1]; simp [k2, k3]
   ·
    cases es.toList[i]? with
    | none => rfl
    | some e9 => simp [hi]
  ·
   exact ⟨rfl, rfl, rfl, by simp, fun i _ hi => by
    have : b ≠ i := fun e => hi (by rw [e])
    simp [Array.getElem?_setIfInBounds, this]⟩
 ·
  refine ⟨{ w with heap := w.heap.setIfInBounds b (.map (es.push { key := kvV p, val := .bool true, born := clock }) (clock + 1)) }, ?_, Exists.intro (es.push { key := kvV p, val := .bool true, born := clock }) (Exists.intro (clock + 1) (And.intro ?_ ?_)), ?_⟩
  ·
   intro l x y z ty hx hy hz ev h _ _ _ _
   simp only [execOp, h _ _ hx, h _ _ hy, h _ _ hz]
   unfold Instr.mapUpdate
   simp [um, Result.andThen, run_gm hb, chk_key, g2 hm, run_sm _ hb]
  · simp [hlt]
  ·
   have ho' : es.toList.map (fun e => (e.key, e.val)) = d.map (fun p => (kvV p, Value.bool true)) := ho
   unfold mpO addK
   rw [if_neg hm]
   simp [ho']
  ·
   exact ⟨rfl, rfl, rfl, by simp, fun i _ hi => by
    have : b ≠ i := fun e => hi (by rw [e])
    simp [Array.getElem?_setIfInBounds, this]⟩
theorem Mem.updM {w' : World} {d' : Ded} (hM : Mem w0 F L w) (hk : ith L k = some (mpc b d)) (hh : (mpc b d').holds w') (hg : w.grownBy w' (some b)) : Mem w0 F (mpc b d' :: dropAt L k) w' := by
  have h1 := hM.front hk
  have hb := h1.inb _ (.head _) b rfl
  have h2 : Mem w0 F (dropAt L k) w' := h1.tail.grow hg fun r e => by
    cases e
    refine ⟨?_, fun c hc hf => (List.pairwise_cons.1 h1.apart).1 c hc b rfl hf⟩
    rcases Nat.lt_or_ge b w0.heap.size with g | g
    · exact .inr (hb.2 g)
    · exact .inl g
  refine ⟨h2.os, h2.tape, h2.output, h2.size, h2.old, fun c hc => ?_, fun c hc q hq => ?_, List.pairwise_cons.2 ⟨fun c hc q hq => by cases hq; exact (List.pairwise_cons.1 h1.apart).1 c hc b rfl, h2.apart⟩⟩
  · rcases List.mem_cons.1 hc with rfl | hc
    · exact hh
    · exact h2.holds c hc
  · rcases List.mem_cons.1 hc with rfl | hc
    · cases hq; exact ⟨Nat.lt_of_lt_of_le hb.1 hg.size, hb.2⟩
    · exact h2.inb c hc q hq
end
section
variable {P : Program} {nn n : Nat} {l : List (Nat × Value)} {a : Act} {w w0 : World} {F : Nat → Prop} {L : List Ck} {Q : Exit → Act → World → Prop} {ops : Array Oper} {rest : List Oper} {d : Nat} {t ty : TypeId} {pos : String} {aft : Array Edge}
theorem S.mkMap (hA : St n l a) (hM : Mem w0 F L w) (hd : Nat.blt d n = true)
    (h : ∀ b w', w0.heap.size ≤ b → Mem w0 F (mpc b [] :: L) w' → ∀ a, St n ((d, .map (some b)) :: l) a → wpList P ops Q rest a w') :
    wpList P ops Q ({ dst := some d, op := .makeMap t none, type := ty, pos, after := aft, guard := none } :: rest) a w := by
  have hr : Run P l w (.makeMap t none) ty (.map (some w.heap.size)) (w.alloc (.map #[] 0)) := fun ev _ _ _ _ _ => by
    simp [execOp, Instr.makeMap, Result.andThen]
  have hm : Mem w0 F (mpc w.heap.size [] :: L) (w.alloc (.map #[] 0)) := by
    have h2 : Mem w0 F L (w.alloc (.map #[] 0)) := hM.grow (row := none) (World.grownBy_alloc w _ none) (fun r e => by cases e)
    refine ⟨h2.os, h2.tape, h2.output, h2.size, h2.old, fun c hc => ?_, fun c hc q hq => ?_, List.pairwise_cons.2 ⟨fun c hc q hq hf => ?_, h2.apart⟩⟩
    · rcases List.mem_cons.1 hc with rfl | hc
      · exact ⟨#[], 0, World.alloc_heap_new w _, rfl⟩
      · exact h2.holds c hc
    · rcases List.mem_cons.1 hc with rfl | hc
      · cases hq
        have := hM.size
        exact ⟨by rw [World.size_alloc]; omega, fun g => by omega⟩
      · exact h2.inb c hc q hq
    · cases hq
      have := (hM.inb c hc _ hf).1
      omega
  exact S.val hA hr hd fun a hA => h _ _ hM.size hm a hA
end
section
variable {P : Program} {l : List (Nat × Value)} {w : World} {x : Operand} {t ty : TypeId} {av : Option Addr} {c q : Nat} {ops : List HOp}
theorem R.loadHop (h : RowSl w (.slice av ops.length c) 4 ops.length (hopv ops)) (hq : q < ops.length) (hi : szOf P t = some (true, 4)) (hx : opv l x = some (pR av (q * 4 + 0))) :
    Run P l w (.load t x) ty (.agg #[.int .i64 (hop ops q).k, .int .i64 (hop ops q).i, .int .i64 (hop ops q).f, .int .i64 (hop ops q).t]) w := by
  obtain ⟨h1, h2, h3, h4⟩ := hopv_at ops q hq
  have := R.loadRow4 (ty := ty) h hq hi hx
  rwa [h1, h2, h3, h4] at this
theorem R.loadHopF (h : RowSl w (.slice av ops.length c) 4 ops.length (hopv ops)) (hq : q < ops.length) (hi : szOf P t = some (false, 1)) (hx : opv l x = some (pR av (q * 4 + (0 + 2)))) : Run P l w (.load t x) ty (.int .i64 (hop ops q).f) w := by
  have := R.loadRow (ty := ty) h hq (by decide) hi hx
  rwa [show q * 4 + (0 + 2) = q * 4 + 2 from rfl, (hopv_at ops q hq).2.2.1] at this
theorem R.loadHopT (h : RowSl w (.slice av ops.length c) 4 ops.length (hopv ops)) (hq : q < ops.length) (hi : szOf P t = some (false, 1)) (hx : opv l x = some (pR av (q * 4 + (0 + 3)))) : Run P l w (.load t x) ty (.int .i64 (hop ops q).t) w := by
  have := R.loadRow (ty := ty) h hq (by decide) hi hx
  rwa [show q * 4 + (0 + 3) = q * 4 + 3 from rfl, (hopv_at ops q hq).2.2.2] at this
end
end Go.Proofs.YtjjbognomeplbaaDoor
namespace Go.Proofs.YtjjbognomeplbaaDoor
section
variable (lt : Int → Int → Bool)
def rbo (a b : Int) : Bool := lt a b || (!lt b a && decide (a < b))
end
section
variable {lt : Int → Int → Bool}
variable {A : Int → Prop} (htr : ∀ a b c, A a → A b → A c → rbo lt a b = true → rbo lt b c = true → rbo lt a c = true)
include htr
end
section
variable {rb : Int → Int → Bool}
def laid (n : Nat) (s out : List Int) (m : Nat) : Prop := out.length = n ∧ ∀ j (h : j < s.length), s[j] < m → out.getD j 0 = s[j]
end
end Go.Proofs.YtjjbognomeplbaaDoor
namespace Go.Proofs.YtjjbognomeplbaaDoor
theorem take_snoc {X : List Int} {k : Nat} (h : k < X.length) : X.take (k + 1) = X.take k ++ [X.getD k 0] := by
  rw [List.take_succ_eq_append_getElem h, List.getD_eq_getElem?_getD, List.getElem?_eq_getElem h]; rfl
end Go.Proofs.YtjjbognomeplbaaDoor
namespace Go.Proofs
open Go.Shelf
def Tryd.lays108_ren : Go.Shelf.Ren := ⟨fun | 108 => 46 | n => n, fun | 28 => 22 | 3 => 3 | 0 => 0 | 4 => 4 | n => n, fun | n => n⟩
theorem Tryd.lays108 : Go.Proofs.Lays.n108 Tryd.prog Tryd.lays108_ren := {
  mixed := by kernel_rfl
  f108 := Tryd.func46.trans (congrArg some (by kernel_rfl))
  t0 := Tryd.underlying0
  a0 := Tryd.isAgg0
  z0 := Tryd.sizeOf0
  v0 := Tryd.zeroValue0
  t3 := Tryd.underlying3
  a3 := Tryd.isAgg3
  z3 := Tryd.sizeOf3
  v3 := Tryd.zeroValue3
  t4 := Tryd.underlying4
  a4 := Tryd.isAgg4
  z4 := Tryd.sizeOf4
  v4 := Tryd.zeroValue4
  t28 := Tryd.underlying22
  a28 := Tryd.isAgg22
  z28 := Tryd.sizeOf22
  v28 := Tryd.zeroValue22 }
open Go.Lib in
theorem Tryd.slices_Index_int (b off n c : Nat) (zs : List Int) (x : Int) (w : World) (hz : n ≤ zs.length) (hbig : n ≤ 9223372036854775807) (hc : ∀ j, j < zs.length → w.cell? ⟨b, off + j, none⟩ = some (.int .i64 (zs.getD j 0))) :
    Calls Tryd.prog 46 #[.slice (some ⟨b, off, none⟩) n c, .int .i64 x] w fun e w' => e = .returned (.int .i64 (Lib.idxOf (zs.take n) x)) ∧ w' = w := Any.slices_Index_int Tryd.lays108 b off n c zs x w hz hbig hc
open Go.Lib in
theorem Tryd.slices_Index_int_empty (a : Option Addr) (c : Nat) (x : Int) (w : World) :
    Calls Tryd.prog 46 #[.slice a 0 c, .int .i64 x] w fun e w' => e = .returned (.int .i64 (Lib.idxOf [] x)) ∧ w' = w := Any.slices_Index_int_empty Tryd.lays108 a c x w
def Tryd.laysNm215_ren : Go.Shelf.Ren := ⟨fun | 15 => 45 | n => n, fun | 22 => 22 | 3 => 3 | 4 => 4 | n => n, fun | n => n⟩
theorem Tryd.laysNm215 : Go.Proofs.Lays2.n15 Tryd.prog Tryd.laysNm215_ren := {
  mixed := by kernel_rfl
  f15 := Tryd.func45.trans (congrArg some (by kernel_rfl))
  t3 := Tryd.underlying3
  a3 := Tryd.isAgg3
  z3 := Tryd.sizeOf3
  v3 := Tryd.zeroValue3
  t4 := Tryd.underlying4
  a4 := Tryd.isAgg4
  z4 := Tryd.sizeOf4
  v4 := Tryd.zeroValue4
  t22 := Tryd.underlying22
  a22 := Tryd.isAgg22
  z22 := Tryd.sizeOf22
  v22 := Tryd.zeroValue22
  i3 := by kernel_rfl }
open Go.RowKit Go.Lib in
theorem Tryd.slices_Clone_int (b off n c : Nat) (zs : List Int) (w : World) (hz : n ≤ zs.length) (hbig : n * 8 ≤ 140737488355328) (hc : ∀ j, j < zs.length → w.cell? ⟨b, off + j, none⟩ = some (.int .i64 (zs.getD j 0))) :
    Calls Tryd.prog 45 #[.slice (some ⟨b, off, none⟩) n c] w fun e w' => ∃ v', e = .returned v' ∧ w'.ownsRow w.heap.size 3 1 v' n ((zs.take n).map (Value.int .i64)) ∧ v' ≠ .slice none 0 0 ∧ Below w.heap.size w w' := Any.slices_Clone_int Tryd.laysNm215 b off n c zs w hz hbig hc
open Go.RowKit Go.Lib in
theorem Tryd.slices_Clone_int_nil (n c : Nat) (w : World) :
    Calls Tryd.prog 45 #[.slice none n c] w fun e w' => e = .returned (.slice none 0 0) ∧ w' = w := Any.slices_Clone_int_nil Tryd.laysNm215 n c w
open Go.RowKit Go.Lib in
theorem Tryd.slices_Clone_int_zero (a : Addr) (c : Nat) (w : World) :
    Calls Tryd.prog 45 #[.slice (some a) 0 c] w fun e w' => ∃ v', e = .returned v' ∧ w'.ownsRow w.heap.size 3 1 v' 0 [] ∧ v' ≠ .slice none 0 0 ∧ Below w.heap.size w w' := Any.slices_Clone_int_zero Tryd.laysNm215 a c w
def Tryd.laysNm223_ren : Go.Shelf.Ren := ⟨fun | 23 => 47 | n => n, fun | 22 => 22 | 3 => 3 | 4 => 4 | 0 => 0 | n => n, fun | n => n⟩
theorem Tryd.laysNm223 : Go.Proofs.Lays2.n23 Tryd.prog Tryd.laysNm223_ren := {
  mixed := by kernel_rfl
  f23 := Tryd.func47.trans (congrArg some (by kernel_rfl))
  t0 := Tryd.underlying0
  a0 := Tryd.isAgg0
  z0 := Tryd.sizeOf0
  v0 := Tryd.zeroValue0
  t3 := Tryd.underlying3
  a3 := Tryd.isAgg3
  z3 := Tryd.sizeOf3
  v3 := Tryd.zeroValue3
  t4 := Tryd.underlying4
  a4 := Tryd.isAgg4
  z4 := Tryd.sizeOf4
  v4 := Tryd.zeroValue4
  t22 := Tryd.underlying22
  a22 := Tryd.isAgg22
  z22 := Tryd.sizeOf22
  v22 := Tryd.zeroValue22
  i3 := by kernel_rfl }
open Go.RowKit Go.Lib Go.Sort in
theorem Tryd.slices_Delete_int (blk off cap i j : Nat) (zs : List Int) (w : World) (hH : Holds (Value.int .i64) w blk off zs.toArray) (hcap : zs.length ≤ cap) (hm : cap ≤ 9223372036854775807) (hij : i ≤ j) (hj : j ≤ zs.length) :
    Calls Tryd.prog 47 #[.slice (some ⟨blk, off, none⟩) zs.length cap, .int .i64 i, .int .i64 j] w fun e w' => e = .returned (.slice (some ⟨blk, off, none⟩) (zs.length - (j - i)) cap) ∧ ∃ q, w' = putRow (Value.int .i64) (Sort.ahead w q) blk off (zs.take i ++ zs.drop j ++ List.replicate (j - i) 0).toArray := Any.slices_Delete_int Tryd.laysNm223 blk off cap i j zs w hH hcap hm hij hj
end Go.Proofs
namespace Go.Proofs.YtjjbognomeplbaaDoor
open Go.RowKit
section
variable {w0 w : World} {F : Nat → Prop} {L : List Ck} {e : TypeId} {g cap : Nat}
theorem Mem.ahead (h : Mem w0 F L w) (q : Nat) : Mem w0 F L (Sort.ahead w q) := ⟨h.os, h.tape, h.output, h.size, h.old, fun c hc => c.loc w (Sort.ahead w q) (fun _ _ => rfl) (h.holds c hc), h.inb, h.apart⟩
theorem Mem.holdsI {X : List Int} {k : Nat} (h : Mem w0 F L w) (hk : ith L k = some (own e 1 (.slice (some ⟨g, 0, none⟩) X.length cap) X.length (X.map (Value.int .i64)))) : Sort.Holds (Value.int .i64) w g 0 X.toArray := fun j hj => by
  have hj' : j < X.length := by simpa using hj
  rw [Nat.zero_add]
  refine ⟨?_, h.ownFree hk j⟩
  rw [h.ownCell hk (mapi_get X j hj')]
  simp [List.getD, hj', getElem!_pos]
theorem Mem.putRow {X Y : List Int} (h : Mem w0 F (own e 1 (.slice (some ⟨g, 0, none⟩) X.length cap) X.length (X.map (Value.int .i64)) :: L) w) (hl : Y.length = X.length) :
    Mem w0 F (own e 1 (.slice (some ⟨g, 0, none⟩) Y.length cap) Y.length (Y.map (Value.int .i64)) :: L) (Sort.putRow (Value.int .i64) w g 0 Y.toArray) := by
  have key : ∀ j, j ≤ X.length → Mem w0 F (own e 1 (.slice (some ⟨g, 0, none⟩) X.length cap) X.length ((Y.take j ++ X.drop j).map (Value.int .i64)) :: L) (Sort.putRow (Value.int .i64) w g 0 (Y.take j ++ X.drop j).toArray) := by
    intro j
    induction j with
    | zero =>
      intro _
      rw [List.take_zero, List.nil_append, List.drop_zero, Sort.putRow_self _ _ _ _ _ (h.holdsI (k := 0) rfl)]
      exact h
    | succ j ih =>
      intro hj
      have h1 := (ih (by omega)).ownStore (k := 0) rfl j (.int .i64 (Y.getD j 0))
      have hlj : (Y.take j).length = j := by rw [List.length_take]; omega
      have e1 : (Y.take j ++ X.drop j).set j (Y.getD j 0) = Y.take (j + 1) ++ X.drop (j + 1) := by
        rw [List.set_append_right _ _ (by omega), hlj, Nat.sub_self, List.drop_eq_getElem_cons (show j < X.length by omega), List.set_cons_zero, take_snoc (show j < Y.length by omega), List.append_assoc]
        rfl
      have e2 := Sort.putRow_set (Value.int .i64) w g 0 (Y.take j ++ X.drop j).toArray j (Y.getD j 0) (by simp; omega)
      rw [Nat.zero_add] at e2
      rw [e2] at h1
      have e3 : (Y.take j ++ X.drop j).toArray.setIfInBounds j (Y.getD j 0) = (Y.take (j + 1) ++ X.drop (j + 1)).toArray := by rw [← e1]; simp
      rw [e3] at h1
      rw [← e1, List.map_set]
      rw [← e1] at h1
      exact h1
  have h1 := key X.length (Nat.le_refl _)
  rw [List.drop_length, List.append_nil, List.take_of_length_le (by omega)] at h1
  rw [hl]
  exact h1
theorem Mem.ownCut {X : List Int} {m : Nat} (h : Mem w0 F (own e 1 (.slice (some ⟨g, 0, none⟩) X.length cap) X.length (X.map (Value.int .i64)) :: L) w) (hm : m ≤ X.length) :
    Mem w0 F (own e 1 (.slice (some ⟨g, 0, none⟩) (X.take m).length cap) (X.take m).length ((X.take m).map (Value.int .i64)) :: L) w := by
  refine h.head ?_ (fun b hb => hb)
  have ho : w.ownsRow 0 e 1 (.slice (some ⟨g, 0, none⟩) X.length cap) X.length (X.map (Value.int .i64)) := h.mem (k := 0) rfl
  rcases ho with ⟨h1, ⟨h2, -⟩ | ⟨g', cap', cur, h2, h3, h4, h5, h6, h7, h8⟩⟩
  · cases h2
  · cases h2
    refine ⟨by simp, .inr ⟨g, cap, cur, rfl, h3, h4, by rw [List.length_take]; omega, h6, h7, ?_⟩⟩
    rw [List.length_take, Nat.min_eq_left hm, List.map_take, ← h8, List.take_take]
    congr 1
    omega
end
set_option maxHeartbeats 400000 in
theorem del09 (g cap i : Nat) (X : List Int) (hi : i < X.length) (w : World) (hM : Mem w (feet [own 3 1 (.slice (some ⟨g, 0, none⟩) X.length cap) X.length (X.map (Value.int .i64))]) [own 3 1 (.slice (some ⟨g, 0, none⟩) X.length cap) X.length (X.map (Value.int .i64))] w) :
    Calls Tryd.prog 47 #[.slice (some ⟨g, 0, none⟩) X.length cap, .int .i64 (i : Int), .int .i64 ((i : Int) + 1)] w fun e w' => e = .returned (.slice (some ⟨g, 0, none⟩) (X.eraseIdx i).length cap) ∧
      Mem w (feet [own 3 1 (.slice (some ⟨g, 0, none⟩) X.length cap) X.length (X.map (Value.int .i64))]) [own 3 1 (.slice (some ⟨g, 0, none⟩) (X.eraseIdx i).length cap) (X.eraseIdx i).length ((X.eraseIdx i).map (Value.int .i64))] w' := by
  have hle := hM.ownLe (k := 0) rfl
  have hc := Tryd.slices_Delete_int g 0 cap i (i + 1) X w (hM.holdsI (k := 0) rfl) hle.1 (by have := hle.2; unfold maxLen at this; exact this) (by omega) (by omega)
  have e0 : ((i + 1 : Nat) : Int) = (i : Int) + 1 := by omega
  rw [e0] at hc
  refine hc.mono fun e w' ⟨he, q, hw⟩ => ?_
  have hlE : (X.eraseIdx i).length = X.length - 1 := by rw [List.length_eraseIdx_of_lt hi]
  have h1 := (hM.ahead q).putRow (Y := X.take i ++ X.drop (i + 1) ++ List.replicate (i + 1 - i) 0) (by simp only [List.length_append, List.length_take, List.length_drop, List.length_replicate]; omega)
  have h2 := h1.ownCut (m := X.length - 1) (by simp only [List.length_append, List.length_take, List.length_drop, List.length_replicate]; omega)
  have e1 : (X.take i ++ X.drop (i + 1) ++ List.replicate (i + 1 - i) 0).take (X.length - 1) = X.eraseIdx i := by
    rw [← List.eraseIdx_eq_take_drop_succ, ← hlE, List.take_left']
    rfl
  rw [e1] at h2
  subst hw
  refine ⟨?_, h2⟩
  rw [he, hlE, show i + 1 - i = 1 by omega]
end Go.Proofs.YtjjbognomeplbaaDoor
namespace Go.Proofs.YtjjbognomeplbaaDoor
open Go.RowKit
theorem idx_from (x : Int) : ∀ (X : List Int) (i : Nat), (x ∈ X → ∃ j : Nat, Lib.idxFrom X x i = ((i + j : Nat) : Int) ∧ j < X.length ∧ X.eraseIdx j = X.erase x) ∧ (x ∉ X → Lib.idxFrom X x i = -1)
  | [], i => ⟨fun h => (by cases h), fun _ => rfl⟩
  | z :: X, i => by
    obtain ⟨g1, g2⟩ := idx_from x X (i + 1)
    by_cases hz : z = x
    · subst hz
      exact ⟨fun _ => ⟨0, by simp [Lib.idxFrom], by simp, by simp⟩, fun h => absurd (.head _) h⟩
    · refine ⟨fun h => ?_, fun h => ?_⟩
      · have h' : x ∈ X := by
          cases h with
          | head => exact absurd rfl hz
          | tail _ h => exact h
        obtain ⟨j, h1, h2, h3⟩ := g1 h'
        refine ⟨j + 1, ?_, by simpa using h2, ?_⟩
        · rw [Lib.idxFrom, if_neg hz, h1]; omega
        · rw [List.eraseIdx_cons_succ, h3, List.erase_cons_tail (by simpa using hz)]
      · rw [Lib.idxFrom, if_neg hz, g2 fun hm => h (.tail _ hm)]
theorem index21 (a : Option Addr) (X : List Int) (c : Nat) (x : Int) (w : World) (h : IntSl w (.slice a X.length c) X) (hl : X.length ≤ 1000) : Calls Tryd.prog 46 #[.slice a X.length c, .int .i64 x] w fun e w' => e = .returned (.int .i64 (Lib.idxOf X x)) ∧ w = w' := by
  cases X with
  | nil => exact (Tryd.slices_Index_int_empty a c x w).mono fun e w' ⟨h1, h2⟩ => ⟨h1, h2.symm⟩
  | cons z X =>
    obtain ⟨a', c', he, -, -, -, h4⟩ := h
    obtain ⟨b, off, hb, -, hc⟩ := h4 (by simp)
    cases he
    subst hb
    refine (Tryd.slices_Index_int b off (z :: X).length c (z :: X) x w (Nat.le_refl _) (by omega) hc).mono fun e w' ⟨h1, h2⟩ => ⟨?_, h2.symm⟩
    rw [h1, List.take_length]
theorem clone21 (a : Option Addr) (X : List Int) (c : Nat) (w : World) (h : IntSl w (.slice a X.length c) X) (hl : X.length ≤ 1000) : Calls Tryd.prog 45 #[.slice a X.length c] w fun e w' => ∃ a2 c2, e = .returned (.slice a2 X.length c2) ∧ Mem w nof [own 3 1 (.slice a2 X.length c2) X.length (X.map (Value.int .i64))] w' := by
  cases a with
  | none =>
    have hX : X = [] := by
      obtain ⟨a', c', he, h1, -, h3, -⟩ := h
      cases he
      exact List.length_eq_zero_iff.1 (by have := h3 rfl; omega)
    subst hX
    exact (Tryd.slices_Clone_int_nil 0 c w).mono fun e w' ⟨h1, h2⟩ => ⟨none, 0, h1, by rw [h2]; exact (Mem.start w).ownNil _ _⟩
  | some p =>
    cases X with
    | nil =>
      refine (Tryd.slices_Clone_int_zero p c w).mono fun e w' ⟨v', he, hown, _, hb⟩ => ?_
      obtain ⟨a2, c2, rfl, hm⟩ := own_slice hown hb
      exact ⟨a2, c2, he, hm⟩
    | cons z X =>
      obtain ⟨a', c', he, -, -, -, h4⟩ := h
      obtain ⟨b, off, hb, -, hc⟩ := h4 (by simp)
      cases he
      cases hb
      refine (Tryd.slices_Clone_int b off (z :: X).length c (z :: X) w (Nat.le_refl _) (by omega) hc).mono fun e w' ⟨v', he, hown, _, hb⟩ => ?_
      rw [List.take_length] at hown
      obtain ⟨a2, c2, rfl, hm⟩ := own_slice hown hb
      exact ⟨a2, c2, he, hm⟩
set_option maxRecDepth 100000 in
set_option maxHeartbeats 400000 in
theorem wo02 (f : Nat → Bool) (k : Nat) (hk : k < 128) (w : World) :
  Calls Tryd.prog 34 #[.agg #[.int .u64 (loW f), .int .u64 (hiW f)], .int .i64 ((k : Int))] w fun e w' => e = .returned (.agg #[.int .u64 (loW (woF f k)), .int .u64 (hiW (woF f k))]) ∧ Below w.heap.size w w' := by
 have hbs := Below.refl (B := w.heap.size) w
 have hM := Mem.start w
 refine Calls.of_ends (vs := [.agg #[.int .u64 (loW f), .int .u64 (hiW f)], .int .i64 ((k : Int))]) Tryd.func34 rfl Tryd.ntmps34 rfl ?_
 intro a hA
 replace hA : St 17 [(0, _), (1, _)] a := hA
 refine Ends.seq (Ends.region ?_)
 refine S.box hA hM rfl rfl ?_; clear hA hM a; intro b1 w1 hb2 hM a hA
 replace hM : Mem _ _ [pt b1 #[.int .u64 (loW f), .int .u64 (hiW f)] 61] _ := hM
 refine S.alloc hA hM info61 rfl rfl ?_; clear hA hM a; intro b3 w2 hb4 hM a hA
 replace hM : Mem _ _ [pt b3 #[.int .u64 0, .int .u64 0] 61, pt b1 #[.int .u64 (loW f), .int .u64 (hiW f)] 61] _ := hM
 refine S.done ?_
 refine Ends.seq (Ends.seq (Ends.region ?_))
 refine S.val hA (R.move rfl) rfl ?_; clear hA a; intro a hA
 refine S.call hA (R.callF Tryd.func49 rfl rfl rfl) rfl (within02 ((k : Int)) _) ?_; clear hA a
 rintro e w3 ⟨rfl, hb⟩
 replace hM := hM.callB hb; clear hb
 refine ⟨.bool (decide (0 ≤ ((k : Int)) ∧ ((k : Int)) < 128)), rfl, fun a hA => ?_⟩
 refine S.done ?_
 refine Ends.ite hA rfl (fun hc5 => ?_) (fun hc5 => ?_)
 ·
  by_cases hs6 : k < 64
  ·
   obtain ⟨m, hm, hmi⟩ : ∃ m : Nat, m < 64 ∧ k = m := ⟨k, by omega, by omega⟩
   have e9 : ((k : Int) % 64).toNat = m := by omega
   refine Ends.drawn (Mem w nof [pt b3 #[.int .u64 0, .int .u64 0] 61, pt b1 #[.int .u64 (loW f), .int .u64 (hiW f)] 61]) (.cons (0, true) (.cons (1, true) (.cons (2, true) (.cons (3, true) (.cons (4, true) (.cons (5, true) (.cons (6, true) (.cons (7, true) (.cons (8, true) (.cons (9, false) .nil)))))))))) 9 mixed (by kernel_rfl) (by kernel_rfl) (by kernel_rfl) hM.drew ?_
   replace hM := hM.drew
   refine D.valF hA rfl (fun _ => R.move rfl) rfl ?_; clear hA a; intro a hA
   refine D.valF hA rfl (fun _ => R.quoI rfl rfl rfl (by omega)) rfl ?_; clear hA a; intro a hA
   refine D.valF hA rfl (fun _ => R.indexAddrA (q := 0) ar61 rfl rfl (by omega) (by omega)) rfl ?_; clear hA a; intro a hA
   refine D.val hA rfl (by kernel_rfl) (fun _ hM => R.load sz24 rfl (hM.cell (k := 1) rfl rfl)) rfl ?_; clear hA a; intro a hA
   refine D.valF hA rfl (fun _ => R.move rfl) rfl ?_; clear hA a; intro a hA
   refine D.valF hA rfl (fun _ => R.remI rfl rfl rfl (by omega)) rfl ?_; clear hA a; intro a hA
   refine D.valF hA rfl (fun _ => R.shl rfl rfl (by omega)) rfl ?_; clear hA a; intro a hA
   refine D.valF hA rfl (fun _ => R.bits (by simp) rfl rfl) rfl ?_; clear hA a; intro a hA
   refine D.valF hA rfl (fun _ => R.indexAddrA (q := 0) ar61 rfl rfl (by omega) (by omega)) rfl ?_; clear hA a; intro a hA
   refine D.store (k := 1) hA hM rfl sz24 rfl rfl rfl rfl rfl ?_; clear hM
   intro w4 hM; refine ⟨fun _ hne => absurd rfl hne, ?_⟩
   replace hM : Mem _ _ [pt b3 #[.int .u64 0, .int .u64 0] 61, pt b1 #[.int .u64 (bits .andNot .u64 (loW f) (IntKind.u64.wrap (1 * 2 ^ min (((k : Int)) % 64).toNat (IntKind.u64).bits))), .int .u64 (hiW f)] 61] _ := hM
   refine D.done ?_
   obtain ⟨g1, g2⟩ := sub_lo (f := f) hm
   have hwk : woF f m = woF f k := by rw [hmi]
   rw [hwk] at g1 g2
   rw [e9, g1, ← g2] at hM
   replace hM : Mem _ _ [pt b3 #[.int .u64 0, .int .u64 0] 61, pt b1 #[.int .u64 (loW (woF f k)), .int .u64 (hiW (woF f k))] 61] _ := hM
   replace hA : St 17 [(2, _), (4, _)] a := hA.sub ((.cons rfl (.cons rfl .nil)))
   refine Ends.seq (Ends.region ?_)
   refine S.val hA (R.loadA sz61 rfl (hM.range (k := 1) rfl) rfl) rfl ?_; clear hA a; intro a hA
   refine S.storeA (k := 0) hA hM sz61 rfl rfl rfl rfl rfl rfl ?_; clear hM
   intro w5 hM
   replace hM : Mem _ _ [pt b3 #[.int .u64 (loW (woF f k)), .int .u64 (hiW (woF f k))] 61, pt b1 #[.int .u64 (loW (woF f k)), .int .u64 (hiW (woF f k))] 61] _ := hM
   refine S.done ?_
   refine Ends.retC (k := 0) Tryd.func34 Tryd.results34 hA hM rfl rfl sz61 rfl ?_
   exact ⟨rfl, Mem.trans0 hbs hM.nilL⟩
  ·
   obtain ⟨m, hm, hmi⟩ : ∃ m : Nat, m < 64 ∧ k = 64 + m := ⟨k - 64, by omega, by omega⟩
   have e9 : ((k : Int) % 64).toNat = m := by omega
   refine Ends.drawn (Mem w nof [pt b3 #[.int .u64 0, .int .u64 0] 61, pt b1 #[.int .u64 (loW f), .int .u64 (hiW f)] 61]) (.cons (0, true) (.cons (1, true) (.cons (2, true) (.cons (3, true) (.cons (4, true) (.cons (5, true) (.cons (6, true) (.cons (7, true) (.cons (8, true) (.cons (9, false) .nil)))))))))) 9 mixed (by kernel_rfl) (by kernel_rfl) (by kernel_rfl) hM.drew ?_
   replace hM := hM.drew
   refine D.valF hA rfl (fun _ => R.move rfl) rfl ?_; clear hA a; intro a hA
   refine D.valF hA rfl (fun _ => R.quoI rfl rfl rfl (by omega)) rfl ?_; clear hA a; intro a hA
   refine D.valF hA rfl (fun _ => R.indexAddrA (q := 1) ar61 rfl rfl (by omega) (by omega)) rfl ?_; clear hA a; intro a hA
   refine D.val hA rfl (by kernel_rfl) (fun _ hM => R.load sz24 rfl (hM.cell (k := 1) rfl rfl)) rfl ?_; clear hA a; intro a hA
   refine D.valF hA rfl (fun _ => R.move rfl) rfl ?_; clear hA a; intro a hA
   refine D.valF hA rfl (fun _ => R.remI rfl rfl rfl (by omega)) rfl ?_; clear hA a; intro a hA
   refine D.valF hA rfl (fun _ => R.shl rfl rfl (by omega)) rfl ?_; clear hA a; intro a hA
   refine D.valF hA rfl (fun _ => R.bits (by simp) rfl rfl) rfl ?_; clear hA a; intro a hA
   refine D.valF hA rfl (fun _ => R.indexAddrA (q := 1) ar61 rfl rfl (by omega) (by omega)) rfl ?_; clear hA a; intro a hA
   refine D.store (k := 1) hA hM rfl sz24 rfl rfl rfl rfl rfl ?_; clear hM
   intro w6 hM; refine ⟨fun _ hne => absurd rfl hne, ?_⟩
   replace hM : Mem _ _ [pt b3 #[.int .u64 0, .int .u64 0] 61, pt b1 #[.int .u64 (loW f), .int .u64 (bits .andNot .u64 (hiW f) (IntKind.u64.wrap (1 * 2 ^ min (((k : Int)) % 64).toNat (IntKind.u64).bits)))] 61] _ := hM
   refine D.done ?_
   obtain ⟨g1, g2⟩ := sub_hi (f := f) hm
   have hwk : woF f (64 + m) = woF f k := by rw [hmi]
   rw [hwk] at g1 g2
   rw [e9, g1, ← g2] at hM
   replace hM : Mem _ _ [pt b3 #[.int .u64 0, .int .u64 0] 61, pt b1 #[.int .u64 (loW (woF f k)), .int .u64 (hiW (woF f k))] 61] _ := hM
   replace hA : St 17 [(2, _), (4, _)] a := hA.sub ((.cons rfl (.cons rfl .nil)))
   refine Ends.seq (Ends.region ?_)
   refine S.val hA (R.loadA sz61 rfl (hM.range (k := 1) rfl) rfl) rfl ?_; clear hA a; intro a hA
   refine S.storeA (k := 0) hA hM sz61 rfl rfl rfl rfl rfl rfl ?_; clear hM
   intro w7 hM
   replace hM : Mem _ _ [pt b3 #[.int .u64 (loW (woF f k)), .int .u64 (hiW (woF f k))] 61, pt b1 #[.int .u64 (loW (woF f k)), .int .u64 (hiW (woF f k))] 61] _ := hM
   refine S.done ?_
   refine Ends.retC (k := 0) Tryd.func34 Tryd.results34 hA hM rfl rfl sz61 rfl ?_
   exact ⟨rfl, Mem.trans0 hbs hM.nilL⟩
 · exact absurd (by omega) hc5
set_option maxRecDepth 100000 in
set_option maxHeartbeats 400000 in
theorem seq02P (f : Nat → Bool) (bx : Nat) (G : Nat → Prop) (hGx : G bx) (hGt : G 0) (w : World) (hq : w.heap[bx]? = some (.cells #[.int .u64 (loW f), .int .u64 (hiW f)] 61 (0, 0))) (htab : Lib.TabIs Tryd.prog w "math/bits.deBruijn64tab" .u8 debT)
  (l : Nat) (J Jx : List Int → World → Prop) (wi : World) (hbW : Below w.heap.size w wi) (hJ : AbidesFrom wi.heap.size J) (hJx : AbidesFrom wi.heap.size Jx)
  (hY : ∀ pre (x : Int) W1, (∃ m : Nat, x = (m : Int) ∧ m < 128 ∧ f m = true) → J pre W1 → pre.length < 128 → YieldAt Fence.wide 7 Tryd.prog l #[.int .i64 x] W1 fun e W' => (e = .returned (.bool true) ∧ J (pre ++ [x]) W' ∧ KpB G W1 W') ∨ (e = .returned (.bool false) ∧ Jx (pre ++ [x]) W'))
  (h0 : J [] wi) : CallsIn Fence.wide 8 Tryd.prog 42 (#[.func (.yield l) #[] #[]] ++ #[.pointer (some ⟨bx, 0, none⟩)]) wi
   fun e W' => (∃ v, e = .returned v) ∧ ((∃ xs, xs = eL f 0 ∧ J xs W') ∨ (∃ pre, (pre = (eL f 0).take pre.length ∧ pre.length ≤ (eL f 0).length) ∧ Jx pre W')) := by
 have hqb := (hbW.block bx (Array.getElem?_eq_some_iff.1 hq).1).trans hq
 have ht9 := tab_below htab hbW
 have hM := Mem.start wi
 refine CallsIn.of_endsW (vs := [.func (.yield l) #[] #[], .pointer (some ⟨bx, 0, none⟩)]) Tryd.func42 rfl Tryd.ntmps42 rfl ?_
 intro a hA
 replace hA : St 15 [(0, _), (1, _)] a := hA
 refine EndsW.seq ?_
 refine EndsW.region ?_
 refine S.val hA (R.loadA sz61 rfl (hM.oldRange hqb) rfl) rfl ?_; clear hA a; intro a hA
 refine S.call hA (R.callF Tryd.func43 rfl rfl rfl) rfl (first02 f _ (tab_below ht9 hM.nilL.below)) ?_; clear hA a
 rintro e w1 ⟨rfl, hb⟩
 replace hM := hM.callB hb; clear hb
 refine ⟨.int .i64 (nx f 0), rfl, fun a hA => ?_⟩
 refine S.val hA (R.assign rfl) rfl ?_; clear hA a; intro a hA
 refine S.doneW ?_
 refine EndsW.block ?_
 refine EndsW.loop (σ := Nat) (fun b (a : Act) (wv : World) => St 15 [(0, .func (.yield l) #[] #[]), (1, .pointer (some ⟨bx, 0, none⟩)), (3, .int .i64 (nx f b))] a ∧ wv.heap[bx]? = some (.cells #[.int .u64 (loW f), .int .u64 (hiW f)] 61 (0, 0)) ∧ Lib.TabIs Tryd.prog wv "math/bits.deBruijn64tab" .u8 debT ∧ J ((eL f 0).take (cnt f b)) wv ∧ b ≤ 128) (fun b => 128 - b) 0 ⟨hA.sub ((.cons rfl (.cons rfl (.cons rfl .nil)))), hM.keepB hqb, (tab_below ht9 hM.nilL.below), hJ _ _ _ none h0 (grown_of hM.nilL.below) (fun r e => by cases e), by omega⟩ ?_
 clear hA hM a hqb ht9 h0
 rintro b a w2 ⟨hA, hqb, ht9, h0, hb9⟩ J9 hNext
 have hM := Mem.start w2
 refine EndsW.seq ?_
 refine EndsW.seq ?_
 refine EndsW.region ?_
 refine S.val hA (R.move rfl) rfl ?_; clear hA a; intro a hA
 refine S.val hA (R.geq rfl rfl) rfl ?_; clear hA a; intro a hA
 refine S.doneW ?_
 refine EndsW.ite hA rfl (fun hc1 => ?_) (fun hc1 => ?_)
 ·
  obtain ⟨mm, hmm⟩ : ∃ mm : Nat, nx f b = (mm : Int) := ⟨(nx f b).toNat, by omega⟩
  have hcm := eL_cons hmm
  have htk := eL_take hb9 hmm
  have hmm2 : mm < 128 := hcm.2.2.1
  have hbm := hcm.2.1
  have hcl := cnt_le f b
  rw [hmm] at hA
  refine EndsW.skip ?_
  refine EndsW.seq ?_
  refine EndsW.block ?_
  refine EndsW.seq ?_
  have hlt := (List.length_take_le (cnt f b) (eL f 0))
  have h1 := hJ _ _ _ none h0 (grown_of hM.nilL.below) (fun r e => by cases e)
  have hqb1 := hM.keepB hqb
  have ht1 := (tab_below ht9 hM.nilL.below)
  refine EndsW.regionI ?_
  refine SI.val hA (R.move rfl) rfl ?_; clear hA a; intro a hA
  refine SI.val hA (R.move rfl) rfl ?_; clear hA a; intro a hA
  refine SI.yield hA rfl rfl rfl (hY _ (mm : Int) _ ⟨mm, rfl, hmm2, hcm.2.2.2.1⟩ h1 (by rw [List.length_take]; omega)) ?_; clear hA hM a h0 hqb ht9
  rintro e w3 (⟨rfl, h0, hK⟩ | ⟨rfl, hx0⟩)
  ·
   refine ⟨.bool true, rfl, fun a hA => ?_⟩
   refine SI.val hA (R.not rfl) rfl ?_; clear hA a; intro a hA
   refine SI.done ?_
   rw [htk.1] at h0
   have hqb := (hK bx hGx).trans hqb1
   have ht9 := tab_at ht1 (g := 0) (by kernel_rfl) (hK _ hGt)
   have hM := Mem.start w3
   replace hA : St 15 [(0, .func (.yield l) #[] #[]), (1, .pointer (some ⟨bx, 0, none⟩)), (3, .int .i64 ((mm : Int))), (14, .bool false)] a := hA.sub (.cons rfl (.cons rfl (.cons rfl (.cons rfl .nil))))
   refine EndsW.condF hA rfl ?_
   refine EndsW.skip ?_
   refine EndsW.inBlock ?_
   refine EndsW.region ?_
   refine S.val hA (R.loadA sz61 rfl (hM.oldRange hqb) rfl) rfl ?_; clear hA a; intro a hA
   refine S.val hA (R.move rfl) rfl ?_; clear hA a; intro a hA
   refine S.call hA (R.callF Tryd.func44 rfl rfl rfl) rfl (next_at f mm hmm2 _ (tab_below ht9 hM.nilL.below)) ?_; clear hA a
   rintro e w4 ⟨rfl, hb⟩
   replace hM := hM.callB hb; clear hb
   refine ⟨.int .i64 (nx f (mm + 1)), rfl, fun a hA => ?_⟩
   refine S.val hA (R.assign rfl) rfl ?_; clear hA a; intro a hA
   refine S.doneW ?_
   replace hA : St 15 [(0, _), (1, _), (3, _)] a := hA.sub ((.cons rfl (.cons rfl (.cons rfl .nil))))
   exact hNext (mm + 1) _ _ (by show 128 - (mm + 1) < 128 - b; omega) ⟨hA.sub ((.cons rfl (.cons rfl (.cons rfl .nil)))), hM.keepB hqb, (tab_below ht9 hM.nilL.below), hJ _ _ _ none h0 (grown_of hM.nilL.below) (fun r e => by cases e), by omega⟩
  ·
   refine ⟨.bool false, rfl, fun a hA => ?_⟩
   refine SI.val hA (R.not rfl) rfl ?_; clear hA a; intro a hA
   refine SI.done ?_
   replace hA : St 15 [(0, .func (.yield l) #[] #[]), (1, .pointer (some ⟨bx, 0, none⟩)), (3, .int .i64 ((mm : Int))), (14, .bool true)] a := hA.sub (.cons rfl (.cons rfl (.cons rfl (.cons rfl .nil))))
   refine EndsW.condT hA rfl ?_
   refine EndsW.retQ ?_
   refine leave0 hA.defers (results_none Tryd.results42 _ _ _) ?_
   refine ⟨⟨_, rfl⟩, .inr ⟨_, ?_, hx0⟩⟩
   rw [htk.1]
   refine ⟨?_, ?_⟩
   ·
    rw [List.length_take]; rcases Nat.le_total (cnt f (mm + 1)) (eL f 0).length with g | g
    · rw [Nat.min_eq_left g]
    · rw [Nat.min_eq_right g, List.take_length, List.take_of_length_le g]
   · rw [List.length_take]; exact Nat.min_le_right _ _
 ·
  have hn1 : nx f b = -1 := by have := nx_bd f b; omega
  have hend := eL_end hb9 hn1
  rw [hend.1] at h0
  refine EndsW.exit rfl ?_
  replace hA : St 15 [] a := hA.sub (.nil)
  refine EndsW.endQ ?_
  refine leave0 hA.defers (results_none Tryd.results42 _ _ _) ?_
  exact ⟨⟨_, rfl⟩, .inl ⟨_, rfl, hJ _ _ _ none h0 (grown_of hM.nilL.below) (fun r e => by cases e)⟩⟩
theorem seq02M (f : Nat → Bool) (bx : Nat) (G : Nat → Prop) (hGx : G bx) (hGt : G 0) (w : World) (hq : w.heap[bx]? = some (.cells #[.int .u64 (loW f), .int .u64 (hiW f)] 61 (0, 0))) (htab : Lib.TabIs Tryd.prog w "math/bits.deBruijn64tab" .u8 debT) :
    SeqStopsK Fence.wide 8 Tryd.prog 42 #[.pointer (some ⟨bx, 0, none⟩)] (fun x : Mb f => #[.int .i64 x.1]) (KpB G) (fun xs => vs xs = eL f 0) (fun pre => vs pre = (eL f 0).take (vs pre).length) 128 w := by
  intro l J Jx wi hbW hJ hJx hY h0
  refine (seq02P f bx G hGx hGt w hq htab l (fun p W => ∃ q : List (Mb f), vs q = p ∧ J q W) (fun p W => ∃ q : List (Mb f), vs q = p ∧ Jx q W) wi hbW (fun s A B row ⟨q, hq, h⟩ hg hr => ⟨q, hq, hJ q A B row h hg hr⟩) (fun s A B row ⟨q, hq, h⟩ hg hr => ⟨q, hq, hJx q A B row h hg hr⟩) ?_ ⟨[], rfl, h0⟩).mono ?_
  · rintro pre x W1 hx ⟨q, hq, hJq⟩ hl
    obtain ⟨fn, tmps, assign, body, hy, hR⟩ := hY q ⟨x, hx⟩ W1 hJq (by rw [← hq] at hl; simpa [vs] using hl)
    refine ⟨fn, tmps, assign, body, hy, RoundIn.mono hR fun e W' he => ?_⟩
    rcases he with ⟨h1, h2, h3⟩ | ⟨h1, h2⟩
    · exact .inl ⟨h1, ⟨_, by rw [vs_app, hq], h2⟩, h3⟩
    · exact .inr ⟨h1, ⟨_, by rw [vs_app, hq], h2⟩⟩
  · rintro e W' ⟨h1, ⟨xs, hxs, q, hq, hJq⟩ | ⟨pre, ⟨hp, -⟩, q, hq, hJq⟩⟩
    · exact ⟨h1, .inl ⟨q, hq.trans hxs, hJq⟩⟩
    · exact ⟨h1, .inr ⟨q, (by show vs q = _; rw [hq]; exact hp), hJq⟩⟩
set_option maxRecDepth 100000 in
set_option maxHeartbeats 400000 in
theorem right21 (o : HOp) (w : World) :
  Calls Tryd.prog 20 #[.agg #[.int .i64 o.k, .int .i64 o.i, .int .i64 o.f, .int .i64 o.t]] w fun e w' => e = .returned (.bool (rightP o)) ∧ Below w.heap.size w w' := by
 have hbs := Below.refl (B := w.heap.size) w
 have hM := Mem.start w
 refine Calls.of_ends (vs := [.agg #[.int .i64 o.k, .int .i64 o.i, .int .i64 o.f, .int .i64 o.t]]) Tryd.func20 rfl Tryd.ntmps20 rfl ?_
 intro a hA
 replace hA : St 24 [(0, _)] a := hA
 refine Ends.seq (Ends.region ?_)
 refine S.box hA hM rfl rfl ?_; clear hA hM a; intro b1 w1 hb2 hM a hA
 replace hM : Mem _ _ [pt b1 #[.int .i64 o.k, .int .i64 o.i, .int .i64 o.f, .int .i64 o.t] 26] _ := hM
 refine S.val hA (R.assign rfl) rfl ?_; clear hA a; intro a hA
 refine S.done ?_
 refine Ends.seq (Ends.seq (Ends.region ?_))
 refine S.val hA (R.fieldAddr (q := 0) fi26_0 rfl rfl rfl) rfl ?_; clear hA a; intro a hA
 refine S.val hA (R.load sz3 rfl (hM.cell (k := 0) rfl rfl)) rfl ?_; clear hA a; intro a hA
 refine S.done ?_
 refine Ends.block (Ends.seq (Ends.region ?_))
 refine S.val hA (R.eql rfl rfl) rfl ?_; clear hA a; intro a hA
 refine S.val hA (R.assign rfl) rfl ?_; clear hA a; intro a hA
 refine S.done ?_
 replace hA : St 24 [(1, _), (4, _), (5, _)] a := hA.sub ((.cons rfl (.cons rfl (.cons rfl .nil))))
 refine Ends.ite hA rfl (fun hc3 => ?_) (fun hc3 => ?_)
 ·
  refine Ends.seq ?_
  refine Ends.cut (fun (a : Act) (wv : World) => St 24 [(2, .bool (decide ((o.i ≠ (-1) ∧ o.f ≤ o.t))))] a ∧ Mem w nof [pt b1 #[.int .i64 o.k, .int .i64 o.i, .int .i64 o.f, .int .i64 o.t] 26] wv) ?_ (fun k2 hJ => ?_)
  ·
   clear hA hM a; rintro a w2 ⟨hA, hM⟩
   refine Ends.ret1 Tryd.func20 Tryd.results20 hA rfl ?_
   refine ⟨congrArg (fun b => Ending.returned (.bool b)) ?_, Mem.trans0 hbs hM.nilL⟩
   unfold rightP
   first | (rw [if_pos (by assumption)]; simp; done) | (rw [if_neg (by assumption), if_pos (by assumption)]; done) | (rw [if_neg (by assumption), if_neg (by assumption)]; done) | (rw [if_pos (by assumption)]; (try rw [← Bool.decide_and]); exact decide_eq_decide.2 (by omega)) | (simp_all; done)
  ·
   refine Ends.region ?_
   refine S.val hA (R.fieldAddr (q := 1) fi26_1 rfl rfl rfl) rfl ?_; clear hA a; intro a hA
   refine S.val hA (R.load sz3 rfl (hM.cell (k := 0) rfl rfl)) rfl ?_; clear hA a; intro a hA
   refine S.val hA (R.neq rfl rfl) rfl ?_; clear hA a; intro a hA
   refine S.val hA (R.move rfl) rfl ?_; clear hA a; intro a hA
   refine hA.split (d := 10) rfl ?_ ?_
   ·
    clear hA; intro hg4 hA
    refine S.valg (dj := 10) hA (by kernel_rfl) rfl (R.fieldAddr (q := 3) fi26_3 rfl rfl rfl) rfl ?_; clear hA a; intro a hA
    refine S.valg (dj := 10) hA (by kernel_rfl) rfl (R.load sz3 rfl (hM.cell (k := 0) rfl rfl)) rfl ?_; clear hA a; intro a hA
    refine S.valg (dj := 10) hA (by kernel_rfl) rfl (R.fieldAddr (q := 2) fi26_2 rfl rfl rfl) rfl ?_; clear hA a; intro a hA
    refine S.valg (dj := 10) hA (by kernel_rfl) rfl (R.load sz3 rfl (hM.cell (k := 0) rfl rfl)) rfl ?_; clear hA a; intro a hA
    refine S.valg (dj := 10) hA (by kernel_rfl) rfl (R.geq rfl rfl) rfl ?_; clear hA a; intro a hA
    refine S.val hA (R.pickT rfl rfl) rfl ?_; clear hA a; intro a hA
    refine S.val hA (R.assign rfl) rfl ?_; clear hA a; intro a hA
    refine S.done ?_
    replace hA : St 24 [(2, _)] a := hA.sub ((.cons rfl .nil))
    exact hJ _ _ ⟨hA.sub (.cons (by first | rfl | exact congrArg (fun b => some (Value.bool b)) (by first | exact decide_eq_decide.2 (by omega) | exact or_bool (by omega) | exact and_bool (by omega) | (simp; done) | (simp [hg4]; done) | (have h80 := hg4; (try simp at h80); simp [h80]; done) | exact (decide_eq_false (fun h9 => hg4 h9.1)).symm)) .nil), hM⟩
   ·
    clear hA; intro hg4 hA
    refine S.no (dj := 10) hA (by kernel_rfl) rfl rfl rfl ?_; clear hA a; intro a hA
    refine S.no (dj := 10) hA (by kernel_rfl) rfl rfl rfl ?_; clear hA a; intro a hA
    refine S.no (dj := 10) hA (by kernel_rfl) rfl rfl rfl ?_; clear hA a; intro a hA
    refine S.no (dj := 10) hA (by kernel_rfl) rfl rfl rfl ?_; clear hA a; intro a hA
    refine S.no (dj := 10) hA (by kernel_rfl) rfl rfl rfl ?_; clear hA a; intro a hA
    refine S.val hA (R.pickF rfl rfl) rfl ?_; clear hA a; intro a hA
    refine S.val hA (R.assign rfl) rfl ?_; clear hA a; intro a hA
    refine S.done ?_
    replace hA : St 24 [(2, _)] a := hA.sub ((.cons rfl .nil))
    exact hJ _ _ ⟨hA.sub (.cons (by first | rfl | exact congrArg (fun b => some (Value.bool b)) (by first | exact decide_eq_decide.2 (by omega) | exact or_bool (by omega) | exact and_bool (by omega) | (simp; done) | (simp [hg4]; done) | (have h80 := hg4; (try simp at h80); simp [h80]; done) | exact (decide_eq_false (fun h9 => hg4 h9.1)).symm)) .nil), hM⟩
 ·
  refine Ends.seq (Ends.region ?_)
  refine S.val hA (R.eql rfl rfl) rfl ?_; clear hA a; intro a hA
  refine S.val hA (R.assign rfl) rfl ?_; clear hA a; intro a hA
  refine S.done ?_
  refine Ends.ite hA rfl (fun hc5 => ?_) (fun hc5 => ?_)
  ·
   refine Ends.seq (Ends.region ?_)
   refine S.val hA (R.fieldAddr (q := 3) fi26_3 rfl rfl rfl) rfl ?_; clear hA a; intro a hA
   refine S.val hA (R.load sz3 rfl (hM.cell (k := 0) rfl rfl)) rfl ?_; clear hA a; intro a hA
   refine S.val hA (R.fieldAddr (q := 2) fi26_2 rfl rfl rfl) rfl ?_; clear hA a; intro a hA
   refine S.val hA (R.load sz3 rfl (hM.cell (k := 0) rfl rfl)) rfl ?_; clear hA a; intro a hA
   refine S.val hA (R.geq rfl rfl) rfl ?_; clear hA a; intro a hA
   refine S.val hA (R.assign rfl) rfl ?_; clear hA a; intro a hA
   refine S.done ?_
   replace hA : St 24 [(2, _)] a := hA.sub ((.cons rfl .nil))
   refine Ends.ret1 Tryd.func20 Tryd.results20 hA rfl ?_
   refine ⟨congrArg (fun b => Ending.returned (.bool b)) ?_, Mem.trans0 hbs hM.nilL⟩
   unfold rightP
   first | (rw [if_pos (by assumption)]; simp; done) | (rw [if_neg (by assumption), if_pos (by assumption)]; done) | (rw [if_neg (by assumption), if_neg (by assumption)]; done) | (rw [if_pos (by assumption)]; (try rw [← Bool.decide_and]); exact decide_eq_decide.2 (by omega)) | (simp_all; done)
  ·
   refine Ends.skip (Ends.inBlock (Ends.seq (Ends.region ?_)))
   refine S.val hA (R.assign rfl) rfl ?_; clear hA a; intro a hA
   refine S.done ?_
   replace hA : St 24 [(2, _)] a := hA.sub ((.cons rfl .nil))
   refine Ends.ret1 Tryd.func20 Tryd.results20 hA rfl ?_
   refine ⟨congrArg (fun b => Ending.returned (.bool b)) ?_, Mem.trans0 hbs hM.nilL⟩
   unfold rightP
   first | (rw [if_pos (by assumption)]; simp; done) | (rw [if_neg (by assumption), if_pos (by assumption)]; done) | (rw [if_neg (by assumption), if_neg (by assumption)]; done) | (rw [if_pos (by assumption)]; (try rw [← Bool.decide_and]); exact decide_eq_decide.2 (by omega)) | (simp_all; done)
set_option maxRecDepth 100000 in
set_option maxHeartbeats 400000 in
theorem undo21 (q p bs : Nat) (ba : Option Addr) (bn bc : Nat) (v0 v1 v2 v3 : Value) (w : World) (hM0 : Mem w (feet [pt q #[.slice ba bn bc] 22, pt p #[.pointer (some ⟨bs, 0, none⟩)] 55, pt bs #[v0, v1, v2, v3] 58]) [pt q #[.slice ba bn bc] 22, pt p #[.pointer (some ⟨bs, 0, none⟩)] 55, pt bs #[v0, v1, v2, v3] 58] w) :
    Calls Tryd.prog 48 #[.pointer (some ⟨q, 0, none⟩), .pointer (some ⟨p, 0, none⟩)] w fun e w' => e = .returned (.tuple #[]) ∧ Mem w (feet [pt q #[.slice ba bn bc] 22, pt p #[.pointer (some ⟨bs, 0, none⟩)] 55, pt bs #[v0, v1, v2, v3] 58]) [pt q #[.slice ba bn bc] 22, pt p #[.pointer (some ⟨bs, 0, none⟩)] 55, pt bs #[v0, .slice ba bn bc, v2, v3] 58] w' := by
  have hbs := Below.refl (B := w.heap.size) w
  have hM := hM0
  refine Calls.of_ends (vs := [.pointer (some ⟨q, 0, none⟩), .pointer (some ⟨p, 0, none⟩)]) Tryd.func48 rfl Tryd.ntmps48 rfl ?_
  intro a hA
  replace hA : St 6 [(0, _), (1, _)] a := hA
  refine Ends.region ?_
  refine S.val hA (R.load sz55 rfl (hM.cell (k := 1) rfl rfl)) rfl ?_; clear hA a; intro a hA
  refine S.val hA (R.load sz22 rfl (hM.cell (k := 0) rfl rfl)) rfl ?_; clear hA a; intro a hA
  refine S.val hA (R.nilCheck rfl) rfl ?_; clear hA a; intro a hA
  refine S.val hA (R.fieldAddr (q := 1) fi58_1 rfl rfl rfl) rfl ?_; clear hA a; intro a hA
  refine S.store (k := 2) hA hM sz22 rfl rfl rfl rfl rfl ?_; clear hM
  intro w1 hM
  replace hM : Mem _ _ [pt q #[.slice ba bn bc] 22, pt p #[.pointer (some ⟨bs, 0, none⟩)] 55, pt bs #[v0, .slice ba bn bc, v2, v3] 58] _ := hM
  refine S.done ?_
  replace hA : St 6 [] a := hA.sub (.nil)
  refine Ends.end0 Tryd.func48 Tryd.results48 hA ?_
  exact ⟨rfl, hM⟩
set_option maxRecDepth 100000 in
set_option maxHeartbeats 400000 in
theorem do21 (o : HOp) (bs : Nat) (ba : Option Addr) (X : List Int) (bc : Nat) (v0 v2 v3 : Value) (K : Ck) (hK : ∀ w, K.holds w → IntSl w (.slice ba X.length bc) X) (hX : X.length ≤ 900) (w : World) (hM0 : Mem w (feet [pt bs #[v0, .slice ba X.length bc, v2, v3] 58, K]) [pt bs #[v0, .slice ba X.length bc, v2, v3] 58, K] w) :
  Calls Tryd.prog 33 #[.pointer (some ⟨bs, 0, none⟩), .agg #[.int .i64 o.k, .int .i64 o.i, .int .i64 o.f, .int .i64 o.t]] w fun e w' => (∃ Y a c q p, doP o X = some Y ∧ e = .returned (.tuple #[.func (.func 48) #[] #[.pointer (some ⟨q, 0, none⟩), .pointer (some ⟨p, 0, none⟩)], .bool true]) ∧
   Mem w (feet [pt bs #[v0, .slice ba X.length bc, v2, v3] 58, K]) [pt bs #[v0, .slice a Y.length c, v2, v3] 58, rd a c Y, pt q #[.slice ba X.length bc] 22, pt p #[.pointer (some ⟨bs, 0, none⟩)] 55, K] w') ∨
   (doP o X = none ∧ e = .returned (.tuple #[.nilFunc, .bool false]) ∧ Mem w (feet [pt bs #[v0, .slice ba X.length bc, v2, v3] 58, K]) [pt bs #[v0, .slice ba X.length bc, v2, v3] 58, K] w') := by
 have hbs := Below.refl (B := w.heap.size) w
 have hM := hM0
 refine Calls.of_ends (vs := [.pointer (some ⟨bs, 0, none⟩), .agg #[.int .i64 o.k, .int .i64 o.i, .int .i64 o.f, .int .i64 o.t]]) Tryd.func33 rfl Tryd.ntmps33 rfl ?_
 intro a hA
 replace hA : St 48 [(0, _), (1, _)] a := hA
 refine Ends.seq (Ends.region ?_)
 refine S.box hA hM rfl rfl ?_; clear hA hM a; intro b1 w1 hb2 hM a hA
 replace hM : Mem _ _ [pt b1 #[.pointer (some ⟨bs, 0, none⟩)] 55, pt bs #[v0, .slice ba X.length bc, v2, v3] 58, K] _ := hM
 refine S.box hA hM rfl rfl ?_; clear hA hM a; intro b3 w2 hb4 hM a hA
 replace hM : Mem _ _ [pt b3 #[.int .i64 o.k, .int .i64 o.i, .int .i64 o.f, .int .i64 o.t] 26, pt b1 #[.pointer (some ⟨bs, 0, none⟩)] 55, pt bs #[v0, .slice ba X.length bc, v2, v3] 58, K] _ := hM
 refine S.val hA (R.assign rfl) rfl ?_; clear hA a; intro a hA
 refine S.val hA (R.assign rfl) rfl ?_; clear hA a; intro a hA
 refine S.done ?_
 replace hA : St 48 [(2, _), (3, _)] a := hA.sub ((.cons rfl (.cons rfl .nil)))
 refine Ends.seq (Ends.region ?_)
 refine S.val hA (R.load sz55 rfl (hM.cell (k := 1) rfl rfl)) rfl ?_; clear hA a; intro a hA
 refine S.val hA (R.nilCheck rfl) rfl ?_; clear hA a; intro a hA
 refine S.val hA (R.fieldAddr (q := 1) fi58_1 rfl rfl rfl) rfl ?_; clear hA a; intro a hA
 refine S.val hA (R.load sz22 rfl (hM.cell (k := 2) rfl rfl)) rfl ?_; clear hA a; intro a hA
 refine S.alloc hA hM info22 rfl rfl ?_; clear hA hM a; intro b5 w3 hb6 hM a hA
 replace hM : Mem _ _ [pt b5 #[.slice none 0 0] 22, pt b3 #[.int .i64 o.k, .int .i64 o.i, .int .i64 o.f, .int .i64 o.t] 26, pt b1 #[.pointer (some ⟨bs, 0, none⟩)] 55, pt bs #[v0, .slice ba X.length bc, v2, v3] 58, K] _ := hM
 refine S.store (k := 0) hA hM sz22 rfl rfl rfl rfl rfl ?_; clear hM
 intro w4 hM
 replace hM : Mem _ _ [pt b5 #[.slice ba X.length bc] 22, pt b3 #[.int .i64 o.k, .int .i64 o.i, .int .i64 o.f, .int .i64 o.t] 26, pt b1 #[.pointer (some ⟨bs, 0, none⟩)] 55, pt bs #[v0, .slice ba X.length bc, v2, v3] 58, K] _ := hM
 refine S.done ?_
 replace hA : St 48 [(2, _), (3, _), (6, _)] a := hA.sub ((.cons rfl (.cons rfl (.cons rfl .nil))))
 refine Ends.seq (Ends.block (Ends.seq (Ends.region ?_)))
 refine S.val hA (R.fieldAddr (q := 0) fi26_0 rfl rfl rfl) rfl ?_; clear hA a; intro a hA
 refine S.val hA (R.load sz3 rfl (hM.cell (k := 1) rfl rfl)) rfl ?_; clear hA a; intro a hA
 refine S.val hA (R.eql rfl rfl) rfl ?_; clear hA a; intro a hA
 refine S.val hA (R.assign rfl) rfl ?_; clear hA a; intro a hA
 refine S.done ?_
 refine Ends.ite hA rfl (fun hc7 => ?_) (fun hc7 => ?_)
 ·
  refine Ends.drawn (Mem w (feet [pt bs #[v0, .slice ba X.length bc, v2, v3] 58, K]) [pt b5 #[.slice ba X.length bc] 22, pt b3 #[.int .i64 o.k, .int .i64 o.i, .int .i64 o.f, .int .i64 o.t] 26, pt b1 #[.pointer (some ⟨bs, 0, none⟩)] 55, pt bs #[v0, .slice ba X.length bc, v2, v3] 58, K]) (.cons (0, true) (.cons (1, true) (.cons (3, true) (.cons (4, true) (.fork 2 5 (.cons (5, false) (.cons (6, false) (.cons (7, true) (.cons (8, true) (.cons (9, false) .nil))))) (.cons (2, false) (.cons (6, false) (.cons (7, true) (.cons (8, true) (.cons (9, false) .nil)))))))))) 9 mixed (by kernel_rfl) (by kernel_rfl) (by kernel_rfl) hM.drew ?_
  replace hM := hM.drew
  refine D.val hA rfl (by kernel_rfl) (fun _ hM => R.load sz55 rfl (hM.cell (k := 2) rfl rfl)) rfl ?_; clear hA a; intro a hA
  refine D.val hA rfl (by kernel_rfl) (fun _ hM => R.load sz22 rfl (hM.cell (k := 0) rfl rfl)) rfl ?_; clear hA a; intro a hA
  refine D.valF hA rfl (fun _ => R.fieldAddr (q := 1) fi26_1 rfl rfl rfl) rfl ?_; clear hA a; intro a hA
  refine D.val hA rfl (by kernel_rfl) (fun _ hM => R.load sz3 rfl (hM.cell (k := 1) rfl rfl)) rfl ?_; clear hA a; intro a hA
  refine D.fork rfl rfl ?_ ?_
  ·
   refine D.call hA rfl (R.callF Tryd.func45 rfl rfl rfl) rfl (clone21 ba X bc _ ((hK _ (hM.mem (k := 4) rfl))) (by omega)) ?_; clear hA a
   rintro e w5 ⟨ka8, kc9, rfl, hn⟩
   replace hM : Mem _ _ [own 3 1 (.slice ka8 X.length kc9) X.length (X.map (Value.int .i64)), pt b5 #[.slice ba X.length bc] 22, pt b3 #[.int .i64 o.k, .int .i64 o.i, .int .i64 o.f, .int .i64 o.t] 26, pt b1 #[.pointer (some ⟨bs, 0, none⟩)] 55, pt bs #[v0, .slice ba X.length bc, v2, v3] 58, K] _ := hM.call hn; clear hn
   refine ⟨.slice ka8 X.length kc9, rfl, (hM.drop 0), fun a hA => ?_⟩
   refine D.buildSl (cells := #[.int .i64 o.i]) hA hM rfl Tryd.underlying22 info3 rfl rfl rfl rfl (by kernel_rfl) rfl ?_; clear hA hM a; intro b10 w6 hb11 hM; refine ⟨(fun hM => (hM.drop 0)) hM.tail, fun a hA => ?_⟩
   replace hM : Mem _ _ [pt b10 #[.int .i64 o.i] 3, own 3 1 (.slice ka8 X.length kc9) X.length (X.map (Value.int .i64)), pt b5 #[.slice ba X.length bc] 22, pt b3 #[.int .i64 o.k, .int .i64 o.i, .int .i64 o.f, .int .i64 o.t] 26, pt b1 #[.pointer (some ⟨bs, 0, none⟩)] 55, pt bs #[v0, .slice ba X.length bc, v2, v3] 58, K] _ := hM
   refine D.append (k := 1) (k2 := 0) hA hM rfl rfl rfl Tryd.underlying22 info3 rfl rfl rfl rfl rfl rfl rfl rfl rfl (by first | (unfold maxLen; omega) | (show (_ + 1) * 8 ≤ (140737488355328 : Nat); omega) | (show (_ + _) * 8 ≤ (140737488355328 : Nat); omega)) (by first | (unfold maxLen; omega) | (show (_ + 1) * 8 ≤ (140737488355328 : Nat); omega) | (show (_ + _) * 8 ≤ (140737488355328 : Nat); omega)) rfl ?_; clear hA hM a; intro a12 c13 w7 hM
   replace hM : Mem _ _ [pt b10 #[.int .i64 o.i] 3, own 3 1 (.slice a12 (X.length + 1) c13) (X.length + 1) (X.map (Value.int .i64) ++ [.int .i64 o.i]), pt b5 #[.slice ba X.length bc] 22, pt b3 #[.int .i64 o.k, .int .i64 o.i, .int .i64 o.f, .int .i64 o.t] 26, pt b1 #[.pointer (some ⟨bs, 0, none⟩)] 55, pt bs #[v0, .slice ba X.length bc, v2, v3] 58, K] _ := hM
   have hl14 : X.length + 1 = (X ++ [o.i]).length := by simp
   rw [hl14, show X.map (Value.int .i64) ++ [.int .i64 o.i] = (X ++ [o.i]).map (Value.int .i64) by simp] at hM
   replace hM := hM.drop 0
   replace hM : Mem _ _ [own 3 1 (.slice a12 (((X ++ [o.i])).length) c13) (((X ++ [o.i])).length) (((X ++ [o.i])).map (Value.int .i64)), pt b5 #[.slice ba X.length bc] 22, pt b3 #[.int .i64 o.k, .int .i64 o.i, .int .i64 o.f, .int .i64 o.t] 26, pt b1 #[.pointer (some ⟨bs, 0, none⟩)] 55, pt bs #[v0, .slice ba X.length bc, v2, v3] 58, K] _ := hM
   refine ⟨(hM.drop 0), fun a hA => ?_⟩; rw [hl14] at hA; clear hl14
   refine D.valF hA rfl (fun _ => R.nilCheck rfl) rfl ?_; clear hA a; intro a hA
   refine D.valF hA rfl (fun _ => R.fieldAddr (q := 1) fi58_1 rfl rfl rfl) rfl ?_; clear hA a; intro a hA
   refine D.store (k := 4) hA hM rfl sz22 rfl rfl rfl rfl rfl ?_; clear hM
   intro w8 hM; refine ⟨fun _ hne => absurd rfl hne, ?_⟩
   replace hM : Mem _ _ [own 3 1 (.slice a12 (((X ++ [o.i])).length) c13) (((X ++ [o.i])).length) (((X ++ [o.i])).map (Value.int .i64)), pt b5 #[.slice ba X.length bc] 22, pt b3 #[.int .i64 o.k, .int .i64 o.i, .int .i64 o.f, .int .i64 o.t] 26, pt b1 #[.pointer (some ⟨bs, 0, none⟩)] 55, pt bs #[v0, .slice a12 (((X ++ [o.i])).length) c13, v2, v3] 58, K] _ := hM
   refine D.done ?_
   replace hA : St 48 [(2, _), (6, _)] a := hA.sub ((.cons rfl (.cons rfl .nil)))
   refine Ends.inBlock (Ends.seq (Ends.region ?_))
   refine S.val hA (R.to (v := .func (.func 48) #[] #[.pointer (some ⟨b5, 0, none⟩), .pointer (some ⟨b1, 0, none⟩)]) (R.makeFunc rfl) rfl) rfl ?_; clear hA a; intro a hA
   refine S.val hA (R.assign rfl) rfl ?_; clear hA a; intro a hA
   refine S.val hA (R.assign rfl) rfl ?_; clear hA a; intro a hA
   refine S.done ?_
   refine Ends.ret2 Tryd.func33 Tryd.results33 hA rfl rfl ?_
   replace hM := hM.ownRd
   replace hM := hM.front (k := 5) rfl
   replace hM := hM.front (k := 4) rfl
   replace hM := hM.front (k := 3) rfl
   replace hM := hM.front (k := 3) rfl
   replace hM := hM.front (k := 5) rfl
   replace hM := hM.firstN 5
   exact .inl ⟨_, a12, c13, b5, b1, by unfold doP; rw [if_pos hc7], rfl, hM⟩
  ·
   refine D.buildSl (cells := #[.int .i64 o.i]) hA hM rfl Tryd.underlying22 info3 rfl rfl rfl rfl (by kernel_rfl) rfl ?_; clear hA hM a; intro b15 w9 hb16 hM; refine ⟨hM.tail, fun a hA => ?_⟩
   replace hM : Mem _ _ [pt b15 #[.int .i64 o.i] 3, pt b5 #[.slice ba X.length bc] 22, pt b3 #[.int .i64 o.k, .int .i64 o.i, .int .i64 o.f, .int .i64 o.t] 26, pt b1 #[.pointer (some ⟨bs, 0, none⟩)] 55, pt bs #[v0, .slice ba X.length bc, v2, v3] 58, K] _ := hM
   refine D.call hA rfl (R.callF Tryd.func45 rfl rfl rfl) rfl (clone21 ba X bc _ ((hK _ (hM.mem (k := 5) rfl))) (by omega)) ?_; clear hA a
   rintro e w10 ⟨ka17, kc18, rfl, hn⟩
   replace hM : Mem _ _ [own 3 1 (.slice ka17 X.length kc18) X.length (X.map (Value.int .i64)), pt b15 #[.int .i64 o.i] 3, pt b5 #[.slice ba X.length bc] 22, pt b3 #[.int .i64 o.k, .int .i64 o.i, .int .i64 o.f, .int .i64 o.t] 26, pt b1 #[.pointer (some ⟨bs, 0, none⟩)] 55, pt bs #[v0, .slice ba X.length bc, v2, v3] 58, K] _ := hM.call hn; clear hn
   refine ⟨.slice ka17 X.length kc18, rfl, ((hM.drop 1).drop 0), fun a hA => ?_⟩
   refine D.append (k := 0) (k2 := 1) hA hM rfl rfl rfl Tryd.underlying22 info3 rfl rfl rfl rfl rfl rfl rfl rfl rfl (by first | (unfold maxLen; omega) | (show (_ + 1) * 8 ≤ (140737488355328 : Nat); omega) | (show (_ + _) * 8 ≤ (140737488355328 : Nat); omega)) (by first | (unfold maxLen; omega) | (show (_ + 1) * 8 ≤ (140737488355328 : Nat); omega) | (show (_ + _) * 8 ≤ (140737488355328 : Nat); omega)) rfl ?_; clear hA hM a; intro a19 c20 w11 hM
   replace hM : Mem _ _ [own 3 1 (.slice a19 (X.length + 1) c20) (X.length + 1) (X.map (Value.int .i64) ++ [.int .i64 o.i]), pt b15 #[.int .i64 o.i] 3, pt b5 #[.slice ba X.length bc] 22, pt b3 #[.int .i64 o.k, .int .i64 o.i, .int .i64 o.f, .int .i64 o.t] 26, pt b1 #[.pointer (some ⟨bs, 0, none⟩)] 55, pt bs #[v0, .slice ba X.length bc, v2, v3] 58, K] _ := hM
   have hl21 : X.length + 1 = (X ++ [o.i]).length := by simp
   rw [hl21, show X.map (Value.int .i64) ++ [.int .i64 o.i] = (X ++ [o.i]).map (Value.int .i64) by simp] at hM
   replace hM := hM.drop 1
   replace hM : Mem _ _ [own 3 1 (.slice a19 (((X ++ [o.i])).length) c20) (((X ++ [o.i])).length) (((X ++ [o.i])).map (Value.int .i64)), pt b5 #[.slice ba X.length bc] 22, pt b3 #[.int .i64 o.k, .int .i64 o.i, .int .i64 o.f, .int .i64 o.t] 26, pt b1 #[.pointer (some ⟨bs, 0, none⟩)] 55, pt bs #[v0, .slice ba X.length bc, v2, v3] 58, K] _ := hM
   refine ⟨(hM.drop 0), fun a hA => ?_⟩; rw [hl21] at hA; clear hl21
   refine D.valF hA rfl (fun _ => R.nilCheck rfl) rfl ?_; clear hA a; intro a hA
   refine D.valF hA rfl (fun _ => R.fieldAddr (q := 1) fi58_1 rfl rfl rfl) rfl ?_; clear hA a; intro a hA
   refine D.store (k := 4) hA hM rfl sz22 rfl rfl rfl rfl rfl ?_; clear hM
   intro w12 hM; refine ⟨fun _ hne => absurd rfl hne, ?_⟩
   replace hM : Mem _ _ [own 3 1 (.slice a19 (((X ++ [o.i])).length) c20) (((X ++ [o.i])).length) (((X ++ [o.i])).map (Value.int .i64)), pt b5 #[.slice ba X.length bc] 22, pt b3 #[.int .i64 o.k, .int .i64 o.i, .int .i64 o.f, .int .i64 o.t] 26, pt b1 #[.pointer (some ⟨bs, 0, none⟩)] 55, pt bs #[v0, .slice a19 (((X ++ [o.i])).length) c20, v2, v3] 58, K] _ := hM
   refine D.done ?_
   replace hA : St 48 [(2, _), (6, _)] a := hA.sub ((.cons rfl (.cons rfl .nil)))
   refine Ends.inBlock (Ends.seq (Ends.region ?_))
   refine S.val hA (R.to (v := .func (.func 48) #[] #[.pointer (some ⟨b5, 0, none⟩), .pointer (some ⟨b1, 0, none⟩)]) (R.makeFunc rfl) rfl) rfl ?_; clear hA a; intro a hA
   refine S.val hA (R.assign rfl) rfl ?_; clear hA a; intro a hA
   refine S.val hA (R.assign rfl) rfl ?_; clear hA a; intro a hA
   refine S.done ?_
   refine Ends.ret2 Tryd.func33 Tryd.results33 hA rfl rfl ?_
   replace hM := hM.ownRd
   replace hM := hM.front (k := 5) rfl
   replace hM := hM.front (k := 4) rfl
   replace hM := hM.front (k := 3) rfl
   replace hM := hM.front (k := 3) rfl
   replace hM := hM.front (k := 5) rfl
   replace hM := hM.firstN 5
   exact .inl ⟨_, a19, c20, b5, b1, by unfold doP; rw [if_pos hc7], rfl, hM⟩
 ·
  refine Ends.seq (Ends.region ?_)
  refine S.val hA (R.fieldAddr (q := 1) fi26_1 rfl rfl rfl) rfl ?_; clear hA a; intro a hA
  refine S.val hA (R.load sz3 rfl (hM.cell (k := 1) rfl rfl)) rfl ?_; clear hA a; intro a hA
  refine S.val hA (R.eql rfl rfl) rfl ?_; clear hA a; intro a hA
  refine S.val hA (R.assign rfl) rfl ?_; clear hA a; intro a hA
  refine S.done ?_
  replace hA : St 48 [(2, _), (3, _), (6, _), (40, _)] a := hA.sub ((.cons rfl (.cons rfl (.cons rfl (.cons rfl .nil)))))
  refine Ends.ite hA rfl (fun hc22 => ?_) (fun hc22 => ?_)
  ·
   refine Ends.seq (Ends.region ?_)
   refine S.val hA (R.load sz22 rfl (hM.cell (k := 0) rfl rfl)) rfl ?_; clear hA a; intro a hA
   refine S.val hA (R.lenS Tryd.underlying22 rfl rfl) rfl ?_; clear hA a; intro a hA
   refine S.val hA (R.gtr rfl rfl) rfl ?_; clear hA a; intro a hA
   refine S.done ?_
   replace hA : St 48 [(2, _), (6, _), (46, _)] a := hA.sub ((.cons rfl (.cons rfl (.cons rfl .nil))))
   refine Ends.ite hA rfl (fun hc23 => ?_) (fun hc23 => ?_)
   ·
    refine Ends.seq (Ends.region ?_)
    refine S.val hA (R.assign rfl) rfl ?_; clear hA a; intro a hA
    refine S.val hA (R.assign rfl) rfl ?_; clear hA a; intro a hA
    refine S.done ?_
    refine Ends.ret2 Tryd.func33 Tryd.results33 hA rfl rfl ?_
    replace hM := hM.front (k := 4) rfl
    replace hM := hM.front (k := 4) rfl
    replace hM := hM.firstN 2
    exact .inr ⟨by unfold doP; rw [if_neg hc7, if_pos hc22, if_neg (fun e => by subst e; exact absurd hc23 (by decide))], rfl, hM⟩
   ·
    refine Ends.skip (Ends.inBlock (Ends.seq (Ends.region ?_)))
    refine S.val hA (R.to (v := .func (.func 48) #[] #[.pointer (some ⟨b5, 0, none⟩), .pointer (some ⟨b1, 0, none⟩)]) (R.makeFunc rfl) rfl) rfl ?_; clear hA a; intro a hA
    refine S.val hA (R.assign rfl) rfl ?_; clear hA a; intro a hA
    refine S.val hA (R.assign rfl) rfl ?_; clear hA a; intro a hA
    refine S.done ?_
    refine Ends.ret2 Tryd.func33 Tryd.results33 hA rfl rfl ?_
    have hX0 : X = [] := by cases X with | nil => rfl | cons z X => exact absurd (show ((z :: X).length : Int) > 0 by simp) (by have := hc23; simp at this)
    subst hX0
    replace hM := hM.emptyRd (hK _ (hM.mem (k := 4) rfl))
    replace hM := hM.front (k := 5) rfl
    replace hM := hM.front (k := 4) rfl
    replace hM := hM.front (k := 3) rfl
    replace hM := hM.front (k := 3) rfl
    replace hM := hM.front (k := 5) rfl
    replace hM := hM.firstN 5
    exact .inl ⟨_, ba, bc, b5, b1, by unfold doP; rw [if_neg hc7, if_pos hc22, if_pos rfl], rfl, hM⟩
  ·
   refine Ends.seq (Ends.region ?_)
   refine S.val hA (R.load sz22 rfl (hM.cell (k := 0) rfl rfl)) rfl ?_; clear hA a; intro a hA
   refine S.val hA (R.fieldAddr (q := 1) fi26_1 rfl rfl rfl) rfl ?_; clear hA a; intro a hA
   refine S.val hA (R.load sz3 rfl (hM.cell (k := 1) rfl rfl)) rfl ?_; clear hA a; intro a hA
   refine S.call hA (R.callF Tryd.func46 rfl rfl rfl) rfl (index21 ba X bc o.i _ ((hK _ (hM.mem (k := 4) rfl))) (by omega)) ?_; clear hA a
   rintro e w13 ⟨rfl, rfl⟩
   refine ⟨.int .i64 ((Lib.idxOf X o.i)), rfl, fun a hA => ?_⟩
   refine S.val hA (R.assign rfl) rfl ?_; clear hA a; intro a hA
   refine S.done ?_
   replace hA : St 48 [(2, _), (6, _), (7, _)] a := hA.sub ((.cons rfl (.cons rfl (.cons rfl .nil))))
   refine Ends.seq (Ends.seq (Ends.region ?_))
   refine S.val hA (R.move rfl) rfl ?_; clear hA a; intro a hA
   refine S.val hA (R.lss rfl rfl) rfl ?_; clear hA a; intro a hA
   refine S.done ?_
   refine Ends.ite hA rfl (fun hc24 => ?_) (fun hc24 => ?_)
   ·
    refine Ends.seq (Ends.region ?_)
    refine S.val hA (R.assign rfl) rfl ?_; clear hA a; intro a hA
    refine S.val hA (R.assign rfl) rfl ?_; clear hA a; intro a hA
    refine S.done ?_
    refine Ends.ret2 Tryd.func33 Tryd.results33 hA rfl rfl ?_
    replace hM := hM.front (k := 4) rfl
    replace hM := hM.front (k := 4) rfl
    replace hM := hM.firstN 2
    have hmx : o.i ∉ X := fun hmx => by obtain ⟨j, h1, -, -⟩ := (idx_from o.i X 0).1 hmx; have h9 := hc24; rw [Lib.idxOf, h1] at h9; omega
    exact .inr ⟨by unfold doP; rw [if_neg hc7, if_neg hc22, if_neg hmx], rfl, hM⟩
   ·
    obtain ⟨jd, hjd, hjl, hje⟩ : ∃ j : Nat, Lib.idxOf X o.i = (j : Int) ∧ j < X.length ∧ X.eraseIdx j = X.erase o.i := by
     by_cases hmx : o.i ∈ X
     · obtain ⟨j, h1, h2, h3⟩ := (idx_from o.i X 0).1 hmx; exact ⟨j, by rw [Lib.idxOf, h1, Nat.zero_add], h2, h3⟩
     · exact absurd (by rw [Lib.idxOf, (idx_from o.i X 0).2 hmx]; decide) hc24
    have hmx : o.i ∈ X := by rcases Decidable.em (o.i ∈ X) with g | g; exact g; rw [Lib.idxOf, (idx_from o.i X 0).2 g] at hjd; omega
    rw [hjd] at hA
    refine Ends.skip ?_
    refine Ends.drawn (Mem w (feet [pt bs #[v0, .slice ba X.length bc, v2, v3] 58, K]) [pt b5 #[.slice ba X.length bc] 22, pt b3 #[.int .i64 o.k, .int .i64 o.i, .int .i64 o.f, .int .i64 o.t] 26, pt b1 #[.pointer (some ⟨bs, 0, none⟩)] 55, pt bs #[v0, .slice ba X.length bc, v2, v3] 58, K]) (.cons (0, true) (.cons (1, true) (.cons (3, true) (.cons (4, true) (.cons (5, true) (.cons (2, false) (.cons (6, false) (.cons (7, true) (.cons (8, true) (.cons (9, false) .nil)))))))))) 9 mixed (by kernel_rfl) (by kernel_rfl) (by kernel_rfl) hM.drew ?_
    replace hM := hM.drew
    refine D.val hA rfl (by kernel_rfl) (fun _ hM => R.load sz55 rfl (hM.cell (k := 2) rfl rfl)) rfl ?_; clear hA a; intro a hA
    refine D.val hA rfl (by kernel_rfl) (fun _ hM => R.load sz22 rfl (hM.cell (k := 0) rfl rfl)) rfl ?_; clear hA a; intro a hA
    refine D.valF hA rfl (fun _ => R.move rfl) rfl ?_; clear hA a; intro a hA
    refine D.valF hA rfl (fun _ => R.move rfl) rfl ?_; clear hA a; intro a hA
    refine D.valF hA rfl (fun _ => R.addI rfl rfl (r := ((jd : Int)) + 1) rfl (by omega)) rfl ?_; clear hA a; intro a hA
    refine D.call hA rfl (R.callF Tryd.func45 rfl rfl rfl) rfl (clone21 ba X bc _ ((hK _ (hM.mem (k := 4) rfl))) (by omega)) ?_; clear hA a
    rintro e w14 ⟨ka25, kc26, rfl, hn⟩
    replace hM : Mem _ _ [own 3 1 (.slice ka25 X.length kc26) X.length (X.map (Value.int .i64)), pt b5 #[.slice ba X.length bc] 22, pt b3 #[.int .i64 o.k, .int .i64 o.i, .int .i64 o.f, .int .i64 o.t] 26, pt b1 #[.pointer (some ⟨bs, 0, none⟩)] 55, pt bs #[v0, .slice ba X.length bc, v2, v3] 58, K] _ := hM.call hn; clear hn
    refine ⟨.slice ka25 X.length kc26, rfl, (hM.drop 0), fun a hA => ?_⟩
    obtain ⟨g27, hg9⟩ := hM.ownAt (k := 0) rfl (by omega)
    subst hg9
    refine D.call hA rfl (R.callF Tryd.func47 rfl rfl rfl) rfl (del09 g27 kc26 jd X hjl _ (hM.hereN 1)) ?_; clear hA a
    rintro e w15 ⟨rfl, hn⟩
    replace hM : Mem _ _ [own 3 1 (.slice ((some ⟨g27, 0, none⟩)) (((X.eraseIdx jd)).length) kc26) (((X.eraseIdx jd)).length) (((X.eraseIdx jd)).map (Value.int .i64)), pt b5 #[.slice ba X.length bc] 22, pt b3 #[.int .i64 o.k, .int .i64 o.i, .int .i64 o.f, .int .i64 o.t] 26, pt b1 #[.pointer (some ⟨bs, 0, none⟩)] 55, pt bs #[v0, .slice ba X.length bc, v2, v3] 58, K] _ := hM.callL 1 hn; clear hn
    refine ⟨.slice ((some ⟨g27, 0, none⟩)) (((X.eraseIdx jd)).length) kc26, rfl, (hM.drop 0), fun a hA => ?_⟩
    refine D.valF hA rfl (fun _ => R.nilCheck rfl) rfl ?_; clear hA a; intro a hA
    refine D.valF hA rfl (fun _ => R.fieldAddr (q := 1) fi58_1 rfl rfl rfl) rfl ?_; clear hA a; intro a hA
    refine D.store (k := 4) hA hM rfl sz22 rfl rfl rfl rfl rfl ?_; clear hM
    intro w16 hM; refine ⟨fun _ hne => absurd rfl hne, ?_⟩
    replace hM : Mem _ _ [own 3 1 (.slice ((some ⟨g27, 0, none⟩)) (((X.eraseIdx jd)).length) kc26) (((X.eraseIdx jd)).length) (((X.eraseIdx jd)).map (Value.int .i64)), pt b5 #[.slice ba X.length bc] 22, pt b3 #[.int .i64 o.k, .int .i64 o.i, .int .i64 o.f, .int .i64 o.t] 26, pt b1 #[.pointer (some ⟨bs, 0, none⟩)] 55, pt bs #[v0, .slice ((some ⟨g27, 0, none⟩)) (((X.eraseIdx jd)).length) kc26, v2, v3] 58, K] _ := hM
    refine D.done ?_
    replace hA : St 48 [(2, _), (6, _)] a := hA.sub ((.cons rfl (.cons rfl .nil)))
    refine Ends.inBlock (Ends.seq (Ends.region ?_))
    refine S.val hA (R.to (v := .func (.func 48) #[] #[.pointer (some ⟨b5, 0, none⟩), .pointer (some ⟨b1, 0, none⟩)]) (R.makeFunc rfl) rfl) rfl ?_; clear hA a; intro a hA
    refine S.val hA (R.assign rfl) rfl ?_; clear hA a; intro a hA
    refine S.val hA (R.assign rfl) rfl ?_; clear hA a; intro a hA
    refine S.done ?_
    refine Ends.ret2 Tryd.func33 Tryd.results33 hA rfl rfl ?_
    replace hM := hM.ownRd
    replace hM := hM.front (k := 5) rfl
    replace hM := hM.front (k := 4) rfl
    replace hM := hM.front (k := 3) rfl
    replace hM := hM.front (k := 3) rfl
    replace hM := hM.front (k := 5) rfl
    replace hM := hM.firstN 5
    exact .inl ⟨_, (some ⟨g27, 0, none⟩), kc26, b5, b1, by unfold doP; rw [if_neg hc7, if_neg hc22, if_pos hmx, hje], rfl, hM⟩
theorem do21s (o : HOp) (bs : Nat) (ba : Option Addr) (X : List Int) (bc : Nat) (v0 v2 v3 : Value) (K : Ck) (hK : ∀ w, K.holds w → IntSl w (.slice ba X.length bc) X) (hX : X.length ≤ 900) (w : World) (hM0 : Mem w (feet [pt bs #[v0, .slice ba X.length bc, v2, v3] 58, K]) [pt bs #[v0, .slice ba X.length bc, v2, v3] 58, K] w) {Y : List Int} (hY : doP o X = some Y) : Calls Tryd.prog 33 #[.pointer (some ⟨bs, 0, none⟩), .agg #[.int .i64 o.k, .int .i64 o.i, .int .i64 o.f, .int .i64 o.t]] w fun e w' => (∃ a c q p, e = .returned (.tuple #[.func (.func 48) #[] #[.pointer (some ⟨q, 0, none⟩), .pointer (some ⟨p, 0, none⟩)], .bool true]) ∧
      Mem w (feet [pt bs #[v0, .slice ba X.length bc, v2, v3] 58, K]) [pt bs #[v0, .slice a Y.length c, v2, v3] 58, rd a c Y, pt q #[.slice ba X.length bc] 22, pt p #[.pointer (some ⟨bs, 0, none⟩)] 55, K] w') := by
  refine (do21 o bs ba X bc v0 v2 v3 K hK hX w hM0).mono fun e w' h => ?_
  rcases h with ⟨Y', a, c, q, p, h1, h2, h3⟩ | ⟨h1, -, -⟩
  · obtain rfl : Y' = Y := by rw [hY] at h1; exact (Option.some.inj h1).symm
    exact ⟨a, c, q, p, h2, h3⟩
  · rw [hY] at h1; cases h1
theorem do21n (o : HOp) (bs : Nat) (ba : Option Addr) (X : List Int) (bc : Nat) (v0 v2 v3 : Value) (K : Ck) (hK : ∀ w, K.holds w → IntSl w (.slice ba X.length bc) X) (hX : X.length ≤ 900) (w : World) (hM0 : Mem w (feet [pt bs #[v0, .slice ba X.length bc, v2, v3] 58, K]) [pt bs #[v0, .slice ba X.length bc, v2, v3] 58, K] w) (hY : doP o X = none) : Calls Tryd.prog 33 #[.pointer (some ⟨bs, 0, none⟩), .agg #[.int .i64 o.k, .int .i64 o.i, .int .i64 o.f, .int .i64 o.t]] w fun e w' => e = .returned (.tuple #[.nilFunc, .bool false]) ∧ Mem w (feet [pt bs #[v0, .slice ba X.length bc, v2, v3] 58, K]) [pt bs #[v0, .slice ba X.length bc, v2, v3] 58, K] w' := by
  refine (do21 o bs ba X bc v0 v2 v3 K hK hX w hM0).mono fun e w' h => ?_
  rcases h with ⟨Y', a, c, q, p, h1, h2, h3⟩ | ⟨-, h2, h3⟩
  · rw [hY] at h1; cases h1
  · exact ⟨h2, h3⟩
end Go.Proofs.YtjjbognomeplbaaDoor
namespace Go.Proofs.YtjjbognomeplbaaDoor
open Go.RowKit
set_option maxRecDepth 100000 in
set_option maxHeartbeats 400000 in
theorem may21 (ops : List HOp) (oa : Option Addr) (oc : Nat) (f : Nat → Bool) (m0 : Nat) (hm0 : m0 < ops.length) (hf : ∀ b, f b = true → b < ops.length) (hol : ops.length ≤ 12) (bs : Nat) (v1 v2 v3 : Value) (K : Ck) (hK : ∀ w, K.holds w → RowSl w (.slice oa ops.length oc) 4 ops.length (hopv ops)) (w : World) (htab : Lib.TabIs Tryd.prog w "math/bits.deBruijn64tab" .u8 debT) (hG : ¬ (feet [pt bs #[.slice oa ops.length oc, v1, v2, v3] 58, K]) 0) (hM0 : Mem w (feet [pt bs #[.slice oa ops.length oc, v1, v2, v3] 58, K]) [pt bs #[.slice oa ops.length oc, v1, v2, v3] 58, K] w) :
  Calls Tryd.prog 32 #[.pointer (some ⟨bs, 0, none⟩), .agg #[.int .u64 (loW f), .int .u64 (hiW f)], .int .i64 ((m0 : Int))] w fun e w' => e = .returned (.bool (mayP ops f m0)) ∧ Mem w (feet [pt bs #[.slice oa ops.length oc, v1, v2, v3] 58, K]) [pt bs #[.slice oa ops.length oc, v1, v2, v3] 58, K] w' := by
 have hbs := Below.refl (B := w.heap.size) w
 have hM := hM0
 refine Calls.of_endsW (vs := [.pointer (some ⟨bs, 0, none⟩), .agg #[.int .u64 (loW f), .int .u64 (hiW f)], .int .i64 ((m0 : Int))]) 9 Tryd.func32 rfl Tryd.ntmps32 rfl ?_
 intro a hA
 replace hA : St 30 [(0, _), (1, _), (2, _)] a := hA
 refine EndsW.seq ?_
 refine EndsW.region ?_
 refine S.box hA hM rfl rfl ?_; clear hA hM a; intro b1 w1 hb2 hM a hA
 replace hM : Mem _ _ [pt b1 #[.pointer (some ⟨bs, 0, none⟩)] 55, pt bs #[.slice oa ops.length oc, v1, v2, v3] 58, K] _ := hM
 refine S.box hA hM rfl rfl ?_; clear hA hM a; intro b3 w2 hb4 hM a hA
 replace hM : Mem _ _ [pt b3 #[.int .u64 (loW f), .int .u64 (hiW f)] 61, pt b1 #[.pointer (some ⟨bs, 0, none⟩)] 55, pt bs #[.slice oa ops.length oc, v1, v2, v3] 58, K] _ := hM
 refine S.box hA hM rfl rfl ?_; clear hA hM a; intro b5 w3 hb6 hM a hA
 replace hM : Mem _ _ [pt b5 #[.int .i64 ((m0 : Int))] 3, pt b3 #[.int .u64 (loW f), .int .u64 (hiW f)] 61, pt b1 #[.pointer (some ⟨bs, 0, none⟩)] 55, pt bs #[.slice oa ops.length oc, v1, v2, v3] 58, K] _ := hM
 refine S.alloc hA hM info4 rfl rfl ?_; clear hA hM a; intro b7 w4 hb8 hM a hA
 replace hM : Mem _ _ [pt b7 #[.bool false] 4, pt b5 #[.int .i64 ((m0 : Int))] 3, pt b3 #[.int .u64 (loW f), .int .u64 (hiW f)] 61, pt b1 #[.pointer (some ⟨bs, 0, none⟩)] 55, pt bs #[.slice oa ops.length oc, v1, v2, v3] 58, K] _ := hM
 refine S.doneW ?_
 replace hA : St 30 [(3, _), (4, _), (5, _), (6, _)] a := hA.sub ((.cons rfl (.cons rfl (.cons rfl (.cons rfl .nil)))))
 refine EndsW.seq ?_
 refine EndsW.seq ?_
 refine EndsW.region ?_
 refine S.val hA (R.loadA sz61 rfl (hM.range (k := 2) rfl) rfl) rfl ?_; clear hA a; intro a hA
 refine S.val hA (R.load sz3 rfl (hM.cell (k := 1) rfl rfl)) rfl ?_; clear hA a; intro a hA
 refine S.call hA (R.callF Tryd.func34 rfl rfl rfl) rfl (wo02 f m0 (by omega) _) ?_; clear hA a
 rintro e w5 ⟨rfl, hb⟩
 replace hM := hM.callB hb; clear hb
 refine ⟨.agg #[.int .u64 (loW (woF f m0)), .int .u64 (hiW (woF f m0))], rfl, fun a hA => ?_⟩
 refine S.call hA (R.callF Tryd.func31 rfl rfl rfl) rfl (all02 ((woF f m0)) _) ?_; clear hA a
 rintro e w6 ⟨bx9, rfl, hn⟩
 replace hM : Mem _ _ [pt bx9 #[.int .u64 (loW (woF f m0)), .int .u64 (hiW (woF f m0))] 61, pt b7 #[.bool false] 4, pt b5 #[.int .i64 ((m0 : Int))] 3, pt b3 #[.int .u64 (loW f), .int .u64 (hiW f)] 61, pt b1 #[.pointer (some ⟨bs, 0, none⟩)] 55, pt bs #[.slice oa ops.length oc, v1, v2, v3] 58, K] _ := hM.call hn; clear hn
 refine ⟨.func (.func 42) #[] #[.pointer (some ⟨bx9, 0, none⟩)], rfl, fun a hA => ?_⟩
 refine S.doneW ?_
 replace hA : St 30 [(3, _), (5, _), (6, _), (11, _)] a := hA.sub ((.cons rfl (.cons rfl (.cons rfl (.cons rfl .nil)))))
 refine EndsW.block ?_
 replace hM := hM.front (k := 1) rfl
 replace hM := hM.front (k := 2) rfl
 replace hM := hM.front (k := 4) rfl
 replace hM := hM.front (k := 6) rfl
 replace hM := hM.front (k := 6) rfl
 have hqx := hM.block (k := 5) rfl
 have htx := (tab_at htab (g := 0) (by kernel_rfl) (hM.old _ (tab_lt htab (by kernel_rfl)) hG))
 have hGx := hM.notFoot (tab_lt htab (by kernel_rfl)) hG
 have hGl : ¬ feet [pt bs #[.slice oa ops.length oc, v1, v2, v3] 58, K, pt b1 #[.pointer (some ⟨bs, 0, none⟩)] 55, pt b5 #[.int .i64 ((m0 : Int))] 3, pt b7 #[.bool false] 4] 0 := fun ⟨c9, h9, hf9⟩ => hGx ⟨c9, List.mem_append_left [pt bx9 #[.int .u64 (loW (woF f m0)), .int .u64 (hiW (woF f m0))] 61, pt b3 #[.int .u64 (loW f), .int .u64 (hiW f)] 61] h9, hf9⟩
 replace hM : Mem _ _ ([pt bs #[.slice oa ops.length oc, v1, v2, v3] 58, K, pt b1 #[.pointer (some ⟨bs, 0, none⟩)] 55, pt b5 #[.int .i64 ((m0 : Int))] 3, pt b7 #[.bool false] 4] ++ [pt bx9 #[.int .u64 (loW (woF f m0)), .int .u64 (hiW (woF f m0))] 61, pt b3 #[.int .u64 (loW f), .int .u64 (hiW f)] 61]) _ := hM
 refine EndsW.rangeG (σ := Unit) (enc := fun x : Mb ((woF f m0)) => .int .i64 x.1) (NN := 128) (Kb := fun q => q = bx9 ∨ q = 0) (L := [pt bs #[.slice oa ops.length oc, v1, v2, v3] 58, K, pt b1 #[.pointer (some ⟨bs, 0, none⟩)] 55, pt b5 #[.int .i64 ((m0 : Int))] 3, pt b7 #[.bool false] 4]) (M := [pt bx9 #[.int .u64 (loW (woF f m0)), .int .u64 (hiW (woF f m0))] 61, pt b3 #[.int .u64 (loW f), .int .u64 (hiW f)] 61]) (fun u9 => [pt bs #[.slice oa ops.length oc, v1, v2, v3] 58, K, pt b1 #[.pointer (some ⟨bs, 0, none⟩)] 55, pt b5 #[.int .i64 ((m0 : Int))] 3, pt b7 #[.bool false] 4]) (fun pre _ => ∀ x ∈ vs pre, tlt ops m0 x = false) (fun c pre _ => c = .ret ∧ ∃ x ∈ vs pre, tlt ops m0 x = true) () hA hM (by decide) rfl rfl rfl (enters_fn Tryd.func42 (by kernel_rfl) rfl) (seq02M ((woF f m0)) bx9 _ (.inl rfl) (.inr rfl) _ hqx htx) ?_ ?_ (fun x hx => by cases hx) rfl ?_ ?_ ?_
 ·
  rintro q (e9 | e9)
  · rw [e9]; exact ⟨(Array.getElem?_eq_some_iff.1 hqx).1, Mem.apartL (L := [pt bs #[.slice oa ops.length oc, v1, v2, v3] 58, K, pt b1 #[.pointer (some ⟨bs, 0, none⟩)] 55, pt b5 #[.int .i64 ((m0 : Int))] 3, pt b7 #[.bool false] 4]) (M := [pt bx9 #[.int .u64 (loW (woF f m0)), .int .u64 (hiW (woF f m0))] 61, pt b3 #[.int .u64 (loW f), .int .u64 (hiW f)] 61]) hM (.head _) rfl⟩
  · rw [e9]; exact ⟨tab_lt htx (by kernel_rfl), hGl⟩
 ·
  rintro u9 c9 hc9
  rcases List.mem_cons.1 hc9 with rfl | hc9
  · exact pt_cellsB _ _ _ _
  rcases List.mem_cons.1 hc9 with rfl | hc9
  · exact fun w9 b9 _ hb9 => .inl (hM.inb _ (.tail _ (.head _)) b9 hb9).1
  rcases List.mem_cons.1 hc9 with rfl | hc9
  · exact pt_cellsB _ _ _ _
  rcases List.mem_cons.1 hc9 with rfl | hc9
  · exact pt_cellsB _ _ _ _
  rcases List.mem_cons.1 hc9 with rfl | hc9
  · exact pt_cellsB _ _ _ _
  cases hc9
 ·
  clear hA hM a hqx
  rintro l9 pre ⟨_, m, rfl, ml, mf⟩ u9 w7 hs9 hlen hM0 a hA
  have htab := tab_at htx (g := 0) (by kernel_rfl) (hM0.old _ (tab_lt htx (by kernel_rfl)) hGl)
  have hG := hM0.notFoot (tab_lt htx (by kernel_rfl)) hGl
  have hM := hM0.here
  clear htx hGl hGx hM0
  replace hM : Mem _ (feet [pt bs #[.slice oa ops.length oc, v1, v2, v3] 58, K, pt b1 #[.pointer (some ⟨bs, 0, none⟩)] 55, pt b5 #[.int .i64 ((m0 : Int))] 3, pt b7 #[.bool false] 4]) [pt bs #[.slice oa ops.length oc, v1, v2, v3] 58, K, pt b1 #[.pointer (some ⟨bs, 0, none⟩)] 55, pt b5 #[.int .i64 ((m0 : Int))] 3, pt b7 #[.bool false] 4] _ := hM
  replace hA : St 30 [(3, .pointer (some ⟨b1, 0, none⟩)), (5, .pointer (some ⟨b5, 0, none⟩)), (6, .pointer (some ⟨b7, 0, none⟩)), (7, .int .i64 ((m : Int))), (12, .int .i64 ((m : Int)))] a := hA.sub ((.cons rfl (.cons rfl (.cons rfl (.cons rfl (.cons rfl .nil))))))
  have mlt : m < ops.length := hf m (wo_mem mf)
  refine EndsW.block ?_
  refine EndsW.seq ?_
  refine EndsW.drawn (Mem w7 (feet [pt bs #[.slice oa ops.length oc, v1, v2, v3] 58, K, pt b1 #[.pointer (some ⟨bs, 0, none⟩)] 55, pt b5 #[.int .i64 ((m0 : Int))] 3, pt b7 #[.bool false] 4]) [pt bs #[.slice oa ops.length oc, v1, v2, v3] 58, K, pt b1 #[.pointer (some ⟨bs, 0, none⟩)] 55, pt b5 #[.int .i64 ((m0 : Int))] 3, pt b7 #[.bool false] 4]) (.cons (0, true) (.cons (1, true) (.cons (2, true) (.cons (3, true) (.cons (4, true) (.cons (5, true) (.cons (6, true) (.cons (7, true) (.cons (8, true) (.cons (9, true) (.cons (10, true) (.cons (11, true) (.cons (12, true) (.cons (13, true) (.cons (14, true) (.cons (15, true) (.cons (16, true) .nil))))))))))))))))) 17 mixed (by kernel_rfl) (by kernel_rfl) (by kernel_rfl) hM.drew ?_
  replace hM := hM.drew
  refine D.val hA rfl (by kernel_rfl) (fun _ hM => R.load sz55 rfl (hM.cell (k := 2) rfl rfl)) rfl ?_; clear hA a; intro a hA
  refine D.valF hA rfl (fun _ => R.nilCheck rfl) rfl ?_; clear hA a; intro a hA
  refine D.valF hA rfl (fun _ => R.fieldAddr (q := 0) fi58_0 rfl rfl rfl) rfl ?_; clear hA a; intro a hA
  refine D.val hA rfl (by kernel_rfl) (fun _ hM => R.load sz23 rfl (hM.cell (k := 0) rfl rfl)) rfl ?_; clear hA a; intro a hA
  refine D.valF hA rfl (fun _ => R.move rfl) rfl ?_; clear hA a; intro a hA
  refine D.valF hA rfl (fun _ => R.idxRow ((hK _ (hM.mem (k := 1) rfl))) (j := m) sl23 rfl rfl (by omega) (rfl)) rfl ?_; clear hA a; intro a hA
  refine D.valF hA rfl (fun _ => R.fldRow ((hK _ (hM.mem (k := 1) rfl))) (by omega) fi26_3 rfl rfl) rfl ?_; clear hA a; intro a hA
  refine D.val hA rfl (by kernel_rfl) (fun _ hM => R.loadHopT ((hK _ (hM.mem (k := 1) rfl))) (by omega) sz3 rfl) rfl ?_; clear hA a; intro a hA
  refine D.val hA rfl (by kernel_rfl) (fun _ hM => R.load sz55 rfl (hM.cell (k := 2) rfl rfl)) rfl ?_; clear hA a; intro a hA
  refine D.valF hA rfl (fun _ => R.nilCheck rfl) rfl ?_; clear hA a; intro a hA
  refine D.valF hA rfl (fun _ => R.fieldAddr (q := 0) fi58_0 rfl rfl rfl) rfl ?_; clear hA a; intro a hA
  refine D.val hA rfl (by kernel_rfl) (fun _ hM => R.load sz23 rfl (hM.cell (k := 0) rfl rfl)) rfl ?_; clear hA a; intro a hA
  refine D.val hA rfl (by kernel_rfl) (fun _ hM => R.load sz3 rfl (hM.cell (k := 3) rfl rfl)) rfl ?_; clear hA a; intro a hA
  refine D.valF hA rfl (fun _ => R.idxRow ((hK _ (hM.mem (k := 1) rfl))) (j := m0) sl23 rfl rfl (by omega) (rfl)) rfl ?_; clear hA a; intro a hA
  refine D.valF hA rfl (fun _ => R.fldRow ((hK _ (hM.mem (k := 1) rfl))) (by omega) fi26_2 rfl rfl) rfl ?_; clear hA a; intro a hA
  refine D.val hA rfl (by kernel_rfl) (fun _ hM => R.loadHopF ((hK _ (hM.mem (k := 1) rfl))) (by omega) sz3 rfl) rfl ?_; clear hA a; intro a hA
  refine D.valF hA rfl (fun _ => R.lss rfl rfl) rfl ?_; clear hA a; intro a hA
  refine D.doneW ?_
  replace hA : St 30 [(6, _), (29, _)] a := hA.sub ((.cons rfl (.cons rfl .nil)))
  refine EndsW.ite hA rfl (fun hc10 => ?_) (fun hc10 => ?_)
  ·
   refine EndsW.seq ?_
   refine EndsW.region ?_
   refine S.store (k := 4) hA hM sz4 rfl rfl rfl rfl rfl ?_; clear hM
   intro w8 hM
   replace hM : Mem _ _ [pt bs #[.slice oa ops.length oc, v1, v2, v3] 58, K, pt b1 #[.pointer (some ⟨bs, 0, none⟩)] 55, pt b5 #[.int .i64 ((m0 : Int))] 3, pt b7 #[.bool false] 4] _ := hM
   refine S.doneW ?_
   replace hA : St 30 [(6, _)] a := hA.sub ((.cons rfl .nil))
   refine EndsW.retQ ?_
   replace hM := hM.front (k := 4) rfl
   replace hM := hM.front (k := 4) rfl
   replace hM := hM.front (k := 4) rfl
   replace hM := hM.front (k := 4) rfl
   replace hM := hM.front (k := 4) rfl
   exact ⟨(), ⟨rfl, (m : Int), by rw [vs_app]; exact List.mem_append_right _ (.head _), decide_eq_true hc10⟩, hM⟩
  ·
   refine EndsW.skip ?_
   refine EndsW.inBlock ?_
   refine EndsW.endQ ?_
   replace hM := hM.front (k := 4) rfl
   replace hM := hM.front (k := 4) rfl
   replace hM := hM.front (k := 4) rfl
   replace hM := hM.front (k := 4) rfl
   replace hM := hM.front (k := 4) rfl
   exact ⟨(), fun x hx => by rw [vs_app] at hx; rcases List.mem_append.1 hx with h9 | h9; exact hs9 x h9; rcases List.mem_singleton.1 h9 with rfl; exact decide_eq_false hc10, hM⟩
 ·
  clear hM hqx htx hGl hGx
  rintro D11 xs u9 w9 hS9 hs9 hM
  replace hM : Mem _ _ [dfr D11, pt bs #[.slice oa ops.length oc, v1, v2, v3] 58, K, pt b1 #[.pointer (some ⟨bs, 0, none⟩)] 55, pt b5 #[.int .i64 ((m0 : Int))] 3, pt b7 #[.bool false] 4, pt bx9 #[.int .u64 (loW (woF f m0)), .int .u64 (hiW (woF f m0))] 61, pt b3 #[.int .u64 (loW f), .int .u64 (hiW f)] 61] _ := hM
  have hmp := may_yes (ops := ops) (f := f) (m := m0) (by rw [← (show vs xs = eL (woF f m0) 0 from hS9)]; exact hs9)
  refine EndsW.inBlock ?_
  refine EndsW.seq ?_
  refine EndsW.region ?_
  refine S.store (k := 5) hA hM sz4 rfl rfl rfl rfl rfl ?_; clear hM
  intro w10 hM
  replace hM : Mem _ _ [dfr D11, pt bs #[.slice oa ops.length oc, v1, v2, v3] 58, K, pt b1 #[.pointer (some ⟨bs, 0, none⟩)] 55, pt b5 #[.int .i64 ((m0 : Int))] 3, pt b7 #[.bool true] 4, pt bx9 #[.int .u64 (loW (woF f m0)), .int .u64 (hiW (woF f m0))] 61, pt b3 #[.int .u64 (loW f), .int .u64 (hiW f)] 61] _ := hM
  refine S.doneW ?_
  replace hA : St 30 [(6, _)] a := hA.sub ((.cons rfl .nil))
  refine EndsW.retQ ?_
  refine leaveF hA.defers hM (fun w11 hM => ⟨(hA.cellRes (kk := 4) hM Tryd.results32 rfl rfl sz4), ?_⟩)
  replace hM : Mem _ _ [pt bs #[.slice oa ops.length oc, v1, v2, v3] 58, K, pt b1 #[.pointer (some ⟨bs, 0, none⟩)] 55, pt b5 #[.int .i64 ((m0 : Int))] 3, pt b7 #[.bool true] 4, pt bx9 #[.int .u64 (loW (woF f m0)), .int .u64 (hiW (woF f m0))] 61, pt b3 #[.int .u64 (loW f), .int .u64 (hiW f)] 61] _ := hM
  replace hM := hM.front (k := 1) rfl
  replace hM := hM.front (k := 1) rfl
  replace hM := hM.firstN 2
  exact ⟨by rw [hmp], hM⟩
 ·
  clear hM hqx htx hGl hGx
  rintro D12 c9 pre u9 w12 hS9 hx9 hM
  replace hM : Mem _ _ [dfr D12, pt bs #[.slice oa ops.length oc, v1, v2, v3] 58, K, pt b1 #[.pointer (some ⟨bs, 0, none⟩)] 55, pt b5 #[.int .i64 ((m0 : Int))] 3, pt b7 #[.bool false] 4, pt bx9 #[.int .u64 (loW (woF f m0)), .int .u64 (hiW (woF f m0))] 61, pt b3 #[.int .u64 (loW f), .int .u64 (hiW f)] 61] _ := hM
  obtain ⟨hce, hx9⟩ := hx9
  subst hce
  have hmp := may_not (ops := ops) (f := f) (m := m0) hS9 hx9
  refine EndsW.retQ ?_
  refine leaveF hA.defers hM (fun w13 hM => ⟨(hA.cellRes (kk := 4) hM Tryd.results32 rfl rfl sz4), ?_⟩)
  replace hM : Mem _ _ [pt bs #[.slice oa ops.length oc, v1, v2, v3] 58, K, pt b1 #[.pointer (some ⟨bs, 0, none⟩)] 55, pt b5 #[.int .i64 ((m0 : Int))] 3, pt b7 #[.bool false] 4, pt bx9 #[.int .u64 (loW (woF f m0)), .int .u64 (hiW (woF f m0))] 61, pt b3 #[.int .u64 (loW f), .int .u64 (hiW f)] 61] _ := hM
  replace hM := hM.front (k := 1) rfl
  replace hM := hM.front (k := 1) rfl
  replace hM := hM.firstN 2
  exact ⟨by rw [hmp], hM⟩
def FindAt (ops : List HOp) (oa : Option Addr) (oc bs mb : Nat) (n : Nat) : Prop :=
  ∀ (f : Nat → Bool) (X : List Int) (d : Ded) (U : List Int) (ba : Option Addr) (bc : Nat) (ua : Option Addr) (uc : Nat) (K : Ck) (o : Option (List Int)) (d' : Ded) (hfe : fnd ops n f X d = (o, d')) (hf : ∀ b, f b = true → b < ops.length) (hn : (eL f 0).length ≤ n) (hX : X.length + n ≤ 500) (hU : U.length + n ≤ 200) (hK : ∀ w, K.holds w → IntSl w (.slice ba X.length bc) X ∧ RowSl w (.slice oa ops.length oc) 4 ops.length (hopv ops)) (w : World) (htab : Lib.TabIs Tryd.prog w "math/bits.deBruijn64tab" .u8 debT) (hG : ¬ (feet [pt bs #[.slice oa ops.length oc, .slice ba X.length bc, .slice ua U.length uc, .map (some mb)] 58, own 3 1 (.slice ua U.length uc) U.length (U.map (Value.int .i64)), mpc mb d, K]) 0) (hM0 : Mem w (feet [pt bs #[.slice oa ops.length oc, .slice ba X.length bc, .slice ua U.length uc, .map (some mb)] 58, own 3 1 (.slice ua U.length uc) U.length (U.map (Value.int .i64)), mpc mb d, K]) [pt bs #[.slice oa ops.length oc, .slice ba X.length bc, .slice ua U.length uc, .map (some mb)] 58, own 3 1 (.slice ua U.length uc) U.length (U.map (Value.int .i64)), mpc mb d, K] w),
    Calls Tryd.prog 21 #[.pointer (some ⟨bs, 0, none⟩), .agg #[.int .u64 (loW f), .int .u64 (hiW f)]] w (fun e w' => ∃ ba' bn' bc' ua' uc', e = .returned (.bool o.isSome) ∧ (o = none → ba = ba' ∧ X.length = bn' ∧ bc = bc') ∧ Mem w (feet [pt bs #[.slice oa ops.length oc, .slice ba X.length bc, .slice ua U.length uc, .map (some mb)] 58, own 3 1 (.slice ua U.length uc) U.length (U.map (Value.int .i64)), mpc mb d, K]) [pt bs #[.slice oa ops.length oc, .slice ba' bn' bc', .slice ua' (outO U o).length uc', .map (some mb)] 58, own 3 1 (.slice ua' (outO U o).length uc') (outO U o).length ((outO U o).map (Value.int .i64)), mpc mb d', K] w')
theorem app_take {l m : List Int} (h : l = m.take l.length) : l ++ m.drop l.length = m := by
  have h1 := List.take_append_drop l.length m
  rw [← h] at h1; exact h1
set_option maxRecDepth 100000 in
set_option maxHeartbeats 1000000 in
theorem find_step (ops : List HOp) (hol : ops.length ≤ 12) (oa : Option Addr) (oc bs mb : Nat) (n : Nat) (ih : ∀ k, n = k + 1 → FindAt ops oa oc bs mb k) (f : Nat → Bool) (X : List Int) (d : Ded) (U : List Int) (ba : Option Addr) (bc : Nat) (ua : Option Addr) (uc : Nat) (K : Ck) (o : Option (List Int)) (d' : Ded) (hfe : fnd ops n f X d = (o, d')) (hf : ∀ b, f b = true → b < ops.length) (hn : (eL f 0).length ≤ n) (hX : X.length + n ≤ 500) (hU : U.length + n ≤ 200) (hK : ∀ w, K.holds w → IntSl w (.slice ba X.length bc) X ∧ RowSl w (.slice oa ops.length oc) 4 ops.length (hopv ops)) (w : World) (htab : Lib.TabIs Tryd.prog w "math/bits.deBruijn64tab" .u8 debT) (hG : ¬ (feet [pt bs #[.slice oa ops.length oc, .slice ba X.length bc, .slice ua U.length uc, .map (some mb)] 58, own 3 1 (.slice ua U.length uc) U.length (U.map (Value.int .i64)), mpc mb d, K]) 0) (hM0 : Mem w (feet [pt bs #[.slice oa ops.length oc, .slice ba X.length bc, .slice ua U.length uc, .map (some mb)] 58, own 3 1 (.slice ua U.length uc) U.length (U.map (Value.int .i64)), mpc mb d, K]) [pt bs #[.slice oa ops.length oc, .slice ba X.length bc, .slice ua U.length uc, .map (some mb)] 58, own 3 1 (.slice ua U.length uc) U.length (U.map (Value.int .i64)), mpc mb d, K] w) :
  Calls Tryd.prog 21 #[.pointer (some ⟨bs, 0, none⟩), .agg #[.int .u64 (loW f), .int .u64 (hiW f)]] w fun e w' => ∃ ba' bn' bc' ua' uc', e = .returned (.bool o.isSome) ∧ (o = none → ba = ba' ∧ X.length = bn' ∧ bc = bc') ∧ Mem w (feet [pt bs #[.slice oa ops.length oc, .slice ba X.length bc, .slice ua U.length uc, .map (some mb)] 58, own 3 1 (.slice ua U.length uc) U.length (U.map (Value.int .i64)), mpc mb d, K]) [pt bs #[.slice oa ops.length oc, .slice ba' bn' bc', .slice ua' (outO U o).length uc', .map (some mb)] 58, own 3 1 (.slice ua' (outO U o).length uc') (outO U o).length ((outO U o).map (Value.int .i64)), mpc mb d', K] w' := by
 have hbs := Below.refl (B := w.heap.size) w
 have hM := hM0
 refine Calls.of_endsW (vs := [.pointer (some ⟨bs, 0, none⟩), .agg #[.int .u64 (loW f), .int .u64 (hiW f)]]) 9 Tryd.func21 rfl Tryd.ntmps21 rfl ?_
 intro a hA
 replace hA : St 75 [(0, _), (1, _)] a := hA
 refine EndsW.seq ?_
 refine EndsW.region ?_
 refine S.box hA hM rfl rfl ?_; clear hA hM a; intro b1 w1 hb2 hM a hA
 replace hM : Mem _ _ [pt b1 #[.pointer (some ⟨bs, 0, none⟩)] 55, pt bs #[.slice oa ops.length oc, .slice ba X.length bc, .slice ua U.length uc, .map (some mb)] 58, own 3 1 (.slice ua U.length uc) U.length (U.map (Value.int .i64)), mpc mb d, K] _ := hM
 refine S.box hA hM rfl rfl ?_; clear hA hM a; intro b3 w2 hb4 hM a hA
 replace hM : Mem _ _ [pt b3 #[.int .u64 (loW f), .int .u64 (hiW f)] 61, pt b1 #[.pointer (some ⟨bs, 0, none⟩)] 55, pt bs #[.slice oa ops.length oc, .slice ba X.length bc, .slice ua U.length uc, .map (some mb)] 58, own 3 1 (.slice ua U.length uc) U.length (U.map (Value.int .i64)), mpc mb d, K] _ := hM
 refine S.alloc hA hM info4 rfl rfl ?_; clear hA hM a; intro b5 w3 hb6 hM a hA
 replace hM : Mem _ _ [pt b5 #[.bool false] 4, pt b3 #[.int .u64 (loW f), .int .u64 (hiW f)] 61, pt b1 #[.pointer (some ⟨bs, 0, none⟩)] 55, pt bs #[.slice oa ops.length oc, .slice ba X.length bc, .slice ua U.length uc, .map (some mb)] 58, own 3 1 (.slice ua U.length uc) U.length (U.map (Value.int .i64)), mpc mb d, K] _ := hM
 refine S.doneW ?_
 refine EndsW.seq ?_
 refine EndsW.seq ?_
 refine EndsW.region ?_
 refine S.val hA (R.loadA sz61 rfl (hM.range (k := 1) rfl) rfl) rfl ?_; clear hA a; intro a hA
 refine S.val hA (R.build (cells := #[.int .u64 0, .int .u64 0]) rfl (by kernel_rfl)) rfl ?_; clear hA a; intro a hA
 refine S.val hA (R.eqlS (b := decide (loW f = 0 ∧ hiW f = 0)) Tryd.eqGuardType61 (fun w => eq_set _ _ _ _ w) rfl rfl) rfl ?_; clear hA a; intro a hA
 refine S.doneW ?_
 replace hA : St 75 [(2, _), (3, _), (4, _), (10, _)] a := hA.sub ((.cons rfl (.cons rfl (.cons rfl (.cons rfl .nil)))))
 refine EndsW.ite hA rfl (fun hc7 => ?_) (fun hc7 => ?_)
 ·
  have hz9 := hc7
  refine EndsW.seq ?_
  refine EndsW.region ?_
  refine S.store (k := 0) hA hM sz4 rfl rfl rfl rfl rfl ?_; clear hM
  intro w4 hM
  replace hM : Mem _ _ [pt b5 #[.bool true] 4, pt b3 #[.int .u64 (loW f), .int .u64 (hiW f)] 61, pt b1 #[.pointer (some ⟨bs, 0, none⟩)] 55, pt bs #[.slice oa ops.length oc, .slice ba X.length bc, .slice ua U.length uc, .map (some mb)] 58, own 3 1 (.slice ua U.length uc) U.length (U.map (Value.int .i64)), mpc mb d, K] _ := hM
  refine S.doneW ?_
  refine EndsW.retQ ?_
  refine leave0 hA.defers (hA.cellRes (kk := 0) hM Tryd.results21 rfl rfl sz4) ?_
  replace hM := hM.front (k := 6) rfl
  replace hM := hM.front (k := 6) rfl
  replace hM := hM.front (k := 6) rfl
  replace hM := hM.front (k := 6) rfl
  replace hM := hM.firstN 4
  rw [fnd_zero (Prod.ext hz9.1 hz9.2)] at hfe
  cases hfe
  exact ⟨ba, X.length, bc, ua, uc, rfl, fun h => (by cases h), (by rw [show outO U (some []) = U from List.append_nil U]; exact hM)⟩
 ·
  have hz9 := hc7
  obtain ⟨n', hn'⟩ : ∃ n', n = n' + 1 := ⟨n - 1, by have h9 : (eL f 0).length ≠ 0 := fun e => hz9 (by have := key_nil.2 (List.length_eq_zero_iff.1 e); exact ⟨congrArg Prod.fst this, congrArg Prod.snd this⟩); omega⟩
  subst hn'
  rw [fnd, if_neg (fun e => hz9 ⟨congrArg Prod.fst e, congrArg Prod.snd e⟩)] at hfe
  refine EndsW.skip ?_
  refine EndsW.seq ?_
  refine EndsW.seq ?_
  refine EndsW.drawn (Mem w (feet [pt bs #[.slice oa ops.length oc, .slice ba X.length bc, .slice ua U.length uc, .map (some mb)] 58, own 3 1 (.slice ua U.length uc) U.length (U.map (Value.int .i64)), mpc mb d, K]) [pt b5 #[.bool false] 4, pt b3 #[.int .u64 (loW f), .int .u64 (hiW f)] 61, pt b1 #[.pointer (some ⟨bs, 0, none⟩)] 55, pt bs #[.slice oa ops.length oc, .slice ba X.length bc, .slice ua U.length uc, .map (some mb)] 58, own 3 1 (.slice ua U.length uc) U.length (U.map (Value.int .i64)), K]) (.cons (0, true) (.cons (1, true) (.cons (2, true) (.cons (3, true) (.cons (4, true) (.cons (5, false) .nil)))))) 6 mixed (by kernel_rfl) (by kernel_rfl) (by kernel_rfl) (hM.drop 5).drew ?_
  replace hM := hM.drew
  refine D.val hA rfl (by kernel_rfl) (fun _ hM => R.load sz55 rfl (hM.cell (k := 2) rfl rfl)) rfl ?_; clear hA a; intro a hA
  refine D.valF hA rfl (fun _ => R.nilCheck rfl) rfl ?_; clear hA a; intro a hA
  refine D.valF hA rfl (fun _ => R.fieldAddr (q := 3) fi58_3 rfl rfl rfl) rfl ?_; clear hA a; intro a hA
  refine D.val hA rfl (by kernel_rfl) (fun _ hM => R.load sz56 rfl (hM.cell (k := 3) rfl rfl)) rfl ?_; clear hA a; intro a hA
  refine D.val hA rfl (by kernel_rfl) (fun _ hM => R.loadA sz61 rfl (hM.range (k := 1) rfl) rfl) rfl ?_; clear hA a; intro a hA
  refine D.eff hA rfl (R.lookM (p := keyF f) (k := 5) hM rfl rfl rfl) rfl (hM.drop 5) ?_; clear hA a; intro a hA
  refine D.doneW ?_
  replace hA : St 75 [(2, _), (3, _), (4, _), (16, _)] a := hA.sub ((.cons rfl (.cons rfl (.cons rfl (.cons rfl .nil)))))
  refine EndsW.ite hA rfl (fun hc8 => ?_) (fun hc8 => ?_)
  ·
   rw [if_pos hc8] at hfe
   refine EndsW.seq ?_
   refine EndsW.region ?_
   refine S.store (k := 0) hA hM sz4 rfl rfl rfl rfl rfl ?_; clear hM
   intro w5 hM
   replace hM : Mem _ _ [pt b5 #[.bool false] 4, pt b3 #[.int .u64 (loW f), .int .u64 (hiW f)] 61, pt b1 #[.pointer (some ⟨bs, 0, none⟩)] 55, pt bs #[.slice oa ops.length oc, .slice ba X.length bc, .slice ua U.length uc, .map (some mb)] 58, own 3 1 (.slice ua U.length uc) U.length (U.map (Value.int .i64)), mpc mb d, K] _ := hM
   refine S.doneW ?_
   refine EndsW.retQ ?_
   refine leave0 hA.defers (hA.cellRes (kk := 0) hM Tryd.results21 rfl rfl sz4) ?_
   replace hM := hM.front (k := 6) rfl
   replace hM := hM.front (k := 6) rfl
   replace hM := hM.front (k := 6) rfl
   replace hM := hM.front (k := 6) rfl
   replace hM := hM.firstN 4
   cases hfe
   exact ⟨ba, X.length, bc, ua, uc, rfl, fun _ => ⟨rfl, rfl, rfl⟩, hM⟩
  ·
   rw [if_neg hc8] at hfe
   refine EndsW.skip ?_
   refine EndsW.seq ?_
   refine EndsW.seq ?_
   refine EndsW.region ?_
   refine S.val hA (R.loadA sz61 rfl (hM.range (k := 1) rfl) rfl) rfl ?_; clear hA a; intro a hA
   refine S.call hA (R.callF Tryd.func31 rfl rfl rfl) rfl (all02 f _) ?_; clear hA a
   rintro e w6 ⟨bx9, rfl, hn⟩
   replace hM : Mem _ _ [pt bx9 #[.int .u64 (loW f), .int .u64 (hiW f)] 61, pt b5 #[.bool false] 4, pt b3 #[.int .u64 (loW f), .int .u64 (hiW f)] 61, pt b1 #[.pointer (some ⟨bs, 0, none⟩)] 55, pt bs #[.slice oa ops.length oc, .slice ba X.length bc, .slice ua U.length uc, .map (some mb)] 58, own 3 1 (.slice ua U.length uc) U.length (U.map (Value.int .i64)), mpc mb d, K] _ := hM.call hn; clear hn
   refine ⟨.func (.func 42) #[] #[.pointer (some ⟨bx9, 0, none⟩)], rfl, fun a hA => ?_⟩
   refine S.doneW ?_
   refine EndsW.block ?_
   replace hM := hM.front (k := 1) rfl
   replace hM := hM.front (k := 2) rfl
   replace hM := hM.front (k := 3) rfl
   replace hM := hM.front (k := 7) rfl
   replace hM := hM.front (k := 7) rfl
   replace hM := hM.front (k := 7) rfl
   replace hM := hM.front (k := 7) rfl
   have hqx := hM.block (k := 7) rfl
   have htx := (tab_at htab (g := 0) (by kernel_rfl) (hM.old _ (tab_lt htab (by kernel_rfl)) hG))
   have hGx := hM.notFoot (tab_lt htab (by kernel_rfl)) hG
   have hGl : ¬ feet [pt bs #[.slice oa ops.length oc, .slice ba X.length bc, .slice ua U.length uc, .map (some mb)] 58, own 3 1 (.slice ua U.length uc) U.length (U.map (Value.int .i64)), mpc mb d, K, pt b1 #[.pointer (some ⟨bs, 0, none⟩)] 55, pt b3 #[.int .u64 (loW f), .int .u64 (hiW f)] 61, pt b5 #[.bool false] 4] 0 := fun ⟨c9, h9, hf9⟩ => hGx ⟨c9, List.mem_append_left [pt bx9 #[.int .u64 (loW f), .int .u64 (hiW f)] 61] h9, hf9⟩
   replace hM : Mem _ _ ([pt bs #[.slice oa ops.length oc, .slice ba X.length bc, .slice ua U.length uc, .map (some mb)] 58, own 3 1 (.slice ua U.length uc) U.length (U.map (Value.int .i64)), mpc mb d, K, pt b1 #[.pointer (some ⟨bs, 0, none⟩)] 55, pt b3 #[.int .u64 (loW f), .int .u64 (hiW f)] 61, pt b5 #[.bool false] 4] ++ [pt bx9 #[.int .u64 (loW f), .int .u64 (hiW f)] 61]) _ := hM
   refine EndsW.rangeG (σ := Ded × Option Addr × Nat × List Int × Option Addr × Nat × Nat × Bool) (enc := fun x : Mb f => .int .i64 x.1) (NN := 128) (Kb := fun q => q = bx9 ∨ q = 0) (L := [pt bs #[.slice oa ops.length oc, .slice ba X.length bc, .slice ua U.length uc, .map (some mb)] 58, own 3 1 (.slice ua U.length uc) U.length (U.map (Value.int .i64)), mpc mb d, K, pt b1 #[.pointer (some ⟨bs, 0, none⟩)] 55, pt b3 #[.int .u64 (loW f), .int .u64 (hiW f)] 61, pt b5 #[.bool false] 4]) (M := [pt bx9 #[.int .u64 (loW f), .int .u64 (hiW f)] 61]) (fun (d9, ua9, uc9, U9, ba9, bn9, bc9, r9) => [pt bs #[.slice oa ops.length oc, .slice ba9 bn9 bc9, .slice ua9 U9.length uc9, .map (some mb)] 58, own 3 1 (.slice ua9 U9.length uc9) U9.length (U9.map (Value.int .i64)), mpc mb d9, K, pt b1 #[.pointer (some ⟨bs, 0, none⟩)] 55, pt b3 #[.int .u64 (loW f), .int .u64 (hiW f)] 61, pt b5 #[.bool r9] 4]) (fun pre s => match s with | (d9, ua9, uc9, U9, ba9, bn9, bc9, r9) => U = U9 ∧ ba = ba9 ∧ X.length = bn9 ∧ bc = bc9 ∧ false = r9 ∧ ∀ rest, vs pre ++ rest = eL f 0 → fgo ops f X (fnd ops n') rest d9 = fgo ops f X (fnd ops n') (eL f 0) d) (fun c pre s => match s with | (d9, ua9, uc9, U9, ba9, bn9, bc9, r9) => c = .ret ∧ true = r9 ∧ ∀ rest, vs pre ++ rest = eL f 0 → ∃ r, fgo ops f X (fnd ops n') (eL f 0) d = (some r, d9) ∧ U9 = U ++ r) (d, ua, uc, U, ba, X.length, bc, false) hA hM (by decide) rfl rfl rfl (enters_fn Tryd.func42 (by kernel_rfl) rfl) (seq02M f bx9 _ (.inl rfl) (.inr rfl) _ hqx htx) ?_ ?_ ⟨rfl, rfl, rfl, rfl, rfl, fun rest hr => by rw [show rest = eL f 0 from hr]⟩ rfl ?_ ?_ ?_
   ·
    rintro q (e9 | e9)
    · rw [e9]; exact ⟨(Array.getElem?_eq_some_iff.1 hqx).1, Mem.apartL (L := [pt bs #[.slice oa ops.length oc, .slice ba X.length bc, .slice ua U.length uc, .map (some mb)] 58, own 3 1 (.slice ua U.length uc) U.length (U.map (Value.int .i64)), mpc mb d, K, pt b1 #[.pointer (some ⟨bs, 0, none⟩)] 55, pt b3 #[.int .u64 (loW f), .int .u64 (hiW f)] 61, pt b5 #[.bool false] 4]) (M := [pt bx9 #[.int .u64 (loW f), .int .u64 (hiW f)] 61]) hM (.head _) rfl⟩
    · rw [e9]; exact ⟨tab_lt htx (by kernel_rfl), hGl⟩
   ·
    rintro ⟨d9, ua9, uc9, U9, ba9, bn9, bc9, r9⟩ c9 hc9
    rcases List.mem_cons.1 hc9 with rfl | hc9
    · exact pt_cellsB _ _ _ _
    rcases List.mem_cons.1 hc9 with rfl | hc9
    · exact own_cellsB _ _ _ _ _ _
    rcases List.mem_cons.1 hc9 with rfl | hc9
    · exact fun w9 b9 _ hb9 => .inl (hM.inb _ (.tail _ (.tail _ (.head _))) b9 hb9).1
    rcases List.mem_cons.1 hc9 with rfl | hc9
    · exact fun w9 b9 _ hb9 => .inl (hM.inb _ (.tail _ (.tail _ (.tail _ (.head _)))) b9 hb9).1
    rcases List.mem_cons.1 hc9 with rfl | hc9
    · exact pt_cellsB _ _ _ _
    rcases List.mem_cons.1 hc9 with rfl | hc9
    · exact pt_cellsB _ _ _ _
    rcases List.mem_cons.1 hc9 with rfl | hc9
    · exact pt_cellsB _ _ _ _
    cases hc9
   ·
    clear hA hM a hqx
    rintro l9 pre ⟨_, m, rfl, ml, mf⟩ ⟨d9, ua9, uc9, U9, ba9, bn9, bc9, r9⟩ w7 hs9 hlen hM0 a hA
    have htab := tab_at htx (g := 0) (by kernel_rfl) (hM0.old _ (tab_lt htx (by kernel_rfl)) hGl)
    have hG := hM0.notFoot (tab_lt htx (by kernel_rfl)) hGl
    have hM := hM0.here
    clear htx hGl hGx hM0
    replace hM : Mem _ (feet [pt bs #[.slice oa ops.length oc, .slice ba9 bn9 bc9, .slice ua9 U9.length uc9, .map (some mb)] 58, own 3 1 (.slice ua9 U9.length uc9) U9.length (U9.map (Value.int .i64)), mpc mb d9, K, pt b1 #[.pointer (some ⟨bs, 0, none⟩)] 55, pt b3 #[.int .u64 (loW f), .int .u64 (hiW f)] 61, pt b5 #[.bool r9] 4]) [pt bs #[.slice oa ops.length oc, .slice ba9 bn9 bc9, .slice ua9 U9.length uc9, .map (some mb)] 58, own 3 1 (.slice ua9 U9.length uc9) U9.length (U9.map (Value.int .i64)), mpc mb d9, K, pt b1 #[.pointer (some ⟨bs, 0, none⟩)] 55, pt b3 #[.int .u64 (loW f), .int .u64 (hiW f)] 61, pt b5 #[.bool r9] 4] _ := hM
    replace hA : St 75 [(2, .pointer (some ⟨b1, 0, none⟩)), (3, .pointer (some ⟨b3, 0, none⟩)), (4, .pointer (some ⟨b5, 0, none⟩)), (5, .int .i64 ((m : Int))), (19, .int .i64 ((m : Int)))] a := hA.sub ((.cons rfl (.cons rfl (.cons rfl (.cons rfl (.cons rfl .nil))))))
    obtain ⟨rfl, rfl, rfl, rfl, rfl, hs9⟩ := hs9
    replace hM : Mem _ _ [pt bs #[.slice oa ops.length oc, .slice ba X.length bc, .slice ua9 U.length uc9, .map (some mb)] 58, own 3 1 (.slice ua9 U.length uc9) U.length (U.map (Value.int .i64)), mpc mb d9, K, pt b1 #[.pointer (some ⟨bs, 0, none⟩)] 55, pt b3 #[.int .u64 (loW f), .int .u64 (hiW f)] 61, pt b5 #[.bool false] 4] _ := hM
    replace hM : Mem _ (feet [pt bs #[.slice oa ops.length oc, .slice ba X.length bc, .slice ua9 U.length uc9, .map (some mb)] 58, own 3 1 (.slice ua9 U.length uc9) U.length (U.map (Value.int .i64)), mpc mb d9, K, pt b1 #[.pointer (some ⟨bs, 0, none⟩)] 55, pt b3 #[.int .u64 (loW f), .int .u64 (hiW f)] 61, pt b5 #[.bool false] 4]) [pt bs #[.slice oa ops.length oc, .slice ba X.length bc, .slice ua9 U.length uc9, .map (some mb)] 58, own 3 1 (.slice ua9 U.length uc9) U.length (U.map (Value.int .i64)), mpc mb d9, K, pt b1 #[.pointer (some ⟨bs, 0, none⟩)] 55, pt b3 #[.int .u64 (loW f), .int .u64 (hiW f)] 61, pt b5 #[.bool false] 4] _ := hM
    replace hG : ¬ (feet [pt bs #[.slice oa ops.length oc, .slice ba X.length bc, .slice ua9 U.length uc9, .map (some mb)] 58, own 3 1 (.slice ua9 U.length uc9) U.length (U.map (Value.int .i64)), mpc mb d9, K, pt b1 #[.pointer (some ⟨bs, 0, none⟩)] 55, pt b3 #[.int .u64 (loW f), .int .u64 (hiW f)] 61, pt b5 #[.bool false] 4]) 0 := hG
    have mlt : m < ops.length := hf m mf
    have hwo := eL_wo ml mf
    refine EndsW.block ?_
    refine EndsW.seq ?_
    refine EndsW.seq ?_
    refine EndsW.region ?_
    refine S.val hA (R.load sz55 rfl (hM.cell (k := 4) rfl rfl)) rfl ?_; clear hA a; intro a hA
    refine S.val hA (R.loadA sz61 rfl (hM.range (k := 5) rfl) rfl) rfl ?_; clear hA a; intro a hA
    refine S.val hA (R.move rfl) rfl ?_; clear hA a; intro a hA
    replace hM := hM.front (k := 3) rfl
    replace hM := hM.front (k := 1) rfl
    replace hM : Mem _ _ [pt bs #[.slice oa ops.length oc, .slice ba X.length bc, .slice ua9 U.length uc9, .map (some mb)] 58, K, own 3 1 (.slice ua9 U.length uc9) U.length (U.map (Value.int .i64)), mpc mb d9, pt b1 #[.pointer (some ⟨bs, 0, none⟩)] 55, pt b3 #[.int .u64 (loW f), .int .u64 (hiW f)] 61, pt b5 #[.bool false] 4] _ := hM
    refine S.call hA (R.callF Tryd.func32 rfl rfl rfl) rfl (may21 ops oa oc f m mlt hf hol bs (.slice ba X.length bc) (.slice ua9 U.length uc9) (.map (some mb)) K (fun w h => (hK w h).2) _ (tab_at htab (g := 0) (by kernel_rfl) (hM.old _ (tab_lt htab (by kernel_rfl)) hG)) ((hM.firstN 2).notFoot (tab_lt htab (by kernel_rfl)) hG) (hM.hereN 2)) ?_; clear hA a
    rintro e w8 ⟨rfl, hn⟩
    replace hM : Mem _ _ [pt bs #[.slice oa ops.length oc, .slice ba X.length bc, .slice ua9 U.length uc9, .map (some mb)] 58, K, own 3 1 (.slice ua9 U.length uc9) U.length (U.map (Value.int .i64)), mpc mb d9, pt b1 #[.pointer (some ⟨bs, 0, none⟩)] 55, pt b3 #[.int .u64 (loW f), .int .u64 (hiW f)] 61, pt b5 #[.bool false] 4] _ := hM.callL 2 hn; clear hn
    refine ⟨.bool ((mayP ops f m)), rfl, fun a hA => ?_⟩
    refine S.val hA (R.not rfl) rfl ?_; clear hA a; intro a hA
    refine S.doneW ?_
    replace hA : St 75 [(2, _), (3, _), (4, _), (5, _), (24, _)] a := hA.sub ((.cons rfl (.cons rfl (.cons rfl (.cons rfl (.cons rfl .nil))))))
    refine EndsW.iteB hA rfl (fun hc10 => ?_) (fun hc10 => ?_)
    ·
     have hmay : mayP ops f m = false := by simpa using hc10
     refine EndsW.exit rfl ?_
     replace hA : St 75 [(4, _)] a := hA.sub ((.cons rfl .nil))
     refine EndsW.endQ ?_
     replace hM := hM.front (k := 6) rfl
     replace hM := hM.front (k := 6) rfl
     replace hM := hM.front (k := 6) rfl
     replace hM := hM.front (k := 4) rfl
     replace hM := hM.front (k := 6) rfl
     replace hM := hM.front (k := 6) rfl
     replace hM := hM.front (k := 6) rfl
     replace hM := hM.firstN 7
     have hst : ∀ rest, vs (pre ++ [⟨(m : Int), m, rfl, ml, mf⟩]) ++ rest = eL f 0 → vs pre ++ ((m : Int) :: rest) = eL f 0 := fun rest hr => by rw [vs_app] at hr; rw [← hr]; simp
     exact ⟨(d9, ua9, uc9, U, ba, X.length, bc, false), ⟨rfl, rfl, rfl, rfl, rfl, fun rest hr => by rw [← hs9 _ (hst rest hr)]; exact (fgo_no hmay).symm⟩, hM⟩
    ·
     have hmay : mayP ops f m = true := by simpa using hc10
     refine EndsW.skip ?_
     refine EndsW.seq ?_
     by_cases hs11 : doP (hop ops m) X = none
     ·
      have hdo := hs11
      replace hM := hM.front (k := 1) rfl
      replace hM := hM.front (k := 1) rfl
      refine EndsW.drawn (fun wv => ∃ v9, Mem w7 (feet [pt bs #[.slice oa ops.length oc, .slice ba X.length bc, .slice ua9 U.length uc9, .map (some mb)] 58, own 3 1 (.slice ua9 U.length uc9) U.length (U.map (Value.int .i64)), mpc mb d9, K, pt b1 #[.pointer (some ⟨bs, 0, none⟩)] 55, pt b3 #[.int .u64 (loW f), .int .u64 (hiW f)] 61, pt b5 #[.bool false] 4]) [pt bs #[.slice oa ops.length oc, v9, .slice ua9 U.length uc9, .map (some mb)] 58, K, pt b1 #[.pointer (some ⟨bs, 0, none⟩)] 55, pt b3 #[.int .u64 (loW f), .int .u64 (hiW f)] 61, pt b5 #[.bool false] 4] wv) (.cons (0, true) (.cons (1, true) (.cons (2, true) (.cons (3, true) (.cons (4, true) (.cons (5, true) (.cons (6, true) (.cons (7, true) (.cons (8, false) (.cons (9, true) (.cons (10, true) (.cons (11, true) (.cons (12, true) (.cons (13, true) .nil)))))))))))))) 14 mixed (by kernel_rfl) (by kernel_rfl) (by kernel_rfl) ⟨_, ((hM.drop 3).drop 2).drew⟩ ?_
      replace hM := hM.drew
      refine D.val hA rfl (by kernel_rfl) (fun _ ⟨_, hM⟩ => R.load sz55 rfl (hM.cell (k := 2) rfl rfl)) rfl ?_; clear hA a; intro a hA
      refine D.val hA rfl (by kernel_rfl) (fun _ ⟨_, hM⟩ => R.load sz55 rfl (hM.cell (k := 2) rfl rfl)) rfl ?_; clear hA a; intro a hA
      refine D.valF hA rfl (fun _ => R.nilCheck rfl) rfl ?_; clear hA a; intro a hA
      refine D.valF hA rfl (fun _ => R.fieldAddr (q := 0) fi58_0 rfl rfl rfl) rfl ?_; clear hA a; intro a hA
      refine D.val hA rfl (by kernel_rfl) (fun _ ⟨_, hM⟩ => R.load sz23 rfl (hM.cell (k := 0) rfl rfl)) rfl ?_; clear hA a; intro a hA
      refine D.valF hA rfl (fun _ => R.move rfl) rfl ?_; clear hA a; intro a hA
      refine D.valF hA rfl (fun _ => R.idxRow ((hK _ (hM.mem (k := 1) rfl)).2) (j := m) sl23 rfl rfl (by omega) (rfl)) rfl ?_; clear hA a; intro a hA
      refine D.val hA rfl (by kernel_rfl) (fun _ ⟨_, hM⟩ => R.loadHop ((hK _ (hM.mem (k := 1) rfl)).2) (by omega) sz26 rfl) rfl ?_; clear hA a; intro a hA
      refine D.call hA rfl (R.callF Tryd.func33 rfl rfl rfl) rfl (do21n (hop ops m) bs ba X bc (.slice oa ops.length oc) (.slice ua9 U.length uc9) (.map (some mb)) K (fun w h => (hK w h).1) (by omega) _ (hM.hereN 2) hdo) ?_; clear hA a
      rintro e w9 ⟨rfl, hn⟩
      replace hM : Mem _ _ [pt bs #[.slice oa ops.length oc, .slice ba X.length bc, .slice ua9 U.length uc9, .map (some mb)] 58, K, own 3 1 (.slice ua9 U.length uc9) U.length (U.map (Value.int .i64)), mpc mb d9, pt b1 #[.pointer (some ⟨bs, 0, none⟩)] 55, pt b3 #[.int .u64 (loW f), .int .u64 (hiW f)] 61, pt b5 #[.bool false] 4] _ := hM.callL 2 hn; clear hn
      refine ⟨.tuple #[.nilFunc, .bool false], rfl, ⟨_, ((hM.drop 3).drop 2)⟩, fun a hA => ?_⟩
      refine D.valF hA rfl (fun _ => R.move rfl) rfl ?_; clear hA a; intro a hA
      refine D.valF hA rfl (fun _ => R.extract (v := .nilFunc) rfl rfl) rfl ?_; clear hA a; intro a hA
      refine D.valF hA rfl (fun _ => R.extract (v := .bool false) rfl rfl) rfl ?_; clear hA a; intro a hA
      refine D.valF hA rfl (fun _ => R.assign rfl) rfl ?_; clear hA a; intro a hA
      refine D.valF hA rfl (fun _ => R.assign rfl) rfl ?_; clear hA a; intro a hA
      refine D.doneW ?_
      replace hA : St 75 [(2, _), (3, _), (4, _), (5, _), (6, _), (7, _)] a := hA.sub ((.cons rfl (.cons rfl (.cons rfl (.cons rfl (.cons rfl (.cons rfl .nil)))))))
      refine EndsW.seq ?_
      refine EndsW.seq ?_
      refine EndsW.region ?_
      refine S.val hA (R.move rfl) rfl ?_; clear hA a; intro a hA
      refine S.val hA (R.not rfl) rfl ?_; clear hA a; intro a hA
      refine S.doneW ?_
      refine EndsW.condT hA rfl ?_
      refine EndsW.exit rfl ?_
      replace hA : St 75 [(4, _)] a := hA.sub ((.cons rfl .nil))
      refine EndsW.endQ ?_
      replace hM := hM.front (k := 6) rfl
      replace hM := hM.front (k := 6) rfl
      replace hM := hM.front (k := 6) rfl
      replace hM := hM.front (k := 4) rfl
      replace hM := hM.front (k := 6) rfl
      replace hM := hM.front (k := 6) rfl
      replace hM := hM.front (k := 6) rfl
      replace hM := hM.firstN 7
      have hst : ∀ rest, vs (pre ++ [⟨(m : Int), m, rfl, ml, mf⟩]) ++ rest = eL f 0 → vs pre ++ ((m : Int) :: rest) = eL f 0 := fun rest hr => by rw [vs_app] at hr; rw [← hr]; simp
      exact ⟨(d9, ua9, uc9, U, ba, X.length, bc, false), ⟨rfl, rfl, rfl, rfl, rfl, fun rest hr => by rw [← hs9 _ (hst rest hr)]; exact (fgo_none hmay hdo).symm⟩, hM⟩
     ·
      obtain ⟨Y, hdo⟩ : ∃ Y, doP (hop ops m) X = some Y := by cases hq : doP (hop ops m) X with | none => exact absurd hq hs11 | some Y => exact ⟨Y, rfl⟩
      have hYl := doP_len hdo
      replace hM := hM.front (k := 1) rfl
      replace hM := hM.front (k := 1) rfl
      refine EndsW.drawn (fun wv => ∃ v9, Mem w7 (feet [pt bs #[.slice oa ops.length oc, .slice ba X.length bc, .slice ua9 U.length uc9, .map (some mb)] 58, own 3 1 (.slice ua9 U.length uc9) U.length (U.map (Value.int .i64)), mpc mb d9, K, pt b1 #[.pointer (some ⟨bs, 0, none⟩)] 55, pt b3 #[.int .u64 (loW f), .int .u64 (hiW f)] 61, pt b5 #[.bool false] 4]) [pt bs #[.slice oa ops.length oc, v9, .slice ua9 U.length uc9, .map (some mb)] 58, K, pt b1 #[.pointer (some ⟨bs, 0, none⟩)] 55, pt b3 #[.int .u64 (loW f), .int .u64 (hiW f)] 61, pt b5 #[.bool false] 4] wv) (.cons (0, true) (.cons (1, true) (.cons (2, true) (.cons (3, true) (.cons (4, true) (.cons (5, true) (.cons (6, true) (.cons (7, true) (.cons (8, false) (.cons (9, true) (.cons (10, true) (.cons (11, true) (.cons (12, true) (.cons (13, true) .nil)))))))))))))) 14 mixed (by kernel_rfl) (by kernel_rfl) (by kernel_rfl) ⟨_, ((hM.drop 3).drop 2).drew⟩ ?_
      replace hM := hM.drew
      refine D.val hA rfl (by kernel_rfl) (fun _ ⟨_, hM⟩ => R.load sz55 rfl (hM.cell (k := 2) rfl rfl)) rfl ?_; clear hA a; intro a hA
      refine D.val hA rfl (by kernel_rfl) (fun _ ⟨_, hM⟩ => R.load sz55 rfl (hM.cell (k := 2) rfl rfl)) rfl ?_; clear hA a; intro a hA
      refine D.valF hA rfl (fun _ => R.nilCheck rfl) rfl ?_; clear hA a; intro a hA
      refine D.valF hA rfl (fun _ => R.fieldAddr (q := 0) fi58_0 rfl rfl rfl) rfl ?_; clear hA a; intro a hA
      refine D.val hA rfl (by kernel_rfl) (fun _ ⟨_, hM⟩ => R.load sz23 rfl (hM.cell (k := 0) rfl rfl)) rfl ?_; clear hA a; intro a hA
      refine D.valF hA rfl (fun _ => R.move rfl) rfl ?_; clear hA a; intro a hA
      refine D.valF hA rfl (fun _ => R.idxRow ((hK _ (hM.mem (k := 1) rfl)).2) (j := m) sl23 rfl rfl (by omega) (rfl)) rfl ?_; clear hA a; intro a hA
      refine D.val hA rfl (by kernel_rfl) (fun _ ⟨_, hM⟩ => R.loadHop ((hK _ (hM.mem (k := 1) rfl)).2) (by omega) sz26 rfl) rfl ?_; clear hA a; intro a hA
      refine D.call hA rfl (R.callF Tryd.func33 rfl rfl rfl) rfl (do21s (hop ops m) bs ba X bc (.slice oa ops.length oc) (.slice ua9 U.length uc9) (.map (some mb)) K (fun w h => (hK w h).1) (by omega) _ (hM.hereN 2) hdo) ?_; clear hA a
      rintro e w10 ⟨ya14, yc15, q12, p13, rfl, hn⟩
      replace hM : Mem _ _ [pt bs #[.slice oa ops.length oc, .slice ya14 Y.length yc15, .slice ua9 U.length uc9, .map (some mb)] 58, rd ya14 yc15 Y, pt q12 #[.slice ba X.length bc] 22, pt p13 #[.pointer (some ⟨bs, 0, none⟩)] 55, K, own 3 1 (.slice ua9 U.length uc9) U.length (U.map (Value.int .i64)), mpc mb d9, pt b1 #[.pointer (some ⟨bs, 0, none⟩)] 55, pt b3 #[.int .u64 (loW f), .int .u64 (hiW f)] 61, pt b5 #[.bool false] 4] _ := hM.callL 2 hn; clear hn
      refine ⟨.tuple #[.func (.func 48) #[] #[.pointer (some ⟨q12, 0, none⟩), .pointer (some ⟨p13, 0, none⟩)], .bool true], rfl, ⟨_, (((((hM.drop 6).drop 5).drop 3).drop 2).drop 1)⟩, fun a hA => ?_⟩
      refine D.valF hA rfl (fun _ => R.move rfl) rfl ?_; clear hA a; intro a hA
      refine D.valF hA rfl (fun _ => R.extract (v := .func (.func 48) #[] #[.pointer (some ⟨q12, 0, none⟩), .pointer (some ⟨p13, 0, none⟩)]) rfl rfl) rfl ?_; clear hA a; intro a hA
      refine D.valF hA rfl (fun _ => R.extract (v := .bool true) rfl rfl) rfl ?_; clear hA a; intro a hA
      refine D.valF hA rfl (fun _ => R.assign rfl) rfl ?_; clear hA a; intro a hA
      refine D.valF hA rfl (fun _ => R.assign rfl) rfl ?_; clear hA a; intro a hA
      refine D.doneW ?_
      replace hA : St 75 [(2, _), (3, _), (4, _), (5, _), (6, _), (7, _)] a := hA.sub ((.cons rfl (.cons rfl (.cons rfl (.cons rfl (.cons rfl (.cons rfl .nil)))))))
      refine EndsW.seq ?_
      refine EndsW.seq ?_
      refine EndsW.region ?_
      refine S.val hA (R.move rfl) rfl ?_; clear hA a; intro a hA
      refine S.val hA (R.not rfl) rfl ?_; clear hA a; intro a hA
      refine S.doneW ?_
      refine EndsW.condF hA rfl ?_
      refine EndsW.skip ?_
      refine EndsW.seq ?_
      refine EndsW.drawn (Mem w7 (feet [pt bs #[.slice oa ops.length oc, .slice ba X.length bc, .slice ua9 U.length uc9, .map (some mb)] 58, own 3 1 (.slice ua9 U.length uc9) U.length (U.map (Value.int .i64)), mpc mb d9, K, pt b1 #[.pointer (some ⟨bs, 0, none⟩)] 55, pt b3 #[.int .u64 (loW f), .int .u64 (hiW f)] 61, pt b5 #[.bool false] 4]) [pt bs #[.slice oa ops.length oc, .slice ya14 Y.length yc15, .slice ua9 U.length uc9, .map (some mb)] 58, rd ya14 yc15 Y, pt q12 #[.slice ba X.length bc] 22, pt p13 #[.pointer (some ⟨bs, 0, none⟩)] 55, K, pt b1 #[.pointer (some ⟨bs, 0, none⟩)] 55, pt b3 #[.int .u64 (loW f), .int .u64 (hiW f)] 61, pt b5 #[.bool false] 4]) (.cons (0, true) (.cons (1, true) (.cons (2, true) (.cons (3, true) (.cons (4, true) (.cons (5, true) (.cons (6, false) (.cons (7, false) (.cons (8, true) (.cons (9, true) (.cons (10, false) .nil))))))))))) 10 mixed (by kernel_rfl) (by kernel_rfl) (by kernel_rfl) ((hM.drop 6).drop 5).drew ?_
      replace hM := hM.drew
      refine D.val hA rfl (by kernel_rfl) (fun _ hM => R.load sz55 rfl (hM.cell (k := 5) rfl rfl)) rfl ?_; clear hA a; intro a hA
      refine D.val hA rfl (by kernel_rfl) (fun _ hM => R.load sz55 rfl (hM.cell (k := 5) rfl rfl)) rfl ?_; clear hA a; intro a hA
      refine D.valF hA rfl (fun _ => R.nilCheck rfl) rfl ?_; clear hA a; intro a hA
      refine D.valF hA rfl (fun _ => R.fieldAddr (q := 2) fi58_2 rfl rfl rfl) rfl ?_; clear hA a; intro a hA
      refine D.val hA rfl (by kernel_rfl) (fun _ hM => R.load sz22 rfl (hM.cell (k := 0) rfl rfl)) rfl ?_; clear hA a; intro a hA
      refine D.valF hA rfl (fun _ => R.move rfl) rfl ?_; clear hA a; intro a hA
      refine D.buildSl (cells := #[.int .i64 ((m : Int))]) hA hM rfl Tryd.underlying22 info3 rfl rfl rfl rfl (by kernel_rfl) rfl ?_; clear hA hM a; intro b16 w11 hb17 hM; refine ⟨(fun hM => ((hM.drop 6).drop 5)) hM.tail, fun a hA => ?_⟩
      replace hM : Mem _ _ [pt b16 #[.int .i64 ((m : Int))] 3, pt bs #[.slice oa ops.length oc, .slice ya14 Y.length yc15, .slice ua9 U.length uc9, .map (some mb)] 58, rd ya14 yc15 Y, pt q12 #[.slice ba X.length bc] 22, pt p13 #[.pointer (some ⟨bs, 0, none⟩)] 55, K, own 3 1 (.slice ua9 U.length uc9) U.length (U.map (Value.int .i64)), mpc mb d9, pt b1 #[.pointer (some ⟨bs, 0, none⟩)] 55, pt b3 #[.int .u64 (loW f), .int .u64 (hiW f)] 61, pt b5 #[.bool false] 4] _ := hM
      refine D.append (k := 6) (k2 := 0) hA hM rfl rfl rfl Tryd.underlying22 info3 rfl rfl rfl rfl rfl rfl rfl rfl rfl (by first | omega | (unfold maxLen; omega) | (show (_ + 1) * 8 ≤ (140737488355328 : Nat); omega)) (by first | omega | (unfold maxLen; omega) | (show (_ + 1) * 8 ≤ (140737488355328 : Nat); omega)) rfl ?_; clear hA hM a; intro a18 c19 w12 hM
      replace hM : Mem _ _ [pt b16 #[.int .i64 ((m : Int))] 3, pt bs #[.slice oa ops.length oc, .slice ya14 Y.length yc15, .slice ua9 U.length uc9, .map (some mb)] 58, rd ya14 yc15 Y, pt q12 #[.slice ba X.length bc] 22, pt p13 #[.pointer (some ⟨bs, 0, none⟩)] 55, K, own 3 1 (.slice a18 (U.length + 1) c19) (U.length + 1) (U.map (Value.int .i64) ++ [.int .i64 ((m : Int))]), mpc mb d9, pt b1 #[.pointer (some ⟨bs, 0, none⟩)] 55, pt b3 #[.int .u64 (loW f), .int .u64 (hiW f)] 61, pt b5 #[.bool false] 4] _ := hM
      have hl20 : U.length + 1 = (U ++ [(m : Int)]).length := by simp
      rw [hl20, show U.map (Value.int .i64) ++ [.int .i64 ((m : Int))] = (U ++ [(m : Int)]).map (Value.int .i64) by simp] at hM
      replace hM := hM.drop 0
      replace hM : Mem _ _ [pt bs #[.slice oa ops.length oc, .slice ya14 Y.length yc15, .slice ua9 U.length uc9, .map (some mb)] 58, rd ya14 yc15 Y, pt q12 #[.slice ba X.length bc] 22, pt p13 #[.pointer (some ⟨bs, 0, none⟩)] 55, K, own 3 1 (.slice a18 (((U ++ [(m : Int)])).length) c19) (((U ++ [(m : Int)])).length) (((U ++ [(m : Int)])).map (Value.int .i64)), mpc mb d9, pt b1 #[.pointer (some ⟨bs, 0, none⟩)] 55, pt b3 #[.int .u64 (loW f), .int .u64 (hiW f)] 61, pt b5 #[.bool false] 4] _ := hM
      refine ⟨((hM.drop 6).drop 5), fun a hA => ?_⟩; rw [hl20] at hA; clear hl20
      refine D.valF hA rfl (fun _ => R.nilCheck rfl) rfl ?_; clear hA a; intro a hA
      refine D.valF hA rfl (fun _ => R.fieldAddr (q := 2) fi58_2 rfl rfl rfl) rfl ?_; clear hA a; intro a hA
      refine D.store (k := 0) hA hM rfl sz22 rfl rfl rfl rfl rfl ?_; clear hM
      intro w13 hM; refine ⟨fun _ hne => absurd rfl hne, ?_⟩
      replace hM : Mem _ _ [pt bs #[.slice oa ops.length oc, .slice ya14 Y.length yc15, .slice a18 (((U ++ [(m : Int)])).length) c19, .map (some mb)] 58, rd ya14 yc15 Y, pt q12 #[.slice ba X.length bc] 22, pt p13 #[.pointer (some ⟨bs, 0, none⟩)] 55, K, own 3 1 (.slice a18 (((U ++ [(m : Int)])).length) c19) (((U ++ [(m : Int)])).length) (((U ++ [(m : Int)])).map (Value.int .i64)), mpc mb d9, pt b1 #[.pointer (some ⟨bs, 0, none⟩)] 55, pt b3 #[.int .u64 (loW f), .int .u64 (hiW f)] 61, pt b5 #[.bool false] 4] _ := hM
      refine D.doneW ?_
      replace hA : St 75 [(2, _), (3, _), (4, _), (5, _), (6, _)] a := hA.sub ((.cons rfl (.cons rfl (.cons rfl (.cons rfl (.cons rfl .nil))))))
      refine EndsW.seq ?_
      refine EndsW.seq ?_
      replace hM := hM.front (k := 4) rfl
      replace hM := hM.front (k := 2) rfl
      replace hM : Mem _ _ ([rd ya14 yc15 Y, K] ++ [pt bs #[.slice oa ops.length oc, .slice ya14 Y.length yc15, .slice a18 (((U ++ [(m : Int)])).length) c19, .map (some mb)] 58, pt q12 #[.slice ba X.length bc] 22, pt p13 #[.pointer (some ⟨bs, 0, none⟩)] 55, own 3 1 (.slice a18 (((U ++ [(m : Int)])).length) c19) (((U ++ [(m : Int)])).length) (((U ++ [(m : Int)])).map (Value.int .i64)), mpc mb d9, pt b1 #[.pointer (some ⟨bs, 0, none⟩)] 55, pt b3 #[.int .u64 (loW f), .int .u64 (hiW f)] 61, pt b5 #[.bool false] 4]) _ := hM
      replace hM := hM.pack
      replace hM : Mem _ _ [bundle [rd ya14 yc15 Y, K], pt bs #[.slice oa ops.length oc, .slice ya14 Y.length yc15, .slice a18 (((U ++ [(m : Int)])).length) c19, .map (some mb)] 58, pt q12 #[.slice ba X.length bc] 22, pt p13 #[.pointer (some ⟨bs, 0, none⟩)] 55, own 3 1 (.slice a18 (((U ++ [(m : Int)])).length) c19) (((U ++ [(m : Int)])).length) (((U ++ [(m : Int)])).map (Value.int .i64)), mpc mb d9, pt b1 #[.pointer (some ⟨bs, 0, none⟩)] 55, pt b3 #[.int .u64 (loW f), .int .u64 (hiW f)] 61, pt b5 #[.bool false] 4] _ := hM
      have hK2 : ∀ w, (bundle [rd ya14 yc15 Y, K]).holds w → IntSl w (.slice ya14 Y.length yc15) Y ∧ RowSl w (.slice oa ops.length oc) 4 ops.length (hopv ops) := fun w h => ⟨h.1 _ (.head _), (hK w (h.1 _ (.tail _ (.head _)))).2⟩
      obtain ⟨o9, d8, hre⟩ : ∃ o d', fnd ops n' (woF f m) Y d9 = (o, d') := ⟨_, _, rfl⟩
      have hUl : (U ++ [(m : Int)]).length = U.length + 1 := by simp
      by_cases hs21 : o9 = none
      ·
       subst hs21
       refine EndsW.drawn (Mem w7 (feet [pt bs #[.slice oa ops.length oc, .slice ba X.length bc, .slice ua9 U.length uc9, .map (some mb)] 58, own 3 1 (.slice ua9 U.length uc9) U.length (U.map (Value.int .i64)), mpc mb d9, K, pt b1 #[.pointer (some ⟨bs, 0, none⟩)] 55, pt b3 #[.int .u64 (loW f), .int .u64 (hiW f)] 61, pt b5 #[.bool false] 4]) [pt q12 #[.slice ba X.length bc] 22, pt p13 #[.pointer (some ⟨bs, 0, none⟩)] 55, pt b1 #[.pointer (some ⟨bs, 0, none⟩)] 55, pt b3 #[.int .u64 (loW f), .int .u64 (hiW f)] 61, pt b5 #[.bool false] 4]) (.cons (0, true) (.cons (1, true) (.cons (2, true) (.cons (3, false) (.cons (4, false) .nil))))) 5 mixed (by kernel_rfl) (by kernel_rfl) (by kernel_rfl) ((((hM.drop 5).drop 4).drop 1).drop 0).drew ?_
       replace hM := hM.drew
       refine D.val hA rfl (by kernel_rfl) (fun _ hM => R.load sz55 rfl (hM.cell (k := 2) rfl rfl)) rfl ?_; clear hA a; intro a hA
       refine D.val hA rfl (by kernel_rfl) (fun _ hM => R.loadA sz61 rfl (hM.range (k := 3) rfl) rfl) rfl ?_; clear hA a; intro a hA
       refine D.valF hA rfl (fun _ => R.move rfl) rfl ?_; clear hA a; intro a hA
       refine D.call hA rfl (R.callF Tryd.func34 rfl rfl rfl) rfl (wo02 f m (by omega) _) ?_; clear hA a
       rintro e w14 ⟨rfl, hb⟩
       replace hM := hM.callB hb; clear hb
       refine ⟨.agg #[.int .u64 (loW (woF f m)), .int .u64 (hiW (woF f m))], rfl, ((((hM.drop 5).drop 4).drop 1).drop 0), fun a hA => ?_⟩
       replace hM := hM.front (k := 5) rfl
       replace hM := hM.front (k := 5) rfl
       replace hM := hM.front (k := 3) rfl
       replace hM : Mem _ _ [pt bs #[.slice oa ops.length oc, .slice ya14 Y.length yc15, .slice a18 (((U ++ [(m : Int)])).length) c19, .map (some mb)] 58, own 3 1 (.slice a18 (((U ++ [(m : Int)])).length) c19) (((U ++ [(m : Int)])).length) (((U ++ [(m : Int)])).map (Value.int .i64)), mpc mb d9, bundle [rd ya14 yc15 Y, K], pt q12 #[.slice ba X.length bc] 22, pt p13 #[.pointer (some ⟨bs, 0, none⟩)] 55, pt b1 #[.pointer (some ⟨bs, 0, none⟩)] 55, pt b3 #[.int .u64 (loW f), .int .u64 (hiW f)] 61, pt b5 #[.bool false] 4] _ := hM
       refine D.call hA rfl (R.callF Tryd.func21 rfl rfl rfl) rfl (ih n' rfl (woF f m) Y d9 (U ++ [(m : Int)]) ya14 yc15 a18 c19 (bundle [rd ya14 yc15 Y, K]) none d8 hre (fun b hb => hf b (wo_mem hb)) (by omega) (by omega) (by omega) hK2 _ (tab_at htab (g := 0) (by kernel_rfl) (hM.old _ (tab_lt htab (by kernel_rfl)) hG)) ((hM.firstN 4).notFoot (tab_lt htab (by kernel_rfl)) hG) (hM.hereN 4)) ?_; clear hA a
       rintro e w15 ⟨ba24, bn25, bc26, ua22, uc23, rfl, hbg, hn⟩
       replace hM : Mem _ _ [pt bs #[.slice oa ops.length oc, .slice ba24 bn25 bc26, .slice ua22 ((U ++ [(m : Int)]).length) uc23, .map (some mb)] 58, own 3 1 (.slice ua22 (((U ++ [(m : Int)])).length) uc23) (((U ++ [(m : Int)])).length) (((U ++ [(m : Int)])).map (Value.int .i64)), mpc mb d8, bundle [rd ya14 yc15 Y, K], pt q12 #[.slice ba X.length bc] 22, pt p13 #[.pointer (some ⟨bs, 0, none⟩)] 55, pt b1 #[.pointer (some ⟨bs, 0, none⟩)] 55, pt b3 #[.int .u64 (loW f), .int .u64 (hiW f)] 61, pt b5 #[.bool false] 4] _ := hM.callL 4 hn; clear hn
       refine ⟨.bool false, rfl, ((((hM.drop 3).drop 2).drop 1).drop 0), fun a hA => ?_⟩
       refine D.doneW ?_
       replace hA : St 75 [(2, _), (4, _), (6, _), (53, _)] a := hA.sub ((.cons rfl (.cons rfl (.cons rfl (.cons rfl .nil)))))
       refine EndsW.condF hA rfl ?_
       refine EndsW.skip ?_
       refine EndsW.seq ?_
       refine EndsW.drawn (Mem w7 (feet [pt bs #[.slice oa ops.length oc, .slice ba X.length bc, .slice ua9 U.length uc9, .map (some mb)] 58, own 3 1 (.slice ua9 U.length uc9) U.length (U.map (Value.int .i64)), mpc mb d9, K, pt b1 #[.pointer (some ⟨bs, 0, none⟩)] 55, pt b3 #[.int .u64 (loW f), .int .u64 (hiW f)] 61, pt b5 #[.bool false] 4]) [pt bs #[.slice oa ops.length oc, .slice ba24 bn25 bc26, .slice ua22 ((U ++ [(m : Int)]).length) uc23, .map (some mb)] 58, bundle [rd ya14 yc15 Y, K], pt q12 #[.slice ba X.length bc] 22, pt p13 #[.pointer (some ⟨bs, 0, none⟩)] 55, pt b1 #[.pointer (some ⟨bs, 0, none⟩)] 55, pt b3 #[.int .u64 (loW f), .int .u64 (hiW f)] 61, pt b5 #[.bool false] 4]) (.cons (0, true) (.cons (1, true) (.cons (2, true) (.cons (3, true) (.cons (4, true) (.cons (5, true) (.cons (6, true) (.cons (7, true) (.cons (8, true) (.cons (9, true) (.cons (10, true) (.cons (11, true) (.cons (12, true) (.cons (13, true) (.cons (14, false) .nil))))))))))))))) 14 mixed (by kernel_rfl) (by kernel_rfl) (by kernel_rfl) ((hM.drop 2).drop 1).drew ?_
       replace hM := hM.drew
       refine D.val hA rfl (by kernel_rfl) (fun _ hM => R.load sz55 rfl (hM.cell (k := 4) rfl rfl)) rfl ?_; clear hA a; intro a hA
       refine D.val hA rfl (by kernel_rfl) (fun _ hM => R.load sz55 rfl (hM.cell (k := 4) rfl rfl)) rfl ?_; clear hA a; intro a hA
       refine D.valF hA rfl (fun _ => R.nilCheck rfl) rfl ?_; clear hA a; intro a hA
       refine D.valF hA rfl (fun _ => R.fieldAddr (q := 2) fi58_2 rfl rfl rfl) rfl ?_; clear hA a; intro a hA
       refine D.val hA rfl (by kernel_rfl) (fun _ hM => R.load sz22 rfl (hM.cell (k := 0) rfl rfl)) rfl ?_; clear hA a; intro a hA
       refine D.val hA rfl (by kernel_rfl) (fun _ hM => R.load sz55 rfl (hM.cell (k := 4) rfl rfl)) rfl ?_; clear hA a; intro a hA
       refine D.valF hA rfl (fun _ => R.nilCheck rfl) rfl ?_; clear hA a; intro a hA
       refine D.valF hA rfl (fun _ => R.fieldAddr (q := 2) fi58_2 rfl rfl rfl) rfl ?_; clear hA a; intro a hA
       refine D.val hA rfl (by kernel_rfl) (fun _ hM => R.load sz22 rfl (hM.cell (k := 0) rfl rfl)) rfl ?_; clear hA a; intro a hA
       refine D.valF hA rfl (fun _ => R.lenS Tryd.underlying22 rfl rfl) rfl ?_; clear hA a; intro a hA
       refine D.valF hA rfl (fun _ => R.subI rfl rfl (r := (((U ++ [(m : Int)]).length : Int)) - 1) rfl (by omega)) rfl ?_; clear hA a; intro a hA
       have hle9 := (hM.ownLe (k := 1) rfl).1
       refine D.valF hA rfl (fun _ => R.sliceH (h := U.length) Tryd.underlying22 info3 rfl rfl (by omega) (by omega)) rfl ?_; clear hA a; intro a hA
       refine D.valF hA rfl (fun _ => R.nilCheck rfl) rfl ?_; clear hA a; intro a hA
       refine D.valF hA rfl (fun _ => R.fieldAddr (q := 2) fi58_2 rfl rfl rfl) rfl ?_; clear hA a; intro a hA
       refine D.store (k := 0) hA hM rfl sz22 rfl rfl rfl rfl rfl ?_; clear hM
       intro w16 hM; refine ⟨fun _ hne => absurd rfl hne, ?_⟩
       replace hM : Mem _ _ [pt bs #[.slice oa ops.length oc, .slice ba24 bn25 bc26, .slice ua22 U.length uc23, .map (some mb)] 58, own 3 1 (.slice ua22 (((U ++ [(m : Int)])).length) uc23) (((U ++ [(m : Int)])).length) (((U ++ [(m : Int)])).map (Value.int .i64)), mpc mb d8, bundle [rd ya14 yc15 Y, K], pt q12 #[.slice ba X.length bc] 22, pt p13 #[.pointer (some ⟨bs, 0, none⟩)] 55, pt b1 #[.pointer (some ⟨bs, 0, none⟩)] 55, pt b3 #[.int .u64 (loW f), .int .u64 (hiW f)] 61, pt b5 #[.bool false] 4] _ := hM
       refine D.doneW ?_
       replace hM := hM.front (k := 1) rfl
       replace hM := hM.ownCutA (m := U.length) (by omega)
       rw [show (U ++ [(m : Int)]).take U.length = U by simp] at hM
       replace hM : Mem _ _ [own 3 1 (.slice ua22 U.length uc23) U.length (U.map (Value.int .i64)), pt bs #[.slice oa ops.length oc, .slice ba24 bn25 bc26, .slice ua22 U.length uc23, .map (some mb)] 58, mpc mb d8, bundle [rd ya14 yc15 Y, K], pt q12 #[.slice ba X.length bc] 22, pt p13 #[.pointer (some ⟨bs, 0, none⟩)] 55, pt b1 #[.pointer (some ⟨bs, 0, none⟩)] 55, pt b3 #[.int .u64 (loW f), .int .u64 (hiW f)] 61, pt b5 #[.bool false] 4] _ := hM
       replace hA : St 75 [(4, _), (6, _)] a := hA.sub ((.cons rfl (.cons rfl .nil)))
       refine EndsW.region ?_
       refine S.val hA (R.move rfl) rfl ?_; clear hA a; intro a hA
       replace hM := hM.front (k := 1) rfl
       replace hM := hM.front (k := 5) rfl
       replace hM := hM.front (k := 5) rfl
       replace hM : Mem _ _ [pt q12 #[.slice ba X.length bc] 22, pt p13 #[.pointer (some ⟨bs, 0, none⟩)] 55, pt bs #[.slice oa ops.length oc, .slice ba24 bn25 bc26, .slice ua22 U.length uc23, .map (some mb)] 58, own 3 1 (.slice ua22 U.length uc23) U.length (U.map (Value.int .i64)), mpc mb d8, bundle [rd ya14 yc15 Y, K], pt b1 #[.pointer (some ⟨bs, 0, none⟩)] 55, pt b3 #[.int .u64 (loW f), .int .u64 (hiW f)] 61, pt b5 #[.bool false] 4] _ := hM
       refine S.call hA (R.callC Tryd.func48 (by kernel_rfl) rfl rfl) rfl (undo21 q12 p13 bs ba X.length bc (.slice oa ops.length oc) (.slice ba24 bn25 bc26) (.slice ua22 U.length uc23) (.map (some mb)) _ (hM.hereN 3)) ?_; clear hA a
       rintro e w17 ⟨rfl, hn⟩
       replace hM : Mem _ _ [pt q12 #[.slice ba X.length bc] 22, pt p13 #[.pointer (some ⟨bs, 0, none⟩)] 55, pt bs #[.slice oa ops.length oc, .slice ba X.length bc, .slice ua22 U.length uc23, .map (some mb)] 58, own 3 1 (.slice ua22 U.length uc23) U.length (U.map (Value.int .i64)), mpc mb d8, bundle [rd ya14 yc15 Y, K], pt b1 #[.pointer (some ⟨bs, 0, none⟩)] 55, pt b3 #[.int .u64 (loW f), .int .u64 (hiW f)] 61, pt b5 #[.bool false] 4] _ := hM.callL 3 hn; clear hn
       refine ⟨.tuple #[], rfl, fun a hA => ?_⟩
       refine S.doneW ?_
       refine EndsW.inBlock ?_
       refine EndsW.endQ ?_
       replace hM := hM.front (k := 5) rfl
       replace hM := hM.unpack
       replace hM : Mem _ _ [rd ya14 yc15 Y, K, pt q12 #[.slice ba X.length bc] 22, pt p13 #[.pointer (some ⟨bs, 0, none⟩)] 55, pt bs #[.slice oa ops.length oc, .slice ba X.length bc, .slice ua22 U.length uc23, .map (some mb)] 58, own 3 1 (.slice ua22 U.length uc23) U.length (U.map (Value.int .i64)), mpc mb d8, pt b1 #[.pointer (some ⟨bs, 0, none⟩)] 55, pt b3 #[.int .u64 (loW f), .int .u64 (hiW f)] 61, pt b5 #[.bool false] 4] _ := hM
       replace hM := hM.front (k := 9) rfl
       replace hM := hM.front (k := 9) rfl
       replace hM := hM.front (k := 9) rfl
       replace hM := hM.front (k := 4) rfl
       replace hM := hM.front (k := 9) rfl
       replace hM := hM.front (k := 9) rfl
       replace hM := hM.front (k := 9) rfl
       replace hM := hM.firstN 7
       have hst : ∀ rest, vs (pre ++ [⟨(m : Int), m, rfl, ml, mf⟩]) ++ rest = eL f 0 → vs pre ++ ((m : Int) :: rest) = eL f 0 := fun rest hr => by rw [vs_app] at hr; rw [← hr]; simp
       exact ⟨(d8, ua22, uc23, U, ba, X.length, bc, false), ⟨rfl, rfl, rfl, rfl, rfl, fun rest hr => by rw [← hs9 _ (hst rest hr)]; exact (fgo_back hmay hdo hre).symm⟩, hM⟩
      ·
       obtain ⟨r9, rfl⟩ : ∃ r, o9 = some r := by cases o9 with | none => exact absurd rfl hs21 | some r => exact ⟨r, rfl⟩
       refine EndsW.drawn (Mem w7 (feet [pt bs #[.slice oa ops.length oc, .slice ba X.length bc, .slice ua9 U.length uc9, .map (some mb)] 58, own 3 1 (.slice ua9 U.length uc9) U.length (U.map (Value.int .i64)), mpc mb d9, K, pt b1 #[.pointer (some ⟨bs, 0, none⟩)] 55, pt b3 #[.int .u64 (loW f), .int .u64 (hiW f)] 61, pt b5 #[.bool false] 4]) [pt q12 #[.slice ba X.length bc] 22, pt p13 #[.pointer (some ⟨bs, 0, none⟩)] 55, pt b1 #[.pointer (some ⟨bs, 0, none⟩)] 55, pt b3 #[.int .u64 (loW f), .int .u64 (hiW f)] 61, pt b5 #[.bool false] 4]) (.cons (0, true) (.cons (1, true) (.cons (2, true) (.cons (3, false) (.cons (4, false) .nil))))) 5 mixed (by kernel_rfl) (by kernel_rfl) (by kernel_rfl) ((((hM.drop 5).drop 4).drop 1).drop 0).drew ?_
       replace hM := hM.drew
       refine D.val hA rfl (by kernel_rfl) (fun _ hM => R.load sz55 rfl (hM.cell (k := 2) rfl rfl)) rfl ?_; clear hA a; intro a hA
       refine D.val hA rfl (by kernel_rfl) (fun _ hM => R.loadA sz61 rfl (hM.range (k := 3) rfl) rfl) rfl ?_; clear hA a; intro a hA
       refine D.valF hA rfl (fun _ => R.move rfl) rfl ?_; clear hA a; intro a hA
       refine D.call hA rfl (R.callF Tryd.func34 rfl rfl rfl) rfl (wo02 f m (by omega) _) ?_; clear hA a
       rintro e w18 ⟨rfl, hb⟩
       replace hM := hM.callB hb; clear hb
       refine ⟨.agg #[.int .u64 (loW (woF f m)), .int .u64 (hiW (woF f m))], rfl, ((((hM.drop 5).drop 4).drop 1).drop 0), fun a hA => ?_⟩
       replace hM := hM.front (k := 5) rfl
       replace hM := hM.front (k := 5) rfl
       replace hM := hM.front (k := 3) rfl
       replace hM : Mem _ _ [pt bs #[.slice oa ops.length oc, .slice ya14 Y.length yc15, .slice a18 (((U ++ [(m : Int)])).length) c19, .map (some mb)] 58, own 3 1 (.slice a18 (((U ++ [(m : Int)])).length) c19) (((U ++ [(m : Int)])).length) (((U ++ [(m : Int)])).map (Value.int .i64)), mpc mb d9, bundle [rd ya14 yc15 Y, K], pt q12 #[.slice ba X.length bc] 22, pt p13 #[.pointer (some ⟨bs, 0, none⟩)] 55, pt b1 #[.pointer (some ⟨bs, 0, none⟩)] 55, pt b3 #[.int .u64 (loW f), .int .u64 (hiW f)] 61, pt b5 #[.bool false] 4] _ := hM
       refine D.call hA rfl (R.callF Tryd.func21 rfl rfl rfl) rfl (ih n' rfl (woF f m) Y d9 (U ++ [(m : Int)]) ya14 yc15 a18 c19 (bundle [rd ya14 yc15 Y, K]) (some r9) d8 hre (fun b hb => hf b (wo_mem hb)) (by omega) (by omega) (by omega) hK2 _ (tab_at htab (g := 0) (by kernel_rfl) (hM.old _ (tab_lt htab (by kernel_rfl)) hG)) ((hM.firstN 4).notFoot (tab_lt htab (by kernel_rfl)) hG) (hM.hereN 4)) ?_; clear hA a
       rintro e w19 ⟨ba29, bn30, bc31, ua27, uc28, rfl, hbg, hn⟩
       replace hM : Mem _ _ [pt bs #[.slice oa ops.length oc, .slice ba29 bn30 bc31, .slice ua27 (((U ++ [(m : Int)]) ++ r9).length) uc28, .map (some mb)] 58, own 3 1 (.slice ua27 ((((U ++ [(m : Int)]) ++ r9)).length) uc28) ((((U ++ [(m : Int)]) ++ r9)).length) ((((U ++ [(m : Int)]) ++ r9)).map (Value.int .i64)), mpc mb d8, bundle [rd ya14 yc15 Y, K], pt q12 #[.slice ba X.length bc] 22, pt p13 #[.pointer (some ⟨bs, 0, none⟩)] 55, pt b1 #[.pointer (some ⟨bs, 0, none⟩)] 55, pt b3 #[.int .u64 (loW f), .int .u64 (hiW f)] 61, pt b5 #[.bool false] 4] _ := hM.callL 4 hn; clear hn
       refine ⟨.bool true, rfl, ((((hM.drop 3).drop 2).drop 1).drop 0), fun a hA => ?_⟩
       refine D.doneW ?_
       replace hA : St 75 [(2, _), (4, _), (6, _), (53, _)] a := hA.sub ((.cons rfl (.cons rfl (.cons rfl (.cons rfl .nil)))))
       refine EndsW.condT hA rfl ?_
       refine EndsW.seq ?_
       refine EndsW.region ?_
       refine S.store (k := 8) hA hM sz4 rfl rfl rfl rfl rfl ?_; clear hM
       intro w20 hM
       replace hM : Mem _ _ [pt bs #[.slice oa ops.length oc, .slice ba29 bn30 bc31, .slice ua27 (((U ++ [(m : Int)]) ++ r9).length) uc28, .map (some mb)] 58, own 3 1 (.slice ua27 ((((U ++ [(m : Int)]) ++ r9)).length) uc28) ((((U ++ [(m : Int)]) ++ r9)).length) ((((U ++ [(m : Int)]) ++ r9)).map (Value.int .i64)), mpc mb d8, bundle [rd ya14 yc15 Y, K], pt q12 #[.slice ba X.length bc] 22, pt p13 #[.pointer (some ⟨bs, 0, none⟩)] 55, pt b1 #[.pointer (some ⟨bs, 0, none⟩)] 55, pt b3 #[.int .u64 (loW f), .int .u64 (hiW f)] 61, pt b5 #[.bool true] 4] _ := hM
       refine S.doneW ?_
       refine EndsW.retQ ?_
       replace hM := hM.front (k := 3) rfl
       replace hM := hM.unpack
       replace hM : Mem _ _ [rd ya14 yc15 Y, K, pt bs #[.slice oa ops.length oc, .slice ba29 bn30 bc31, .slice ua27 (((U ++ [(m : Int)]) ++ r9).length) uc28, .map (some mb)] 58, own 3 1 (.slice ua27 ((((U ++ [(m : Int)]) ++ r9)).length) uc28) ((((U ++ [(m : Int)]) ++ r9)).length) ((((U ++ [(m : Int)]) ++ r9)).map (Value.int .i64)), mpc mb d8, pt q12 #[.slice ba X.length bc] 22, pt p13 #[.pointer (some ⟨bs, 0, none⟩)] 55, pt b1 #[.pointer (some ⟨bs, 0, none⟩)] 55, pt b3 #[.int .u64 (loW f), .int .u64 (hiW f)] 61, pt b5 #[.bool true] 4] _ := hM
       replace hM := hM.front (k := 9) rfl
       replace hM := hM.front (k := 9) rfl
       replace hM := hM.front (k := 9) rfl
       replace hM := hM.front (k := 4) rfl
       replace hM := hM.front (k := 7) rfl
       replace hM := hM.front (k := 7) rfl
       replace hM := hM.front (k := 7) rfl
       replace hM := hM.firstN 7
       have hst : ∀ rest, vs (pre ++ [⟨(m : Int), m, rfl, ml, mf⟩]) ++ rest = eL f 0 → vs pre ++ ((m : Int) :: rest) = eL f 0 := fun rest hr => by rw [vs_app] at hr; rw [← hr]; simp
       exact ⟨(d8, ua27, uc28, ((U ++ [(m : Int)]) ++ r9), ba29, bn30, bc31, true), ⟨rfl, rfl, fun rest hr => ⟨(m : Int) :: r9, by rw [← hs9 _ (hst rest hr)]; exact fgo_hit hmay hdo hre, by simp⟩⟩, hM⟩
   ·
    clear hM hqx htx hGl hGx
    rintro D32 xs ⟨d9, ua9, uc9, U9, ba9, bn9, bc9, r9⟩ w21 hS9 hs9 hM
    replace hM : Mem _ _ [dfr D32, pt bs #[.slice oa ops.length oc, .slice ba9 bn9 bc9, .slice ua9 U9.length uc9, .map (some mb)] 58, own 3 1 (.slice ua9 U9.length uc9) U9.length (U9.map (Value.int .i64)), mpc mb d9, K, pt b1 #[.pointer (some ⟨bs, 0, none⟩)] 55, pt b3 #[.int .u64 (loW f), .int .u64 (hiW f)] 61, pt b5 #[.bool r9] 4, pt bx9 #[.int .u64 (loW f), .int .u64 (hiW f)] 61] _ := hM
    obtain ⟨rfl, rfl, rfl, rfl, rfl, hs9⟩ := hs9
    replace hM : Mem _ _ [dfr D32, pt bs #[.slice oa ops.length oc, .slice ba X.length bc, .slice ua9 U.length uc9, .map (some mb)] 58, own 3 1 (.slice ua9 U.length uc9) U.length (U.map (Value.int .i64)), mpc mb d9, K, pt b1 #[.pointer (some ⟨bs, 0, none⟩)] 55, pt b3 #[.int .u64 (loW f), .int .u64 (hiW f)] 61, pt b5 #[.bool false] 4, pt bx9 #[.int .u64 (loW f), .int .u64 (hiW f)] 61] _ := hM
    have hfin := hs9 [] (by rw [List.append_nil]; exact hS9)
    refine EndsW.inBlock ?_
    refine EndsW.seq ?_
    refine EndsW.drawn (Mem w (feet [pt bs #[.slice oa ops.length oc, .slice ba X.length bc, .slice ua U.length uc, .map (some mb)] 58, own 3 1 (.slice ua U.length uc) U.length (U.map (Value.int .i64)), mpc mb d, K]) [pt bs #[.slice oa ops.length oc, .slice ba X.length bc, .slice ua9 U.length uc9, .map (some mb)] 58, own 3 1 (.slice ua9 U.length uc9) U.length (U.map (Value.int .i64)), K, pt b1 #[.pointer (some ⟨bs, 0, none⟩)] 55, pt b3 #[.int .u64 (loW f), .int .u64 (hiW f)] 61, pt b5 #[.bool false] 4, pt bx9 #[.int .u64 (loW f), .int .u64 (hiW f)] 61]) (.cons (0, true) (.cons (1, true) (.cons (2, true) (.cons (3, true) (.cons (4, true) (.cons (5, false) .nil)))))) 5 mixed (by kernel_rfl) (by kernel_rfl) (by kernel_rfl) ((hM.drop 3).drop 0).drew ?_
    replace hM := hM.drew
    refine D.val hA rfl (by kernel_rfl) (fun _ hM => R.load sz55 rfl (hM.cell (k := 3) rfl rfl)) rfl ?_; clear hA a; intro a hA
    refine D.valF hA rfl (fun _ => R.nilCheck rfl) rfl ?_; clear hA a; intro a hA
    refine D.valF hA rfl (fun _ => R.fieldAddr (q := 3) fi58_3 rfl rfl rfl) rfl ?_; clear hA a; intro a hA
    refine D.val hA rfl (by kernel_rfl) (fun _ hM => R.load sz56 rfl (hM.cell (k := 0) rfl rfl)) rfl ?_; clear hA a; intro a hA
    refine D.val hA rfl (by kernel_rfl) (fun _ hM => R.loadA sz61 rfl (hM.range (k := 4) rfl) rfl) rfl ?_; clear hA a; intro a hA
    obtain ⟨w22, hru, hhu, hgu⟩ := updM_all (p := keyF f) (k := 3) hM rfl
    refine D.skip hA rfl (hru _ _ _ _ _ rfl rfl rfl) (fun _ hne => absurd rfl hne) ?_
    replace hM := hM.updM (k := 3) rfl hhu hgu
    replace hM : Mem _ _ [mpc mb (addK (keyF f) d9), dfr D32, pt bs #[.slice oa ops.length oc, .slice ba X.length bc, .slice ua9 U.length uc9, .map (some mb)] 58, own 3 1 (.slice ua9 U.length uc9) U.length (U.map (Value.int .i64)), K, pt b1 #[.pointer (some ⟨bs, 0, none⟩)] 55, pt b3 #[.int .u64 (loW f), .int .u64 (hiW f)] 61, pt b5 #[.bool false] 4, pt bx9 #[.int .u64 (loW f), .int .u64 (hiW f)] 61] _ := hM
    refine D.doneW ?_
    replace hA : St 75 [(4, _)] a := hA.sub ((.cons rfl .nil))
    refine EndsW.seq ?_
    refine EndsW.region ?_
    refine S.store (k := 7) hA hM sz4 rfl rfl rfl rfl rfl ?_; clear hM
    intro w23 hM
    replace hM : Mem _ _ [mpc mb (addK (keyF f) d9), dfr D32, pt bs #[.slice oa ops.length oc, .slice ba X.length bc, .slice ua9 U.length uc9, .map (some mb)] 58, own 3 1 (.slice ua9 U.length uc9) U.length (U.map (Value.int .i64)), K, pt b1 #[.pointer (some ⟨bs, 0, none⟩)] 55, pt b3 #[.int .u64 (loW f), .int .u64 (hiW f)] 61, pt b5 #[.bool false] 4, pt bx9 #[.int .u64 (loW f), .int .u64 (hiW f)] 61] _ := hM
    refine S.doneW ?_
    refine EndsW.retQ ?_
    replace hM := hM.front (k := 1) rfl
    refine leaveF hA.defers hM (fun w24 hM => ⟨(hA.cellRes (kk := 6) hM Tryd.results21 rfl rfl sz4), ?_⟩)
    replace hM : Mem _ _ [mpc mb (addK (keyF f) d9), pt bs #[.slice oa ops.length oc, .slice ba X.length bc, .slice ua9 U.length uc9, .map (some mb)] 58, own 3 1 (.slice ua9 U.length uc9) U.length (U.map (Value.int .i64)), K, pt b1 #[.pointer (some ⟨bs, 0, none⟩)] 55, pt b3 #[.int .u64 (loW f), .int .u64 (hiW f)] 61, pt b5 #[.bool false] 4, pt bx9 #[.int .u64 (loW f), .int .u64 (hiW f)] 61] _ := hM
    replace hM := hM.front (k := 3) rfl
    replace hM := hM.front (k := 1) rfl
    replace hM := hM.front (k := 3) rfl
    replace hM := hM.front (k := 3) rfl
    replace hM := hM.firstN 4
    rw [← hfin] at hfe
    cases hfe
    exact ⟨ba, X.length, bc, ua9, uc9, rfl, fun _ => ⟨rfl, rfl, rfl⟩, hM⟩
   ·
    clear hM hqx htx hGl hGx
    rintro D33 c9 pre ⟨d9, ua9, uc9, U9, ba9, bn9, bc9, r9⟩ w25 hS9 hx9 hM
    replace hM : Mem _ _ [dfr D33, pt bs #[.slice oa ops.length oc, .slice ba9 bn9 bc9, .slice ua9 U9.length uc9, .map (some mb)] 58, own 3 1 (.slice ua9 U9.length uc9) U9.length (U9.map (Value.int .i64)), mpc mb d9, K, pt b1 #[.pointer (some ⟨bs, 0, none⟩)] 55, pt b3 #[.int .u64 (loW f), .int .u64 (hiW f)] 61, pt b5 #[.bool r9] 4, pt bx9 #[.int .u64 (loW f), .int .u64 (hiW f)] 61] _ := hM
    obtain ⟨hce, rfl, hx9⟩ := hx9
    subst hce
    obtain ⟨r8, hfin, hU8⟩ := hx9 ((eL f 0).drop (vs pre).length) (app_take hS9)
    subst hU8
    replace hM : Mem _ _ [dfr D33, pt bs #[.slice oa ops.length oc, .slice ba9 bn9 bc9, .slice ua9 ((U ++ r8).length) uc9, .map (some mb)] 58, own 3 1 (.slice ua9 (((U ++ r8)).length) uc9) (((U ++ r8)).length) (((U ++ r8)).map (Value.int .i64)), mpc mb d9, K, pt b1 #[.pointer (some ⟨bs, 0, none⟩)] 55, pt b3 #[.int .u64 (loW f), .int .u64 (hiW f)] 61, pt b5 #[.bool true] 4, pt bx9 #[.int .u64 (loW f), .int .u64 (hiW f)] 61] _ := hM
    refine EndsW.retQ ?_
    refine leaveF hA.defers hM (fun w26 hM => ⟨(hA.cellRes (kk := 6) hM Tryd.results21 rfl rfl sz4), ?_⟩)
    replace hM : Mem _ _ [pt bs #[.slice oa ops.length oc, .slice ba9 bn9 bc9, .slice ua9 ((U ++ r8).length) uc9, .map (some mb)] 58, own 3 1 (.slice ua9 (((U ++ r8)).length) uc9) (((U ++ r8)).length) (((U ++ r8)).map (Value.int .i64)), mpc mb d9, K, pt b1 #[.pointer (some ⟨bs, 0, none⟩)] 55, pt b3 #[.int .u64 (loW f), .int .u64 (hiW f)] 61, pt b5 #[.bool true] 4, pt bx9 #[.int .u64 (loW f), .int .u64 (hiW f)] 61] _ := hM
    replace hM := hM.front (k := 3) rfl
    replace hM := hM.front (k := 3) rfl
    replace hM := hM.front (k := 3) rfl
    replace hM := hM.front (k := 3) rfl
    replace hM := hM.firstN 4
    rw [hfin] at hfe
    cases hfe
    exact ⟨ba9, bn9, bc9, ua9, uc9, rfl, fun h => (by cases h), hM⟩
theorem find_all (ops : List HOp) (hol : ops.length ≤ 12) (oa : Option Addr) (oc bs mb : Nat) (n : Nat) : FindAt ops oa oc bs mb n := by
  induction n with
  | zero => intro f X d U ba bc ua uc K o d' hfe hf hn hX hU hK w htab hG hM0; exact find_step ops hol oa oc bs mb 0 (fun k h => absurd h (by omega)) f X d U ba bc ua uc K o d' hfe hf hn hX hU hK w htab hG hM0
  | succ n ih => intro f X d U ba bc ua uc K o d' hfe hf hn hX hU hK w htab hG hM0; exact find_step ops hol oa oc bs mb (n + 1) (fun k h => Nat.succ.inj h ▸ ih) f X d U ba bc ua uc K o d' hfe hf hn hX hU hK w htab hG hM0
def kpo (v : World) (g : Nat) : Ck := ⟨fun b => b < v.heap.size ∧ b ≠ g, fun w => ∀ b, b < v.heap.size → b ≠ g → w.heap[b]? = v.heap[b]?, fun w w' h hw b h1 h2 => (h b ⟨h1, h2⟩).trans (hw b h1 h2)⟩
def kpF (v : World) (g : Nat) : Nat → Prop := fun b => b < v.heap.size ∧ b ≠ g
theorem Mem.takeOld {v w : World} {L : List Ck} (h : Mem v nof L w) (g : Nat) : Mem v (kpF v g) (kpo v g :: L) w := by
  refine ⟨h.os, h.tape, h.output, h.size, fun b hb _ => h.old b hb (fun f => f), fun c hc => ?_, fun c hc b hb => ?_, List.pairwise_cons.2 ⟨fun c hc b hb hf => ?_, h.apart⟩⟩
  · rcases List.mem_cons.1 hc with rfl | hc
    · exact fun b h1 _ => h.old b h1 (fun f => f)
    · exact h.holds c hc
  · rcases List.mem_cons.1 hc with rfl | hc
    · exact ⟨Nat.lt_of_lt_of_le hb.1 h.size, fun _ => hb⟩
    · exact ⟨(h.inb c hc b hb).1, fun g => ((h.inb c hc b hb).2 g).elim⟩
  · exact (h.inb c hc b hf).2 hb.1
theorem Mem.backOld {v w : World} {L : List Ck} {g : Nat} (h : Mem v (kpF v g) (kpo v g :: L) w) : Mem v nof L w := by
  have hk : (kpo v g).holds w := h.holds _ (.head _)
  refine ⟨h.os, h.tape, h.output, h.size, fun b hb _ => ?_, fun c hc => h.holds c (.tail _ hc), fun c hc b hb => ⟨(h.inb c (.tail _ hc) b hb).1, fun hlt => ?_⟩, (List.pairwise_cons.1 h.apart).2⟩
  · by_cases e : b = g
    · exact h.old b hb (fun f => f.2 e)
    · exact hk b hb e
  · have hF := (h.inb c (.tail _ hc) b hb).2 hlt
    exact (List.pairwise_cons.1 h.apart).1 c hc b hF hb
theorem cell_of {v w : World} {b q : Nat} (h : w.heap[b]? = v.heap[b]?) : w.cell? ⟨b, q, none⟩ = v.cell? ⟨b, q, none⟩ := by simp only [World.cell?, h]
theorem lt_of {v w : World} {b : Nat} (hb : b < v.heap.size) (h : w.heap[b]? = v.heap[b]?) : b < w.heap.size := by
  rw [Array.getElem?_eq_getElem hb] at h
  exact (Array.getElem?_eq_some_iff.1 h).1
theorem tab_kind {w : World} {name : String} {zs : List Int} {g q : Nat} {x : Value} (h : Lib.TabIs Tryd.prog w name .u8 zs) (hg : Tryd.prog.globalNamed name = some g) (hx : w.cell? ⟨g, q, none⟩ = some x) : ∃ z, x = .int .u8 z := by
  unfold Lib.TabIs World.var? at h
  rw [hg] at h
  simp only [Option.bind_some] at h
  unfold World.cell? at hx
  cases ho : w.heap[g]? with
  | none => rw [ho] at h; cases h
  | some o =>
    cases o with
    | cells cs t fr =>
      rw [ho] at h hx
      simp only [Option.some.injEq] at h
      subst h
      simp only [List.getElem?_toArray, List.getElem?_map] at hx
      cases hz : zs[q]? with
      | none => rw [hz] at hx; cases hx
      | some z => rw [hz] at hx; exact ⟨z, (Option.some.inj hx).symm⟩
    | _ => rw [ho] at h; cases h
theorem IntSl.kept {v w : World} {s : Value} {X : List Int} {zs : List Int} {name : String} {g : Nat} (h : IntSl v s X) (ht : Lib.TabIs Tryd.prog v name .u8 zs) (hg : Tryd.prog.globalNamed name = some g) (hk : (kpo v g).holds w) : IntSl w s X := by
  obtain ⟨a, c, rfl, h1, h2, h3, h4⟩ := h
  refine ⟨a, c, rfl, h1, h2, h3, fun hne => ?_⟩
  obtain ⟨b, off, rfl, hb, hc⟩ := h4 hne
  have hbg : b ≠ g := fun e => by
    subst e
    have hp : 0 < X.length := List.length_pos_iff.2 hne
    obtain ⟨z, hz⟩ := tab_kind ht hg (hc 0 hp)
    cases hz
  have e := hk b hb hbg
  exact ⟨b, off, rfl, lt_of hb e, fun i hi => (cell_of e).trans (hc i hi)⟩
theorem RowSl.kept {v w : World} {s : Value} {r n : Nat} {X : List Int} {zs : List Int} {name : String} {g : Nat} (h : RowSl v s r n X) (hr : 0 < r) (ht : Lib.TabIs Tryd.prog v name .u8 zs) (hg : Tryd.prog.globalNamed name = some g) (hk : (kpo v g).holds w) : RowSl w s r n X := by
  obtain ⟨a, c, rfl, h1, h2, h3, h4⟩ := h
  refine ⟨a, c, rfl, h1, h2, h3, fun hne => ?_⟩
  obtain ⟨b, off, rfl, hb, hc⟩ := h4 hne
  have hbg : b ≠ g := fun e => by
    subst e
    obtain ⟨z, hz⟩ := tab_kind ht hg (hc 0 (Nat.mul_pos hne hr))
    cases hz
  have e := hk b hb hbg
  exact ⟨b, off, rfl, lt_of hb e, fun i hi => (cell_of e).trans (hc i hi)⟩
theorem RowSl.mem {v w : World} {s : Value} {r n : Nat} {X : List Int} {L : List Ck} (h : RowSl v s r n X) (hM : Mem v nof L w) : RowSl w s r n X := by
  obtain ⟨a, c, rfl, h1, h2, h3, h4⟩ := h
  refine ⟨a, c, rfl, h1, h2, h3, fun hne => ?_⟩
  obtain ⟨b, off, rfl, hb, hc⟩ := h4 hne
  have e := hM.old b hb (fun f => f)
  exact ⟨b, off, rfl, lt_of hb e, fun i hi => (cell_of e).trans (hc i hi)⟩
theorem full21 (n : Nat) (hn : n ≤ 1000) (w : World) : Calls Tryd.prog 22 #[.int .i64 (n : Int)] w fun e w' => e = .returned (.agg #[.int .u64 (loW (lessF n)), .int .u64 (hiW (lessF n))]) ∧ Below w.heap.size w w' := full02 (n : Int) (by omega) (by omega) w
theorem less_lt {n b : Nat} (h : lessF n b = true) : b < n := by unfold lessF at h; simpa using h
theorem less_len {n : Nat} : (eL (lessF n) 0).length ≤ n := by
  rw [eL_len]
  have : ∀ k, cnt (lessF n) k ≤ n := by
    intro k
    induction k with
    | zero => exact Nat.zero_le _
    | succ k ih =>
      rw [cnt]
      split
      · rename_i h; have := less_lt h; have := cnt_le (lessF n) k; omega
      · exact ih
  exact this 128
theorem right_all {ops : List HOp} (h : ∀ j, j < ops.length → rightP (hop ops j) = true) : ops.all rightP = true := by
  refine List.all_eq_true.2 fun o ho => ?_
  obtain ⟨j, hj, rfl⟩ := List.getElem_of_mem ho
  have := h j hj
  unfold hop at this
  rwa [show ops.getD j ⟨0, 0, 0, 0⟩ = ops[j] by simp [List.getD, hj]] at this
theorem right_not {ops : List HOp} {j : Nat} (hj : j < ops.length) (h : rightP (hop ops j) = false) : ops.all rightP = false := by
  cases hq : ops.all rightP with
  | false => rfl
  | true =>
    have := List.all_eq_true.1 hq (hop ops j) (by unfold hop; simp [List.getD, hj])
    rw [h] at this; cases this
end Go.Proofs.YtjjbognomeplbaaDoor
namespace Go.Proofs.YtjjbognomeplbaaDoor
open Go.RowKit
set_option maxRecDepth 100000 in
set_option maxHeartbeats 400000 in
theorem orders21 (sa : Option Addr) (Zs : List Int) (sc : Nat) (oa : Option Addr) (ops : List HOp) (oc : Nat) (w : World) (hs : IntSl w (.slice sa Zs.length sc) Zs) (ho : RowSl w (.slice oa ops.length oc) 4 ops.length (hopv ops)) (htab : Lib.TabIs Tryd.prog w "math/bits.deBruijn64tab" .u8 debT) :
  Calls Tryd.prog 7 #[.slice sa Zs.length sc, .slice oa ops.length oc] w fun e w' => ∃ a c, e = .returned (.tuple #[.slice a (hordP Zs ops).1.length c, .int .i64 (hordP Zs ops).2]) ∧ IntSl w' (.slice a (hordP Zs ops).1.length c) (hordP Zs ops).1 ∧ frs w.heap.size a ∧ Below w.heap.size w w' := by
 have hbs := Below.refl (B := w.heap.size) w
 have hsl := hs.lenB
 have hol9 : ops.length ≤ 9223372036854775807 := by obtain ⟨a9, c9, he9, h91, h92, -⟩ := ho; cases he9; unfold maxLen at h92; omega
 have hM := Mem.start w
 refine Calls.of_ends (vs := [.slice sa Zs.length sc, .slice oa ops.length oc]) Tryd.func7 rfl Tryd.ntmps7 rfl ?_
 intro a hA
 replace hA : St 42 [(0, _), (1, _)] a := hA
 refine Ends.seq (Ends.region ?_)
 refine S.val hA (R.assign rfl) rfl ?_; clear hA a; intro a hA
 refine S.val hA (R.assign rfl) rfl ?_; clear hA a; intro a hA
 refine S.done ?_
 refine Ends.seq (Ends.seq (Ends.region ?_))
 refine S.val hA (R.move rfl) rfl ?_; clear hA a; intro a hA
 refine S.val hA (R.lenS Tryd.underlying23 rfl rfl) rfl ?_; clear hA a; intro a hA
 refine S.val hA (R.move rfl) rfl ?_; clear hA a; intro a hA
 refine S.done ?_
 refine Ends.block ?_
 refine Ends.loop (σ := Nat) (fun k (a : Act) (wv : World) => St 42 [(0, .slice sa Zs.length sc), (1, .slice oa ops.length oc), (9, .slice oa ops.length oc), (10, .int .i64 ((ops.length : Int))), (11, .int .i64 ((k : Int)))] a ∧ Mem w nof [] wv ∧ (k ≤ ops.length) ∧ (∀ j, j < k → rightP (hop ops j) = true)) (fun k => ops.length - k) 0 ⟨hA.sub ((.cons rfl (.cons rfl (.cons rfl (.cons rfl (.cons rfl .nil)))))), hM, (Nat.zero_le _), (fun j hj => absurd hj (Nat.not_lt_zero _))⟩ ?_
 clear hA hM a
 rintro k a w1 ⟨hA, hM, hk, hk2⟩ hNext
 refine Ends.seq (Ends.region ?_)
 refine S.val hA (R.lss rfl rfl) rfl ?_; clear hA a; intro a hA
 refine S.done ?_
 refine Ends.seq ?_
 refine Ends.ite hA rfl (fun hc1 => ?_) (fun hc1 => ?_)
 ·
  refine Ends.skip (Ends.seq (Ends.block (Ends.seq (Ends.region ?_))))
  refine S.val hA (R.idxRow (ho.mem hM) (j := k) sl23 rfl rfl (by omega) (rfl)) rfl ?_; clear hA a; intro a hA
  refine S.val hA (R.loadHop (ho.mem hM) (by omega) sz26 rfl) rfl ?_; clear hA a; intro a hA
  refine S.alloc hA hM info26 rfl rfl ?_; clear hA hM a; intro b2 w2 hb3 hM a hA
  replace hM : Mem _ _ [pt b2 #[.int .i64 0, .int .i64 0, .int .i64 0, .int .i64 0] 26] _ := hM
  refine S.storeA (k := 0) hA hM sz26 rfl rfl rfl rfl rfl rfl ?_; clear hM
  intro w3 hM
  replace hM : Mem _ _ [pt b2 #[.int .i64 ((hop ops k).k), .int .i64 ((hop ops k).i), .int .i64 ((hop ops k).f), .int .i64 ((hop ops k).t)] 26] _ := hM
  refine S.done ?_
  refine Ends.seq (Ends.region ?_)
  refine S.val hA (R.loadA sz26 rfl (hM.range (k := 0) rfl) rfl) rfl ?_; clear hA a; intro a hA
  refine S.call hA (R.callF Tryd.func20 rfl rfl rfl) rfl (right21 (hop ops k) _) ?_; clear hA a
  rintro e w4 ⟨rfl, hb⟩
  replace hM := hM.callB hb; clear hb
  refine ⟨.bool ((rightP (hop ops k))), rfl, fun a hA => ?_⟩
  refine S.val hA (R.not rfl) rfl ?_; clear hA a; intro a hA
  refine S.done ?_
  replace hA : St 42 [(0, _), (1, _), (9, _), (10, _), (11, _), (17, _)] a := hA.sub ((.cons rfl (.cons rfl (.cons rfl (.cons rfl (.cons rfl (.cons rfl .nil)))))))
  refine Ends.iteB hA rfl (fun hc4 => ?_) (fun hc4 => ?_)
  ·
   have hrk : rightP (hop ops k) = false := by simpa using hc4
   refine Ends.seq (Ends.region ?_)
   refine S.val hA (R.assign rfl) rfl ?_; clear hA a; intro a hA
   refine S.val hA (R.assign rfl) rfl ?_; clear hA a; intro a hA
   refine S.done ?_
   refine Ends.ret2 Tryd.func7 Tryd.results7 hA rfl rfl ?_
   have hP : hordP Zs ops = ([], 1) := by unfold hordP; rw [right_not (by omega) hrk, if_neg (by simp)]
   rw [hP]
   exact ⟨none, 0, rfl, ⟨none, 0, rfl, Nat.le_refl _, Nat.zero_le _, fun _ => rfl, fun h => absurd rfl h⟩, fun p hp => (by cases hp), Mem.trans0 hbs hM.nilL⟩
  ·
   have hrk : rightP (hop ops k) = true := by simpa using hc4
   refine Ends.skip (Ends.inBlock (Ends.region ?_))
   refine S.val hA (R.addI rfl rfl (r := ((k : Int)) + 1) rfl (by omega)) rfl ?_; clear hA a; intro a hA
   refine S.val hA (R.move rfl) rfl ?_; clear hA a; intro a hA
   refine S.done ?_
   replace hM := hM.drop 0
   replace hM : Mem _ _ [] _ := hM
   exact hNext ((k + 1)) _ _ ((by show ops.length - (k + 1) < ops.length - k; omega)) ⟨hA.sub ((.cons rfl (.cons rfl (.cons rfl (.cons rfl (.cons rfl .nil)))))), hM, (by omega), (fun j hj => by rcases Nat.lt_or_ge j k with g | g; exact hk2 j g; rw [show j = k by omega]; exact hrk)⟩
 ·
  have hall := right_all (ops := ops) (fun j hj => hk2 j (by omega))
  refine Ends.exit rfl ?_
  replace hA : St 42 [(0, _), (1, _)] a := hA.sub ((.cons rfl (.cons rfl .nil)))
  refine Ends.seq (Ends.seq ?_)
  refine Ends.cut (fun (a : Act) (wv : World) => St 42 [(0, .slice sa Zs.length sc), (1, .slice oa ops.length oc), (26, .bool (decide ((12 < ((ops.length : Int)) ∨ 100 < ((Zs.length : Int))))))] a ∧ Mem w nof [] wv) ?_ (fun k2 hJ => ?_)
  ·
   clear hA hM a; rintro a w5 ⟨hA, hM⟩
   refine Ends.ite hA rfl (fun hc5 => ?_) (fun hc5 => ?_)
   ·
    have hbig := hc5
    refine Ends.seq (Ends.region ?_)
    refine S.val hA (R.assign rfl) rfl ?_; clear hA a; intro a hA
    refine S.val hA (R.assign rfl) rfl ?_; clear hA a; intro a hA
    refine S.done ?_
    refine Ends.ret2 Tryd.func7 Tryd.results7 hA rfl rfl ?_
    have hP : hordP Zs ops = ([], 5) := by unfold hordP; rw [if_pos hall, if_pos (by omega)]
    rw [hP]
    exact ⟨none, 0, rfl, ⟨none, 0, rfl, Nat.le_refl _, Nat.zero_le _, fun _ => rfl, fun h => absurd rfl h⟩, fun p hp => (by cases hp), Mem.trans0 hbs hM.nilL⟩
   ·
    have hbig := hc5
    refine Ends.skip (Ends.seq (Ends.region ?_))
    refine S.val hA (R.move rfl) rfl ?_; clear hA a; intro a hA
    refine S.val hA (R.move rfl) rfl ?_; clear hA a; intro a hA
    refine S.mkMap hA hM rfl ?_; clear hA hM a; intro mb6 w6 hb9 hM a hA
    replace hM : Mem _ _ [mpc mb6 []] _ := hM
    refine S.val hA (R.build (cells := #[.slice oa ops.length oc, .slice sa Zs.length sc, .slice none 0 0, .map (some mb6)]) rfl (by kernel_rfl)) rfl ?_; clear hA a; intro a hA
    refine S.box hA hM rfl rfl ?_; clear hA hM a; intro b7 w7 hb8 hM a hA
    replace hM : Mem _ _ [pt b7 #[.slice oa ops.length oc, .slice sa Zs.length sc, .slice none 0 0, .map (some mb6)] 58, mpc mb6 []] _ := hM
    refine S.val hA (R.assign rfl) rfl ?_; clear hA a; intro a hA
    refine S.done ?_
    replace hA : St 42 [(1, _), (8, _)] a := hA.sub ((.cons rfl (.cons rfl .nil)))
    refine Ends.seq (Ends.seq ?_)
    replace hM := hM.ownNil 3 1
    replace hM : Mem _ _ [own 3 1 (.slice none ((([] : List Int)).length) 0) ((([] : List Int)).length) ((([] : List Int)).map (Value.int .i64)), pt b7 #[.slice oa ops.length oc, .slice sa Zs.length sc, .slice none (([] : List Int).length) 0, .map (some mb6)] 58, mpc mb6 []] _ := hM
    replace hM := hM.takeOld 0
    replace hM : Mem _ _ [kpo w 0, own 3 1 (.slice none ((([] : List Int)).length) 0) ((([] : List Int)).length) ((([] : List Int)).map (Value.int .i64)), pt b7 #[.slice oa ops.length oc, .slice sa Zs.length sc, .slice none (([] : List Int).length) 0, .map (some mb6)] 58, mpc mb6 []] _ := hM
    obtain ⟨o9, d8, hre⟩ : ∃ o d', fnd ops ops.length (lessF ops.length) Zs [] = (o, d') := ⟨_, _, rfl⟩
    by_cases hs9 : o9 = none
    ·
     subst hs9
     refine Ends.region ?_
     refine S.val hA (R.move rfl) rfl ?_; clear hA a; intro a hA
     refine S.val hA (R.move rfl) rfl ?_; clear hA a; intro a hA
     refine S.val hA (R.lenS Tryd.underlying23 rfl rfl) rfl ?_; clear hA a; intro a hA
     refine S.call hA (R.callF Tryd.func22 rfl rfl rfl) rfl (full21 ops.length (by omega) _) ?_; clear hA a
     rintro e w8 ⟨rfl, hb⟩
     replace hM := hM.callB hb; clear hb
     refine ⟨.agg #[.int .u64 (loW (lessF ops.length)), .int .u64 (hiW (lessF ops.length))], rfl, fun a hA => ?_⟩
     replace hM := hM.front (k := 3) rfl
     replace hM := hM.front (k := 2) rfl
     replace hM := hM.front (k := 3) rfl
     replace hM : Mem _ _ [pt b7 #[.slice oa ops.length oc, .slice sa Zs.length sc, .slice none (([] : List Int).length) 0, .map (some mb6)] 58, own 3 1 (.slice none ((([] : List Int)).length) 0) ((([] : List Int)).length) ((([] : List Int)).map (Value.int .i64)), mpc mb6 [], kpo w 0] _ := hM
     refine S.call hA (R.callF Tryd.func21 rfl rfl rfl) rfl (find_all ops (by omega) oa oc b7 mb6 ops.length (lessF ops.length) Zs [] [] sa sc none 0 (kpo w 0) none d8 hre (fun b hb => less_lt hb) less_len (by omega) (by show 0 + ops.length ≤ 200; omega) (fun w' hk => ⟨hs.kept htab (by kernel_rfl) hk, ho.kept (by decide) htab (by kernel_rfl) hk⟩) _ (tab_at htab (g := 0) (by kernel_rfl) (hM.old _ (tab_lt htab (by kernel_rfl)) (fun g => g.2 rfl))) ((hM.firstN 4).notFoot (tab_lt htab (by kernel_rfl)) (fun g => g.2 rfl)) (hM.hereN 4)) ?_; clear hA a
     rintro e w9 ⟨ba10, bn11, bc12, ua13, uc14, rfl, -, hn⟩
     replace hM : Mem _ _ [pt b7 #[.slice oa ops.length oc, .slice ba10 bn11 bc12, .slice ua13 (([] : List Int).length) uc14, .map (some mb6)] 58, own 3 1 (.slice ua13 ((([] : List Int)).length) uc14) ((([] : List Int)).length) ((([] : List Int)).map (Value.int .i64)), mpc mb6 d8, kpo w 0] _ := hM.callL 4 hn; clear hn
     refine ⟨.bool false, rfl, fun a hA => ?_⟩
     refine S.val hA (R.not rfl) rfl ?_; clear hA a; intro a hA
     refine S.done ?_
     replace hM := hM.front (k := 3) rfl
     replace hM := hM.backOld
     replace hM : Mem _ _ [pt b7 #[.slice oa ops.length oc, .slice ba10 bn11 bc12, .slice ua13 (([] : List Int).length) uc14, .map (some mb6)] 58, own 3 1 (.slice ua13 ((([] : List Int)).length) uc14) ((([] : List Int)).length) ((([] : List Int)).map (Value.int .i64)), mpc mb6 d8] _ := hM
     replace hA : St 42 [(8, _), (37, _)] a := hA.sub ((.cons rfl (.cons rfl .nil)))
     refine Ends.condT hA rfl ?_
     refine Ends.seq (Ends.region ?_)
     refine S.val hA (R.assign rfl) rfl ?_; clear hA a; intro a hA
     refine S.val hA (R.assign rfl) rfl ?_; clear hA a; intro a hA
     refine S.done ?_
     refine Ends.ret2 Tryd.func7 Tryd.results7 hA rfl rfl ?_
     have hP : hordP Zs ops = ([], 11) := by unfold hordP; rw [if_pos hall, if_neg (by omega), hre]
     rw [hP]
     exact ⟨none, 0, rfl, ⟨none, 0, rfl, Nat.le_refl _, Nat.zero_le _, fun _ => rfl, fun h => absurd rfl h⟩, fun p hp => (by cases hp), Mem.trans0 hbs hM.nilL⟩
    ·
     obtain ⟨r9, rfl⟩ : ∃ r, o9 = some r := by cases o9 with | none => exact absurd rfl hs9 | some r => exact ⟨r, rfl⟩
     refine Ends.region ?_
     refine S.val hA (R.move rfl) rfl ?_; clear hA a; intro a hA
     refine S.val hA (R.move rfl) rfl ?_; clear hA a; intro a hA
     refine S.val hA (R.lenS Tryd.underlying23 rfl rfl) rfl ?_; clear hA a; intro a hA
     refine S.call hA (R.callF Tryd.func22 rfl rfl rfl) rfl (full21 ops.length (by omega) _) ?_; clear hA a
     rintro e w10 ⟨rfl, hb⟩
     replace hM := hM.callB hb; clear hb
     refine ⟨.agg #[.int .u64 (loW (lessF ops.length)), .int .u64 (hiW (lessF ops.length))], rfl, fun a hA => ?_⟩
     replace hM := hM.front (k := 3) rfl
     replace hM := hM.front (k := 2) rfl
     replace hM := hM.front (k := 3) rfl
     replace hM : Mem _ _ [pt b7 #[.slice oa ops.length oc, .slice sa Zs.length sc, .slice none (([] : List Int).length) 0, .map (some mb6)] 58, own 3 1 (.slice none ((([] : List Int)).length) 0) ((([] : List Int)).length) ((([] : List Int)).map (Value.int .i64)), mpc mb6 [], kpo w 0] _ := hM
     refine S.call hA (R.callF Tryd.func21 rfl rfl rfl) rfl (find_all ops (by omega) oa oc b7 mb6 ops.length (lessF ops.length) Zs [] [] sa sc none 0 (kpo w 0) (some r9) d8 hre (fun b hb => less_lt hb) less_len (by omega) (by show 0 + ops.length ≤ 200; omega) (fun w' hk => ⟨hs.kept htab (by kernel_rfl) hk, ho.kept (by decide) htab (by kernel_rfl) hk⟩) _ (tab_at htab (g := 0) (by kernel_rfl) (hM.old _ (tab_lt htab (by kernel_rfl)) (fun g => g.2 rfl))) ((hM.firstN 4).notFoot (tab_lt htab (by kernel_rfl)) (fun g => g.2 rfl)) (hM.hereN 4)) ?_; clear hA a
     rintro e w11 ⟨ba15, bn16, bc17, ua18, uc19, rfl, -, hn⟩
     replace hM : Mem _ _ [pt b7 #[.slice oa ops.length oc, .slice ba15 bn16 bc17, .slice ua18 r9.length uc19, .map (some mb6)] 58, own 3 1 (.slice ua18 r9.length uc19) r9.length (r9.map (Value.int .i64)), mpc mb6 d8, kpo w 0] _ := hM.callL 4 hn; clear hn
     refine ⟨.bool true, rfl, fun a hA => ?_⟩
     refine S.val hA (R.not rfl) rfl ?_; clear hA a; intro a hA
     refine S.done ?_
     replace hM := hM.front (k := 3) rfl
     replace hM := hM.backOld
     replace hM : Mem _ _ [pt b7 #[.slice oa ops.length oc, .slice ba15 bn16 bc17, .slice ua18 r9.length uc19, .map (some mb6)] 58, own 3 1 (.slice ua18 r9.length uc19) r9.length (r9.map (Value.int .i64)), mpc mb6 d8] _ := hM
     replace hA : St 42 [(8, _), (37, _)] a := hA.sub ((.cons rfl (.cons rfl .nil)))
     refine Ends.condF hA rfl ?_
     refine Ends.skip (Ends.seq (Ends.region ?_))
     refine S.val hA (R.move rfl) rfl ?_; clear hA a; intro a hA
     refine S.val hA (R.nilCheck rfl) rfl ?_; clear hA a; intro a hA
     refine S.val hA (R.fieldAddr (q := 2) fi58_2 rfl rfl rfl) rfl ?_; clear hA a; intro a hA
     refine S.val hA (R.load sz22 rfl (hM.cell (k := 0) rfl rfl)) rfl ?_; clear hA a; intro a hA
     refine S.val hA (R.assign rfl) rfl ?_; clear hA a; intro a hA
     refine S.val hA (R.assign rfl) rfl ?_; clear hA a; intro a hA
     refine S.done ?_
     replace hA : St 42 [(4, _), (5, _)] a := hA.sub ((.cons rfl (.cons rfl .nil)))
     refine Ends.ret2 Tryd.func7 Tryd.results7 hA rfl rfl ?_
     have hP : hordP Zs ops = (r9, 0) := by unfold hordP; rw [if_pos hall, if_neg (by omega), hre]
     rw [hP]
     exact ⟨ua18, uc19, rfl, hM.rsl (k := 1) rfl, hM.ownFresh (k := 1) rfl, Mem.trans0 hbs hM.nilL⟩
  ·
   refine Ends.region ?_
   refine S.val hA (R.move rfl) rfl ?_; clear hA a; intro a hA
   refine S.val hA (R.lenS Tryd.underlying23 rfl rfl) rfl ?_; clear hA a; intro a hA
   refine S.val hA (R.gtr rfl rfl) rfl ?_; clear hA a; intro a hA
   refine S.val hA (R.move rfl) rfl ?_; clear hA a; intro a hA
   refine hA.split (d := 22) rfl ?_ ?_
   ·
    clear hA; intro hg20 hA
    refine S.no (dj := 22) hA (by kernel_rfl) rfl rfl rfl ?_; clear hA a; intro a hA
    refine S.no (dj := 22) hA (by kernel_rfl) rfl rfl rfl ?_; clear hA a; intro a hA
    refine S.no (dj := 22) hA (by kernel_rfl) rfl rfl rfl ?_; clear hA a; intro a hA
    refine S.val hA (R.pickT rfl rfl) rfl ?_; clear hA a; intro a hA
    refine S.done ?_
    replace hA : St 42 [(0, _), (1, _), (26, _)] a := hA.sub ((.cons rfl (.cons rfl (.cons rfl .nil))))
    exact hJ _ _ ⟨hA.sub (.cons rfl (.cons rfl (.cons (by first | rfl | exact congrArg (fun b => some (Value.bool b)) (by first | exact decide_eq_decide.2 (by omega) | exact or_bool (by omega) | exact and_bool (by omega) | (simp; done) | (simp [hg20]; done) | (have h80 := hg20; (try simp at h80); simp [h80]; done) | exact (decide_eq_false (fun h9 => hg20 h9.1)).symm)) .nil))), hM⟩
   ·
    clear hA; intro hg20 hA
    refine S.valg (dj := 22) hA (by kernel_rfl) rfl (R.move rfl) rfl ?_; clear hA a; intro a hA
    refine S.valg (dj := 22) hA (by kernel_rfl) rfl (R.lenS Tryd.underlying22 rfl rfl) rfl ?_; clear hA a; intro a hA
    refine S.valg (dj := 22) hA (by kernel_rfl) rfl (R.gtr rfl rfl) rfl ?_; clear hA a; intro a hA
    refine S.val hA (R.pickF rfl rfl) rfl ?_; clear hA a; intro a hA
    refine S.done ?_
    replace hA : St 42 [(0, _), (1, _), (26, _)] a := hA.sub ((.cons rfl (.cons rfl (.cons rfl .nil))))
    exact hJ _ _ ⟨hA.sub (.cons rfl (.cons rfl (.cons (by first | rfl | exact congrArg (fun b => some (Value.bool b)) (by first | exact decide_eq_decide.2 (by omega) | exact or_bool (by omega) | exact and_bool (by omega) | (simp; done) | (simp [hg20]; done) | (have h80 := hg20; (try simp at h80); simp [h80]; done) | exact (decide_eq_false (fun h9 => hg20 h9.1)).symm)) .nil))), hM⟩
end Go.Proofs.YtjjbognomeplbaaDoor
namespace Go.Proofs.YtjjbognomeplbaaDoor
open Go.RowKit
def iof : Nat → Nat → List Int
  | _, 0 => []
  | a, n + 1 => (a : Int) :: iof (a + 1) n
theorem iof_len : ∀ n a, (iof a n).length = n
  | 0, _ => rfl
  | n + 1, a => by rw [iof, List.length_cons, iof_len n]
theorem iof_snoc : ∀ n a, iof a n ++ [((a + n : Nat) : Int)] = iof a (n + 1)
  | 0, a => rfl
  | n + 1, a => by
    rw [iof, List.cons_append, show a + (n + 1) = (a + 1) + n by omega, iof_snoc n (a + 1)]
    rfl
def runP : List Int → List HOp → Option (List Int)
  | b, [] => some b
  | b, o :: l => match doP o b with
    | none => none
    | some b' => runP b' l
theorem runP_snoc {c c' : List Int} {o : HOp} : ∀ (l : List HOp) (b : List Int), runP b l = some c → doP o c = some c' → runP b (l ++ [o]) = some c'
  | [], b, h1, h2 => by
    have e : b = c := Option.some.inj (by rw [← h1]; unfold runP; rfl)
    rw [← e] at h2
    show (match doP o b with | none => none | some b' => runP b' []) = _
    rw [h2]; rfl
  | p :: l, b, h1, h2 => by
    rw [List.cons_append, runP]
    rw [runP] at h1
    cases hp : doP p b with
    | none => rw [hp] at h1; cases h1
    | some b' => rw [hp] at h1; exact runP_snoc l b' h1 h2
def btw (k n b : Nat) : Bool := decide (k ≤ b) && decide (b < n)
theorem btw_wo {k n : Nat} : woF (btw k n) k = btw (k + 1) n := by
  funext b
  rw [Bool.eq_iff_iff]
  simp only [woF, btw, Bool.and_eq_true, Bool.not_eq_true', decide_eq_true_eq, decide_eq_false_iff_not]
  omega
theorem btw_less {n : Nat} : btw 0 n = lessF n := by
  funext b; unfold btw lessF; simp
def times (ops : List HOp) : Prop := ∀ j, j < ops.length → (hop ops j).f = 3 * (j : Int) ∧ (hop ops j).t = 3 * (j : Int) + 1
theorem hop_drop {ops : List HOp} {k : Nat} (h : k < ops.length) : ops.drop k = hop ops k :: ops.drop (k + 1) := by
  rw [List.drop_eq_getElem_cons h]
  unfold hop; simp [List.getD, h]
theorem rows_chain {ops : List HOp} (hn : ops.length ≤ 12) (ht : times ops) {c : List Int} : ∀ (n k : Nat) (b : List Int), k + n = ops.length → runP b (ops.drop k) = some c → OkC ops (iof k n) (btw k ops.length) b
  | 0, k, b, hk, _ => key_zero.2 fun q _ => by
      rw [Bool.eq_false_iff]
      intro h
      simp only [btw, Bool.and_eq_true, decide_eq_true_eq] at h
      omega
  | n + 1, k, b, hk, hr => by
    rw [hop_drop (by omega), runP] at hr
    cases hd : doP (hop ops k) b with
    | none => rw [hd] at hr; cases hr
    | some b' =>
      rw [hd] at hr
      refine ⟨k, rfl, by omega, ?_, ?_, fun a ha hf => ?_, b', hd, ?_⟩
      · simp only [btw, Bool.and_eq_true, decide_eq_true_eq]; omega
      · refine may_yes fun x hx => ?_
        obtain ⟨q, rfl, hq, hf⟩ := mem_eL.1 hx
        rw [btw_wo] at hf
        simp only [btw, Bool.and_eq_true, decide_eq_true_eq] at hf
        have h1 := (ht q hf.2).2
        have h2 := (ht k (by omega)).1
        unfold tlt
        rw [show ((q : Nat) : Int).toNat = q from rfl, h1, h2]
        exact decide_eq_false (by omega)
      · exfalso
        simp only [btw, Bool.and_eq_true, decide_eq_true_eq] at hf
        omega
      · rw [btw_wo]
        exact rows_chain hn ht n (k + 1) b' (by omega) hr
theorem rows_find {ops : List HOp} {b c : List Int} (hn : ops.length ≤ 12) (hb : b.length ≤ 100) (ht : times ops) (hr : ∀ j, j < ops.length → rightP (hop ops j) = true) (h : runP b ops = some c) : hordP b ops = (iof 0 ops.length, 0) := by
  refine hordP_ok ?_ hn hb ?_ (by rw [iof_len]; omega)
  · refine List.all_eq_true.2 fun o ho => ?_
    obtain ⟨j, hj, rfl⟩ := List.getElem_of_mem ho
    have := hr j hj
    unfold hop at this
    rwa [show ops.getD j ⟨0, 0, 0, 0⟩ = ops[j] by simp [List.getD, hj]] at this
  · rw [← btw_less]
    exact rows_chain hn ht ops.length 0 b (by omega) h
theorem hop_app {ops : List HOp} {o : HOp} {j : Nat} (h : j < ops.length) : hop (ops ++ [o]) j = hop ops j := by
  unfold hop; simp [List.getD, h, List.getElem?_append_left h]
theorem hop_last {ops : List HOp} {o : HOp} : hop (ops ++ [o]) ops.length = o := by
  unfold hop; simp [List.getD]
def RowI (start : List Int) (ops : List HOp) (bag : List Int) : Prop :=
  times ops ∧ (∀ j, j < ops.length → rightP (hop ops j) = true) ∧ bag.length ≤ start.length + ops.length ∧ ((∀ z ∈ start, z ≠ -1) → runP start ops = some bag ∧ ∀ z ∈ bag, z ≠ -1)
theorem rowI_nil (start : List Int) : RowI start [] start := ⟨fun j h => absurd h (Nat.not_lt_zero _), fun j h => absurd h (Nat.not_lt_zero _), by simp, fun h => ⟨rfl, h⟩⟩
theorem rowI_step {start bag bag' : List Int} {ops : List HOp} {o : HOp} (h : RowI start ops bag) (hf : o.f = 3 * (ops.length : Int)) (ht : o.t = 3 * (ops.length : Int) + 1) (hr : rightP o = true) (hl : bag'.length ≤ bag.length + 1)
    (hd : (∀ z ∈ bag, z ≠ -1) → doP o bag = some bag' ∧ ∀ z ∈ bag', z ≠ -1) : RowI start (ops ++ [o]) bag' := by
  obtain ⟨h1, h2, h3, h4⟩ := h
  refine ⟨fun j hj => ?_, fun j hj => ?_, ?_, fun hs => ?_⟩
  · rcases Nat.lt_or_ge j ops.length with g | g
    · rw [hop_app g]; exact h1 j g
    · have : j = ops.length := by simp at hj; omega
      subst this; rw [hop_last]; exact ⟨hf, ht⟩
  · rcases Nat.lt_or_ge j ops.length with g | g
    · rw [hop_app g]; exact h2 j g
    · have : j = ops.length := by simp at hj; omega
      subst this; rw [hop_last]; exact hr
  · simp; omega
  · obtain ⟨g1, g2⟩ := h4 hs
    obtain ⟨g3, g4⟩ := hd g2
    exact ⟨runP_snoc ops start g1 g3, g4⟩
theorem rowI_put {start bag : List Int} {ops : List HOp} {i f t : Int} (h : RowI start ops bag) (hi : 0 ≤ i) (hf : f = 3 * (ops.length : Int)) (ht : t = 3 * (ops.length : Int) + 1) : RowI start (ops ++ [⟨1, i, f, t⟩]) (bag ++ [i]) := by
  refine rowI_step h hf ht ?_ (by simp) fun hb => ⟨by unfold doP; rw [if_pos rfl], fun z hz => ?_⟩
  · unfold rightP
    rw [if_pos rfl, decide_eq_true (show i ≠ -1 by omega), decide_eq_true (show f ≤ t by omega)]; rfl
  · rcases List.mem_append.1 hz with g | g
    · exact hb z g
    · rw [List.mem_singleton.1 g]; omega
theorem rowI_take {start bag : List Int} {ops : List HOp} {f t : Int} (h : RowI start ops bag) (hb0 : bag ≠ []) (hf : f = 3 * (ops.length : Int)) (ht : t = 3 * (ops.length : Int) + 1) : RowI start (ops ++ [⟨2, bag.getD 0 0, f, t⟩]) (bag.drop 1) := by
  refine rowI_step h hf ht ?_ (by simp; omega) fun hb => ?_
  · unfold rightP
    rw [if_neg (show ¬ ((2 : Int) = 1) by decide), if_pos rfl]; exact decide_eq_true (show f ≤ t by omega)
  · cases bag with
    | nil => exact absurd rfl hb0
    | cons z l =>
      refine ⟨?_, fun y hy => hb y (.tail _ hy)⟩
      unfold doP
      rw [if_neg (show ¬ ((2 : Int) = 1) by decide), if_neg (show ¬ ((z :: l).getD 0 0 = -1) from hb z (.head _)), if_pos (show (z :: l).getD 0 0 ∈ z :: l from .head _)]
      simp
theorem rowI_none {start : List Int} {ops : List HOp} {f t : Int} (h : RowI start ops []) (hf : f = 3 * (ops.length : Int)) (ht : t = 3 * (ops.length : Int) + 1) : RowI start (ops ++ [⟨2, -1, f, t⟩]) [] := by
  refine rowI_step h hf ht ?_ (by simp) fun hb => ⟨by unfold doP; rw [if_neg (show ¬ ((2 : Int) = 1) by decide), if_pos rfl, if_pos rfl], hb⟩
  unfold rightP
  rw [if_neg (show ¬ ((2 : Int) = 1) by decide), if_pos rfl]; exact decide_eq_true (show f ≤ t by omega)
theorem hP1 : hordP [] [⟨2, -1, 0, 5⟩, ⟨1, 7, 1, 2⟩] = ([0, 1], 0) := by decide +kernel
theorem hP2 : hordP [] [⟨2, 7, 0, 1⟩, ⟨1, 7, 2, 3⟩] = ([], 11) := by decide +kernel
def hopV (l : List HOp) : List Value := (hopv l).map (Value.int .i64)
theorem hopV_app (l : List HOp) (o : HOp) : hopV l ++ [.int .i64 o.k, .int .i64 o.i, .int .i64 o.f, .int .i64 o.t] = hopV (l ++ [o]) := by
  unfold hopV; rw [hopv_app]; simp [hopv]
end Go.Proofs.YtjjbognomeplbaaDoor
namespace Go.Proofs.YtjjbognomeplbaaDoor
open Go.RowKit
theorem lt_of_cell' {w : World} {b o : Nat} {v : Value} (h : w.cell? ⟨b, o, none⟩ = some v) : b < w.heap.size := by
  unfold World.cell? at h
  cases ho : w.heap[b]? with
  | none => rw [ho] at h; cases h
  | some x => exact (Array.getElem?_eq_some_iff.1 ho).1
theorem Mem.ptRow {w0 w : World} {F : Nat → Prop} {L : List Ck} {k b : Nat} {ops : List HOp} {cs : List Value} {t : TypeId} (hM : Mem w0 F L w) (hk : ith L k = some (pt b cs.toArray t)) (hc : cs = hopV ops) (hm : ops.length ≤ 100000) : RowSl w (.slice (some ⟨b, 0, none⟩) ops.length ops.length) 4 ops.length (hopv ops) := by
  subst hc
  refine ⟨_, _, rfl, Nat.le_refl _, by unfold maxLen; omega, hopv_len ops, fun _ => ⟨b, 0, rfl, hM.lt hk, fun i hi => ?_⟩⟩
  rw [Nat.zero_add]
  refine hM.cell hk ?_
  have hl := hopv_len ops
  unfold hopV
  simp only [List.getElem?_toArray]
  exact mapi_get (hopv ops) i (by omega)
theorem Mem.ownRow {w0 w : World} {F : Nat → Prop} {L : List Ck} {k c : Nat} {a : Option Addr} {ops : List HOp} {t : TypeId} (hM : Mem w0 F L w) (hk : ith L k = some (own t 4 (.slice a ops.length c) ops.length (hopV ops))) : RowSl w (.slice a ops.length c) 4 ops.length (hopv ops) := by
  obtain ⟨a', c', he, h1, h2, h3, h4, h5⟩ := hM.ownForm hk
  cases he
  refine ⟨a, c, rfl, h1, h2, hopv_len ops, fun hp => ?_⟩
  obtain ⟨g, rfl⟩ := hM.ownAt hk hp
  have hl := hopv_len ops
  refine ⟨g, 0, rfl, ?_, fun i hi => ?_⟩
  · have h9 := hM.ownCell hk (i := 0) (u := .int .i64 ((hopv ops).getD 0 0)) (mapi_get (hopv ops) 0 (by omega))
    exact lt_of_cell' h9
  · rw [Nat.zero_add]
    exact hM.ownCell hk (mapi_get (hopv ops) i (by omega))
set_option maxRecDepth 100000 in
set_option maxHeartbeats 400000 in
theorem same21 (ax : Option Addr) (X : List Int) (cx : Nat) (ay : Option Addr) (cy : Nat) (w : World) (hx : IntSl w (.slice ax X.length cx) X) (hy : IntSl w (.slice ay X.length cy) X) :
  Calls Tryd.prog 8 #[.slice ax X.length cx, .slice ay X.length cy] w fun e w' => e = .returned (.bool true) ∧ Below w.heap.size w w' := by
 have hbs := Below.refl (B := w.heap.size) w
 have hlX := hx.lenB
 have hM := Mem.start w
 refine Calls.of_ends (vs := [.slice ax X.length cx, .slice ay X.length cy]) Tryd.func8 rfl Tryd.ntmps8 rfl ?_
 intro a hA
 replace hA : St 26 [(0, _), (1, _)] a := hA
 refine Ends.seq (Ends.region ?_)
 refine S.val hA (R.assign rfl) rfl ?_; clear hA a; intro a hA
 refine S.done ?_
 refine Ends.seq (Ends.seq (Ends.region ?_))
 refine S.val hA (R.move rfl) rfl ?_; clear hA a; intro a hA
 refine S.val hA (R.lenS Tryd.underlying22 rfl rfl) rfl ?_; clear hA a; intro a hA
 refine S.val hA (R.move rfl) rfl ?_; clear hA a; intro a hA
 refine S.val hA (R.lenS Tryd.underlying22 rfl rfl) rfl ?_; clear hA a; intro a hA
 refine S.val hA (R.ff (R.neq rfl rfl) (by first | decide | simp | omega)) rfl ?_; clear hA a; intro a hA
 refine S.done ?_
 replace hA : St 26 [(0, _), (1, _), (10, _)] a := hA.sub ((.cons rfl (.cons rfl (.cons rfl .nil))))
 refine Ends.condF hA rfl ?_
 refine Ends.skip (Ends.seq (Ends.seq (Ends.region ?_)))
 refine S.val hA (R.assign rfl) rfl ?_; clear hA a; intro a hA
 refine S.done ?_
 refine Ends.block ?_
 refine Ends.loop (σ := Nat) (fun k (a : Act) (wv : World) => St 26 [(0, .slice ax X.length cx), (1, .slice ay X.length cy), (5, .int .i64 ((k : Int)))] a ∧ Mem w nof [] wv ∧ (k ≤ X.length)) (fun k => X.length - k) 0 ⟨hA.sub ((.cons rfl (.cons rfl (.cons rfl .nil)))), hM, (Nat.zero_le _)⟩ ?_
 clear hA hM a
 rintro k a w1 ⟨hA, hM, hk⟩ hNext
 refine Ends.seq (Ends.seq (Ends.region ?_))
 refine S.val hA (R.move rfl) rfl ?_; clear hA a; intro a hA
 refine S.val hA (R.move rfl) rfl ?_; clear hA a; intro a hA
 refine S.val hA (R.lenS Tryd.underlying22 rfl rfl) rfl ?_; clear hA a; intro a hA
 refine S.val hA (R.lss rfl rfl) rfl ?_; clear hA a; intro a hA
 refine S.done ?_
 refine Ends.ite hA rfl (fun hc1 => ?_) (fun hc1 => ?_)
 ·
  refine Ends.skip (Ends.seq (Ends.block (Ends.seq ?_)))
  refine Ends.drawn (Mem w nof []) (.cons (0, true) (.cons (1, true) (.cons (2, true) (.cons (3, true) (.cons (4, true) (.cons (5, true) (.cons (6, true) (.cons (7, true) (.cons (8, true) .nil))))))))) 9 mixed (by kernel_rfl) (by kernel_rfl) (by kernel_rfl) hM.drew ?_
  replace hM := hM.drew
  refine D.valF hA rfl (fun _ => R.move rfl) rfl ?_; clear hA a; intro a hA
  refine D.valF hA rfl (fun _ => R.move rfl) rfl ?_; clear hA a; intro a hA
  refine D.valF hA rfl (fun _ => R.idxI hx (j := k) sl22 rfl rfl (by omega) (rfl)) rfl ?_; clear hA a; intro a hA
  refine D.val hA rfl (by kernel_rfl) (fun _ hM => R.loadI (hx.mem hM) sz3 rfl (by omega)) rfl ?_; clear hA a; intro a hA
  refine D.valF hA rfl (fun _ => R.move rfl) rfl ?_; clear hA a; intro a hA
  refine D.valF hA rfl (fun _ => R.move rfl) rfl ?_; clear hA a; intro a hA
  refine D.valF hA rfl (fun _ => R.idxI hy (j := k) sl22 rfl rfl (by omega) (rfl)) rfl ?_; clear hA a; intro a hA
  refine D.val hA rfl (by kernel_rfl) (fun _ hM => R.loadI (hy.mem hM) sz3 rfl (by omega)) rfl ?_; clear hA a; intro a hA
  refine D.valF hA rfl (fun _ => R.ff (R.neq rfl rfl) (not_not_intro rfl)) rfl ?_; clear hA a; intro a hA
  refine D.done ?_
  replace hA : St 26 [(0, _), (1, _), (5, _), (25, _)] a := hA.sub ((.cons rfl (.cons rfl (.cons rfl (.cons rfl .nil)))))
  refine Ends.condF hA rfl ?_
  refine Ends.skip (Ends.inBlock (Ends.region ?_))
  refine S.val hA (R.move rfl) rfl ?_; clear hA a; intro a hA
  refine S.val hA (R.addI rfl rfl (r := ((k : Int)) + 1) rfl (by omega)) rfl ?_; clear hA a; intro a hA
  refine S.val hA (R.assign rfl) rfl ?_; clear hA a; intro a hA
  refine S.done ?_
  exact hNext ((k + 1)) _ _ ((by show X.length - (k + 1) < X.length - k; omega)) ⟨hA.sub ((.cons rfl (.cons rfl (.cons rfl .nil)))), hM, (by omega)⟩
 ·
  refine Ends.exit rfl ?_
  replace hA : St 26 [] a := hA.sub (.nil)
  refine Ends.seq (Ends.region ?_)
  refine S.val hA (R.assign rfl) rfl ?_; clear hA a; intro a hA
  refine S.done ?_
  refine Ends.ret1 Tryd.func8 Tryd.results8 hA rfl ?_
  exact ⟨rfl, Mem.trans0 hbs hM.nilL⟩
theorem orders_eq (sa : Option Addr) (Zs : List Int) (sc : Nat) (oa : Option Addr) (ops : List HOp) (oc : Nat) {r : List Int} {er : Int} (hP : hordP Zs ops = (r, er)) (w : World) (hs : IntSl w (.slice sa Zs.length sc) Zs) (ho : RowSl w (.slice oa ops.length oc) 4 ops.length (hopv ops)) (htab : Lib.TabIs Tryd.prog w "math/bits.deBruijn64tab" .u8 debT) :
    Calls Tryd.prog 7 #[.slice sa Zs.length sc, .slice oa ops.length oc] w fun e w' => ∃ a c, e = .returned (.tuple #[.slice a r.length c, .int .i64 er]) ∧ IntSl w' (.slice a r.length c) r ∧ frs w.heap.size a ∧ Below w.heap.size w w' := by
  have h := orders21 sa Zs sc oa ops oc w hs ho htab
  rwa [hP] at h
theorem int_nil (w : World) : IntSl w (.slice none 0 0) [] := ⟨none, 0, rfl, Nat.le_refl _, Nat.zero_le _, fun _ => rfl, fun h => absurd rfl h⟩
set_option maxRecDepth 100000 in
set_option maxHeartbeats 400000 in
theorem hists21  (w : World) (htab : Lib.TabIs Tryd.prog w "math/bits.deBruijn64tab" .u8 debT) :
  Calls Tryd.prog 6 #[] w fun e w' => e = .returned (.bool true) ∧ Below w.heap.size w w' := by
 have hbs := Below.refl (B := w.heap.size) w
 have hM := Mem.start w
 refine Calls.of_ends (vs := []) Tryd.func6 rfl Tryd.ntmps6 rfl ?_
 intro a hA
 replace hA : St 30 [] a := hA
 refine Ends.seq (Ends.region ?_)
 refine S.val hA (R.assign rfl) rfl ?_; clear hA a; intro a hA
 refine S.done ?_
 refine Ends.seq (Ends.region ?_)
 refine S.val hA (R.build (cells := #[.int .i64 2, .int .i64 (-1), .int .i64 0, .int .i64 5]) rfl (by kernel_rfl)) rfl ?_; clear hA a; intro a hA
 refine S.val hA (R.build (cells := #[.int .i64 1, .int .i64 7, .int .i64 1, .int .i64 2]) rfl (by kernel_rfl)) rfl ?_; clear hA a; intro a hA
 refine S.buildSl (cells := #[.int .i64 2, .int .i64 (-1), .int .i64 0, .int .i64 5, .int .i64 1, .int .i64 7, .int .i64 1, .int .i64 2]) hA hM Tryd.underlying23 info26 rfl rfl rfl rfl (by kernel_rfl) rfl ?_; clear hA hM a; intro b1 w1 hb2 hM a hA
 replace hM : Mem _ _ [pt b1 #[.int .i64 2, .int .i64 (-1), .int .i64 0, .int .i64 5, .int .i64 1, .int .i64 7, .int .i64 1, .int .i64 2] 26] _ := hM
 refine S.call hA (R.callF Tryd.func7 rfl rfl rfl) rfl (orders_eq none ([]) 0 ((some ⟨b1, 0, none⟩)) ([⟨2, -1, 0, 5⟩, ⟨1, 7, 1, 2⟩]) 2 hP1 _ (int_nil _) (hM.ptRow (k := 0) (ops := [⟨2, -1, 0, 5⟩, ⟨1, 7, 1, 2⟩]) rfl rfl (by decide)) (tab_below htab (Mem.trans0 hbs hM.nilL))) ?_; clear hA a
 rintro e w2 ⟨ra3, rc4, rfl, hr5, hf6, hb⟩
 replace hM : Mem _ _ [rd ra3 rc4 (([0, 1] : List Int)), pt b1 #[.int .i64 2, .int .i64 (-1), .int .i64 0, .int .i64 5, .int .i64 1, .int .i64 7, .int .i64 1, .int .i64 2] 26] _ := hM.callRd hb hr5 hf6; clear hb
 refine ⟨.tuple #[.slice ra3 ((([0, 1] : List Int)).length) rc4, .int .i64 0], rfl, fun a hA => ?_⟩
 refine S.val hA (R.move rfl) rfl ?_; clear hA a; intro a hA
 refine S.val hA (R.extract (v := .slice ra3 ((([0, 1] : List Int)).length) rc4) rfl rfl) rfl ?_; clear hA a; intro a hA
 refine S.val hA (R.extract (v := .int .i64 0) rfl rfl) rfl ?_; clear hA a; intro a hA
 refine S.val hA (R.assign rfl) rfl ?_; clear hA a; intro a hA
 refine S.val hA (R.assign rfl) rfl ?_; clear hA a; intro a hA
 refine S.done ?_
 replace hA : St 30 [(1, _), (2, _)] a := hA.sub ((.cons rfl (.cons rfl .nil)))
 refine Ends.seq (Ends.region ?_)
 refine S.val hA (R.build (cells := #[.int .i64 2, .int .i64 7, .int .i64 0, .int .i64 1]) rfl (by kernel_rfl)) rfl ?_; clear hA a; intro a hA
 refine S.val hA (R.build (cells := #[.int .i64 1, .int .i64 7, .int .i64 2, .int .i64 3]) rfl (by kernel_rfl)) rfl ?_; clear hA a; intro a hA
 refine S.buildSl (cells := #[.int .i64 2, .int .i64 7, .int .i64 0, .int .i64 1, .int .i64 1, .int .i64 7, .int .i64 2, .int .i64 3]) hA hM Tryd.underlying23 info26 rfl rfl rfl rfl (by kernel_rfl) rfl ?_; clear hA hM a; intro b7 w3 hb8 hM a hA
 replace hM : Mem _ _ [pt b7 #[.int .i64 2, .int .i64 7, .int .i64 0, .int .i64 1, .int .i64 1, .int .i64 7, .int .i64 2, .int .i64 3] 26, rd ra3 rc4 (([0, 1] : List Int)), pt b1 #[.int .i64 2, .int .i64 (-1), .int .i64 0, .int .i64 5, .int .i64 1, .int .i64 7, .int .i64 1, .int .i64 2] 26] _ := hM
 refine S.call hA (R.callF Tryd.func7 rfl rfl rfl) rfl (orders_eq none ([]) 0 ((some ⟨b7, 0, none⟩)) ([⟨2, 7, 0, 1⟩, ⟨1, 7, 2, 3⟩]) 2 hP2 _ (int_nil _) (hM.ptRow (k := 0) (ops := [⟨2, 7, 0, 1⟩, ⟨1, 7, 2, 3⟩]) rfl rfl (by decide)) (tab_below htab (Mem.trans0 hbs hM.nilL))) ?_; clear hA a
 rintro e w4 ⟨ra9, rc10, rfl, hr11, hf12, hb⟩
 replace hM : Mem _ _ [rd ra9 rc10 (([] : List Int)), pt b7 #[.int .i64 2, .int .i64 7, .int .i64 0, .int .i64 1, .int .i64 1, .int .i64 7, .int .i64 2, .int .i64 3] 26, rd ra3 rc4 (([0, 1] : List Int)), pt b1 #[.int .i64 2, .int .i64 (-1), .int .i64 0, .int .i64 5, .int .i64 1, .int .i64 7, .int .i64 1, .int .i64 2] 26] _ := hM.callRd hb hr11 hf12; clear hb
 refine ⟨.tuple #[.slice ra9 ((([] : List Int)).length) rc10, .int .i64 11], rfl, fun a hA => ?_⟩
 refine S.val hA (R.move rfl) rfl ?_; clear hA a; intro a hA
 refine S.val hA (R.extract (v := .slice ra9 ((([] : List Int)).length) rc10) rfl rfl) rfl ?_; clear hA a; intro a hA
 refine S.val hA (R.extract (v := .int .i64 11) rfl rfl) rfl ?_; clear hA a; intro a hA
 refine S.val hA (R.assign rfl) rfl ?_; clear hA a; intro a hA
 refine S.val hA (R.assign rfl) rfl ?_; clear hA a; intro a hA
 refine S.done ?_
 replace hA : St 30 [(1, _), (2, _), (4, _)] a := hA.sub ((.cons rfl (.cons rfl (.cons rfl .nil))))
 refine Ends.seq (Ends.region ?_)
 refine S.val hA (R.move rfl) rfl ?_; clear hA a; intro a hA
 refine S.val hA (R.tt (R.eql rfl rfl) (by first | decide | simp | omega)) rfl ?_; clear hA a; intro a hA
 refine S.val hA (R.move rfl) rfl ?_; clear hA a; intro a hA
 refine S.valg (dj := 21) hA (by kernel_rfl) rfl (R.move rfl) rfl ?_; clear hA a; intro a hA
 refine S.buildSlg (dj := 21) (cells := #[.int .i64 0, .int .i64 1]) hA hM (by kernel_rfl) rfl Tryd.underlying22 info3 rfl rfl rfl rfl (by kernel_rfl) rfl ?_; clear hA hM a; intro b13 w5 hb14 hM a hA
 replace hM : Mem _ _ [pt b13 #[.int .i64 0, .int .i64 1] 3, rd ra9 rc10 (([] : List Int)), pt b7 #[.int .i64 2, .int .i64 7, .int .i64 0, .int .i64 1, .int .i64 1, .int .i64 7, .int .i64 2, .int .i64 3] 26, rd ra3 rc4 (([0, 1] : List Int)), pt b1 #[.int .i64 2, .int .i64 (-1), .int .i64 0, .int .i64 5, .int .i64 1, .int .i64 7, .int .i64 1, .int .i64 2] 26] _ := hM
 refine S.callg (dj := 21) hA (by kernel_rfl) rfl (R.callF Tryd.func8 rfl rfl rfl) rfl (same21 ra3 (([0, 1] : List Int)) rc4 (some ⟨b13, 0, none⟩) 2 _ (hM.rd (k := 3) rfl) (hM.ptRs (k := 0) (X := [0, 1]) rfl (by decide))) ?_; clear hA a
 rintro e w6 ⟨rfl, hb⟩
 replace hM := hM.callB hb; clear hb
 refine ⟨.bool true, rfl, fun a hA => ?_⟩
 refine S.val hA (R.pickT rfl rfl) rfl ?_; clear hA a; intro a hA
 refine S.val hA (R.move rfl) rfl ?_; clear hA a; intro a hA
 refine S.valg (dj := 26) hA (by kernel_rfl) rfl (R.move rfl) rfl ?_; clear hA a; intro a hA
 refine S.valg (dj := 26) hA (by kernel_rfl) rfl (R.tt (R.eql rfl rfl) (by first | decide | simp | omega)) rfl ?_; clear hA a; intro a hA
 refine S.val hA (R.pickT rfl rfl) rfl ?_; clear hA a; intro a hA
 refine S.val hA (R.assign rfl) rfl ?_; clear hA a; intro a hA
 refine S.done ?_
 replace hA : St 30 [(0, _)] a := hA.sub ((.cons rfl .nil))
 refine Ends.ret1 Tryd.func6 Tryd.results6 hA rfl ?_
 exact ⟨rfl, Mem.trans0 hbs hM.nilL⟩
set_option maxRecDepth 100000 in
set_option maxHeartbeats 4000000 in
theorem histRows_w (ax : Option Addr) (Zs : List Int) (cx : Nat) (ay : Option Addr) (Rw : List Int) (cy : Nat) (w : World) (hx : IntSl w (.slice ax Zs.length cx) Zs) (hy : IntSl w (.slice ay Rw.length cy) Rw) (htab : Lib.TabIs Tryd.prog w "math/bits.deBruijn64tab" .u8 debT) :
  Calls Tryd.prog 3 #[.slice ax Zs.length cx, .slice ay Rw.length cy] w fun e w' => e = .returned (.bool true) ∧ Below w.heap.size w w' := by
 have hbs := Below.refl (B := w.heap.size) w
 have hlx := hx.lenB
 have hly := hy.lenB
 have hM := Mem.start w
 refine Calls.of_ends (vs := [.slice ax Zs.length cx, .slice ay Rw.length cy]) Tryd.func3 rfl Tryd.ntmps3 rfl ?_
 intro a hA
 replace hA : St 117 [(0, _), (1, _)] a := hA
 refine Ends.seq (Ends.region ?_)
 refine S.val hA (R.assign rfl) rfl ?_; clear hA a; intro a hA
 refine S.done ?_
 refine Ends.seq (Ends.region ?_)
 refine S.buildSl0 hA hM Tryd.underlying22 info3 rfl ?_; clear hA hM a; intro b1 w1 hb2 hM a hA
 replace hM := hM.ownPt (cap := 0) (n := 0) (sz := 1) (xs := []) rfl (Nat.zero_le _) (Nat.le_refl _) rfl
 replace hM : Mem _ _ [own 3 1 (.slice ((some ⟨b1, 0, none⟩)) 0 0) 0 ((([] : List Int)).map (Value.int .i64))] _ := hM
 refine S.val hA (R.move rfl) rfl ?_; clear hA a; intro a hA
 refine S.val hA (R.move rfl) rfl ?_; clear hA a; intro a hA
 refine S.val hA (R.lenS Tryd.underlying22 rfl rfl) rfl ?_; clear hA a; intro a hA
 refine S.val hA (R.min rfl rfl) rfl ?_; clear hA a; intro a hA
 have hsl3 := hx.cutR ((min Zs.length 20)) (by omega)
 refine S.val hA (R.sliceHI (h := (min Zs.length 20)) hx Tryd.underlying22 info3 rfl rfl (by omega) (by omega)) rfl ?_; clear hA a; intro a hA
 refine S.appendI (k := 0) hA hM rfl (hsl3.mem hM) Tryd.underlying22 info3 rfl rfl rfl rfl rfl rfl (by first | (unfold maxLen; omega) | (show (_ + 1) * 8 ≤ (140737488355328 : Nat); omega) | (show (_ + _) * 8 ≤ (140737488355328 : Nat); omega) | (show (_ + 1) * 32 ≤ (140737488355328 : Nat); omega) | (simp only [List.length_take, List.length_drop]; unfold maxLen; omega) | (show (_ + _) * 8 ≤ (140737488355328 : Nat); simp only [List.length_take, List.length_drop]; omega)) (by first | (unfold maxLen; omega) | (show (_ + 1) * 8 ≤ (140737488355328 : Nat); omega) | (show (_ + _) * 8 ≤ (140737488355328 : Nat); omega) | (show (_ + 1) * 32 ≤ (140737488355328 : Nat); omega) | (simp only [List.length_take, List.length_drop]; unfold maxLen; omega) | (show (_ + _) * 8 ≤ (140737488355328 : Nat); simp only [List.length_take, List.length_drop]; omega)) rfl ?_; clear hA hM a; intro a4 c5 w2 hM a hA
 have hl6 : 0 + ((Zs.take ((min Zs.length 20)))).length = (((Zs.take ((min Zs.length 20))))).length := by first | (simp; done) | simp only [List.length_append]
 rw [hl6, show (([] : List Int)).map (Value.int .i64) ++ ((Zs.take ((min Zs.length 20)))).map (Value.int .i64) = (((Zs.take ((min Zs.length 20))))).map (Value.int .i64) by simp] at hM; rw [hl6] at hA; clear hl6
 replace hM : Mem _ _ [own 3 1 (.slice a4 ((((Zs.take ((min Zs.length 20))))).length) c5) ((((Zs.take ((min Zs.length 20))))).length) ((((Zs.take ((min Zs.length 20))))).map (Value.int .i64))] _ := hM
 refine S.val hA (R.assign rfl) rfl ?_; clear hA a; intro a hA
 refine S.done ?_
 replace hA : St 117 [(0, _), (1, _), (5, _)] a := hA.sub ((.cons rfl (.cons rfl (.cons rfl .nil))))
 refine Ends.seq (Ends.region ?_)
 refine S.val hA (R.assign rfl) rfl ?_; clear hA a; intro a hA
 refine S.done ?_
 refine Ends.seq (Ends.region ?_)
 refine S.val hA (R.assign rfl) rfl ?_; clear hA a; intro a hA
 refine S.done ?_
 refine Ends.seq (Ends.seq (Ends.region ?_))
 refine S.val hA (R.assign rfl) rfl ?_; clear hA a; intro a hA
 refine S.done ?_
 refine Ends.block ?_
 replace hM := (hM.ownNil 3 1).ownNil 26 4
 replace hM : Mem _ _ [own 26 4 (.slice none ((([] : List HOp)).length) 0) ((([] : List HOp)).length) (hopV (([] : List HOp))), own 3 1 (.slice none (((iof 0 0)).length) 0) (((iof 0 0)).length) (((iof 0 0)).map (Value.int .i64)), own 3 1 (.slice a4 ((((Zs.take ((min Zs.length 20))))).length) c5) ((((Zs.take ((min Zs.length 20))))).length) ((((Zs.take ((min Zs.length 20))))).map (Value.int .i64))] _ := hM
 replace hM := hM.front (k := 1) rfl
 replace hM := hM.front (k := 1) rfl
 replace hM := hM.front (k := 2) rfl
 replace hM := hM.firstN 3
 replace hA : St 117 [(0, .slice ax Zs.length cx), (1, .slice ay Rw.length cy), (5, .slice a4 ((((Zs.take ((min Zs.length 20))))).length) c5), (6, .slice none (([] : List HOp).length) 0), (7, .slice none ((iof 0 0).length) 0), (8, .int .i64 0)] a := hA.sub ((.cons rfl (.cons rfl (.cons rfl (.cons rfl (.cons rfl (.cons rfl .nil)))))))
 refine Ends.loop (σ := Nat × Option Addr × Nat × List Int × Option Addr × Nat × List HOp × Option Addr × Nat) (fun (k, ba, bc, B, oa, oc, L, wa, wc) (a : Act) (wv : World) => St 117 [(0, .slice ax Zs.length cx), (1, .slice ay Rw.length cy), (5, .slice ba B.length bc), (6, .slice oa L.length oc), (7, .slice wa ((iof 0 k).length) wc), (8, .int .i64 ((k : Int)))] a ∧ Mem w nof [own 3 1 (.slice ba B.length bc) B.length (B.map (Value.int .i64)), own 26 4 (.slice oa L.length oc) L.length (hopV L), own 3 1 (.slice wa (((iof 0 k)).length) wc) (((iof 0 k)).length) (((iof 0 k)).map (Value.int .i64))] wv ∧ (k ≤ 12) ∧ (k ≤ Rw.length) ∧ (L.length = k) ∧ (RowI (Zs.take (min Zs.length 20)) L B)) (fun (k, ba, bc, B, oa, oc, L, wa, wc) => 12 - k) ((0, a4, c5, ((Zs.take ((min Zs.length 20)))), none, 0, [], none, 0)) ⟨hA.sub ((.cons rfl (.cons rfl (.cons rfl (.cons rfl (.cons rfl (.cons rfl .nil))))))), hM, (Nat.zero_le _), (Nat.zero_le _), rfl, rowI_nil _⟩ ?_
 clear hA hM a
 rintro ⟨k, ba, bc, B, oa, oc, L, wa, wc⟩ a w3 ⟨hA, hM, hk12, hkr, hL, hrow⟩ hNext
 refine Ends.seq (Ends.seq ?_)
 refine Ends.cut (fun (a : Act) (wv : World) => St 117 [(0, .slice ax Zs.length cx), (1, .slice ay Rw.length cy), (5, .slice ba B.length bc), (6, .slice oa L.length oc), (7, .slice wa ((iof 0 k).length) wc), (8, .int .i64 ((k : Int))), (27, .bool (decide ((((k : Int)) < ((Rw.length : Int)) ∧ ((k : Int)) < 12))))] a ∧ Mem w nof [own 3 1 (.slice ba B.length bc) B.length (B.map (Value.int .i64)), own 26 4 (.slice oa L.length oc) L.length (hopV L), own 3 1 (.slice wa (((iof 0 k)).length) wc) (((iof 0 k)).length) (((iof 0 k)).map (Value.int .i64))] wv) ?_ (fun k2 hJ => ?_)
 ·
  clear hA hM a; rintro a w4 ⟨hA, hM⟩
  refine Ends.ite hA rfl (fun hc7 => ?_) (fun hc7 => ?_)
  ·
   have hrl := hrow.2.2.1
   have hil := iof_len k 0
   have htl : ((Zs.take (min Zs.length 20))).length ≤ 20 := by rw [List.length_take]; omega
   have hdl : (B.drop 1).length = B.length - 1 := List.length_drop
   refine Ends.skip (Ends.seq (Ends.block (Ends.seq (Ends.region ?_))))
   refine S.val hA (R.move rfl) rfl ?_; clear hA a; intro a hA
   refine S.val hA (R.move rfl) rfl ?_; clear hA a; intro a hA
   refine S.val hA (R.idxI hy (j := k) sl22 rfl rfl (by omega) (rfl)) rfl ?_; clear hA a; intro a hA
   refine S.val hA (R.loadI (hy.mem hM) sz3 rfl (by omega)) rfl ?_; clear hA a; intro a hA
   refine S.val hA (R.conv Tryd.underlying24 Tryd.underlying3 rfl) rfl ?_; clear hA a; intro a hA
   refine S.val hA (R.remI rfl rfl rfl ⟨u64_nn _, by decide⟩) rfl ?_; clear hA a; intro a hA
   obtain ⟨n8, hn9, en10⟩ := umod_ex (Rw.getD k 0) 9 (by decide)
   refine S.val hA (R.to (v := .int .i64 (n8 : Int)) (R.conv Tryd.underlying3 Tryd.underlying24 rfl) (congrArg (Value.int .i64) en10)) rfl ?_; clear hA a; intro a hA
   refine S.val hA (R.move rfl) rfl ?_; clear hA a; intro a hA
   refine S.val hA (R.mulI rfl rfl (r := 3 * ((k : Int))) rfl (by omega)) rfl ?_; clear hA a; intro a hA
   refine S.val hA (R.move rfl) rfl ?_; clear hA a; intro a hA
   refine S.val hA (R.mulI rfl rfl (r := 3 * ((k : Int))) rfl (by omega)) rfl ?_; clear hA a; intro a hA
   refine S.val hA (R.addI rfl rfl (r := (3 * ((k : Int))) + 1) rfl (by omega)) rfl ?_; clear hA a; intro a hA
   refine S.val hA (R.build (cells := #[.int .i64 1, .int .i64 ((n8 : Int)), .int .i64 (3 * ((k : Int))), .int .i64 ((3 * ((k : Int))) + 1)]) rfl (by kernel_rfl)) rfl ?_; clear hA a; intro a hA
   refine S.alloc hA hM info26 rfl rfl ?_; clear hA hM a; intro b11 w5 hb12 hM a hA
   replace hM : Mem _ _ [pt b11 #[.int .i64 0, .int .i64 0, .int .i64 0, .int .i64 0] 26, own 3 1 (.slice ba B.length bc) B.length (B.map (Value.int .i64)), own 26 4 (.slice oa L.length oc) L.length (hopV L), own 3 1 (.slice wa (((iof 0 k)).length) wc) (((iof 0 k)).length) (((iof 0 k)).map (Value.int .i64))] _ := hM
   refine S.storeA (k := 0) hA hM sz26 rfl rfl rfl rfl rfl rfl ?_; clear hM
   intro w6 hM
   replace hM : Mem _ _ [pt b11 #[.int .i64 1, .int .i64 ((n8 : Int)), .int .i64 (3 * ((k : Int))), .int .i64 ((3 * ((k : Int))) + 1)] 26, own 3 1 (.slice ba B.length bc) B.length (B.map (Value.int .i64)), own 26 4 (.slice oa L.length oc) L.length (hopV L), own 3 1 (.slice wa (((iof 0 k)).length) wc) (((iof 0 k)).length) (((iof 0 k)).map (Value.int .i64))] _ := hM
   refine S.done ?_
   replace hA : St 117 [(0, _), (1, _), (5, _), (6, _), (7, _), (8, _), (9, _)] a := hA.sub ((.cons rfl (.cons rfl (.cons rfl (.cons rfl (.cons rfl (.cons rfl (.cons rfl .nil))))))))
   refine Ends.seq (Ends.seq (Ends.region ?_))
   refine S.val hA (R.move rfl) rfl ?_; clear hA a; intro a hA
   refine S.val hA (R.move rfl) rfl ?_; clear hA a; intro a hA
   refine S.val hA (R.idxI hy (j := k) sl22 rfl rfl (by omega) (rfl)) rfl ?_; clear hA a; intro a hA
   refine S.val hA (R.loadI (hy.mem hM) sz3 rfl (by omega)) rfl ?_; clear hA a; intro a hA
   refine S.val hA (R.rem rfl rfl (by omega)) rfl ?_; clear hA a; intro a hA
   refine S.val hA (R.eql rfl rfl) rfl ?_; clear hA a; intro a hA
   refine S.done ?_
   replace hA : St 117 [(0, _), (1, _), (5, _), (6, _), (7, _), (8, _), (9, _), (48, _)] a := hA.sub ((.cons rfl (.cons rfl (.cons rfl (.cons rfl (.cons rfl (.cons rfl (.cons rfl (.cons rfl .nil)))))))))
   refine Ends.ite hA rfl (fun hc13 => ?_) (fun hc13 => ?_)
   ·
    refine Ends.seq (Ends.region ?_)
    refine S.val hA (R.fieldAddr (q := 0) fi26_0 rfl rfl rfl) rfl ?_; clear hA a; intro a hA
    refine S.store (k := 0) hA hM sz3 rfl rfl rfl rfl rfl ?_; clear hM
    intro w7 hM
    replace hM : Mem _ _ [pt b11 #[.int .i64 2, .int .i64 ((n8 : Int)), .int .i64 (3 * ((k : Int))), .int .i64 ((3 * ((k : Int))) + 1)] 26, own 3 1 (.slice ba B.length bc) B.length (B.map (Value.int .i64)), own 26 4 (.slice oa L.length oc) L.length (hopV L), own 3 1 (.slice wa (((iof 0 k)).length) wc) (((iof 0 k)).length) (((iof 0 k)).map (Value.int .i64))] _ := hM
    refine S.val hA (R.fieldAddr (q := 1) fi26_1 rfl rfl rfl) rfl ?_; clear hA a; intro a hA
    refine S.store (k := 0) hA hM sz3 rfl rfl rfl rfl rfl ?_; clear hM
    intro w8 hM
    replace hM : Mem _ _ [pt b11 #[.int .i64 2, .int .i64 (-1), .int .i64 (3 * ((k : Int))), .int .i64 ((3 * ((k : Int))) + 1)] 26, own 3 1 (.slice ba B.length bc) B.length (B.map (Value.int .i64)), own 26 4 (.slice oa L.length oc) L.length (hopV L), own 3 1 (.slice wa (((iof 0 k)).length) wc) (((iof 0 k)).length) (((iof 0 k)).map (Value.int .i64))] _ := hM
    refine S.done ?_
    refine Ends.seq (Ends.region ?_)
    refine S.val hA (R.move rfl) rfl ?_; clear hA a; intro a hA
    refine S.val hA (R.lenS Tryd.underlying22 rfl rfl) rfl ?_; clear hA a; intro a hA
    refine S.val hA (R.gtr rfl rfl) rfl ?_; clear hA a; intro a hA
    refine S.done ?_
    replace hA : St 117 [(0, _), (1, _), (5, _), (6, _), (7, _), (8, _), (9, _), (53, _)] a := hA.sub ((.cons rfl (.cons rfl (.cons rfl (.cons rfl (.cons rfl (.cons rfl (.cons rfl (.cons rfl .nil)))))))))
    refine Ends.ite hA rfl (fun hc14 => ?_) (fun hc14 => ?_)
    ·
     have hlb : (0 < B.length) := by omega
     refine Ends.region ?_
     refine S.val hA (R.move rfl) rfl ?_; clear hA a; intro a hA
     refine S.val hA (R.idxI (hM.rsl (k := 1) rfl) (j := 0) sl22 rfl rfl (by omega) (rfl)) rfl ?_; clear hA a; intro a hA
     refine S.val hA (R.loadI (hM.rsl (k := 1) rfl) sz3 rfl (by omega)) rfl ?_; clear hA a; intro a hA
     refine S.val hA (R.fieldAddr (q := 1) fi26_1 rfl rfl rfl) rfl ?_; clear hA a; intro a hA
     refine S.store (k := 0) hA hM sz3 rfl rfl rfl rfl rfl ?_; clear hM
     intro w9 hM
     replace hM : Mem _ _ [pt b11 #[.int .i64 2, .int .i64 (B.getD 0 0), .int .i64 (3 * ((k : Int))), .int .i64 ((3 * ((k : Int))) + 1)] 26, own 3 1 (.slice ba B.length bc) B.length (B.map (Value.int .i64)), own 26 4 (.slice oa L.length oc) L.length (hopV L), own 3 1 (.slice wa (((iof 0 k)).length) wc) (((iof 0 k)).length) (((iof 0 k)).map (Value.int .i64))] _ := hM
     refine S.done ?_
     replace hA : St 117 [(0, _), (1, _), (5, _), (6, _), (7, _), (8, _), (9, _)] a := hA.sub ((.cons rfl (.cons rfl (.cons rfl (.cons rfl (.cons rfl (.cons rfl (.cons rfl .nil))))))))
     refine Ends.seq (Ends.seq (Ends.region ?_))
     refine S.val hA (R.fieldAddr (q := 0) fi26_0 rfl rfl rfl) rfl ?_; clear hA a; intro a hA
     refine S.val hA (R.load sz3 rfl (hM.cell (k := 0) rfl rfl)) rfl ?_; clear hA a; intro a hA
     refine S.val hA (R.ff (R.eql rfl rfl) (by first | decide | simp | omega)) rfl ?_; clear hA a; intro a hA
     refine S.done ?_
     refine Ends.condF hA rfl ?_
     refine Ends.seq (Ends.region ?_)
     refine S.val hA (R.move rfl) rfl ?_; clear hA a; intro a hA
     refine S.val hA (R.lenS Tryd.underlying22 rfl rfl) rfl ?_; clear hA a; intro a hA
     refine S.val hA (R.tt (R.gtr rfl rfl) (by omega)) rfl ?_; clear hA a; intro a hA
     refine S.done ?_
     replace hA : St 117 [(0, _), (1, _), (5, _), (6, _), (7, _), (8, _), (9, _), (68, _)] a := hA.sub ((.cons rfl (.cons rfl (.cons rfl (.cons rfl (.cons rfl (.cons rfl (.cons rfl (.cons rfl .nil)))))))))
     refine Ends.condT hA rfl ?_
     refine Ends.region ?_
     refine S.buildSl0 hA hM Tryd.underlying22 info3 rfl ?_; clear hA hM a; intro b15 w10 hb16 hM a hA
     replace hM := hM.ownPt (cap := 0) (n := 0) (sz := 1) (xs := []) rfl (Nat.zero_le _) (Nat.le_refl _) rfl
     replace hM : Mem _ _ [own 3 1 (.slice ((some ⟨b15, 0, none⟩)) 0 0) 0 ((([] : List Int)).map (Value.int .i64)), pt b11 #[.int .i64 2, .int .i64 (B.getD 0 0), .int .i64 (3 * ((k : Int))), .int .i64 ((3 * ((k : Int))) + 1)] 26, own 3 1 (.slice ba B.length bc) B.length (B.map (Value.int .i64)), own 26 4 (.slice oa L.length oc) L.length (hopV L), own 3 1 (.slice wa (((iof 0 k)).length) wc) (((iof 0 k)).length) (((iof 0 k)).map (Value.int .i64))] _ := hM
     refine S.val hA (R.move rfl) rfl ?_; clear hA a; intro a hA
     obtain ⟨as18, cs19, hsl17, hr20⟩ := (hM.rsl (k := 2) rfl).fromR 1 (by omega) (by omega)
     refine S.val hA ((hr20 _ _ _ _ _ _ _ _ _ _ _ Tryd.underlying22 info3 rfl rfl rfl (by omega))) rfl ?_; clear hA a; intro a hA
     refine S.appendI (k := 0) hA hM rfl (hsl17) Tryd.underlying22 info3 rfl rfl rfl rfl rfl rfl (by first | (unfold maxLen; omega) | (show (_ + 1) * 8 ≤ (140737488355328 : Nat); omega) | (show (_ + _) * 8 ≤ (140737488355328 : Nat); omega) | (show (_ + 1) * 32 ≤ (140737488355328 : Nat); omega) | (simp only [List.length_take, List.length_drop]; unfold maxLen; omega) | (show (_ + _) * 8 ≤ (140737488355328 : Nat); simp only [List.length_take, List.length_drop]; omega)) (by first | (unfold maxLen; omega) | (show (_ + 1) * 8 ≤ (140737488355328 : Nat); omega) | (show (_ + _) * 8 ≤ (140737488355328 : Nat); omega) | (show (_ + 1) * 32 ≤ (140737488355328 : Nat); omega) | (simp only [List.length_take, List.length_drop]; unfold maxLen; omega) | (show (_ + _) * 8 ≤ (140737488355328 : Nat); simp only [List.length_take, List.length_drop]; omega)) rfl ?_; clear hA hM a; intro a21 c22 w11 hM a hA
     have hl23 : 0 + ((B.drop 1)).length = (((B.drop 1))).length := by first | (simp; done) | simp only [List.length_append]
     rw [hl23, show (([] : List Int)).map (Value.int .i64) ++ ((B.drop 1)).map (Value.int .i64) = (((B.drop 1))).map (Value.int .i64) by simp] at hM; rw [hl23] at hA; clear hl23
     replace hM : Mem _ _ [own 3 1 (.slice a21 ((((B.drop 1))).length) c22) ((((B.drop 1))).length) ((((B.drop 1))).map (Value.int .i64)), pt b11 #[.int .i64 2, .int .i64 (B.getD 0 0), .int .i64 (3 * ((k : Int))), .int .i64 ((3 * ((k : Int))) + 1)] 26, own 3 1 (.slice ba B.length bc) B.length (B.map (Value.int .i64)), own 26 4 (.slice oa L.length oc) L.length (hopV L), own 3 1 (.slice wa (((iof 0 k)).length) wc) (((iof 0 k)).length) (((iof 0 k)).map (Value.int .i64))] _ := hM
     refine S.val hA (R.assign rfl) rfl ?_; clear hA a; intro a hA
     refine S.done ?_
     replace hA : St 117 [(0, _), (1, _), (5, _), (6, _), (7, _), (8, _), (9, _)] a := hA.sub ((.cons rfl (.cons rfl (.cons rfl (.cons rfl (.cons rfl (.cons rfl (.cons rfl .nil))))))))
     refine Ends.seq (Ends.region ?_)
     refine S.val hA (R.move rfl) rfl ?_; clear hA a; intro a hA
     refine S.val hA (R.loadA sz26 rfl (hM.range (k := 1) rfl) rfl) rfl ?_; clear hA a; intro a hA
     refine S.buildSl (cells := #[.int .i64 2, .int .i64 (B.getD 0 0), .int .i64 (3 * ((k : Int))), .int .i64 ((3 * ((k : Int))) + 1)]) hA hM Tryd.underlying23 info26 rfl rfl rfl rfl (by kernel_rfl) rfl ?_; clear hA hM a; intro b24 w12 hb25 hM a hA
     replace hM : Mem _ _ [pt b24 #[.int .i64 2, .int .i64 (B.getD 0 0), .int .i64 (3 * ((k : Int))), .int .i64 ((3 * ((k : Int))) + 1)] 26, own 3 1 (.slice a21 ((((B.drop 1))).length) c22) ((((B.drop 1))).length) ((((B.drop 1))).map (Value.int .i64)), pt b11 #[.int .i64 2, .int .i64 (B.getD 0 0), .int .i64 (3 * ((k : Int))), .int .i64 ((3 * ((k : Int))) + 1)] 26, own 3 1 (.slice ba B.length bc) B.length (B.map (Value.int .i64)), own 26 4 (.slice oa L.length oc) L.length (hopV L), own 3 1 (.slice wa (((iof 0 k)).length) wc) (((iof 0 k)).length) (((iof 0 k)).map (Value.int .i64))] _ := hM
     refine S.append (k := 4) (k2 := 0) hA hM rfl rfl Tryd.underlying23 info26 rfl rfl rfl rfl rfl rfl rfl rfl rfl (by first | (unfold maxLen; omega) | (show (_ + 1) * 8 ≤ (140737488355328 : Nat); omega) | (show (_ + _) * 8 ≤ (140737488355328 : Nat); omega) | (show (_ + 1) * 32 ≤ (140737488355328 : Nat); omega) | (simp only [List.length_take, List.length_drop]; unfold maxLen; omega) | (show (_ + _) * 8 ≤ (140737488355328 : Nat); simp only [List.length_take, List.length_drop]; omega)) (by first | (unfold maxLen; omega) | (show (_ + 1) * 8 ≤ (140737488355328 : Nat); omega) | (show (_ + _) * 8 ≤ (140737488355328 : Nat); omega) | (show (_ + 1) * 32 ≤ (140737488355328 : Nat); omega) | (simp only [List.length_take, List.length_drop]; unfold maxLen; omega) | (show (_ + _) * 8 ≤ (140737488355328 : Nat); simp only [List.length_take, List.length_drop]; omega)) rfl ?_; clear hA hM a; intro a26 c27 w13 hM a hA
     replace hM : Mem _ _ [pt b24 #[.int .i64 2, .int .i64 (B.getD 0 0), .int .i64 (3 * ((k : Int))), .int .i64 ((3 * ((k : Int))) + 1)] 26, own 3 1 (.slice a21 ((((B.drop 1))).length) c22) ((((B.drop 1))).length) ((((B.drop 1))).map (Value.int .i64)), pt b11 #[.int .i64 2, .int .i64 (B.getD 0 0), .int .i64 (3 * ((k : Int))), .int .i64 ((3 * ((k : Int))) + 1)] 26, own 3 1 (.slice ba B.length bc) B.length (B.map (Value.int .i64)), own 26 4 (.slice a26 (L.length + 1) c27) (L.length + 1) (hopV L ++ [.int .i64 2, .int .i64 (B.getD 0 0), .int .i64 (3 * ((k : Int))), .int .i64 ((3 * ((k : Int))) + 1)]), own 3 1 (.slice wa (((iof 0 k)).length) wc) (((iof 0 k)).length) (((iof 0 k)).map (Value.int .i64))] _ := hM
     have hl28 : L.length + 1 = (L ++ [(⟨2, B.getD 0 0, 3 * ((k : Int)), (3 * ((k : Int))) + 1⟩ : HOp)]).length := by simp
     rw [hl28, show hopV L ++ [.int .i64 2, .int .i64 (B.getD 0 0), .int .i64 (3 * ((k : Int))), .int .i64 ((3 * ((k : Int))) + 1)] = hopV (L ++ [(⟨2, B.getD 0 0, 3 * ((k : Int)), (3 * ((k : Int))) + 1⟩ : HOp)]) from hopV_app L (⟨2, B.getD 0 0, 3 * ((k : Int)), (3 * ((k : Int))) + 1⟩ : HOp)] at hM; rw [hl28] at hA
     clear hl28
     replace hM := hM.drop 0
     replace hM : Mem _ _ [own 3 1 (.slice a21 ((((B.drop 1))).length) c22) ((((B.drop 1))).length) ((((B.drop 1))).map (Value.int .i64)), pt b11 #[.int .i64 2, .int .i64 (B.getD 0 0), .int .i64 (3 * ((k : Int))), .int .i64 ((3 * ((k : Int))) + 1)] 26, own 3 1 (.slice ba B.length bc) B.length (B.map (Value.int .i64)), own 26 4 (.slice a26 (((L ++ [(⟨2, B.getD 0 0, 3 * ((k : Int)), (3 * ((k : Int))) + 1⟩ : HOp)])).length) c27) (((L ++ [(⟨2, B.getD 0 0, 3 * ((k : Int)), (3 * ((k : Int))) + 1⟩ : HOp)])).length) (hopV ((L ++ [(⟨2, B.getD 0 0, 3 * ((k : Int)), (3 * ((k : Int))) + 1⟩ : HOp)]))), own 3 1 (.slice wa (((iof 0 k)).length) wc) (((iof 0 k)).length) (((iof 0 k)).map (Value.int .i64))] _ := hM
     refine S.val hA (R.assign rfl) rfl ?_; clear hA a; intro a hA
     refine S.done ?_
     replace hA : St 117 [(0, _), (1, _), (5, _), (6, _), (7, _), (8, _)] a := hA.sub ((.cons rfl (.cons rfl (.cons rfl (.cons rfl (.cons rfl (.cons rfl .nil)))))))
     refine Ends.region ?_
     refine S.val hA (R.move rfl) rfl ?_; clear hA a; intro a hA
     refine S.val hA (R.move rfl) rfl ?_; clear hA a; intro a hA
     refine S.buildSl (cells := #[.int .i64 ((k : Int))]) hA hM Tryd.underlying22 info3 rfl rfl rfl rfl (by kernel_rfl) rfl ?_; clear hA hM a; intro b29 w14 hb30 hM a hA
     replace hM : Mem _ _ [pt b29 #[.int .i64 ((k : Int))] 3, own 3 1 (.slice a21 ((((B.drop 1))).length) c22) ((((B.drop 1))).length) ((((B.drop 1))).map (Value.int .i64)), pt b11 #[.int .i64 2, .int .i64 (B.getD 0 0), .int .i64 (3 * ((k : Int))), .int .i64 ((3 * ((k : Int))) + 1)] 26, own 3 1 (.slice ba B.length bc) B.length (B.map (Value.int .i64)), own 26 4 (.slice a26 (((L ++ [(⟨2, B.getD 0 0, 3 * ((k : Int)), (3 * ((k : Int))) + 1⟩ : HOp)])).length) c27) (((L ++ [(⟨2, B.getD 0 0, 3 * ((k : Int)), (3 * ((k : Int))) + 1⟩ : HOp)])).length) (hopV ((L ++ [(⟨2, B.getD 0 0, 3 * ((k : Int)), (3 * ((k : Int))) + 1⟩ : HOp)]))), own 3 1 (.slice wa (((iof 0 k)).length) wc) (((iof 0 k)).length) (((iof 0 k)).map (Value.int .i64))] _ := hM
     refine S.append (k := 5) (k2 := 0) hA hM rfl rfl Tryd.underlying22 info3 rfl rfl rfl rfl rfl rfl rfl rfl rfl (by first | (unfold maxLen; omega) | (show (_ + 1) * 8 ≤ (140737488355328 : Nat); omega) | (show (_ + _) * 8 ≤ (140737488355328 : Nat); omega) | (show (_ + 1) * 32 ≤ (140737488355328 : Nat); omega) | (simp only [List.length_take, List.length_drop]; unfold maxLen; omega) | (show (_ + _) * 8 ≤ (140737488355328 : Nat); simp only [List.length_take, List.length_drop]; omega)) (by first | (unfold maxLen; omega) | (show (_ + 1) * 8 ≤ (140737488355328 : Nat); omega) | (show (_ + _) * 8 ≤ (140737488355328 : Nat); omega) | (show (_ + 1) * 32 ≤ (140737488355328 : Nat); omega) | (simp only [List.length_take, List.length_drop]; unfold maxLen; omega) | (show (_ + _) * 8 ≤ (140737488355328 : Nat); simp only [List.length_take, List.length_drop]; omega)) rfl ?_; clear hA hM a; intro a31 c32 w15 hM a hA
     replace hM : Mem _ _ [pt b29 #[.int .i64 ((k : Int))] 3, own 3 1 (.slice a21 ((((B.drop 1))).length) c22) ((((B.drop 1))).length) ((((B.drop 1))).map (Value.int .i64)), pt b11 #[.int .i64 2, .int .i64 (B.getD 0 0), .int .i64 (3 * ((k : Int))), .int .i64 ((3 * ((k : Int))) + 1)] 26, own 3 1 (.slice ba B.length bc) B.length (B.map (Value.int .i64)), own 26 4 (.slice a26 (((L ++ [(⟨2, B.getD 0 0, 3 * ((k : Int)), (3 * ((k : Int))) + 1⟩ : HOp)])).length) c27) (((L ++ [(⟨2, B.getD 0 0, 3 * ((k : Int)), (3 * ((k : Int))) + 1⟩ : HOp)])).length) (hopV ((L ++ [(⟨2, B.getD 0 0, 3 * ((k : Int)), (3 * ((k : Int))) + 1⟩ : HOp)]))), own 3 1 (.slice a31 ((((iof 0 k)).length) + 1) c32) ((((iof 0 k)).length) + 1) (((iof 0 k)).map (Value.int .i64) ++ [.int .i64 ((k : Int))])] _ := hM
     have hl33 : (((iof 0 k)).length) + 1 = ((iof 0 k) ++ [(k : Int)]).length := by simp
     rw [hl33, show ((iof 0 k)).map (Value.int .i64) ++ [.int .i64 ((k : Int))] = ((iof 0 k) ++ [(k : Int)]).map (Value.int .i64) by simp] at hM; rw [hl33] at hA
     clear hl33
     replace hM := hM.drop 0
     replace hM : Mem _ _ [own 3 1 (.slice a21 ((((B.drop 1))).length) c22) ((((B.drop 1))).length) ((((B.drop 1))).map (Value.int .i64)), pt b11 #[.int .i64 2, .int .i64 (B.getD 0 0), .int .i64 (3 * ((k : Int))), .int .i64 ((3 * ((k : Int))) + 1)] 26, own 3 1 (.slice ba B.length bc) B.length (B.map (Value.int .i64)), own 26 4 (.slice a26 (((L ++ [(⟨2, B.getD 0 0, 3 * ((k : Int)), (3 * ((k : Int))) + 1⟩ : HOp)])).length) c27) (((L ++ [(⟨2, B.getD 0 0, 3 * ((k : Int)), (3 * ((k : Int))) + 1⟩ : HOp)])).length) (hopV ((L ++ [(⟨2, B.getD 0 0, 3 * ((k : Int)), (3 * ((k : Int))) + 1⟩ : HOp)]))), own 3 1 (.slice a31 ((((iof 0 k) ++ [(k : Int)])).length) c32) ((((iof 0 k) ++ [(k : Int)])).length) ((((iof 0 k) ++ [(k : Int)])).map (Value.int .i64))] _ := hM
     refine S.val hA (R.assign rfl) rfl ?_; clear hA a; intro a hA
     refine S.done ?_
     replace hA : St 117 [(0, _), (1, _), (5, _), (6, _), (7, _), (8, _)] a := hA.sub ((.cons rfl (.cons rfl (.cons rfl (.cons rfl (.cons rfl (.cons rfl .nil)))))))
     refine Ends.inBlock (Ends.region ?_)
     refine S.val hA (R.move rfl) rfl ?_; clear hA a; intro a hA
     refine S.val hA (R.addI rfl rfl (r := ((k : Int)) + 1) rfl (by omega)) rfl ?_; clear hA a; intro a hA
     refine S.val hA (R.assign rfl) rfl ?_; clear hA a; intro a hA
     refine S.done ?_
     replace hM := hM.front (k := 4) rfl
     replace hM := hM.front (k := 4) rfl
     replace hM := hM.front (k := 2) rfl
     replace hM := hM.firstN 3
     have hio : iof 0 k ++ [(k : Int)] = iof 0 (k + 1) := by have := iof_snoc k 0; rwa [Nat.zero_add] at this
     rw [hio] at hM hA
     replace hA : St 117 [(5, .slice a21 ((((B.drop 1))).length) c22), (6, .slice a26 (((L ++ [(⟨2, B.getD 0 0, 3 * ((k : Int)), (3 * ((k : Int))) + 1⟩ : HOp)])).length) c27), (7, .slice a31 ((iof 0 (k + 1)).length) c32), (8, .int .i64 (((k : Int)) + 1)), (0, .slice ax Zs.length cx), (1, .slice ay Rw.length cy)] a := hA.sub ((.cons rfl (.cons rfl (.cons rfl (.cons rfl (.cons rfl (.cons rfl .nil)))))))
     exact hNext ((k + 1, a21, c22, ((B.drop 1)), a26, c27, (L ++ [(⟨2, B.getD 0 0, 3 * ((k : Int)), (3 * ((k : Int))) + 1⟩ : HOp)]), a31, c32)) _ _ ((by show 12 - (k + 1) < 12 - k; omega)) ⟨hA.sub ((.cons rfl (.cons rfl (.cons rfl (.cons rfl (.cons rfl (.cons rfl .nil))))))), hM, (by omega), (by omega), (by rw [List.length_append, hL]; rfl), rowI_take hrow (fun e => by rw [e] at hlb; exact absurd hlb (by decide)) (by omega) (by omega)⟩
    ·
     have hlb : ¬ (0 < B.length) := by omega
     refine Ends.skip (Ends.seq (Ends.seq (Ends.region ?_)))
     refine S.val hA (R.fieldAddr (q := 0) fi26_0 rfl rfl rfl) rfl ?_; clear hA a; intro a hA
     refine S.val hA (R.load sz3 rfl (hM.cell (k := 0) rfl rfl)) rfl ?_; clear hA a; intro a hA
     refine S.val hA (R.ff (R.eql rfl rfl) (by first | decide | simp | omega)) rfl ?_; clear hA a; intro a hA
     refine S.done ?_
     refine Ends.condF hA rfl ?_
     refine Ends.seq (Ends.region ?_)
     refine S.val hA (R.move rfl) rfl ?_; clear hA a; intro a hA
     refine S.val hA (R.lenS Tryd.underlying22 rfl rfl) rfl ?_; clear hA a; intro a hA
     refine S.val hA (R.ff (R.gtr rfl rfl) (by omega)) rfl ?_; clear hA a; intro a hA
     refine S.done ?_
     replace hA : St 117 [(0, _), (1, _), (5, _), (6, _), (7, _), (8, _), (9, _), (68, _)] a := hA.sub ((.cons rfl (.cons rfl (.cons rfl (.cons rfl (.cons rfl (.cons rfl (.cons rfl (.cons rfl .nil)))))))))
     refine Ends.condF hA rfl ?_
     refine Ends.skip (Ends.seq (Ends.region ?_))
     refine S.val hA (R.move rfl) rfl ?_; clear hA a; intro a hA
     refine S.val hA (R.loadA sz26 rfl (hM.range (k := 0) rfl) rfl) rfl ?_; clear hA a; intro a hA
     refine S.buildSl (cells := #[.int .i64 2, .int .i64 (-1), .int .i64 (3 * ((k : Int))), .int .i64 ((3 * ((k : Int))) + 1)]) hA hM Tryd.underlying23 info26 rfl rfl rfl rfl (by kernel_rfl) rfl ?_; clear hA hM a; intro b34 w16 hb35 hM a hA
     replace hM : Mem _ _ [pt b34 #[.int .i64 2, .int .i64 (-1), .int .i64 (3 * ((k : Int))), .int .i64 ((3 * ((k : Int))) + 1)] 26, pt b11 #[.int .i64 2, .int .i64 (-1), .int .i64 (3 * ((k : Int))), .int .i64 ((3 * ((k : Int))) + 1)] 26, own 3 1 (.slice ba B.length bc) B.length (B.map (Value.int .i64)), own 26 4 (.slice oa L.length oc) L.length (hopV L), own 3 1 (.slice wa (((iof 0 k)).length) wc) (((iof 0 k)).length) (((iof 0 k)).map (Value.int .i64))] _ := hM
     refine S.append (k := 3) (k2 := 0) hA hM rfl rfl Tryd.underlying23 info26 rfl rfl rfl rfl rfl rfl rfl rfl rfl (by first | (unfold maxLen; omega) | (show (_ + 1) * 8 ≤ (140737488355328 : Nat); omega) | (show (_ + _) * 8 ≤ (140737488355328 : Nat); omega) | (show (_ + 1) * 32 ≤ (140737488355328 : Nat); omega) | (simp only [List.length_take, List.length_drop]; unfold maxLen; omega) | (show (_ + _) * 8 ≤ (140737488355328 : Nat); simp only [List.length_take, List.length_drop]; omega)) (by first | (unfold maxLen; omega) | (show (_ + 1) * 8 ≤ (140737488355328 : Nat); omega) | (show (_ + _) * 8 ≤ (140737488355328 : Nat); omega) | (show (_ + 1) * 32 ≤ (140737488355328 : Nat); omega) | (simp only [List.length_take, List.length_drop]; unfold maxLen; omega) | (show (_ + _) * 8 ≤ (140737488355328 : Nat); simp only [List.length_take, List.length_drop]; omega)) rfl ?_; clear hA hM a; intro a36 c37 w17 hM a hA
     replace hM : Mem _ _ [pt b34 #[.int .i64 2, .int .i64 (-1), .int .i64 (3 * ((k : Int))), .int .i64 ((3 * ((k : Int))) + 1)] 26, pt b11 #[.int .i64 2, .int .i64 (-1), .int .i64 (3 * ((k : Int))), .int .i64 ((3 * ((k : Int))) + 1)] 26, own 3 1 (.slice ba B.length bc) B.length (B.map (Value.int .i64)), own 26 4 (.slice a36 (L.length + 1) c37) (L.length + 1) (hopV L ++ [.int .i64 2, .int .i64 (-1), .int .i64 (3 * ((k : Int))), .int .i64 ((3 * ((k : Int))) + 1)]), own 3 1 (.slice wa (((iof 0 k)).length) wc) (((iof 0 k)).length) (((iof 0 k)).map (Value.int .i64))] _ := hM
     have hl38 : L.length + 1 = (L ++ [(⟨2, -1, 3 * ((k : Int)), (3 * ((k : Int))) + 1⟩ : HOp)]).length := by simp
     rw [hl38, show hopV L ++ [.int .i64 2, .int .i64 (-1), .int .i64 (3 * ((k : Int))), .int .i64 ((3 * ((k : Int))) + 1)] = hopV (L ++ [(⟨2, -1, 3 * ((k : Int)), (3 * ((k : Int))) + 1⟩ : HOp)]) from hopV_app L (⟨2, -1, 3 * ((k : Int)), (3 * ((k : Int))) + 1⟩ : HOp)] at hM; rw [hl38] at hA
     clear hl38
     replace hM := hM.drop 0
     replace hM : Mem _ _ [pt b11 #[.int .i64 2, .int .i64 (-1), .int .i64 (3 * ((k : Int))), .int .i64 ((3 * ((k : Int))) + 1)] 26, own 3 1 (.slice ba B.length bc) B.length (B.map (Value.int .i64)), own 26 4 (.slice a36 (((L ++ [(⟨2, -1, 3 * ((k : Int)), (3 * ((k : Int))) + 1⟩ : HOp)])).length) c37) (((L ++ [(⟨2, -1, 3 * ((k : Int)), (3 * ((k : Int))) + 1⟩ : HOp)])).length) (hopV ((L ++ [(⟨2, -1, 3 * ((k : Int)), (3 * ((k : Int))) + 1⟩ : HOp)]))), own 3 1 (.slice wa (((iof 0 k)).length) wc) (((iof 0 k)).length) (((iof 0 k)).map (Value.int .i64))] _ := hM
     refine S.val hA (R.assign rfl) rfl ?_; clear hA a; intro a hA
     refine S.done ?_
     replace hA : St 117 [(0, _), (1, _), (5, _), (6, _), (7, _), (8, _)] a := hA.sub ((.cons rfl (.cons rfl (.cons rfl (.cons rfl (.cons rfl (.cons rfl .nil)))))))
     refine Ends.region ?_
     refine S.val hA (R.move rfl) rfl ?_; clear hA a; intro a hA
     refine S.val hA (R.move rfl) rfl ?_; clear hA a; intro a hA
     refine S.buildSl (cells := #[.int .i64 ((k : Int))]) hA hM Tryd.underlying22 info3 rfl rfl rfl rfl (by kernel_rfl) rfl ?_; clear hA hM a; intro b39 w18 hb40 hM a hA
     replace hM : Mem _ _ [pt b39 #[.int .i64 ((k : Int))] 3, pt b11 #[.int .i64 2, .int .i64 (-1), .int .i64 (3 * ((k : Int))), .int .i64 ((3 * ((k : Int))) + 1)] 26, own 3 1 (.slice ba B.length bc) B.length (B.map (Value.int .i64)), own 26 4 (.slice a36 (((L ++ [(⟨2, -1, 3 * ((k : Int)), (3 * ((k : Int))) + 1⟩ : HOp)])).length) c37) (((L ++ [(⟨2, -1, 3 * ((k : Int)), (3 * ((k : Int))) + 1⟩ : HOp)])).length) (hopV ((L ++ [(⟨2, -1, 3 * ((k : Int)), (3 * ((k : Int))) + 1⟩ : HOp)]))), own 3 1 (.slice wa (((iof 0 k)).length) wc) (((iof 0 k)).length) (((iof 0 k)).map (Value.int .i64))] _ := hM
     refine S.append (k := 4) (k2 := 0) hA hM rfl rfl Tryd.underlying22 info3 rfl rfl rfl rfl rfl rfl rfl rfl rfl (by first | (unfold maxLen; omega) | (show (_ + 1) * 8 ≤ (140737488355328 : Nat); omega) | (show (_ + _) * 8 ≤ (140737488355328 : Nat); omega) | (show (_ + 1) * 32 ≤ (140737488355328 : Nat); omega) | (simp only [List.length_take, List.length_drop]; unfold maxLen; omega) | (show (_ + _) * 8 ≤ (140737488355328 : Nat); simp only [List.length_take, List.length_drop]; omega)) (by first | (unfold maxLen; omega) | (show (_ + 1) * 8 ≤ (140737488355328 : Nat); omega) | (show (_ + _) * 8 ≤ (140737488355328 : Nat); omega) | (show (_ + 1) * 32 ≤ (140737488355328 : Nat); omega) | (simp only [List.length_take, List.length_drop]; unfold maxLen; omega) | (show (_ + _) * 8 ≤ (140737488355328 : Nat); simp only [List.length_take, List.length_drop]; omega)) rfl ?_; clear hA hM a; intro a41 c42 w19 hM a hA
     replace hM : Mem _ _ [pt b39 #[.int .i64 ((k : Int))] 3, pt b11 #[.int .i64 2, .int .i64 (-1), .int .i64 (3 * ((k : Int))), .int .i64 ((3 * ((k : Int))) + 1)] 26, own 3 1 (.slice ba B.length bc) B.length (B.map (Value.int .i64)), own 26 4 (.slice a36 (((L ++ [(⟨2, -1, 3 * ((k : Int)), (3 * ((k : Int))) + 1⟩ : HOp)])).length) c37) (((L ++ [(⟨2, -1, 3 * ((k : Int)), (3 * ((k : Int))) + 1⟩ : HOp)])).length) (hopV ((L ++ [(⟨2, -1, 3 * ((k : Int)), (3 * ((k : Int))) + 1⟩ : HOp)]))), own 3 1 (.slice a41 ((((iof 0 k)).length) + 1) c42) ((((iof 0 k)).length) + 1) (((iof 0 k)).map (Value.int .i64) ++ [.int .i64 ((k : Int))])] _ := hM
     have hl43 : (((iof 0 k)).length) + 1 = ((iof 0 k) ++ [(k : Int)]).length := by simp
     rw [hl43, show ((iof 0 k)).map (Value.int .i64) ++ [.int .i64 ((k : Int))] = ((iof 0 k) ++ [(k : Int)]).map (Value.int .i64) by simp] at hM; rw [hl43] at hA
     clear hl43
     replace hM := hM.drop 0
     replace hM : Mem _ _ [pt b11 #[.int .i64 2, .int .i64 (-1), .int .i64 (3 * ((k : Int))), .int .i64 ((3 * ((k : Int))) + 1)] 26, own 3 1 (.slice ba B.length bc) B.length (B.map (Value.int .i64)), own 26 4 (.slice a36 (((L ++ [(⟨2, -1, 3 * ((k : Int)), (3 * ((k : Int))) + 1⟩ : HOp)])).length) c37) (((L ++ [(⟨2, -1, 3 * ((k : Int)), (3 * ((k : Int))) + 1⟩ : HOp)])).length) (hopV ((L ++ [(⟨2, -1, 3 * ((k : Int)), (3 * ((k : Int))) + 1⟩ : HOp)]))), own 3 1 (.slice a41 ((((iof 0 k) ++ [(k : Int)])).length) c42) ((((iof 0 k) ++ [(k : Int)])).length) ((((iof 0 k) ++ [(k : Int)])).map (Value.int .i64))] _ := hM
     refine S.val hA (R.assign rfl) rfl ?_; clear hA a; intro a hA
     refine S.done ?_
     replace hA : St 117 [(0, _), (1, _), (5, _), (6, _), (7, _), (8, _)] a := hA.sub ((.cons rfl (.cons rfl (.cons rfl (.cons rfl (.cons rfl (.cons rfl .nil)))))))
     refine Ends.inBlock (Ends.region ?_)
     refine S.val hA (R.move rfl) rfl ?_; clear hA a; intro a hA
     refine S.val hA (R.addI rfl rfl (r := ((k : Int)) + 1) rfl (by omega)) rfl ?_; clear hA a; intro a hA
     refine S.val hA (R.assign rfl) rfl ?_; clear hA a; intro a hA
     refine S.done ?_
     replace hM := hM.front (k := 3) rfl
     replace hM := hM.front (k := 3) rfl
     replace hM := hM.front (k := 3) rfl
     replace hM := hM.firstN 3
     have hio : iof 0 k ++ [(k : Int)] = iof 0 (k + 1) := by have := iof_snoc k 0; rwa [Nat.zero_add] at this
     rw [hio] at hM hA
     replace hA : St 117 [(5, .slice ba B.length bc), (6, .slice a36 (((L ++ [(⟨2, -1, 3 * ((k : Int)), (3 * ((k : Int))) + 1⟩ : HOp)])).length) c37), (7, .slice a41 ((iof 0 (k + 1)).length) c42), (8, .int .i64 (((k : Int)) + 1)), (0, .slice ax Zs.length cx), (1, .slice ay Rw.length cy)] a := hA.sub ((.cons rfl (.cons rfl (.cons rfl (.cons rfl (.cons rfl (.cons rfl .nil)))))))
     have hB0 : B = [] := List.length_eq_zero_iff.1 (by omega)
     exact hNext ((k + 1, ba, bc, B, a36, c37, (L ++ [(⟨2, -1, 3 * ((k : Int)), (3 * ((k : Int))) + 1⟩ : HOp)]), a41, c42)) _ _ ((by show 12 - (k + 1) < 12 - k; omega)) ⟨hA.sub ((.cons rfl (.cons rfl (.cons rfl (.cons rfl (.cons rfl (.cons rfl .nil))))))), hM, (by omega), (by omega), (by rw [List.length_append, hL]; rfl), (by have h9 := hrow; rw [hB0] at h9 ⊢; exact rowI_none h9 (by omega) (by omega))⟩
   ·
    refine Ends.skip (Ends.seq (Ends.seq (Ends.region ?_)))
    refine S.val hA (R.fieldAddr (q := 0) fi26_0 rfl rfl rfl) rfl ?_; clear hA a; intro a hA
    refine S.val hA (R.load sz3 rfl (hM.cell (k := 0) rfl rfl)) rfl ?_; clear hA a; intro a hA
    refine S.val hA (R.tt (R.eql rfl rfl) (by first | decide | simp | omega)) rfl ?_; clear hA a; intro a hA
    refine S.done ?_
    refine Ends.condT hA rfl ?_
    refine Ends.region ?_
    refine S.val hA (R.move rfl) rfl ?_; clear hA a; intro a hA
    refine S.val hA (R.fieldAddr (q := 1) fi26_1 rfl rfl rfl) rfl ?_; clear hA a; intro a hA
    refine S.val hA (R.load sz3 rfl (hM.cell (k := 0) rfl rfl)) rfl ?_; clear hA a; intro a hA
    refine S.buildSl (cells := #[.int .i64 ((n8 : Int))]) hA hM Tryd.underlying22 info3 rfl rfl rfl rfl (by kernel_rfl) rfl ?_; clear hA hM a; intro b44 w20 hb45 hM a hA
    replace hM : Mem _ _ [pt b44 #[.int .i64 ((n8 : Int))] 3, pt b11 #[.int .i64 1, .int .i64 ((n8 : Int)), .int .i64 (3 * ((k : Int))), .int .i64 ((3 * ((k : Int))) + 1)] 26, own 3 1 (.slice ba B.length bc) B.length (B.map (Value.int .i64)), own 26 4 (.slice oa L.length oc) L.length (hopV L), own 3 1 (.slice wa (((iof 0 k)).length) wc) (((iof 0 k)).length) (((iof 0 k)).map (Value.int .i64))] _ := hM
    refine S.append (k := 2) (k2 := 0) hA hM rfl rfl Tryd.underlying22 info3 rfl rfl rfl rfl rfl rfl rfl rfl rfl (by first | (unfold maxLen; omega) | (show (_ + 1) * 8 ≤ (140737488355328 : Nat); omega) | (show (_ + _) * 8 ≤ (140737488355328 : Nat); omega) | (show (_ + 1) * 32 ≤ (140737488355328 : Nat); omega) | (simp only [List.length_take, List.length_drop]; unfold maxLen; omega) | (show (_ + _) * 8 ≤ (140737488355328 : Nat); simp only [List.length_take, List.length_drop]; omega)) (by first | (unfold maxLen; omega) | (show (_ + 1) * 8 ≤ (140737488355328 : Nat); omega) | (show (_ + _) * 8 ≤ (140737488355328 : Nat); omega) | (show (_ + 1) * 32 ≤ (140737488355328 : Nat); omega) | (simp only [List.length_take, List.length_drop]; unfold maxLen; omega) | (show (_ + _) * 8 ≤ (140737488355328 : Nat); simp only [List.length_take, List.length_drop]; omega)) rfl ?_; clear hA hM a; intro a46 c47 w21 hM a hA
    replace hM : Mem _ _ [pt b44 #[.int .i64 ((n8 : Int))] 3, pt b11 #[.int .i64 1, .int .i64 ((n8 : Int)), .int .i64 (3 * ((k : Int))), .int .i64 ((3 * ((k : Int))) + 1)] 26, own 3 1 (.slice a46 (B.length + 1) c47) (B.length + 1) (B.map (Value.int .i64) ++ [.int .i64 ((n8 : Int))]), own 26 4 (.slice oa L.length oc) L.length (hopV L), own 3 1 (.slice wa (((iof 0 k)).length) wc) (((iof 0 k)).length) (((iof 0 k)).map (Value.int .i64))] _ := hM
    have hl48 : B.length + 1 = (B ++ [(n8 : Int)]).length := by simp
    rw [hl48, show B.map (Value.int .i64) ++ [.int .i64 ((n8 : Int))] = (B ++ [(n8 : Int)]).map (Value.int .i64) by simp] at hM; rw [hl48] at hA
    clear hl48
    replace hM := hM.drop 0
    replace hM : Mem _ _ [pt b11 #[.int .i64 1, .int .i64 ((n8 : Int)), .int .i64 (3 * ((k : Int))), .int .i64 ((3 * ((k : Int))) + 1)] 26, own 3 1 (.slice a46 (((B ++ [(n8 : Int)])).length) c47) (((B ++ [(n8 : Int)])).length) (((B ++ [(n8 : Int)])).map (Value.int .i64)), own 26 4 (.slice oa L.length oc) L.length (hopV L), own 3 1 (.slice wa (((iof 0 k)).length) wc) (((iof 0 k)).length) (((iof 0 k)).map (Value.int .i64))] _ := hM
    refine S.val hA (R.assign rfl) rfl ?_; clear hA a; intro a hA
    refine S.done ?_
    replace hA : St 117 [(0, _), (1, _), (5, _), (6, _), (7, _), (8, _), (9, _)] a := hA.sub ((.cons rfl (.cons rfl (.cons rfl (.cons rfl (.cons rfl (.cons rfl (.cons rfl .nil))))))))
    refine Ends.seq (Ends.region ?_)
    refine S.val hA (R.move rfl) rfl ?_; clear hA a; intro a hA
    refine S.val hA (R.loadA sz26 rfl (hM.range (k := 0) rfl) rfl) rfl ?_; clear hA a; intro a hA
    refine S.buildSl (cells := #[.int .i64 1, .int .i64 ((n8 : Int)), .int .i64 (3 * ((k : Int))), .int .i64 ((3 * ((k : Int))) + 1)]) hA hM Tryd.underlying23 info26 rfl rfl rfl rfl (by kernel_rfl) rfl ?_; clear hA hM a; intro b49 w22 hb50 hM a hA
    replace hM : Mem _ _ [pt b49 #[.int .i64 1, .int .i64 ((n8 : Int)), .int .i64 (3 * ((k : Int))), .int .i64 ((3 * ((k : Int))) + 1)] 26, pt b11 #[.int .i64 1, .int .i64 ((n8 : Int)), .int .i64 (3 * ((k : Int))), .int .i64 ((3 * ((k : Int))) + 1)] 26, own 3 1 (.slice a46 (((B ++ [(n8 : Int)])).length) c47) (((B ++ [(n8 : Int)])).length) (((B ++ [(n8 : Int)])).map (Value.int .i64)), own 26 4 (.slice oa L.length oc) L.length (hopV L), own 3 1 (.slice wa (((iof 0 k)).length) wc) (((iof 0 k)).length) (((iof 0 k)).map (Value.int .i64))] _ := hM
    refine S.append (k := 3) (k2 := 0) hA hM rfl rfl Tryd.underlying23 info26 rfl rfl rfl rfl rfl rfl rfl rfl rfl (by first | (unfold maxLen; omega) | (show (_ + 1) * 8 ≤ (140737488355328 : Nat); omega) | (show (_ + _) * 8 ≤ (140737488355328 : Nat); omega) | (show (_ + 1) * 32 ≤ (140737488355328 : Nat); omega) | (simp only [List.length_take, List.length_drop]; unfold maxLen; omega) | (show (_ + _) * 8 ≤ (140737488355328 : Nat); simp only [List.length_take, List.length_drop]; omega)) (by first | (unfold maxLen; omega) | (show (_ + 1) * 8 ≤ (140737488355328 : Nat); omega) | (show (_ + _) * 8 ≤ (140737488355328 : Nat); omega) | (show (_ + 1) * 32 ≤ (140737488355328 : Nat); omega) | (simp only [List.length_take, List.length_drop]; unfold maxLen; omega) | (show (_ + _) * 8 ≤ (140737488355328 : Nat); simp only [List.length_take, List.length_drop]; omega)) rfl ?_; clear hA hM a; intro a51 c52 w23 hM a hA
    replace hM : Mem _ _ [pt b49 #[.int .i64 1, .int .i64 ((n8 : Int)), .int .i64 (3 * ((k : Int))), .int .i64 ((3 * ((k : Int))) + 1)] 26, pt b11 #[.int .i64 1, .int .i64 ((n8 : Int)), .int .i64 (3 * ((k : Int))), .int .i64 ((3 * ((k : Int))) + 1)] 26, own 3 1 (.slice a46 (((B ++ [(n8 : Int)])).length) c47) (((B ++ [(n8 : Int)])).length) (((B ++ [(n8 : Int)])).map (Value.int .i64)), own 26 4 (.slice a51 (L.length + 1) c52) (L.length + 1) (hopV L ++ [.int .i64 1, .int .i64 ((n8 : Int)), .int .i64 (3 * ((k : Int))), .int .i64 ((3 * ((k : Int))) + 1)]), own 3 1 (.slice wa (((iof 0 k)).length) wc) (((iof 0 k)).length) (((iof 0 k)).map (Value.int .i64))] _ := hM
    have hl53 : L.length + 1 = (L ++ [(⟨1, (n8 : Int), 3 * ((k : Int)), (3 * ((k : Int))) + 1⟩ : HOp)]).length := by simp
    rw [hl53, show hopV L ++ [.int .i64 1, .int .i64 ((n8 : Int)), .int .i64 (3 * ((k : Int))), .int .i64 ((3 * ((k : Int))) + 1)] = hopV (L ++ [(⟨1, (n8 : Int), 3 * ((k : Int)), (3 * ((k : Int))) + 1⟩ : HOp)]) from hopV_app L (⟨1, (n8 : Int), 3 * ((k : Int)), (3 * ((k : Int))) + 1⟩ : HOp)] at hM; rw [hl53] at hA
    clear hl53
    replace hM := hM.drop 0
    replace hM : Mem _ _ [pt b11 #[.int .i64 1, .int .i64 ((n8 : Int)), .int .i64 (3 * ((k : Int))), .int .i64 ((3 * ((k : Int))) + 1)] 26, own 3 1 (.slice a46 (((B ++ [(n8 : Int)])).length) c47) (((B ++ [(n8 : Int)])).length) (((B ++ [(n8 : Int)])).map (Value.int .i64)), own 26 4 (.slice a51 (((L ++ [(⟨1, (n8 : Int), 3 * ((k : Int)), (3 * ((k : Int))) + 1⟩ : HOp)])).length) c52) (((L ++ [(⟨1, (n8 : Int), 3 * ((k : Int)), (3 * ((k : Int))) + 1⟩ : HOp)])).length) (hopV ((L ++ [(⟨1, (n8 : Int), 3 * ((k : Int)), (3 * ((k : Int))) + 1⟩ : HOp)]))), own 3 1 (.slice wa (((iof 0 k)).length) wc) (((iof 0 k)).length) (((iof 0 k)).map (Value.int .i64))] _ := hM
    refine S.val hA (R.assign rfl) rfl ?_; clear hA a; intro a hA
    refine S.done ?_
    replace hA : St 117 [(0, _), (1, _), (5, _), (6, _), (7, _), (8, _)] a := hA.sub ((.cons rfl (.cons rfl (.cons rfl (.cons rfl (.cons rfl (.cons rfl .nil)))))))
    refine Ends.region ?_
    refine S.val hA (R.move rfl) rfl ?_; clear hA a; intro a hA
    refine S.val hA (R.move rfl) rfl ?_; clear hA a; intro a hA
    refine S.buildSl (cells := #[.int .i64 ((k : Int))]) hA hM Tryd.underlying22 info3 rfl rfl rfl rfl (by kernel_rfl) rfl ?_; clear hA hM a; intro b54 w24 hb55 hM a hA
    replace hM : Mem _ _ [pt b54 #[.int .i64 ((k : Int))] 3, pt b11 #[.int .i64 1, .int .i64 ((n8 : Int)), .int .i64 (3 * ((k : Int))), .int .i64 ((3 * ((k : Int))) + 1)] 26, own 3 1 (.slice a46 (((B ++ [(n8 : Int)])).length) c47) (((B ++ [(n8 : Int)])).length) (((B ++ [(n8 : Int)])).map (Value.int .i64)), own 26 4 (.slice a51 (((L ++ [(⟨1, (n8 : Int), 3 * ((k : Int)), (3 * ((k : Int))) + 1⟩ : HOp)])).length) c52) (((L ++ [(⟨1, (n8 : Int), 3 * ((k : Int)), (3 * ((k : Int))) + 1⟩ : HOp)])).length) (hopV ((L ++ [(⟨1, (n8 : Int), 3 * ((k : Int)), (3 * ((k : Int))) + 1⟩ : HOp)]))), own 3 1 (.slice wa (((iof 0 k)).length) wc) (((iof 0 k)).length) (((iof 0 k)).map (Value.int .i64))] _ := hM
    refine S.append (k := 4) (k2 := 0) hA hM rfl rfl Tryd.underlying22 info3 rfl rfl rfl rfl rfl rfl rfl rfl rfl (by first | (unfold maxLen; omega) | (show (_ + 1) * 8 ≤ (140737488355328 : Nat); omega) | (show (_ + _) * 8 ≤ (140737488355328 : Nat); omega) | (show (_ + 1) * 32 ≤ (140737488355328 : Nat); omega) | (simp only [List.length_take, List.length_drop]; unfold maxLen; omega) | (show (_ + _) * 8 ≤ (140737488355328 : Nat); simp only [List.length_take, List.length_drop]; omega)) (by first | (unfold maxLen; omega) | (show (_ + 1) * 8 ≤ (140737488355328 : Nat); omega) | (show (_ + _) * 8 ≤ (140737488355328 : Nat); omega) | (show (_ + 1) * 32 ≤ (140737488355328 : Nat); omega) | (simp only [List.length_take, List.length_drop]; unfold maxLen; omega) | (show (_ + _) * 8 ≤ (140737488355328 : Nat); simp only [List.length_take, List.length_drop]; omega)) rfl ?_; clear hA hM a; intro a56 c57 w25 hM a hA
    replace hM : Mem _ _ [pt b54 #[.int .i64 ((k : Int))] 3, pt b11 #[.int .i64 1, .int .i64 ((n8 : Int)), .int .i64 (3 * ((k : Int))), .int .i64 ((3 * ((k : Int))) + 1)] 26, own 3 1 (.slice a46 (((B ++ [(n8 : Int)])).length) c47) (((B ++ [(n8 : Int)])).length) (((B ++ [(n8 : Int)])).map (Value.int .i64)), own 26 4 (.slice a51 (((L ++ [(⟨1, (n8 : Int), 3 * ((k : Int)), (3 * ((k : Int))) + 1⟩ : HOp)])).length) c52) (((L ++ [(⟨1, (n8 : Int), 3 * ((k : Int)), (3 * ((k : Int))) + 1⟩ : HOp)])).length) (hopV ((L ++ [(⟨1, (n8 : Int), 3 * ((k : Int)), (3 * ((k : Int))) + 1⟩ : HOp)]))), own 3 1 (.slice a56 ((((iof 0 k)).length) + 1) c57) ((((iof 0 k)).length) + 1) (((iof 0 k)).map (Value.int .i64) ++ [.int .i64 ((k : Int))])] _ := hM
    have hl58 : (((iof 0 k)).length) + 1 = ((iof 0 k) ++ [(k : Int)]).length := by simp
    rw [hl58, show ((iof 0 k)).map (Value.int .i64) ++ [.int .i64 ((k : Int))] = ((iof 0 k) ++ [(k : Int)]).map (Value.int .i64) by simp] at hM; rw [hl58] at hA
    clear hl58
    replace hM := hM.drop 0
    replace hM : Mem _ _ [pt b11 #[.int .i64 1, .int .i64 ((n8 : Int)), .int .i64 (3 * ((k : Int))), .int .i64 ((3 * ((k : Int))) + 1)] 26, own 3 1 (.slice a46 (((B ++ [(n8 : Int)])).length) c47) (((B ++ [(n8 : Int)])).length) (((B ++ [(n8 : Int)])).map (Value.int .i64)), own 26 4 (.slice a51 (((L ++ [(⟨1, (n8 : Int), 3 * ((k : Int)), (3 * ((k : Int))) + 1⟩ : HOp)])).length) c52) (((L ++ [(⟨1, (n8 : Int), 3 * ((k : Int)), (3 * ((k : Int))) + 1⟩ : HOp)])).length) (hopV ((L ++ [(⟨1, (n8 : Int), 3 * ((k : Int)), (3 * ((k : Int))) + 1⟩ : HOp)]))), own 3 1 (.slice a56 ((((iof 0 k) ++ [(k : Int)])).length) c57) ((((iof 0 k) ++ [(k : Int)])).length) ((((iof 0 k) ++ [(k : Int)])).map (Value.int .i64))] _ := hM
    refine S.val hA (R.assign rfl) rfl ?_; clear hA a; intro a hA
    refine S.done ?_
    replace hA : St 117 [(0, _), (1, _), (5, _), (6, _), (7, _), (8, _)] a := hA.sub ((.cons rfl (.cons rfl (.cons rfl (.cons rfl (.cons rfl (.cons rfl .nil)))))))
    refine Ends.inBlock (Ends.region ?_)
    refine S.val hA (R.move rfl) rfl ?_; clear hA a; intro a hA
    refine S.val hA (R.addI rfl rfl (r := ((k : Int)) + 1) rfl (by omega)) rfl ?_; clear hA a; intro a hA
    refine S.val hA (R.assign rfl) rfl ?_; clear hA a; intro a hA
    refine S.done ?_
    replace hM := hM.front (k := 3) rfl
    replace hM := hM.front (k := 3) rfl
    replace hM := hM.front (k := 3) rfl
    replace hM := hM.firstN 3
    have hio : iof 0 k ++ [(k : Int)] = iof 0 (k + 1) := by have := iof_snoc k 0; rwa [Nat.zero_add] at this
    rw [hio] at hM hA
    replace hA : St 117 [(5, .slice a46 (((B ++ [(n8 : Int)])).length) c47), (6, .slice a51 (((L ++ [(⟨1, (n8 : Int), 3 * ((k : Int)), (3 * ((k : Int))) + 1⟩ : HOp)])).length) c52), (7, .slice a56 ((iof 0 (k + 1)).length) c57), (8, .int .i64 (((k : Int)) + 1)), (0, .slice ax Zs.length cx), (1, .slice ay Rw.length cy)] a := hA.sub ((.cons rfl (.cons rfl (.cons rfl (.cons rfl (.cons rfl (.cons rfl .nil)))))))
    exact hNext ((k + 1, a46, c47, (B ++ [(n8 : Int)]), a51, c52, (L ++ [(⟨1, (n8 : Int), 3 * ((k : Int)), (3 * ((k : Int))) + 1⟩ : HOp)]), a56, c57)) _ _ ((by show 12 - (k + 1) < 12 - k; omega)) ⟨hA.sub ((.cons rfl (.cons rfl (.cons rfl (.cons rfl (.cons rfl (.cons rfl .nil))))))), hM, (by omega), (by omega), (by rw [List.length_append, hL]; rfl), rowI_put hrow (by omega) (by omega) (by omega)⟩
  ·
   refine Ends.exit rfl ?_
   refine Ends.seq (Ends.seq (Ends.region ?_))
   refine S.val hA (R.assign rfl) rfl ?_; clear hA a; intro a hA
   refine S.done ?_
   refine Ends.block ?_
   refine Ends.loop (σ := Nat) (fun q (a : Act) (wv : World) => St 117 [(0, .slice ax Zs.length cx), (5, .slice ba B.length bc), (6, .slice oa L.length oc), (7, .slice wa ((iof 0 k).length) wc), (10, .int .i64 ((q : Int)))] a ∧ Mem w nof [own 3 1 (.slice ba B.length bc) B.length (B.map (Value.int .i64)), own 26 4 (.slice oa L.length oc) L.length (hopV L), own 3 1 (.slice wa (((iof 0 k)).length) wc) (((iof 0 k)).length) (((iof 0 k)).map (Value.int .i64))] wv ∧ (q ≤ 20) ∧ (q ≤ Zs.length) ∧ (∀ j, j < q → Zs.getD j 0 ≠ -1)) (fun q => 20 - q) 0 ⟨hA.sub ((.cons rfl (.cons rfl (.cons rfl (.cons rfl (.cons rfl .nil)))))), hM, (Nat.zero_le _), (Nat.zero_le _), (fun j hj => absurd hj (Nat.not_lt_zero _))⟩ ?_
   clear hA hM a
   rintro q a w26 ⟨hA, hM, hq1, hq2, hq3⟩ hNext1
   refine Ends.seq (Ends.seq ?_)
   refine Ends.cut (fun (a : Act) (wv : World) => St 117 [(0, .slice ax Zs.length cx), (5, .slice ba B.length bc), (6, .slice oa L.length oc), (7, .slice wa ((iof 0 k).length) wc), (10, .int .i64 ((q : Int))), (88, .bool (decide ((((q : Int)) < ((Zs.length : Int)) ∧ ((q : Int)) < 20))))] a ∧ Mem w nof [own 3 1 (.slice ba B.length bc) B.length (B.map (Value.int .i64)), own 26 4 (.slice oa L.length oc) L.length (hopV L), own 3 1 (.slice wa (((iof 0 k)).length) wc) (((iof 0 k)).length) (((iof 0 k)).map (Value.int .i64))] wv) ?_ (fun k2 hJ => ?_)
   ·
    clear hA hM a; rintro a w27 ⟨hA, hM⟩
    refine Ends.ite hA rfl (fun hc59 => ?_) (fun hc59 => ?_)
    ·
     refine Ends.skip (Ends.seq (Ends.block (Ends.seq (Ends.region ?_))))
     refine S.val hA (R.move rfl) rfl ?_; clear hA a; intro a hA
     refine S.val hA (R.move rfl) rfl ?_; clear hA a; intro a hA
     refine S.val hA (R.idxI hx (j := q) sl22 rfl rfl (by omega) (rfl)) rfl ?_; clear hA a; intro a hA
     refine S.val hA (R.loadI (hx.mem hM) sz3 rfl (by omega)) rfl ?_; clear hA a; intro a hA
     refine S.val hA (R.eql rfl rfl) rfl ?_; clear hA a; intro a hA
     refine S.done ?_
     replace hA : St 117 [(0, _), (5, _), (6, _), (7, _), (10, _), (95, _)] a := hA.sub ((.cons rfl (.cons rfl (.cons rfl (.cons rfl (.cons rfl (.cons rfl .nil)))))))
     refine Ends.ite hA rfl (fun hc60 => ?_) (fun hc60 => ?_)
     ·
      refine Ends.seq (Ends.region ?_)
      refine S.call hA (R.callF Tryd.func6 rfl rfl rfl) rfl (hists21 _ (tab_below htab (Mem.trans0 hbs hM.nilL))) ?_; clear hA a
      rintro e w28 ⟨rfl, hb⟩
      replace hM := hM.callB hb; clear hb
      refine ⟨.bool true, rfl, fun a hA => ?_⟩
      refine S.val hA (R.assign rfl) rfl ?_; clear hA a; intro a hA
      refine S.done ?_
      refine Ends.ret1 Tryd.func3 Tryd.results3 hA rfl ?_
      exact ⟨rfl, Mem.trans0 hbs hM.nilL⟩
     ·
      refine Ends.skip (Ends.inBlock (Ends.region ?_))
      refine S.val hA (R.move rfl) rfl ?_; clear hA a; intro a hA
      refine S.val hA (R.addI rfl rfl (r := ((q : Int)) + 1) rfl (by omega)) rfl ?_; clear hA a; intro a hA
      refine S.val hA (R.assign rfl) rfl ?_; clear hA a; intro a hA
      refine S.done ?_
      exact hNext1 ((q + 1)) _ _ ((by show 20 - (q + 1) < 20 - q; omega)) ⟨hA.sub ((.cons rfl (.cons rfl (.cons rfl (.cons rfl (.cons rfl .nil)))))), hM, (by omega), (by omega), (fun j hj => by rcases Nat.lt_or_ge j q with g | g; exact hq3 j g; rw [show j = q by omega]; exact hc60)⟩
    ·
     have hS : ∀ z ∈ (Zs.take (min Zs.length 20)), z ≠ -1 := fun z hz => by
      obtain ⟨j, hj, rfl⟩ := List.getElem_of_mem hz
      have hj2 := hj
      rw [List.length_take] at hj2
      have h9 := hq3 j (by omega)
      rw [List.getElem_take]
      rwa [show Zs.getD j 0 = Zs[j]'(by omega) by simp [List.getD, show j < Zs.length by omega]] at h9
     have hP : hordP (Zs.take (min Zs.length 20)) L = (iof 0 k, 0) := by rw [← hL]; exact rows_find (by omega) (by rw [List.length_take]; omega) hrow.1 hrow.2.1 (hrow.2.2.2 hS).1
     refine Ends.exit rfl ?_
     refine Ends.seq (Ends.region ?_)
     refine S.val hA (R.move rfl) rfl ?_; clear hA a; intro a hA
     refine S.val hA (R.move rfl) rfl ?_; clear hA a; intro a hA
     refine S.val hA (R.lenS Tryd.underlying22 rfl rfl) rfl ?_; clear hA a; intro a hA
     refine S.val hA (R.min rfl rfl) rfl ?_; clear hA a; intro a hA
     have hsl61 := hx.cutR ((min Zs.length 20)) (by omega)
     refine S.val hA (R.sliceHI (h := (min Zs.length 20)) hx Tryd.underlying22 info3 rfl rfl (by omega) (by omega)) rfl ?_; clear hA a; intro a hA
     refine S.val hA (R.move rfl) rfl ?_; clear hA a; intro a hA
     refine S.call hA (R.callF Tryd.func7 rfl rfl rfl) rfl (orders_eq ax ((Zs.take ((min Zs.length 20)))) cx oa L oc hP _ (hsl61.mem hM) (hM.ownRow (k := 1) rfl) (tab_below htab (Mem.trans0 hbs hM.nilL))) ?_; clear hA a
     rintro e w29 ⟨ra62, rc63, rfl, hr64, hf65, hb⟩
     replace hM : Mem _ _ [rd ra62 rc63 ((iof 0 k)), own 3 1 (.slice ba B.length bc) B.length (B.map (Value.int .i64)), own 26 4 (.slice oa L.length oc) L.length (hopV L), own 3 1 (.slice wa (((iof 0 k)).length) wc) (((iof 0 k)).length) (((iof 0 k)).map (Value.int .i64))] _ := hM.callRd hb hr64 hf65; clear hb
     refine ⟨.tuple #[.slice ra62 (((iof 0 k)).length) rc63, .int .i64 0], rfl, fun a hA => ?_⟩
     refine S.val hA (R.move rfl) rfl ?_; clear hA a; intro a hA
     refine S.val hA (R.extract (v := .slice ra62 (((iof 0 k)).length) rc63) rfl rfl) rfl ?_; clear hA a; intro a hA
     refine S.val hA (R.extract (v := .int .i64 0) rfl rfl) rfl ?_; clear hA a; intro a hA
     refine S.val hA (R.assign rfl) rfl ?_; clear hA a; intro a hA
     refine S.val hA (R.assign rfl) rfl ?_; clear hA a; intro a hA
     refine S.done ?_
     replace hA : St 117 [(5, _), (7, _), (11, _), (12, _)] a := hA.sub ((.cons rfl (.cons rfl (.cons rfl (.cons rfl .nil)))))
     refine Ends.seq (Ends.region ?_)
     refine S.call hA (R.callF Tryd.func6 rfl rfl rfl) rfl (hists21 _ (tab_below htab (Mem.trans0 hbs hM.nilL))) ?_; clear hA a
     rintro e w30 ⟨rfl, hb⟩
     replace hM := hM.callB hb; clear hb
     refine ⟨.bool true, rfl, fun a hA => ?_⟩
     refine S.val hA (R.move rfl) rfl ?_; clear hA a; intro a hA
     refine S.valg (dj := 108) hA (by kernel_rfl) rfl (R.move rfl) rfl ?_; clear hA a; intro a hA
     refine S.valg (dj := 108) hA (by kernel_rfl) rfl (R.tt (R.eql rfl rfl) (by first | decide | simp | omega)) rfl ?_; clear hA a; intro a hA
     refine S.val hA (R.pickT rfl rfl) rfl ?_; clear hA a; intro a hA
     refine S.val hA (R.move rfl) rfl ?_; clear hA a; intro a hA
     refine S.valg (dj := 112) hA (by kernel_rfl) rfl (R.move rfl) rfl ?_; clear hA a; intro a hA
     refine S.valg (dj := 112) hA (by kernel_rfl) rfl (R.move rfl) rfl ?_; clear hA a; intro a hA
     refine S.callg (dj := 112) hA (by kernel_rfl) rfl (R.callF Tryd.func8 rfl rfl rfl) rfl (same21 ra62 ((iof 0 k)) rc63 wa wc _ (hM.rd (k := 0) rfl) (hM.rsl (k := 3) rfl)) ?_; clear hA a
     rintro e w31 ⟨rfl, hb⟩
     replace hM := hM.callB hb; clear hb
     refine ⟨.bool true, rfl, fun a hA => ?_⟩
     refine S.val hA (R.pickT rfl rfl) rfl ?_; clear hA a; intro a hA
     refine S.val hA (R.assign rfl) rfl ?_; clear hA a; intro a hA
     refine S.done ?_
     replace hA : St 117 [(4, _), (5, _)] a := hA.sub ((.cons rfl (.cons rfl .nil)))
     refine Ends.ret1 Tryd.func3 Tryd.results3 hA rfl ?_
     exact ⟨rfl, Mem.trans0 hbs hM.nilL⟩
   ·
    refine Ends.region ?_
    refine S.val hA (R.move rfl) rfl ?_; clear hA a; intro a hA
    refine S.val hA (R.move rfl) rfl ?_; clear hA a; intro a hA
    refine S.val hA (R.lenS Tryd.underlying22 rfl rfl) rfl ?_; clear hA a; intro a hA
    refine S.val hA (R.lss rfl rfl) rfl ?_; clear hA a; intro a hA
    refine S.val hA (R.move rfl) rfl ?_; clear hA a; intro a hA
    refine hA.split (d := 85) rfl ?_ ?_
    ·
     clear hA; intro hg66 hA
     refine S.valg (dj := 85) hA (by kernel_rfl) rfl (R.move rfl) rfl ?_; clear hA a; intro a hA
     refine S.valg (dj := 85) hA (by kernel_rfl) rfl (R.lss rfl rfl) rfl ?_; clear hA a; intro a hA
     refine S.val hA (R.pickT rfl rfl) rfl ?_; clear hA a; intro a hA
     refine S.done ?_
     replace hA : St 117 [(0, _), (5, _), (6, _), (7, _), (10, _), (88, _)] a := hA.sub ((.cons rfl (.cons rfl (.cons rfl (.cons rfl (.cons rfl (.cons rfl .nil)))))))
     exact hJ _ _ ⟨hA.sub (.cons rfl (.cons rfl (.cons rfl (.cons rfl (.cons rfl (.cons (by first | rfl | exact congrArg (fun b => some (Value.bool b)) (by first | exact decide_eq_decide.2 (by omega) | exact or_bool (by omega) | exact and_bool (by omega) | (simp; done) | (simp [hg66]; done) | (have h80 := hg66; (try simp at h80); simp [h80]; done) | exact (decide_eq_false (fun h9 => hg66 h9.1)).symm)) .nil)))))), hM⟩
    ·
     clear hA; intro hg66 hA
     refine S.no (dj := 85) hA (by kernel_rfl) rfl rfl rfl ?_; clear hA a; intro a hA
     refine S.no (dj := 85) hA (by kernel_rfl) rfl rfl rfl ?_; clear hA a; intro a hA
     refine S.val hA (R.pickF rfl rfl) rfl ?_; clear hA a; intro a hA
     refine S.done ?_
     replace hA : St 117 [(0, _), (5, _), (6, _), (7, _), (10, _), (88, _)] a := hA.sub ((.cons rfl (.cons rfl (.cons rfl (.cons rfl (.cons rfl (.cons rfl .nil)))))))
     exact hJ _ _ ⟨hA.sub (.cons rfl (.cons rfl (.cons rfl (.cons rfl (.cons rfl (.cons (by first | rfl | exact congrArg (fun b => some (Value.bool b)) (by first | exact decide_eq_decide.2 (by omega) | exact or_bool (by omega) | exact and_bool (by omega) | (simp; done) | (simp [hg66]; done) | (have h80 := hg66; (try simp at h80); simp [h80]; done) | exact (decide_eq_false (fun h9 => hg66 h9.1)).symm)) .nil)))))), hM⟩
 ·
  refine Ends.region ?_
  refine S.val hA (R.move rfl) rfl ?_; clear hA a; intro a hA
  refine S.val hA (R.move rfl) rfl ?_; clear hA a; intro a hA
  refine S.val hA (R.lenS Tryd.underlying22 rfl rfl) rfl ?_; clear hA a; intro a hA
  refine S.val hA (R.lss rfl rfl) rfl ?_; clear hA a; intro a hA
  refine S.val hA (R.move rfl) rfl ?_; clear hA a; intro a hA
  refine hA.split (d := 24) rfl ?_ ?_
  ·
   clear hA; intro hg67 hA
   refine S.valg (dj := 24) hA (by kernel_rfl) rfl (R.move rfl) rfl ?_; clear hA a; intro a hA
   refine S.valg (dj := 24) hA (by kernel_rfl) rfl (R.lss rfl rfl) rfl ?_; clear hA a; intro a hA
   refine S.val hA (R.pickT rfl rfl) rfl ?_; clear hA a; intro a hA
   refine S.done ?_
   replace hA : St 117 [(0, _), (1, _), (5, _), (6, _), (7, _), (8, _), (27, _)] a := hA.sub ((.cons rfl (.cons rfl (.cons rfl (.cons rfl (.cons rfl (.cons rfl (.cons rfl .nil))))))))
   exact hJ _ _ ⟨hA.sub (.cons rfl (.cons rfl (.cons rfl (.cons rfl (.cons rfl (.cons rfl (.cons (by first | rfl | exact congrArg (fun b => some (Value.bool b)) (by first | exact decide_eq_decide.2 (by omega) | exact or_bool (by omega) | exact and_bool (by omega) | (simp; done) | (simp [hg67]; done) | (have h80 := hg67; (try simp at h80); simp [h80]; done) | exact (decide_eq_false (fun h9 => hg67 h9.1)).symm)) .nil))))))), hM⟩
  ·
   clear hA; intro hg67 hA
   refine S.no (dj := 24) hA (by kernel_rfl) rfl rfl rfl ?_; clear hA a; intro a hA
   refine S.no (dj := 24) hA (by kernel_rfl) rfl rfl rfl ?_; clear hA a; intro a hA
   refine S.val hA (R.pickF rfl rfl) rfl ?_; clear hA a; intro a hA
   refine S.done ?_
   replace hA : St 117 [(0, _), (1, _), (5, _), (6, _), (7, _), (8, _), (27, _)] a := hA.sub ((.cons rfl (.cons rfl (.cons rfl (.cons rfl (.cons rfl (.cons rfl (.cons rfl .nil))))))))
   exact hJ _ _ ⟨hA.sub (.cons rfl (.cons rfl (.cons rfl (.cons rfl (.cons rfl (.cons rfl (.cons (by first | rfl | exact congrArg (fun b => some (Value.bool b)) (by first | exact decide_eq_decide.2 (by omega) | exact or_bool (by omega) | exact and_bool (by omega) | (simp; done) | (simp [hg67]; done) | (have h80 := hg67; (try simp at h80); simp [h80]; done) | exact (decide_eq_false (fun h9 => hg67 h9.1)).symm)) .nil))))))), hM⟩
theorem histRows_any (v0 : Value) (Zs : List Int) (v1 : Value) (Rw : List Int) (w : World) (h0 : IntSl w v0 Zs) (_g0 : ∀ x ∈ Zs, (Lit.int .i64 x).wf = true) (h1 : IntSl w v1 Rw) (_g1 : ∀ x ∈ Rw, (Lit.int .i64 x).wf = true) (htab : Lib.TabIs Tryd.prog w "math/bits.deBruijn64tab" .u8 debT) :
    Calls Tryd.prog 3 #[v0, v1] w fun e w' => e = .returned (.bool true) ∧ Below w.heap.size w w' := by
  obtain ⟨a0, c0, rfl⟩ := h0.form
  obtain ⟨a1, c1, rfl⟩ := h1.form
  exact histRows_w a0 Zs c0 a1 Rw c1 w h0 h1 htab
end Go.Proofs.YtjjbognomeplbaaDoor
namespace Go.Proofs.YtjjbognomeplbaaDoor
open Go.RowKit Go.WideShapes Go.ChangeShapes
section
variable {H : Type} {enc : TypeId × Value → H} {P : Program} {w : World} {base : Nat} {spare : Nat → Bool} {held : Bool}
theorem open_sli {r : Reach} {b0 : Nat} {t e : TypeId} {v : Value} {d : DataW H} {p : List MemPlace} (ht : P.underlying t = some (.slice e)) (he : P.underlying e = some (.int .i64)) (hce : P.cellsOf e = 1)
    (hv : Value.okWide P w r b0 t v) (h : DataW.Trod enc P w 0 (fun _ => true) held t v d p) :
    ∃ l : List Int, IntSl w v l ∧ ∀ x ∈ l, (Lit.int .i64 x).wf = true := by
  obtain ⟨a, len, cap, rfl⟩ := okWide_slice ht hv
  obtain ⟨fuel, hf⟩ := h
  rcases open_ints ht he hce hf with ⟨hcs, _⟩ | ⟨x, l, c, zs, hcs, _, hl, hm, hz, _, hcell, hwz⟩
  · simp [Value.cells] at hcs
    obtain ⟨rfl, rfl, rfl⟩ := hcs
    exact ⟨[], ⟨none, 0, rfl, Nat.le_refl _, Nat.zero_le _, fun _ => rfl, fun h => (h rfl).elim⟩, fun x hx => by cases hx⟩
  · simp [Value.cells] at hcs
    obtain ⟨rfl, rfl, rfl⟩ := hcs
    simp only [if_true] at hz
    refine ⟨zs.take len, ⟨some x, cap, by rw [List.length_take, Nat.min_eq_left (by omega)], by rw [List.length_take]; omega, hm, (fun h => nomatch h), fun hne => ?_⟩, fun y hy => hwz y (List.mem_of_mem_take hy)⟩
    have h0 : 0 < zs.length ∧ 0 < len := by
      rcases Nat.eq_zero_or_pos len with e | e
      · subst e; simp at hne
      · exact ⟨by omega, e⟩
    obtain ⟨b, off, spot⟩ := x
    have hs : spot = none := by
      have h1 := hcell 0 h0.1
      unfold Addr.add at h1
      simp only [if_true] at h1
      cases spot with
      | none => rfl
      | some s =>
        unfold World.cell? at h1
        split at h1 <;> simp at h1
    subst hs
    refine ⟨b, off, rfl, ?_, fun i hi => ?_⟩
    · have h1 := hcell 0 h0.1
      exact World.block_lt_of_cell? w _ h1
    · rw [List.length_take] at hi
      have h1 := hcell i (by omega)
      rw [Addr.add_lit] at h1
      rw [h1]
      congr 2
      simp only [List.getD_eq_getElem?_getD, List.getElem?_take]
      rw [if_pos (by omega)]
end
end Go.Proofs.YtjjbognomeplbaaDoor
