/-
  The acts of package pool: what a Step does.
-/
import Derived.Test.YtjjbognomeplbaaPoolW
import Derived.Test.YtjjbognomeplbaaPoolP
namespace Go.Proofs.Ytjjbognomeplbaa
open Go.RowKit
theorem Mem.ownCut {w0 w : World} {F : Nat → Prop} {L : List Ck} {t : TypeId} {a : Option Addr} {cap : Nat} {X : List Int} (h : Mem w0 F (own t 1 (.slice a X.length cap) X.length (X.map (Value.int .i64)) :: L) w) (m : Nat) (hm : m ≤ X.length) : Mem w0 F (own t 1 (.slice a (X.take m).length cap) (X.take m).length ((X.take m).map (Value.int .i64)) :: L) w := by
  have hl : (X.take m).length = m := by rw [List.length_take]; omega
  refine h.head ?_ (fun b hb => by cases a <;> exact hb)
  have ho : w.ownsRow 0 t 1 (.slice a X.length cap) X.length (X.map (Value.int .i64)) := h.mem (k := 0) rfl
  rw [hl]
  refine ⟨by rw [List.length_map, hl]; omega, ?_⟩
  rcases ho.2 with ⟨h1, h2⟩ | ⟨g, c, cur, h1, h2, h3, h4, h5, h6, h7⟩
  · injection h1 with h1 h1' h1''
    subst h1 h1''
    have h0 : m = 0 := by omega
    subst h0
    exact .inl ⟨rfl, rfl⟩
  · injection h1 with h1 h1' h1''
    subst h1 h1''
    refine .inr ⟨g, cap, cur, rfl, h2, h3, by omega, h5, h6, ?_⟩
    rw [List.map_take, ← h7, List.take_take]
    congr 1
    omega
theorem vset_at {l : List Value} {j : Nat} {v : Value} (h : l[j]? = some v) : l.set j v = l := by
  obtain ⟨h1, h2⟩ := List.getElem?_eq_some_iff.1 h
  apply List.ext_getElem?
  intro i
  rw [List.getElem?_set]
  split
  · rename_i hji; subst hji; exact h.symm
  · rfl

set_option maxRecDepth 100000 in
set_option maxHeartbeats 400000 in
theorem ppriv_keep (p q m nb ns ob ws : Nat) (bs wr : Int) (os : List Value) (av : Option Addr) (Y : List Int) (cap : Nat) (hwr : 0 ≤ wr ∧ wr < ws) (hlen : os.length = ws) (hos : os[wr.toNat]? = some (.slice av Y.length cap)) (hY2 : Y.length ≤ 2) (sl ph tp nx : Int) (hY : Y.length < 2) (w : World) (hM : Mem w (feet [pt p #[.pointer (some ⟨q, 0, none⟩), .int .i64 wr, .bool true, .int .i64 sl, .int .i64 ph, .int .i64 tp, .int .i64 nx] 131, pt q #[.pointer (some ⟨m, 0, none⟩), .int .i64 bs, .slice (some ⟨nb, 0, none⟩) ns ns, .slice (some ⟨ob, 0, none⟩) ws ws] 128, pt ob ((vals os)) 43, own 3 1 (.slice av Y.length cap) Y.length (Y.map (Value.int .i64))]) [pt p #[.pointer (some ⟨q, 0, none⟩), .int .i64 wr, .bool true, .int .i64 sl, .int .i64 ph, .int .i64 tp, .int .i64 nx] 131, pt q #[.pointer (some ⟨m, 0, none⟩), .int .i64 bs, .slice (some ⟨nb, 0, none⟩) ns ns, .slice (some ⟨ob, 0, none⟩) ws ws] 128, pt ob ((vals os)) 43, own 3 1 (.slice av Y.length cap) Y.length (Y.map (Value.int .i64))] w) :
    Calls Try.prog 85 #[.pointer (some ⟨p, 0, none⟩)] w fun e w' => ∃ a2 c2, e = .returned (.bool true) ∧ Mem w (feet [pt p #[.pointer (some ⟨q, 0, none⟩), .int .i64 wr, .bool true, .int .i64 sl, .int .i64 ph, .int .i64 tp, .int .i64 nx] 131, pt q #[.pointer (some ⟨m, 0, none⟩), .int .i64 bs, .slice (some ⟨nb, 0, none⟩) ns ns, .slice (some ⟨ob, 0, none⟩) ws ws] 128, pt ob ((vals os)) 43, own 3 1 (.slice av Y.length cap) Y.length (Y.map (Value.int .i64))]) [pt p #[.pointer (some ⟨q, 0, none⟩), .int .i64 wr, .bool true, .int .i64 sl, .int .i64 ph, .int .i64 tp, .int .i64 nx] 131, pt q #[.pointer (some ⟨m, 0, none⟩), .int .i64 bs, .slice (some ⟨nb, 0, none⟩) ns ns, .slice (some ⟨ob, 0, none⟩) ws ws] 128, pt ob (vals (os.set wr.toNat (.slice a2 (Y ++ [sl]).length c2))) 43, own 3 1 (.slice a2 (Y ++ [sl]).length c2) (Y ++ [sl]).length ((Y ++ [sl]).map (Value.int .i64))] w' := by
  have hM0 : True := trivial  -- have hM
  refine Calls.of_ends (vs := [.pointer (some ⟨p, 0, none⟩)]) Try.func85 rfl Try.ntmps85 rfl ?_
  intro a hA
  replace hA : St 74 [(0, _)] a := hA
  refine Ends.seq ?_
  refine Ends.region ?_
  refine S.val hA (R.assign rfl) rfl ?_; clear hA a; intro a hA
  refine S.done ?_
  replace hA : St 74 [(0, _), (2, _)] a := hA.sub ((.cons rfl (.cons rfl .nil)))
  refine Ends.seq ?_
  refine Ends.drawn (Mem w (feet [pt p #[.pointer (some ⟨q, 0, none⟩), .int .i64 wr, .bool true, .int .i64 sl, .int .i64 ph, .int .i64 tp, .int .i64 nx] 131, pt q #[.pointer (some ⟨m, 0, none⟩), .int .i64 bs, .slice (some ⟨nb, 0, none⟩) ns ns, .slice (some ⟨ob, 0, none⟩) ws ws] 128, pt ob ((vals os)) 43, own 3 1 (.slice av Y.length cap) Y.length (Y.map (Value.int .i64))]) [pt p #[.pointer (some ⟨q, 0, none⟩), .int .i64 wr, .bool true, .int .i64 sl, .int .i64 ph, .int .i64 tp, .int .i64 nx] 131, pt q #[.pointer (some ⟨m, 0, none⟩), .int .i64 bs, .slice (some ⟨nb, 0, none⟩) ns ns, .slice (some ⟨ob, 0, none⟩) ws ws] 128, pt ob ((vals os)) 43, own 3 1 (.slice av Y.length cap) Y.length (Y.map (Value.int .i64))]) (.cons (0, true) (.cons (1, true) (.cons (2, true) (.cons (3, true) (.cons (4, true) (.cons (5, true) (.cons (6, true) (.cons (7, true) (.cons (8, true) (.cons (9, true) (.cons (10, true) (.cons (11, true) (.cons (12, true) .nil))))))))))))) 13 mixed (by kernel_rfl) (by kernel_rfl) (by kernel_rfl) hM.drew ?_
  replace hM := hM.drew
  refine D.valF hA rfl (fun _ => R.move rfl) rfl ?_; clear hA a; intro a hA
  refine D.valF hA rfl (fun _ => R.nilCheck rfl) rfl ?_; clear hA a; intro a hA
  refine D.valF hA rfl (fun _ => R.fieldAddr (q := 0) fi131_0 rfl rfl rfl) rfl ?_; clear hA a; intro a hA
  refine D.val hA rfl (by kernel_rfl) (fun _ hM => R.load sz72 rfl (hM.cell (k := 0) rfl rfl)) rfl ?_; clear hA a; intro a hA
  refine D.valF hA rfl (fun _ => R.nilCheck rfl) rfl ?_; clear hA a; intro a hA
  refine D.valF hA rfl (fun _ => R.fieldAddr (q := 3) fi128_3 rfl rfl rfl) rfl ?_; clear hA a; intro a hA
  refine D.val hA rfl (by kernel_rfl) (fun _ hM => R.load sz95 rfl (hM.cell (k := 1) rfl rfl)) rfl ?_; clear hA a; intro a hA
  refine D.valF hA rfl (fun _ => R.move rfl) rfl ?_; clear hA a; intro a hA
  refine D.valF hA rfl (fun _ => R.nilCheck rfl) rfl ?_; clear hA a; intro a hA
  refine D.valF hA rfl (fun _ => R.fieldAddr (q := 1) fi131_1 rfl rfl rfl) rfl ?_; clear hA a; intro a hA
  refine D.val hA rfl (by kernel_rfl) (fun _ hM => R.load sz3 rfl (hM.cell (k := 0) rfl rfl)) rfl ?_; clear hA a; intro a hA
  refine D.valF hA rfl (fun _ => R.indexAddr (q := wr.toNat) sl95 rfl rfl (by omega) (by omega)) rfl ?_; clear hA a; intro a hA
  refine D.valF hA rfl (fun _ => R.assign rfl) rfl ?_; clear hA a; intro a hA
  refine D.done ?_
  replace hA : St 74 [(0, _), (2, _), (3, _)] a := hA.sub ((.cons rfl (.cons rfl (.cons rfl .nil))))
  refine Ends.seq ?_
  refine Ends.block ?_
  refine Ends.seq ?_
  refine Ends.region ?_
  refine S.val hA (R.move rfl) rfl ?_; clear hA a; intro a hA
  refine S.val hA (R.nilCheck rfl) rfl ?_; clear hA a; intro a hA
  refine S.val hA (R.fieldAddr (q := 2) fi131_2 rfl rfl rfl) rfl ?_; clear hA a; intro a hA
  refine S.val hA (R.load sz4 rfl (hM.cell (k := 0) rfl rfl)) rfl ?_; clear hA a; intro a hA
  refine S.val hA (R.move rfl) rfl ?_; clear hA a; intro a hA
  refine S.valg (dj := 22) hA (by kernel_rfl) rfl (R.move rfl) rfl ?_; clear hA a; intro a hA
  refine S.valg (dj := 22) hA (by kernel_rfl) rfl (R.nilCheck rfl) rfl ?_; clear hA a; intro a hA
  refine S.valg (dj := 22) hA (by kernel_rfl) rfl (R.load sz43 rfl (hM.cell (k := 2) rfl (vals_at os _ _ hos))) rfl ?_; clear hA a; intro a hA
  refine S.valg (dj := 22) hA (by kernel_rfl) rfl (R.lenS Try.underlying43 rfl rfl) rfl ?_; clear hA a; intro a hA
  refine S.valg (dj := 22) hA (by kernel_rfl) rfl (R.tt (R.lss rfl rfl) (by omega)) rfl ?_; clear hA a; intro a hA
  refine S.val hA (R.pickT rfl rfl) rfl ?_; clear hA a; intro a hA
  refine S.val hA (R.assign rfl) rfl ?_; clear hA a; intro a hA
  refine S.done ?_
  replace hA : St 74 [(0, _), (2, _), (3, _), (17, _)] a := hA.sub ((.cons rfl (.cons rfl (.cons rfl (.cons rfl .nil)))))
  refine Ends.condT hA rfl ?_
  refine Ends.drawn (Mem w (feet [pt p #[.pointer (some ⟨q, 0, none⟩), .int .i64 wr, .bool true, .int .i64 sl, .int .i64 ph, .int .i64 tp, .int .i64 nx] 131, pt q #[.pointer (some ⟨m, 0, none⟩), .int .i64 bs, .slice (some ⟨nb, 0, none⟩) ns ns, .slice (some ⟨ob, 0, none⟩) ws ws] 128, pt ob ((vals os)) 43, own 3 1 (.slice av Y.length cap) Y.length (Y.map (Value.int .i64))]) [pt p #[.pointer (some ⟨q, 0, none⟩), .int .i64 wr, .bool true, .int .i64 sl, .int .i64 ph, .int .i64 tp, .int .i64 nx] 131, pt q #[.pointer (some ⟨m, 0, none⟩), .int .i64 bs, .slice (some ⟨nb, 0, none⟩) ns ns, .slice (some ⟨ob, 0, none⟩) ws ws] 128, pt ob ((vals os)) 43]) (.cons (0, true) (.cons (1, true) (.cons (2, true) (.cons (3, true) (.cons (4, true) (.cons (5, true) (.cons (6, true) (.cons (7, true) (.cons (8, false) (.cons (9, false) (.cons (10, true) (.cons (11, false) .nil)))))))))))) 11 mixed (by kernel_rfl) (by kernel_rfl) (by kernel_rfl) (hM.drop 3).drew ?_
  replace hM := hM.drew
  refine D.valF hA rfl (fun _ => R.move rfl) rfl ?_; clear hA a; intro a hA
  refine D.valF hA rfl (fun _ => R.move rfl) rfl ?_; clear hA a; intro a hA
  refine D.valF hA rfl (fun _ => R.nilCheck rfl) rfl ?_; clear hA a; intro a hA
  refine D.val hA rfl (by kernel_rfl) (fun _ hM => R.load sz43 rfl (hM.cell (k := 2) rfl (vals_at os _ _ hos))) rfl ?_; clear hA a; intro a hA
  refine D.valF hA rfl (fun _ => R.move rfl) rfl ?_; clear hA a; intro a hA
  refine D.valF hA rfl (fun _ => R.nilCheck rfl) rfl ?_; clear hA a; intro a hA
  refine D.valF hA rfl (fun _ => R.fieldAddr (q := 3) fi131_3 rfl rfl rfl) rfl ?_; clear hA a; intro a hA
  refine D.val hA rfl (by kernel_rfl) (fun _ hM => R.load sz3 rfl (hM.cell (k := 0) rfl rfl)) rfl ?_; clear hA a; intro a hA
  refine D.buildSl (cells := #[.int .i64 sl]) hA hM rfl Try.underlying43 info3 rfl rfl rfl rfl (by kernel_rfl) rfl ?_; clear hA hM a; intro b1 w1 hb2 hM; refine ⟨(fun hM => (hM.drop 3)) hM.tail, fun a hA => ?_⟩
  replace hM : Mem _ _ [pt b1 #[.int .i64 sl] 3, pt p #[.pointer (some ⟨q, 0, none⟩), .int .i64 wr, .bool true, .int .i64 sl, .int .i64 ph, .int .i64 tp, .int .i64 nx] 131, pt q #[.pointer (some ⟨m, 0, none⟩), .int .i64 bs, .slice (some ⟨nb, 0, none⟩) ns ns, .slice (some ⟨ob, 0, none⟩) ws ws] 128, pt ob ((vals os)) 43, own 3 1 (.slice av Y.length cap) Y.length (Y.map (Value.int .i64))] _ := hM
  refine D.append (k := 4) (k2 := 0) hA hM rfl rfl rfl Try.underlying43 info3 rfl rfl rfl rfl rfl rfl rfl rfl rfl (by first | omega | (show _ ≤ (9223372036854775807 : Nat); omega) | (show (Y.length + 1) * 8 ≤ _; omega) | (unfold maxLen; omega)) (by first | omega | (show _ ≤ (9223372036854775807 : Nat); omega) | (show (Y.length + 1) * 8 ≤ _; omega) | (unfold maxLen; omega)) rfl ?_; clear hA hM a; intro a3 c4 w2 hM
  replace hM : Mem _ _ [pt b1 #[.int .i64 sl] 3, pt p #[.pointer (some ⟨q, 0, none⟩), .int .i64 wr, .bool true, .int .i64 sl, .int .i64 ph, .int .i64 tp, .int .i64 nx] 131, pt q #[.pointer (some ⟨m, 0, none⟩), .int .i64 bs, .slice (some ⟨nb, 0, none⟩) ns ns, .slice (some ⟨ob, 0, none⟩) ws ws] 128, pt ob ((vals os)) 43, own 3 1 (.slice a3 (Y.length + 1) c4) (Y.length + 1) (Y.map (Value.int .i64) ++ [.int .i64 sl])] _ := hM
  have hl5 : Y.length + 1 = (Y ++ [sl]).length := by simp
  rw [hl5, show Y.map (Value.int .i64) ++ [.int .i64 sl] = (Y ++ [sl]).map (Value.int .i64) by simp] at hM
  replace hM := hM.drop 0
  replace hM : Mem _ _ [pt p #[.pointer (some ⟨q, 0, none⟩), .int .i64 wr, .bool true, .int .i64 sl, .int .i64 ph, .int .i64 tp, .int .i64 nx] 131, pt q #[.pointer (some ⟨m, 0, none⟩), .int .i64 bs, .slice (some ⟨nb, 0, none⟩) ns ns, .slice (some ⟨ob, 0, none⟩) ws ws] 128, pt ob ((vals os)) 43, own 3 1 (.slice a3 (((Y ++ [sl])).length) c4) (((Y ++ [sl])).length) (((Y ++ [sl])).map (Value.int .i64))] _ := hM
  refine ⟨(hM.drop 3), fun a hA => ?_⟩; rw [hl5] at hA; clear hl5
  refine D.valF hA rfl (fun _ => R.nilCheck rfl) rfl ?_; clear hA a; intro a hA
  refine D.store (k := 2) hA hM rfl sz43 rfl rfl rfl rfl (vals_get _ _ (by omega)) ?_; clear hM
  intro w3 hM; refine ⟨fun hne => absurd rfl hne, ?_⟩
  rw [vals_set] at hM
  replace hM : Mem _ _ [pt p #[.pointer (some ⟨q, 0, none⟩), .int .i64 wr, .bool true, .int .i64 sl, .int .i64 ph, .int .i64 tp, .int .i64 nx] 131, pt q #[.pointer (some ⟨m, 0, none⟩), .int .i64 bs, .slice (some ⟨nb, 0, none⟩) ns ns, .slice (some ⟨ob, 0, none⟩) ws ws] 128, pt ob ((vals (os.set wr.toNat (.slice a3 (((Y ++ [sl])).length) c4)))) 43, own 3 1 (.slice a3 (((Y ++ [sl])).length) c4) (((Y ++ [sl])).length) (((Y ++ [sl])).map (Value.int .i64))] _ := hM
  refine D.done ?_
  replace hA : St 74 [(2, _)] a := hA.sub ((.cons rfl .nil))
  refine Ends.inBlock ?_
  refine Ends.seq ?_
  refine Ends.region ?_
  refine S.val hA (R.assign rfl) rfl ?_; clear hA a; intro a hA
  refine S.done ?_
  replace hA : St 74 [(2, _)] a := hA.sub ((.cons rfl .nil))
  refine Ends.ret1 Try.func85 Try.results85 hA rfl ?_
  exact ⟨_, _, rfl, hM.firstN 4⟩
theorem Mem.perm4 {w0 w : World} {F : Nat → Prop} {c1 c2 c3 c4 : Ck} (h : Mem w0 F [c1, c2, c3, c4] w) : Mem w0 F [c2, c3, c4, c1] w :=
  h.perm (List.perm_append_comm (l₁ := [c1]) (l₂ := [c2, c3, c4]))
set_option maxRecDepth 100000 in
set_option maxHeartbeats 400000 in
theorem ppriv_own (p q m nb ns ob ws : Nat) (bs wr : Int) (os : List Value) (av : Option Addr) (Y : List Int) (cap : Nat) (hwr : 0 ≤ wr ∧ wr < ws) (hlen : os.length = ws) (hos : os[wr.toNat]? = some (.slice av Y.length cap)) (hY2 : Y.length ≤ 2) (sl ph tp nx : Int) (hY : 0 < Y.length) (w : World) (hM : Mem w (feet [pt p #[.pointer (some ⟨q, 0, none⟩), .int .i64 wr, .bool false, .int .i64 sl, .int .i64 ph, .int .i64 tp, .int .i64 nx] 131, pt q #[.pointer (some ⟨m, 0, none⟩), .int .i64 bs, .slice (some ⟨nb, 0, none⟩) ns ns, .slice (some ⟨ob, 0, none⟩) ws ws] 128, pt ob ((vals os)) 43, own 3 1 (.slice av Y.length cap) Y.length (Y.map (Value.int .i64))]) [pt p #[.pointer (some ⟨q, 0, none⟩), .int .i64 wr, .bool false, .int .i64 sl, .int .i64 ph, .int .i64 tp, .int .i64 nx] 131, pt q #[.pointer (some ⟨m, 0, none⟩), .int .i64 bs, .slice (some ⟨nb, 0, none⟩) ns ns, .slice (some ⟨ob, 0, none⟩) ws ws] 128, pt ob ((vals os)) 43, own 3 1 (.slice av Y.length cap) Y.length (Y.map (Value.int .i64))] w) :
    Calls Try.prog 85 #[.pointer (some ⟨p, 0, none⟩)] w fun e w' => e = .returned (.bool true) ∧ Mem w (feet [pt p #[.pointer (some ⟨q, 0, none⟩), .int .i64 wr, .bool false, .int .i64 sl, .int .i64 ph, .int .i64 tp, .int .i64 nx] 131, pt q #[.pointer (some ⟨m, 0, none⟩), .int .i64 bs, .slice (some ⟨nb, 0, none⟩) ns ns, .slice (some ⟨ob, 0, none⟩) ws ws] 128, pt ob ((vals os)) 43, own 3 1 (.slice av Y.length cap) Y.length (Y.map (Value.int .i64))]) [pt p #[.pointer (some ⟨q, 0, none⟩), .int .i64 wr, .bool false, .int .i64 (Y.getD (Y.length - 1) 0), .int .i64 ph, .int .i64 tp, .int .i64 nx] 131, pt q #[.pointer (some ⟨m, 0, none⟩), .int .i64 bs, .slice (some ⟨nb, 0, none⟩) ns ns, .slice (some ⟨ob, 0, none⟩) ws ws] 128, pt ob ((vals (os.set wr.toNat (.slice av (Y.take (Y.length - 1)).length cap)))) 43, own 3 1 (.slice av (((Y.take (Y.length - 1))).length) cap) (((Y.take (Y.length - 1))).length) (((Y.take (Y.length - 1))).map (Value.int .i64))] w' := by
  have hM0 : True := trivial  -- have hM
  refine Calls.of_ends (vs := [.pointer (some ⟨p, 0, none⟩)]) Try.func85 rfl Try.ntmps85 rfl ?_
  intro a hA
  replace hA : St 74 [(0, _)] a := hA
  refine Ends.seq ?_
  refine Ends.region ?_
  refine S.val hA (R.assign rfl) rfl ?_; clear hA a; intro a hA
  refine S.done ?_
  replace hA : St 74 [(0, _), (2, _)] a := hA.sub ((.cons rfl (.cons rfl .nil)))
  refine Ends.seq ?_
  refine Ends.drawn (Mem w (feet [pt p #[.pointer (some ⟨q, 0, none⟩), .int .i64 wr, .bool false, .int .i64 sl, .int .i64 ph, .int .i64 tp, .int .i64 nx] 131, pt q #[.pointer (some ⟨m, 0, none⟩), .int .i64 bs, .slice (some ⟨nb, 0, none⟩) ns ns, .slice (some ⟨ob, 0, none⟩) ws ws] 128, pt ob ((vals os)) 43, own 3 1 (.slice av Y.length cap) Y.length (Y.map (Value.int .i64))]) [pt p #[.pointer (some ⟨q, 0, none⟩), .int .i64 wr, .bool false, .int .i64 sl, .int .i64 ph, .int .i64 tp, .int .i64 nx] 131, pt q #[.pointer (some ⟨m, 0, none⟩), .int .i64 bs, .slice (some ⟨nb, 0, none⟩) ns ns, .slice (some ⟨ob, 0, none⟩) ws ws] 128, pt ob ((vals os)) 43, own 3 1 (.slice av Y.length cap) Y.length (Y.map (Value.int .i64))]) (.cons (0, true) (.cons (1, true) (.cons (2, true) (.cons (3, true) (.cons (4, true) (.cons (5, true) (.cons (6, true) (.cons (7, true) (.cons (8, true) (.cons (9, true) (.cons (10, true) (.cons (11, true) (.cons (12, true) .nil))))))))))))) 13 mixed (by kernel_rfl) (by kernel_rfl) (by kernel_rfl) hM.drew ?_
  replace hM := hM.drew
  refine D.valF hA rfl (fun _ => R.move rfl) rfl ?_; clear hA a; intro a hA
  refine D.valF hA rfl (fun _ => R.nilCheck rfl) rfl ?_; clear hA a; intro a hA
  refine D.valF hA rfl (fun _ => R.fieldAddr (q := 0) fi131_0 rfl rfl rfl) rfl ?_; clear hA a; intro a hA
  refine D.val hA rfl (by kernel_rfl) (fun _ hM => R.load sz72 rfl (hM.cell (k := 0) rfl rfl)) rfl ?_; clear hA a; intro a hA
  refine D.valF hA rfl (fun _ => R.nilCheck rfl) rfl ?_; clear hA a; intro a hA
  refine D.valF hA rfl (fun _ => R.fieldAddr (q := 3) fi128_3 rfl rfl rfl) rfl ?_; clear hA a; intro a hA
  refine D.val hA rfl (by kernel_rfl) (fun _ hM => R.load sz95 rfl (hM.cell (k := 1) rfl rfl)) rfl ?_; clear hA a; intro a hA
  refine D.valF hA rfl (fun _ => R.move rfl) rfl ?_; clear hA a; intro a hA
  refine D.valF hA rfl (fun _ => R.nilCheck rfl) rfl ?_; clear hA a; intro a hA
  refine D.valF hA rfl (fun _ => R.fieldAddr (q := 1) fi131_1 rfl rfl rfl) rfl ?_; clear hA a; intro a hA
  refine D.val hA rfl (by kernel_rfl) (fun _ hM => R.load sz3 rfl (hM.cell (k := 0) rfl rfl)) rfl ?_; clear hA a; intro a hA
  refine D.valF hA rfl (fun _ => R.indexAddr (q := wr.toNat) sl95 rfl rfl (by omega) (by omega)) rfl ?_; clear hA a; intro a hA
  refine D.valF hA rfl (fun _ => R.assign rfl) rfl ?_; clear hA a; intro a hA
  refine D.done ?_
  replace hA : St 74 [(0, _), (2, _), (3, _)] a := hA.sub ((.cons rfl (.cons rfl (.cons rfl .nil))))
  refine Ends.seq ?_
  refine Ends.block ?_
  refine Ends.seq ?_
  refine Ends.region ?_
  refine S.val hA (R.move rfl) rfl ?_; clear hA a; intro a hA
  refine S.val hA (R.nilCheck rfl) rfl ?_; clear hA a; intro a hA
  refine S.val hA (R.fieldAddr (q := 2) fi131_2 rfl rfl rfl) rfl ?_; clear hA a; intro a hA
  refine S.val hA (R.load sz4 rfl (hM.cell (k := 0) rfl rfl)) rfl ?_; clear hA a; intro a hA
  refine S.val hA (R.move rfl) rfl ?_; clear hA a; intro a hA
  refine S.no (dj := 22) hA (by kernel_rfl) rfl rfl rfl ?_; clear hA a; intro a hA
  refine S.no (dj := 22) hA (by kernel_rfl) rfl rfl rfl ?_; clear hA a; intro a hA
  refine S.no (dj := 22) hA (by kernel_rfl) rfl rfl rfl ?_; clear hA a; intro a hA
  refine S.no (dj := 22) hA (by kernel_rfl) rfl rfl rfl ?_; clear hA a; intro a hA
  refine S.no (dj := 22) hA (by kernel_rfl) rfl rfl rfl ?_; clear hA a; intro a hA
  refine S.val hA (R.pickF rfl rfl) rfl ?_; clear hA a; intro a hA
  refine S.val hA (R.assign rfl) rfl ?_; clear hA a; intro a hA
  refine S.done ?_
  replace hA : St 74 [(0, _), (2, _), (3, _), (17, _)] a := hA.sub ((.cons rfl (.cons rfl (.cons rfl (.cons rfl .nil)))))
  refine Ends.condF hA rfl ?_
  refine Ends.seq ?_
  refine Ends.region ?_
  refine S.val hA (R.move rfl) rfl ?_; clear hA a; intro a hA
  refine S.val hA (R.nilCheck rfl) rfl ?_; clear hA a; intro a hA
  refine S.val hA (R.fieldAddr (q := 2) fi131_2 rfl rfl rfl) rfl ?_; clear hA a; intro a hA
  refine S.val hA (R.load sz4 rfl (hM.cell (k := 0) rfl rfl)) rfl ?_; clear hA a; intro a hA
  refine S.val hA (R.not rfl) rfl ?_; clear hA a; intro a hA
  refine S.val hA (R.move rfl) rfl ?_; clear hA a; intro a hA
  refine S.valg (dj := 46) hA (by kernel_rfl) rfl (R.move rfl) rfl ?_; clear hA a; intro a hA
  refine S.valg (dj := 46) hA (by kernel_rfl) rfl (R.nilCheck rfl) rfl ?_; clear hA a; intro a hA
  refine S.valg (dj := 46) hA (by kernel_rfl) rfl (R.load sz43 rfl (hM.cell (k := 2) rfl (vals_at os _ _ hos))) rfl ?_; clear hA a; intro a hA
  refine S.valg (dj := 46) hA (by kernel_rfl) rfl (R.lenS Try.underlying43 rfl rfl) rfl ?_; clear hA a; intro a hA
  refine S.valg (dj := 46) hA (by kernel_rfl) rfl (R.tt (R.gtr rfl rfl) (by omega)) rfl ?_; clear hA a; intro a hA
  refine S.val hA (R.pickT rfl rfl) rfl ?_; clear hA a; intro a hA
  refine S.val hA (R.assign rfl) rfl ?_; clear hA a; intro a hA
  refine S.done ?_
  replace hA : St 74 [(0, _), (2, _), (3, _), (40, _)] a := hA.sub ((.cons rfl (.cons rfl (.cons rfl (.cons rfl .nil)))))
  refine Ends.condT hA rfl ?_
  refine Ends.seq ?_
  refine Ends.region ?_
  refine S.val hA (R.move rfl) rfl ?_; clear hA a; intro a hA
  refine S.val hA (R.nilCheck rfl) rfl ?_; clear hA a; intro a hA
  refine S.val hA (R.load sz43 rfl (hM.cell (k := 2) rfl (vals_at os _ _ hos))) rfl ?_; clear hA a; intro a hA
  refine S.val hA (R.lenS Try.underlying43 rfl rfl) rfl ?_; clear hA a; intro a hA
  refine S.val hA (R.subI rfl rfl (r := ((Y.length : Int)) - 1) rfl (by omega)) rfl ?_; clear hA a; intro a hA
  refine S.val hA (R.assign rfl) rfl ?_; clear hA a; intro a hA
  refine S.done ?_
  replace hA : St 74 [(0, _), (2, _), (3, _), (4, _)] a := hA.sub ((.cons rfl (.cons rfl (.cons rfl (.cons rfl .nil)))))
  refine Ends.seq ?_
  obtain ⟨gv, hgv⟩ := hM.ownAt (k := 3) rfl hY
  subst hgv
  have hcap := (hM.ownLe (k := 3) rfl).1
  replace hM : Mem _ _ [pt p #[.pointer (some ⟨q, 0, none⟩), .int .i64 wr, .bool false, .int .i64 sl, .int .i64 ph, .int .i64 tp, .int .i64 nx] 131, pt q #[.pointer (some ⟨m, 0, none⟩), .int .i64 bs, .slice (some ⟨nb, 0, none⟩) ns ns, .slice (some ⟨ob, 0, none⟩) ws ws] 128, pt ob ((vals os)) 43, own 3 1 (.slice (some ⟨gv, 0, none⟩) Y.length cap) Y.length (Y.map (Value.int .i64))] _ := hM
  refine Ends.region ?_
  refine S.val hA (R.move rfl) rfl ?_; clear hA a; intro a hA
  refine S.val hA (R.move rfl) rfl ?_; clear hA a; intro a hA
  refine S.val hA (R.nilCheck rfl) rfl ?_; clear hA a; intro a hA
  refine S.val hA (R.load sz43 rfl (hM.cell (k := 2) rfl (vals_at os _ _ hos))) rfl ?_; clear hA a; intro a hA
  refine S.val hA (R.move rfl) rfl ?_; clear hA a; intro a hA
  refine S.val hA (R.indexAddr (q := Y.length - 1) sl43 rfl rfl (by omega) (by omega)) rfl ?_; clear hA a; intro a hA
  refine S.val hA (R.load sz3 rfl (hM.ownCell (k := 3) rfl (mapi_get _ _ (by omega)))) rfl ?_; clear hA a; intro a hA
  refine S.val hA (R.nilCheck rfl) rfl ?_; clear hA a; intro a hA
  refine S.val hA (R.fieldAddr (q := 3) fi131_3 rfl rfl rfl) rfl ?_; clear hA a; intro a hA
  refine S.store (k := 0) hA hM sz3 rfl rfl rfl rfl rfl ?_; clear hM
  intro w1 hM
  replace hM : Mem _ _ [pt p #[.pointer (some ⟨q, 0, none⟩), .int .i64 wr, .bool false, .int .i64 (Y.getD (Y.length - 1) 0), .int .i64 ph, .int .i64 tp, .int .i64 nx] 131, pt q #[.pointer (some ⟨m, 0, none⟩), .int .i64 bs, .slice (some ⟨nb, 0, none⟩) ns ns, .slice (some ⟨ob, 0, none⟩) ws ws] 128, pt ob ((vals os)) 43, own 3 1 (.slice (some ⟨gv, 0, none⟩) Y.length cap) Y.length (Y.map (Value.int .i64))] _ := hM
  refine S.done ?_
  replace hA : St 74 [(2, _), (3, _), (4, _)] a := hA.sub ((.cons rfl (.cons rfl (.cons rfl .nil))))
  refine Ends.region ?_
  refine S.val hA (R.move rfl) rfl ?_; clear hA a; intro a hA
  refine S.val hA (R.move rfl) rfl ?_; clear hA a; intro a hA
  refine S.val hA (R.nilCheck rfl) rfl ?_; clear hA a; intro a hA
  refine S.val hA (R.load sz43 rfl (hM.cell (k := 2) rfl (vals_at os _ _ hos))) rfl ?_; clear hA a; intro a hA
  refine S.val hA (R.move rfl) rfl ?_; clear hA a; intro a hA
  refine S.val hA (R.sliceH (h := (Y.length - 1)) Try.underlying43 info3 rfl rfl (by omega) (by omega)) rfl ?_; clear hA a; intro a hA
  refine S.val hA (R.nilCheck rfl) rfl ?_; clear hA a; intro a hA
  refine S.store (k := 2) hA hM sz43 rfl rfl rfl rfl (vals_get _ _ (by omega)) ?_; clear hM
  intro w2 hM
  rw [vals_set] at hM
  replace hM : Mem _ _ [pt p #[.pointer (some ⟨q, 0, none⟩), .int .i64 wr, .bool false, .int .i64 (Y.getD (Y.length - 1) 0), .int .i64 ph, .int .i64 tp, .int .i64 nx] 131, pt q #[.pointer (some ⟨m, 0, none⟩), .int .i64 bs, .slice (some ⟨nb, 0, none⟩) ns ns, .slice (some ⟨ob, 0, none⟩) ws ws] 128, pt ob ((vals (os.set wr.toNat (.slice (some ⟨gv, 0, none⟩) ((Y.length - 1)) cap)))) 43, own 3 1 (.slice (some ⟨gv, 0, none⟩) Y.length cap) Y.length (Y.map (Value.int .i64))] _ := hM
  refine S.done ?_
  replace hA : St 74 [(2, _)] a := hA.sub ((.cons rfl .nil))
  refine Ends.inBlock ?_
  refine Ends.seq ?_
  refine Ends.region ?_
  refine S.val hA (R.assign rfl) rfl ?_; clear hA a; intro a hA
  refine S.done ?_
  replace hA : St 74 [(2, _)] a := hA.sub ((.cons rfl .nil))
  refine Ends.ret1 Try.func85 Try.results85 hA rfl ?_
  replace hM := hM.front (k := 2) rfl
  replace hM := hM.front (k := 2) rfl
  replace hM := hM.front (k := 2) rfl
  replace hM := hM.front (k := 3) rfl
  replace hM : Mem _ _ [own 3 1 (.slice (some ⟨gv, 0, none⟩) Y.length cap) Y.length (Y.map (Value.int .i64)), pt p #[.pointer (some ⟨q, 0, none⟩), .int .i64 wr, .bool false, .int .i64 (Y.getD (Y.length - 1) 0), .int .i64 ph, .int .i64 tp, .int .i64 nx] 131, pt q #[.pointer (some ⟨m, 0, none⟩), .int .i64 bs, .slice (some ⟨nb, 0, none⟩) ns ns, .slice (some ⟨ob, 0, none⟩) ws ws] 128, pt ob ((vals (os.set wr.toNat (.slice (some ⟨gv, 0, none⟩) ((Y.length - 1)) cap)))) 43] _ := hM
  have hcut : (Y.take (Y.length - 1)).length = Y.length - 1 := by rw [List.length_take]; omega
  replace hM := (hM.ownCut (Y.length - 1) (by omega)).firstN 4
  rw [hcut] at hM ⊢
  exact ⟨rfl, hM.perm4⟩
set_option maxRecDepth 100000 in
set_option maxHeartbeats 400000 in
theorem ppriv_full (p q m nb ns ob ws : Nat) (bs wr : Int) (os : List Value) (av : Option Addr) (Y : List Int) (cap : Nat) (hwr : 0 ≤ wr ∧ wr < ws) (hlen : os.length = ws) (hos : os[wr.toNat]? = some (.slice av Y.length cap)) (hY2 : Y.length ≤ 2) (sl ph tp nx : Int) (hY : 2 ≤ Y.length) (w : World) (hM : Mem w (feet [pt p #[.pointer (some ⟨q, 0, none⟩), .int .i64 wr, .bool true, .int .i64 sl, .int .i64 ph, .int .i64 tp, .int .i64 nx] 131, pt q #[.pointer (some ⟨m, 0, none⟩), .int .i64 bs, .slice (some ⟨nb, 0, none⟩) ns ns, .slice (some ⟨ob, 0, none⟩) ws ws] 128, pt ob ((vals os)) 43, own 3 1 (.slice av Y.length cap) Y.length (Y.map (Value.int .i64))]) [pt p #[.pointer (some ⟨q, 0, none⟩), .int .i64 wr, .bool true, .int .i64 sl, .int .i64 ph, .int .i64 tp, .int .i64 nx] 131, pt q #[.pointer (some ⟨m, 0, none⟩), .int .i64 bs, .slice (some ⟨nb, 0, none⟩) ns ns, .slice (some ⟨ob, 0, none⟩) ws ws] 128, pt ob ((vals os)) 43, own 3 1 (.slice av Y.length cap) Y.length (Y.map (Value.int .i64))] w) :
    Calls Try.prog 85 #[.pointer (some ⟨p, 0, none⟩)] w fun e w' => e = .returned (.bool false) ∧ Mem w (feet [pt p #[.pointer (some ⟨q, 0, none⟩), .int .i64 wr, .bool true, .int .i64 sl, .int .i64 ph, .int .i64 tp, .int .i64 nx] 131, pt q #[.pointer (some ⟨m, 0, none⟩), .int .i64 bs, .slice (some ⟨nb, 0, none⟩) ns ns, .slice (some ⟨ob, 0, none⟩) ws ws] 128, pt ob ((vals os)) 43, own 3 1 (.slice av Y.length cap) Y.length (Y.map (Value.int .i64))]) [pt p #[.pointer (some ⟨q, 0, none⟩), .int .i64 wr, .bool true, .int .i64 sl, .int .i64 ph, .int .i64 tp, .int .i64 nx] 131, pt q #[.pointer (some ⟨m, 0, none⟩), .int .i64 bs, .slice (some ⟨nb, 0, none⟩) ns ns, .slice (some ⟨ob, 0, none⟩) ws ws] 128, pt ob ((vals os)) 43, own 3 1 (.slice av Y.length cap) Y.length (Y.map (Value.int .i64))] w' := by
  have hM0 : True := trivial  -- have hM
  refine Calls.of_ends (vs := [.pointer (some ⟨p, 0, none⟩)]) Try.func85 rfl Try.ntmps85 rfl ?_
  intro a hA
  replace hA : St 74 [(0, _)] a := hA
  refine Ends.seq ?_
  refine Ends.region ?_
  refine S.val hA (R.assign rfl) rfl ?_; clear hA a; intro a hA
  refine S.done ?_
  replace hA : St 74 [(0, _), (2, _)] a := hA.sub ((.cons rfl (.cons rfl .nil)))
  refine Ends.seq ?_
  refine Ends.drawn (Mem w (feet [pt p #[.pointer (some ⟨q, 0, none⟩), .int .i64 wr, .bool true, .int .i64 sl, .int .i64 ph, .int .i64 tp, .int .i64 nx] 131, pt q #[.pointer (some ⟨m, 0, none⟩), .int .i64 bs, .slice (some ⟨nb, 0, none⟩) ns ns, .slice (some ⟨ob, 0, none⟩) ws ws] 128, pt ob ((vals os)) 43, own 3 1 (.slice av Y.length cap) Y.length (Y.map (Value.int .i64))]) [pt p #[.pointer (some ⟨q, 0, none⟩), .int .i64 wr, .bool true, .int .i64 sl, .int .i64 ph, .int .i64 tp, .int .i64 nx] 131, pt q #[.pointer (some ⟨m, 0, none⟩), .int .i64 bs, .slice (some ⟨nb, 0, none⟩) ns ns, .slice (some ⟨ob, 0, none⟩) ws ws] 128, pt ob ((vals os)) 43, own 3 1 (.slice av Y.length cap) Y.length (Y.map (Value.int .i64))]) (.cons (0, true) (.cons (1, true) (.cons (2, true) (.cons (3, true) (.cons (4, true) (.cons (5, true) (.cons (6, true) (.cons (7, true) (.cons (8, true) (.cons (9, true) (.cons (10, true) (.cons (11, true) (.cons (12, true) .nil))))))))))))) 13 mixed (by kernel_rfl) (by kernel_rfl) (by kernel_rfl) hM.drew ?_
  replace hM := hM.drew
  refine D.valF hA rfl (fun _ => R.move rfl) rfl ?_; clear hA a; intro a hA
  refine D.valF hA rfl (fun _ => R.nilCheck rfl) rfl ?_; clear hA a; intro a hA
  refine D.valF hA rfl (fun _ => R.fieldAddr (q := 0) fi131_0 rfl rfl rfl) rfl ?_; clear hA a; intro a hA
  refine D.val hA rfl (by kernel_rfl) (fun _ hM => R.load sz72 rfl (hM.cell (k := 0) rfl rfl)) rfl ?_; clear hA a; intro a hA
  refine D.valF hA rfl (fun _ => R.nilCheck rfl) rfl ?_; clear hA a; intro a hA
  refine D.valF hA rfl (fun _ => R.fieldAddr (q := 3) fi128_3 rfl rfl rfl) rfl ?_; clear hA a; intro a hA
  refine D.val hA rfl (by kernel_rfl) (fun _ hM => R.load sz95 rfl (hM.cell (k := 1) rfl rfl)) rfl ?_; clear hA a; intro a hA
  refine D.valF hA rfl (fun _ => R.move rfl) rfl ?_; clear hA a; intro a hA
  refine D.valF hA rfl (fun _ => R.nilCheck rfl) rfl ?_; clear hA a; intro a hA
  refine D.valF hA rfl (fun _ => R.fieldAddr (q := 1) fi131_1 rfl rfl rfl) rfl ?_; clear hA a; intro a hA
  refine D.val hA rfl (by kernel_rfl) (fun _ hM => R.load sz3 rfl (hM.cell (k := 0) rfl rfl)) rfl ?_; clear hA a; intro a hA
  refine D.valF hA rfl (fun _ => R.indexAddr (q := wr.toNat) sl95 rfl rfl (by omega) (by omega)) rfl ?_; clear hA a; intro a hA
  refine D.valF hA rfl (fun _ => R.assign rfl) rfl ?_; clear hA a; intro a hA
  refine D.done ?_
  replace hA : St 74 [(0, _), (2, _), (3, _)] a := hA.sub ((.cons rfl (.cons rfl (.cons rfl .nil))))
  refine Ends.seq ?_
  refine Ends.block ?_
  refine Ends.seq ?_
  refine Ends.region ?_
  refine S.val hA (R.move rfl) rfl ?_; clear hA a; intro a hA
  refine S.val hA (R.nilCheck rfl) rfl ?_; clear hA a; intro a hA
  refine S.val hA (R.fieldAddr (q := 2) fi131_2 rfl rfl rfl) rfl ?_; clear hA a; intro a hA
  refine S.val hA (R.load sz4 rfl (hM.cell (k := 0) rfl rfl)) rfl ?_; clear hA a; intro a hA
  refine S.val hA (R.move rfl) rfl ?_; clear hA a; intro a hA
  refine S.valg (dj := 22) hA (by kernel_rfl) rfl (R.move rfl) rfl ?_; clear hA a; intro a hA
  refine S.valg (dj := 22) hA (by kernel_rfl) rfl (R.nilCheck rfl) rfl ?_; clear hA a; intro a hA
  refine S.valg (dj := 22) hA (by kernel_rfl) rfl (R.load sz43 rfl (hM.cell (k := 2) rfl (vals_at os _ _ hos))) rfl ?_; clear hA a; intro a hA
  refine S.valg (dj := 22) hA (by kernel_rfl) rfl (R.lenS Try.underlying43 rfl rfl) rfl ?_; clear hA a; intro a hA
  refine S.valg (dj := 22) hA (by kernel_rfl) rfl (R.ff (R.lss rfl rfl) (by omega)) rfl ?_; clear hA a; intro a hA
  refine S.val hA (R.pickT rfl rfl) rfl ?_; clear hA a; intro a hA
  refine S.val hA (R.assign rfl) rfl ?_; clear hA a; intro a hA
  refine S.done ?_
  replace hA : St 74 [(0, _), (2, _), (3, _), (17, _)] a := hA.sub ((.cons rfl (.cons rfl (.cons rfl (.cons rfl .nil)))))
  refine Ends.condF hA rfl ?_
  refine Ends.seq ?_
  refine Ends.region ?_
  refine S.val hA (R.move rfl) rfl ?_; clear hA a; intro a hA
  refine S.val hA (R.nilCheck rfl) rfl ?_; clear hA a; intro a hA
  refine S.val hA (R.fieldAddr (q := 2) fi131_2 rfl rfl rfl) rfl ?_; clear hA a; intro a hA
  refine S.val hA (R.load sz4 rfl (hM.cell (k := 0) rfl rfl)) rfl ?_; clear hA a; intro a hA
  refine S.val hA (R.not rfl) rfl ?_; clear hA a; intro a hA
  refine S.val hA (R.move rfl) rfl ?_; clear hA a; intro a hA
  refine S.no (dj := 46) hA (by kernel_rfl) rfl rfl rfl ?_; clear hA a; intro a hA
  refine S.no (dj := 46) hA (by kernel_rfl) rfl rfl rfl ?_; clear hA a; intro a hA
  refine S.no (dj := 46) hA (by kernel_rfl) rfl rfl rfl ?_; clear hA a; intro a hA
  refine S.no (dj := 46) hA (by kernel_rfl) rfl rfl rfl ?_; clear hA a; intro a hA
  refine S.no (dj := 46) hA (by kernel_rfl) rfl rfl rfl ?_; clear hA a; intro a hA
  refine S.val hA (R.pickF rfl rfl) rfl ?_; clear hA a; intro a hA
  refine S.val hA (R.assign rfl) rfl ?_; clear hA a; intro a hA
  refine S.done ?_
  replace hA : St 74 [(0, _), (2, _), (3, _), (40, _)] a := hA.sub ((.cons rfl (.cons rfl (.cons rfl (.cons rfl .nil)))))
  refine Ends.condF hA rfl ?_
  refine Ends.seq ?_
  refine Ends.region ?_
  refine S.val hA (R.assign rfl) rfl ?_; clear hA a; intro a hA
  refine S.done ?_
  replace hA : St 74 [(2, _)] a := hA.sub ((.cons rfl .nil))
  refine Ends.ret1 Try.func85 Try.results85 hA rfl ?_
  exact ⟨rfl, hM.firstN 4⟩
set_option maxRecDepth 100000 in
set_option maxHeartbeats 400000 in
theorem ppriv_none (p q m nb ns ob ws : Nat) (bs wr : Int) (os : List Value) (av : Option Addr) (Y : List Int) (cap : Nat) (hwr : 0 ≤ wr ∧ wr < ws) (hlen : os.length = ws) (hos : os[wr.toNat]? = some (.slice av Y.length cap)) (hY2 : Y.length ≤ 2) (sl ph tp nx : Int) (hY : Y.length = 0) (w : World) (hM : Mem w (feet [pt p #[.pointer (some ⟨q, 0, none⟩), .int .i64 wr, .bool false, .int .i64 sl, .int .i64 ph, .int .i64 tp, .int .i64 nx] 131, pt q #[.pointer (some ⟨m, 0, none⟩), .int .i64 bs, .slice (some ⟨nb, 0, none⟩) ns ns, .slice (some ⟨ob, 0, none⟩) ws ws] 128, pt ob ((vals os)) 43, own 3 1 (.slice av Y.length cap) Y.length (Y.map (Value.int .i64))]) [pt p #[.pointer (some ⟨q, 0, none⟩), .int .i64 wr, .bool false, .int .i64 sl, .int .i64 ph, .int .i64 tp, .int .i64 nx] 131, pt q #[.pointer (some ⟨m, 0, none⟩), .int .i64 bs, .slice (some ⟨nb, 0, none⟩) ns ns, .slice (some ⟨ob, 0, none⟩) ws ws] 128, pt ob ((vals os)) 43, own 3 1 (.slice av Y.length cap) Y.length (Y.map (Value.int .i64))] w) :
    Calls Try.prog 85 #[.pointer (some ⟨p, 0, none⟩)] w fun e w' => e = .returned (.bool false) ∧ Mem w (feet [pt p #[.pointer (some ⟨q, 0, none⟩), .int .i64 wr, .bool false, .int .i64 sl, .int .i64 ph, .int .i64 tp, .int .i64 nx] 131, pt q #[.pointer (some ⟨m, 0, none⟩), .int .i64 bs, .slice (some ⟨nb, 0, none⟩) ns ns, .slice (some ⟨ob, 0, none⟩) ws ws] 128, pt ob ((vals os)) 43, own 3 1 (.slice av Y.length cap) Y.length (Y.map (Value.int .i64))]) [pt p #[.pointer (some ⟨q, 0, none⟩), .int .i64 wr, .bool false, .int .i64 sl, .int .i64 ph, .int .i64 tp, .int .i64 nx] 131, pt q #[.pointer (some ⟨m, 0, none⟩), .int .i64 bs, .slice (some ⟨nb, 0, none⟩) ns ns, .slice (some ⟨ob, 0, none⟩) ws ws] 128, pt ob ((vals os)) 43, own 3 1 (.slice av Y.length cap) Y.length (Y.map (Value.int .i64))] w' := by
  have hM0 : True := trivial  -- have hM
  refine Calls.of_ends (vs := [.pointer (some ⟨p, 0, none⟩)]) Try.func85 rfl Try.ntmps85 rfl ?_
  intro a hA
  replace hA : St 74 [(0, _)] a := hA
  refine Ends.seq ?_
  refine Ends.region ?_
  refine S.val hA (R.assign rfl) rfl ?_; clear hA a; intro a hA
  refine S.done ?_
  replace hA : St 74 [(0, _), (2, _)] a := hA.sub ((.cons rfl (.cons rfl .nil)))
  refine Ends.seq ?_
  refine Ends.drawn (Mem w (feet [pt p #[.pointer (some ⟨q, 0, none⟩), .int .i64 wr, .bool false, .int .i64 sl, .int .i64 ph, .int .i64 tp, .int .i64 nx] 131, pt q #[.pointer (some ⟨m, 0, none⟩), .int .i64 bs, .slice (some ⟨nb, 0, none⟩) ns ns, .slice (some ⟨ob, 0, none⟩) ws ws] 128, pt ob ((vals os)) 43, own 3 1 (.slice av Y.length cap) Y.length (Y.map (Value.int .i64))]) [pt p #[.pointer (some ⟨q, 0, none⟩), .int .i64 wr, .bool false, .int .i64 sl, .int .i64 ph, .int .i64 tp, .int .i64 nx] 131, pt q #[.pointer (some ⟨m, 0, none⟩), .int .i64 bs, .slice (some ⟨nb, 0, none⟩) ns ns, .slice (some ⟨ob, 0, none⟩) ws ws] 128, pt ob ((vals os)) 43, own 3 1 (.slice av Y.length cap) Y.length (Y.map (Value.int .i64))]) (.cons (0, true) (.cons (1, true) (.cons (2, true) (.cons (3, true) (.cons (4, true) (.cons (5, true) (.cons (6, true) (.cons (7, true) (.cons (8, true) (.cons (9, true) (.cons (10, true) (.cons (11, true) (.cons (12, true) .nil))))))))))))) 13 mixed (by kernel_rfl) (by kernel_rfl) (by kernel_rfl) hM.drew ?_
  replace hM := hM.drew
  refine D.valF hA rfl (fun _ => R.move rfl) rfl ?_; clear hA a; intro a hA
  refine D.valF hA rfl (fun _ => R.nilCheck rfl) rfl ?_; clear hA a; intro a hA
  refine D.valF hA rfl (fun _ => R.fieldAddr (q := 0) fi131_0 rfl rfl rfl) rfl ?_; clear hA a; intro a hA
  refine D.val hA rfl (by kernel_rfl) (fun _ hM => R.load sz72 rfl (hM.cell (k := 0) rfl rfl)) rfl ?_; clear hA a; intro a hA
  refine D.valF hA rfl (fun _ => R.nilCheck rfl) rfl ?_; clear hA a; intro a hA
  refine D.valF hA rfl (fun _ => R.fieldAddr (q := 3) fi128_3 rfl rfl rfl) rfl ?_; clear hA a; intro a hA
  refine D.val hA rfl (by kernel_rfl) (fun _ hM => R.load sz95 rfl (hM.cell (k := 1) rfl rfl)) rfl ?_; clear hA a; intro a hA
  refine D.valF hA rfl (fun _ => R.move rfl) rfl ?_; clear hA a; intro a hA
  refine D.valF hA rfl (fun _ => R.nilCheck rfl) rfl ?_; clear hA a; intro a hA
  refine D.valF hA rfl (fun _ => R.fieldAddr (q := 1) fi131_1 rfl rfl rfl) rfl ?_; clear hA a; intro a hA
  refine D.val hA rfl (by kernel_rfl) (fun _ hM => R.load sz3 rfl (hM.cell (k := 0) rfl rfl)) rfl ?_; clear hA a; intro a hA
  refine D.valF hA rfl (fun _ => R.indexAddr (q := wr.toNat) sl95 rfl rfl (by omega) (by omega)) rfl ?_; clear hA a; intro a hA
  refine D.valF hA rfl (fun _ => R.assign rfl) rfl ?_; clear hA a; intro a hA
  refine D.done ?_
  replace hA : St 74 [(0, _), (2, _), (3, _)] a := hA.sub ((.cons rfl (.cons rfl (.cons rfl .nil))))
  refine Ends.seq ?_
  refine Ends.block ?_
  refine Ends.seq ?_
  refine Ends.region ?_
  refine S.val hA (R.move rfl) rfl ?_; clear hA a; intro a hA
  refine S.val hA (R.nilCheck rfl) rfl ?_; clear hA a; intro a hA
  refine S.val hA (R.fieldAddr (q := 2) fi131_2 rfl rfl rfl) rfl ?_; clear hA a; intro a hA
  refine S.val hA (R.load sz4 rfl (hM.cell (k := 0) rfl rfl)) rfl ?_; clear hA a; intro a hA
  refine S.val hA (R.move rfl) rfl ?_; clear hA a; intro a hA
  refine S.no (dj := 22) hA (by kernel_rfl) rfl rfl rfl ?_; clear hA a; intro a hA
  refine S.no (dj := 22) hA (by kernel_rfl) rfl rfl rfl ?_; clear hA a; intro a hA
  refine S.no (dj := 22) hA (by kernel_rfl) rfl rfl rfl ?_; clear hA a; intro a hA
  refine S.no (dj := 22) hA (by kernel_rfl) rfl rfl rfl ?_; clear hA a; intro a hA
  refine S.no (dj := 22) hA (by kernel_rfl) rfl rfl rfl ?_; clear hA a; intro a hA
  refine S.val hA (R.pickF rfl rfl) rfl ?_; clear hA a; intro a hA
  refine S.val hA (R.assign rfl) rfl ?_; clear hA a; intro a hA
  refine S.done ?_
  replace hA : St 74 [(0, _), (2, _), (3, _), (17, _)] a := hA.sub ((.cons rfl (.cons rfl (.cons rfl (.cons rfl .nil)))))
  refine Ends.condF hA rfl ?_
  refine Ends.seq ?_
  refine Ends.region ?_
  refine S.val hA (R.move rfl) rfl ?_; clear hA a; intro a hA
  refine S.val hA (R.nilCheck rfl) rfl ?_; clear hA a; intro a hA
  refine S.val hA (R.fieldAddr (q := 2) fi131_2 rfl rfl rfl) rfl ?_; clear hA a; intro a hA
  refine S.val hA (R.load sz4 rfl (hM.cell (k := 0) rfl rfl)) rfl ?_; clear hA a; intro a hA
  refine S.val hA (R.not rfl) rfl ?_; clear hA a; intro a hA
  refine S.val hA (R.move rfl) rfl ?_; clear hA a; intro a hA
  refine S.valg (dj := 46) hA (by kernel_rfl) rfl (R.move rfl) rfl ?_; clear hA a; intro a hA
  refine S.valg (dj := 46) hA (by kernel_rfl) rfl (R.nilCheck rfl) rfl ?_; clear hA a; intro a hA
  refine S.valg (dj := 46) hA (by kernel_rfl) rfl (R.load sz43 rfl (hM.cell (k := 2) rfl (vals_at os _ _ hos))) rfl ?_; clear hA a; intro a hA
  refine S.valg (dj := 46) hA (by kernel_rfl) rfl (R.lenS Try.underlying43 rfl rfl) rfl ?_; clear hA a; intro a hA
  refine S.valg (dj := 46) hA (by kernel_rfl) rfl (R.ff (R.gtr rfl rfl) (by omega)) rfl ?_; clear hA a; intro a hA
  refine S.val hA (R.pickT rfl rfl) rfl ?_; clear hA a; intro a hA
  refine S.val hA (R.assign rfl) rfl ?_; clear hA a; intro a hA
  refine S.done ?_
  replace hA : St 74 [(0, _), (2, _), (3, _), (40, _)] a := hA.sub ((.cons rfl (.cons rfl (.cons rfl (.cons rfl .nil)))))
  refine Ends.condF hA rfl ?_
  refine Ends.seq ?_
  refine Ends.region ?_
  refine S.val hA (R.assign rfl) rfl ?_; clear hA a; intro a hA
  refine S.done ?_
  replace hA : St 74 [(2, _)] a := hA.sub ((.cons rfl .nil))
  refine Ends.ret1 Try.func85 Try.results85 hA rfl ?_
  exact ⟨rfl, hM.firstN 4⟩
set_option maxRecDepth 100000 in
set_option maxHeartbeats 400000 in
theorem pf_keep (p q m nb ns ob ws : Nat) (bs wr : Int) (os : List Value) (av : Option Addr) (Y : List Int) (cap : Nat) (hwr : 0 ≤ wr ∧ wr < ws) (hlen : os.length = ws) (hos : os[wr.toNat]? = some (.slice av Y.length cap)) (hY2 : Y.length ≤ 2) (c : Nat) (l : List Int) (s : Int) (o : CellOp) (hmc : m ≠ c) (hl : 0 ≤ bs ∧ bs + 1 ≤ l.length ∧ l.length ≤ 1000000) (hs : 0 ≤ s ∧ s < 9223372036854775806) (sl tp nx : Int) (hY : Y.length < 2) (w : World) (hM : Mem w (feet [pt p #[.pointer (some ⟨q, 0, none⟩), .int .i64 wr, .bool true, .int .i64 sl, .int .i64 0, .int .i64 tp, .int .i64 nx] 131, pt q #[.pointer (some ⟨m, 0, none⟩), .int .i64 bs, .slice (some ⟨nb, 0, none⟩) ns ns, .slice (some ⟨ob, 0, none⟩) ws ws] 128, pt ob ((vals os)) 43, own 3 1 (.slice av Y.length cap) Y.length (Y.map (Value.int .i64)), memO m c l s o]) [pt p #[.pointer (some ⟨q, 0, none⟩), .int .i64 wr, .bool true, .int .i64 sl, .int .i64 0, .int .i64 tp, .int .i64 nx] 131, pt q #[.pointer (some ⟨m, 0, none⟩), .int .i64 bs, .slice (some ⟨nb, 0, none⟩) ns ns, .slice (some ⟨ob, 0, none⟩) ws ws] 128, pt ob ((vals os)) 43, own 3 1 (.slice av Y.length cap) Y.length (Y.map (Value.int .i64)), memO m c l s o] w) :
    Calls Try.prog 78 #[.pointer (some ⟨p, 0, none⟩)] w fun e w' => ∃ a2 c2, e = .returned (.tuple #[]) ∧ Mem w (feet [pt p #[.pointer (some ⟨q, 0, none⟩), .int .i64 wr, .bool true, .int .i64 sl, .int .i64 0, .int .i64 tp, .int .i64 nx] 131, pt q #[.pointer (some ⟨m, 0, none⟩), .int .i64 bs, .slice (some ⟨nb, 0, none⟩) ns ns, .slice (some ⟨ob, 0, none⟩) ws ws] 128, pt ob ((vals os)) 43, own 3 1 (.slice av Y.length cap) Y.length (Y.map (Value.int .i64)), memO m c l s o]) [pt p #[.pointer (some ⟨q, 0, none⟩), .int .i64 wr, .bool true, .int .i64 sl, .int .i64 3, .int .i64 tp, .int .i64 nx] 131, pt q #[.pointer (some ⟨m, 0, none⟩), .int .i64 bs, .slice (some ⟨nb, 0, none⟩) ns ns, .slice (some ⟨ob, 0, none⟩) ws ws] 128, pt ob ((vals (os.set wr.toNat (.slice a2 (Y ++ [sl]).length c2)))) 43, own 3 1 (.slice a2 (((Y ++ [sl])).length) c2) (((Y ++ [sl])).length) (((Y ++ [sl])).map (Value.int .i64)), memO m c l s o] w' := by
  have hM0 : True := trivial  -- have hM
  refine Calls.of_ends (vs := [.pointer (some ⟨p, 0, none⟩)]) Try.func78 rfl Try.ntmps78 rfl ?_
  intro a hA
  replace hA : St 53 [(0, _)] a := hA
  refine Ends.seq ?_
  refine Ends.seq ?_
  refine Ends.region ?_
  refine S.val hA (R.move rfl) rfl ?_; clear hA a; intro a hA
  refine S.call hA (R.callF Try.func85 rfl rfl rfl) rfl (ppriv_keep p q m nb ns ob ws bs wr os av Y cap hwr hlen hos hY2 sl 0 tp nx hY _ (hM.hereN 4)) ?_; clear hA a
  rintro e w1 ⟨a1, c2, rfl, hn⟩
  replace hM : Mem _ _ [pt p #[.pointer (some ⟨q, 0, none⟩), .int .i64 wr, .bool true, .int .i64 sl, .int .i64 0, .int .i64 tp, .int .i64 nx] 131, pt q #[.pointer (some ⟨m, 0, none⟩), .int .i64 bs, .slice (some ⟨nb, 0, none⟩) ns ns, .slice (some ⟨ob, 0, none⟩) ws ws] 128, pt ob ((vals (os.set wr.toNat (.slice a1 (Y ++ [sl]).length c2)))) 43, own 3 1 (.slice a1 (((Y ++ [sl])).length) c2) (((Y ++ [sl])).length) (((Y ++ [sl])).map (Value.int .i64)), memO m c l s o] _ := hM.callL 4 hn; clear hn
  refine ⟨.bool true, rfl, fun a hA => ?_⟩
  refine S.done ?_
  replace hA : St 53 [(0, _), (5, _)] a := hA.sub ((.cons rfl (.cons rfl .nil)))
  refine Ends.condT hA rfl ?_
  refine Ends.seq ?_
  refine Ends.region ?_
  refine S.val hA (R.move rfl) rfl ?_; clear hA a; intro a hA
  refine S.val hA (R.nilCheck rfl) rfl ?_; clear hA a; intro a hA
  refine S.val hA (R.fieldAddr (q := 4) fi131_4 rfl rfl rfl) rfl ?_; clear hA a; intro a hA
  refine S.store (k := 0) hA hM sz129 rfl rfl rfl rfl rfl ?_; clear hM
  intro w2 hM
  replace hM : Mem _ _ [pt p #[.pointer (some ⟨q, 0, none⟩), .int .i64 wr, .bool true, .int .i64 sl, .int .i64 3, .int .i64 tp, .int .i64 nx] 131, pt q #[.pointer (some ⟨m, 0, none⟩), .int .i64 bs, .slice (some ⟨nb, 0, none⟩) ns ns, .slice (some ⟨ob, 0, none⟩) ws ws] 128, pt ob ((vals (os.set wr.toNat (.slice a1 (Y ++ [sl]).length c2)))) 43, own 3 1 (.slice a1 (((Y ++ [sl])).length) c2) (((Y ++ [sl])).length) (((Y ++ [sl])).map (Value.int .i64)), memO m c l s o] _ := hM
  refine S.done ?_
  replace hA : St 53 [(0, _)] a := hA.sub ((.cons rfl .nil))
  refine Ends.ret0 Try.func78 Try.results78 hA ?_
  exact ⟨_, _, rfl, hM.firstN 5⟩
set_option maxRecDepth 100000 in
set_option maxHeartbeats 400000 in
theorem Spf_keep (p q m nb ns ob ws : Nat) (bs wr : Int) (os : List Value) (av : Option Addr) (Y : List Int) (cap : Nat) (hwr : 0 ≤ wr ∧ wr < ws) (hlen : os.length = ws) (hos : os[wr.toNat]? = some (.slice av Y.length cap)) (hY2 : Y.length ≤ 2) (c : Nat) (l : List Int) (s : Int) (o : CellOp) (hmc : m ≠ c) (hl : 0 ≤ bs ∧ bs + 1 ≤ l.length ∧ l.length ≤ 1000000) (hs : 0 ≤ s ∧ s < 9223372036854775806) (sl tp nx : Int) (hY : Y.length < 2) (w : World) (hM : Mem w (feet [pt p #[.pointer (some ⟨q, 0, none⟩), .int .i64 wr, .bool true, .int .i64 sl, .int .i64 0, .int .i64 tp, .int .i64 nx] 131, pt q #[.pointer (some ⟨m, 0, none⟩), .int .i64 bs, .slice (some ⟨nb, 0, none⟩) ns ns, .slice (some ⟨ob, 0, none⟩) ws ws] 128, pt ob ((vals os)) 43, own 3 1 (.slice av Y.length cap) Y.length (Y.map (Value.int .i64)), memO m c l s o]) [pt p #[.pointer (some ⟨q, 0, none⟩), .int .i64 wr, .bool true, .int .i64 sl, .int .i64 0, .int .i64 tp, .int .i64 nx] 131, pt q #[.pointer (some ⟨m, 0, none⟩), .int .i64 bs, .slice (some ⟨nb, 0, none⟩) ns ns, .slice (some ⟨ob, 0, none⟩) ws ws] 128, pt ob ((vals os)) 43, own 3 1 (.slice av Y.length cap) Y.length (Y.map (Value.int .i64)), memO m c l s o] w) :
    Calls Try.prog 55 #[.pointer (some ⟨p, 0, none⟩)] w fun e w' => ∃ a2 c2, e = .returned (.bool true) ∧ Mem w (feet [pt p #[.pointer (some ⟨q, 0, none⟩), .int .i64 wr, .bool true, .int .i64 sl, .int .i64 0, .int .i64 tp, .int .i64 nx] 131, pt q #[.pointer (some ⟨m, 0, none⟩), .int .i64 bs, .slice (some ⟨nb, 0, none⟩) ns ns, .slice (some ⟨ob, 0, none⟩) ws ws] 128, pt ob ((vals os)) 43, own 3 1 (.slice av Y.length cap) Y.length (Y.map (Value.int .i64)), memO m c l s o]) [pt p #[.pointer (some ⟨q, 0, none⟩), .int .i64 wr, .bool true, .int .i64 sl, .int .i64 3, .int .i64 tp, .int .i64 nx] 131, pt q #[.pointer (some ⟨m, 0, none⟩), .int .i64 bs, .slice (some ⟨nb, 0, none⟩) ns ns, .slice (some ⟨ob, 0, none⟩) ws ws] 128, pt ob ((vals (os.set wr.toNat (.slice a2 (Y ++ [sl]).length c2)))) 43, own 3 1 (.slice a2 (((Y ++ [sl])).length) c2) (((Y ++ [sl])).length) (((Y ++ [sl])).map (Value.int .i64)), memO m c l s o] w' := by
  have hM0 : True := trivial  -- have hM
  refine Calls.of_ends (vs := [.pointer (some ⟨p, 0, none⟩)]) Try.func55 rfl Try.ntmps55 rfl ?_
  intro a hA
  replace hA : St 26 [(0, _)] a := hA
  refine Ends.seq ?_
  refine Ends.region ?_
  refine S.val hA (R.assign rfl) rfl ?_; clear hA a; intro a hA
  refine S.done ?_
  replace hA : St 26 [(0, _), (2, _)] a := hA.sub ((.cons rfl (.cons rfl .nil)))
  refine Ends.seq ?_
  refine Ends.seq ?_
  refine Ends.region ?_
  refine S.val hA (R.move rfl) rfl ?_; clear hA a; intro a hA
  refine S.val hA (R.eqlNil Try.underlying83 rfl rfl) rfl ?_; clear hA a; intro a hA
  refine S.done ?_
  replace hA : St 26 [(0, _), (2, _), (4, _)] a := hA.sub ((.cons rfl (.cons rfl (.cons rfl .nil))))
  refine Ends.condF hA rfl ?_
  refine Ends.skip ?_
  refine Ends.seq ?_
  refine Ends.seq ?_
  refine Ends.region ?_
  refine S.val hA (R.move rfl) rfl ?_; clear hA a; intro a hA
  refine S.val hA (R.nilCheck rfl) rfl ?_; clear hA a; intro a hA
  refine S.val hA (R.fieldAddr (q := 4) fi131_4 rfl rfl rfl) rfl ?_; clear hA a; intro a hA
  refine S.val hA (R.load sz129 rfl (hM.cell (k := 0) rfl rfl)) rfl ?_; clear hA a; intro a hA
  refine S.done ?_
  replace hA : St 26 [(0, _), (2, _), (8, _)] a := hA.sub ((.cons rfl (.cons rfl (.cons rfl .nil))))
  refine Ends.block ?_
  refine Ends.seq ?_
  refine Ends.region ?_
  refine S.val hA (R.tt (R.eql rfl rfl) (by first | decide | simp | omega)) rfl ?_; clear hA a; intro a hA
  refine S.val hA (R.assign rfl) rfl ?_; clear hA a; intro a hA
  refine S.done ?_
  replace hA : St 26 [(0, _), (2, _), (8, _), (9, _)] a := hA.sub ((.cons rfl (.cons rfl (.cons rfl (.cons rfl .nil)))))
  refine Ends.condT hA rfl ?_
  refine Ends.region ?_
  refine S.val hA (R.move rfl) rfl ?_; clear hA a; intro a hA
  refine S.call hA (R.callF Try.func78 rfl rfl rfl) rfl (pf_keep p q m nb ns ob ws bs wr os av Y cap hwr hlen hos hY2 c l s o hmc hl hs sl tp nx hY _ (hM.hereN 5)) ?_; clear hA a
  rintro e w1 ⟨a2, c2, rfl, hn⟩
  replace hM : Mem _ _ [pt p #[.pointer (some ⟨q, 0, none⟩), .int .i64 wr, .bool true, .int .i64 sl, .int .i64 3, .int .i64 tp, .int .i64 nx] 131, pt q #[.pointer (some ⟨m, 0, none⟩), .int .i64 bs, .slice (some ⟨nb, 0, none⟩) ns ns, .slice (some ⟨ob, 0, none⟩) ws ws] 128, pt ob ((vals (os.set wr.toNat (.slice a2 (Y ++ [sl]).length c2)))) 43, own 3 1 (.slice a2 (((Y ++ [sl])).length) c2) (((Y ++ [sl])).length) (((Y ++ [sl])).map (Value.int .i64)), memO m c l s o] _ := hM.callL 5 hn; clear hn
  refine ⟨.tuple #[], rfl, fun a hA => ?_⟩
  refine S.done ?_
  replace hA : St 26 [(0, _), (2, _)] a := hA.sub ((.cons rfl (.cons rfl .nil)))
  refine Ends.inBlock ?_
  refine Ends.seq ?_
  refine Ends.region ?_
  refine S.val hA (R.move rfl) rfl ?_; clear hA a; intro a hA
  refine S.val hA (R.nilCheck rfl) rfl ?_; clear hA a; intro a hA
  refine S.val hA (R.fieldAddr (q := 4) fi131_4 rfl rfl rfl) rfl ?_; clear hA a; intro a hA
  refine S.val hA (R.load sz129 rfl (hM.cell (k := 0) rfl rfl)) rfl ?_; clear hA a; intro a hA
  refine S.val hA (R.tt (R.eql rfl rfl) (by first | decide | simp | omega)) rfl ?_; clear hA a; intro a hA
  refine S.val hA (R.assign rfl) rfl ?_; clear hA a; intro a hA
  refine S.done ?_
  replace hA : St 26 [(2, _)] a := hA.sub ((.cons rfl .nil))
  refine Ends.ret1 Try.func55 Try.results55 hA rfl ?_
  exact ⟨_, _, rfl, hM.firstN 5⟩
set_option maxRecDepth 100000 in
set_option maxHeartbeats 400000 in
theorem pf_own (p q m nb ns ob ws : Nat) (bs wr : Int) (os : List Value) (av : Option Addr) (Y : List Int) (cap : Nat) (hwr : 0 ≤ wr ∧ wr < ws) (hlen : os.length = ws) (hos : os[wr.toNat]? = some (.slice av Y.length cap)) (hY2 : Y.length ≤ 2) (c : Nat) (l : List Int) (s : Int) (o : CellOp) (hmc : m ≠ c) (hl : 0 ≤ bs ∧ bs + 1 ≤ l.length ∧ l.length ≤ 1000000) (hs : 0 ≤ s ∧ s < 9223372036854775806) (sl tp nx : Int) (hY : 0 < Y.length) (w : World) (hM : Mem w (feet [pt p #[.pointer (some ⟨q, 0, none⟩), .int .i64 wr, .bool false, .int .i64 sl, .int .i64 0, .int .i64 tp, .int .i64 nx] 131, pt q #[.pointer (some ⟨m, 0, none⟩), .int .i64 bs, .slice (some ⟨nb, 0, none⟩) ns ns, .slice (some ⟨ob, 0, none⟩) ws ws] 128, pt ob ((vals os)) 43, own 3 1 (.slice av Y.length cap) Y.length (Y.map (Value.int .i64)), memO m c l s o]) [pt p #[.pointer (some ⟨q, 0, none⟩), .int .i64 wr, .bool false, .int .i64 sl, .int .i64 0, .int .i64 tp, .int .i64 nx] 131, pt q #[.pointer (some ⟨m, 0, none⟩), .int .i64 bs, .slice (some ⟨nb, 0, none⟩) ns ns, .slice (some ⟨ob, 0, none⟩) ws ws] 128, pt ob ((vals os)) 43, own 3 1 (.slice av Y.length cap) Y.length (Y.map (Value.int .i64)), memO m c l s o] w) :
    Calls Try.prog 78 #[.pointer (some ⟨p, 0, none⟩)] w fun e w' => e = .returned (.tuple #[]) ∧ Mem w (feet [pt p #[.pointer (some ⟨q, 0, none⟩), .int .i64 wr, .bool false, .int .i64 sl, .int .i64 0, .int .i64 tp, .int .i64 nx] 131, pt q #[.pointer (some ⟨m, 0, none⟩), .int .i64 bs, .slice (some ⟨nb, 0, none⟩) ns ns, .slice (some ⟨ob, 0, none⟩) ws ws] 128, pt ob ((vals os)) 43, own 3 1 (.slice av Y.length cap) Y.length (Y.map (Value.int .i64)), memO m c l s o]) [pt p #[.pointer (some ⟨q, 0, none⟩), .int .i64 wr, .bool false, .int .i64 (Y.getD (Y.length - 1) 0), .int .i64 3, .int .i64 tp, .int .i64 nx] 131, pt q #[.pointer (some ⟨m, 0, none⟩), .int .i64 bs, .slice (some ⟨nb, 0, none⟩) ns ns, .slice (some ⟨ob, 0, none⟩) ws ws] 128, pt ob ((vals (os.set wr.toNat (.slice av (Y.take (Y.length - 1)).length cap)))) 43, own 3 1 (.slice av (((Y.take (Y.length - 1))).length) cap) (((Y.take (Y.length - 1))).length) (((Y.take (Y.length - 1))).map (Value.int .i64)), memO m c l s o] w' := by
  have hM0 : True := trivial  -- have hM
  refine Calls.of_ends (vs := [.pointer (some ⟨p, 0, none⟩)]) Try.func78 rfl Try.ntmps78 rfl ?_
  intro a hA
  replace hA : St 53 [(0, _)] a := hA
  refine Ends.seq ?_
  refine Ends.seq ?_
  refine Ends.region ?_
  refine S.val hA (R.move rfl) rfl ?_; clear hA a; intro a hA
  refine S.call hA (R.callF Try.func85 rfl rfl rfl) rfl (ppriv_own p q m nb ns ob ws bs wr os av Y cap hwr hlen hos hY2 sl 0 tp nx hY _ (hM.hereN 4)) ?_; clear hA a
  rintro e w1 ⟨rfl, hn⟩
  replace hM : Mem _ _ [pt p #[.pointer (some ⟨q, 0, none⟩), .int .i64 wr, .bool false, .int .i64 (Y.getD (Y.length - 1) 0), .int .i64 0, .int .i64 tp, .int .i64 nx] 131, pt q #[.pointer (some ⟨m, 0, none⟩), .int .i64 bs, .slice (some ⟨nb, 0, none⟩) ns ns, .slice (some ⟨ob, 0, none⟩) ws ws] 128, pt ob ((vals (os.set wr.toNat (.slice av (Y.take (Y.length - 1)).length cap)))) 43, own 3 1 (.slice av (((Y.take (Y.length - 1))).length) cap) (((Y.take (Y.length - 1))).length) (((Y.take (Y.length - 1))).map (Value.int .i64)), memO m c l s o] _ := hM.callL 4 hn; clear hn
  refine ⟨.bool true, rfl, fun a hA => ?_⟩
  refine S.done ?_
  replace hA : St 53 [(0, _), (5, _)] a := hA.sub ((.cons rfl (.cons rfl .nil)))
  refine Ends.condT hA rfl ?_
  refine Ends.seq ?_
  refine Ends.region ?_
  refine S.val hA (R.move rfl) rfl ?_; clear hA a; intro a hA
  refine S.val hA (R.nilCheck rfl) rfl ?_; clear hA a; intro a hA
  refine S.val hA (R.fieldAddr (q := 4) fi131_4 rfl rfl rfl) rfl ?_; clear hA a; intro a hA
  refine S.store (k := 0) hA hM sz129 rfl rfl rfl rfl rfl ?_; clear hM
  intro w2 hM
  replace hM : Mem _ _ [pt p #[.pointer (some ⟨q, 0, none⟩), .int .i64 wr, .bool false, .int .i64 (Y.getD (Y.length - 1) 0), .int .i64 3, .int .i64 tp, .int .i64 nx] 131, pt q #[.pointer (some ⟨m, 0, none⟩), .int .i64 bs, .slice (some ⟨nb, 0, none⟩) ns ns, .slice (some ⟨ob, 0, none⟩) ws ws] 128, pt ob ((vals (os.set wr.toNat (.slice av (Y.take (Y.length - 1)).length cap)))) 43, own 3 1 (.slice av (((Y.take (Y.length - 1))).length) cap) (((Y.take (Y.length - 1))).length) (((Y.take (Y.length - 1))).map (Value.int .i64)), memO m c l s o] _ := hM
  refine S.done ?_
  replace hA : St 53 [(0, _)] a := hA.sub ((.cons rfl .nil))
  refine Ends.ret0 Try.func78 Try.results78 hA ?_
  exact ⟨rfl, hM.firstN 5⟩
set_option maxRecDepth 100000 in
set_option maxHeartbeats 400000 in
theorem Spf_own (p q m nb ns ob ws : Nat) (bs wr : Int) (os : List Value) (av : Option Addr) (Y : List Int) (cap : Nat) (hwr : 0 ≤ wr ∧ wr < ws) (hlen : os.length = ws) (hos : os[wr.toNat]? = some (.slice av Y.length cap)) (hY2 : Y.length ≤ 2) (c : Nat) (l : List Int) (s : Int) (o : CellOp) (hmc : m ≠ c) (hl : 0 ≤ bs ∧ bs + 1 ≤ l.length ∧ l.length ≤ 1000000) (hs : 0 ≤ s ∧ s < 9223372036854775806) (sl tp nx : Int) (hY : 0 < Y.length) (w : World) (hM : Mem w (feet [pt p #[.pointer (some ⟨q, 0, none⟩), .int .i64 wr, .bool false, .int .i64 sl, .int .i64 0, .int .i64 tp, .int .i64 nx] 131, pt q #[.pointer (some ⟨m, 0, none⟩), .int .i64 bs, .slice (some ⟨nb, 0, none⟩) ns ns, .slice (some ⟨ob, 0, none⟩) ws ws] 128, pt ob ((vals os)) 43, own 3 1 (.slice av Y.length cap) Y.length (Y.map (Value.int .i64)), memO m c l s o]) [pt p #[.pointer (some ⟨q, 0, none⟩), .int .i64 wr, .bool false, .int .i64 sl, .int .i64 0, .int .i64 tp, .int .i64 nx] 131, pt q #[.pointer (some ⟨m, 0, none⟩), .int .i64 bs, .slice (some ⟨nb, 0, none⟩) ns ns, .slice (some ⟨ob, 0, none⟩) ws ws] 128, pt ob ((vals os)) 43, own 3 1 (.slice av Y.length cap) Y.length (Y.map (Value.int .i64)), memO m c l s o] w) :
    Calls Try.prog 55 #[.pointer (some ⟨p, 0, none⟩)] w fun e w' => e = .returned (.bool true) ∧ Mem w (feet [pt p #[.pointer (some ⟨q, 0, none⟩), .int .i64 wr, .bool false, .int .i64 sl, .int .i64 0, .int .i64 tp, .int .i64 nx] 131, pt q #[.pointer (some ⟨m, 0, none⟩), .int .i64 bs, .slice (some ⟨nb, 0, none⟩) ns ns, .slice (some ⟨ob, 0, none⟩) ws ws] 128, pt ob ((vals os)) 43, own 3 1 (.slice av Y.length cap) Y.length (Y.map (Value.int .i64)), memO m c l s o]) [pt p #[.pointer (some ⟨q, 0, none⟩), .int .i64 wr, .bool false, .int .i64 (Y.getD (Y.length - 1) 0), .int .i64 3, .int .i64 tp, .int .i64 nx] 131, pt q #[.pointer (some ⟨m, 0, none⟩), .int .i64 bs, .slice (some ⟨nb, 0, none⟩) ns ns, .slice (some ⟨ob, 0, none⟩) ws ws] 128, pt ob ((vals (os.set wr.toNat (.slice av (Y.take (Y.length - 1)).length cap)))) 43, own 3 1 (.slice av (((Y.take (Y.length - 1))).length) cap) (((Y.take (Y.length - 1))).length) (((Y.take (Y.length - 1))).map (Value.int .i64)), memO m c l s o] w' := by
  have hM0 : True := trivial  -- have hM
  refine Calls.of_ends (vs := [.pointer (some ⟨p, 0, none⟩)]) Try.func55 rfl Try.ntmps55 rfl ?_
  intro a hA
  replace hA : St 26 [(0, _)] a := hA
  refine Ends.seq ?_
  refine Ends.region ?_
  refine S.val hA (R.assign rfl) rfl ?_; clear hA a; intro a hA
  refine S.done ?_
  replace hA : St 26 [(0, _), (2, _)] a := hA.sub ((.cons rfl (.cons rfl .nil)))
  refine Ends.seq ?_
  refine Ends.seq ?_
  refine Ends.region ?_
  refine S.val hA (R.move rfl) rfl ?_; clear hA a; intro a hA
  refine S.val hA (R.eqlNil Try.underlying83 rfl rfl) rfl ?_; clear hA a; intro a hA
  refine S.done ?_
  replace hA : St 26 [(0, _), (2, _), (4, _)] a := hA.sub ((.cons rfl (.cons rfl (.cons rfl .nil))))
  refine Ends.condF hA rfl ?_
  refine Ends.skip ?_
  refine Ends.seq ?_
  refine Ends.seq ?_
  refine Ends.region ?_
  refine S.val hA (R.move rfl) rfl ?_; clear hA a; intro a hA
  refine S.val hA (R.nilCheck rfl) rfl ?_; clear hA a; intro a hA
  refine S.val hA (R.fieldAddr (q := 4) fi131_4 rfl rfl rfl) rfl ?_; clear hA a; intro a hA
  refine S.val hA (R.load sz129 rfl (hM.cell (k := 0) rfl rfl)) rfl ?_; clear hA a; intro a hA
  refine S.done ?_
  replace hA : St 26 [(0, _), (2, _), (8, _)] a := hA.sub ((.cons rfl (.cons rfl (.cons rfl .nil))))
  refine Ends.block ?_
  refine Ends.seq ?_
  refine Ends.region ?_
  refine S.val hA (R.tt (R.eql rfl rfl) (by first | decide | simp | omega)) rfl ?_; clear hA a; intro a hA
  refine S.val hA (R.assign rfl) rfl ?_; clear hA a; intro a hA
  refine S.done ?_
  replace hA : St 26 [(0, _), (2, _), (8, _), (9, _)] a := hA.sub ((.cons rfl (.cons rfl (.cons rfl (.cons rfl .nil)))))
  refine Ends.condT hA rfl ?_
  refine Ends.region ?_
  refine S.val hA (R.move rfl) rfl ?_; clear hA a; intro a hA
  refine S.call hA (R.callF Try.func78 rfl rfl rfl) rfl (pf_own p q m nb ns ob ws bs wr os av Y cap hwr hlen hos hY2 c l s o hmc hl hs sl tp nx hY _ (hM.hereN 5)) ?_; clear hA a
  rintro e w1 ⟨rfl, hn⟩
  replace hM : Mem _ _ [pt p #[.pointer (some ⟨q, 0, none⟩), .int .i64 wr, .bool false, .int .i64 (Y.getD (Y.length - 1) 0), .int .i64 3, .int .i64 tp, .int .i64 nx] 131, pt q #[.pointer (some ⟨m, 0, none⟩), .int .i64 bs, .slice (some ⟨nb, 0, none⟩) ns ns, .slice (some ⟨ob, 0, none⟩) ws ws] 128, pt ob ((vals (os.set wr.toNat (.slice av (Y.take (Y.length - 1)).length cap)))) 43, own 3 1 (.slice av (((Y.take (Y.length - 1))).length) cap) (((Y.take (Y.length - 1))).length) (((Y.take (Y.length - 1))).map (Value.int .i64)), memO m c l s o] _ := hM.callL 5 hn; clear hn
  refine ⟨.tuple #[], rfl, fun a hA => ?_⟩
  refine S.done ?_
  replace hA : St 26 [(0, _), (2, _)] a := hA.sub ((.cons rfl (.cons rfl .nil)))
  refine Ends.inBlock ?_
  refine Ends.seq ?_
  refine Ends.region ?_
  refine S.val hA (R.move rfl) rfl ?_; clear hA a; intro a hA
  refine S.val hA (R.nilCheck rfl) rfl ?_; clear hA a; intro a hA
  refine S.val hA (R.fieldAddr (q := 4) fi131_4 rfl rfl rfl) rfl ?_; clear hA a; intro a hA
  refine S.val hA (R.load sz129 rfl (hM.cell (k := 0) rfl rfl)) rfl ?_; clear hA a; intro a hA
  refine S.val hA (R.tt (R.eql rfl rfl) (by first | decide | simp | omega)) rfl ?_; clear hA a; intro a hA
  refine S.val hA (R.assign rfl) rfl ?_; clear hA a; intro a hA
  refine S.done ?_
  replace hA : St 26 [(2, _)] a := hA.sub ((.cons rfl .nil))
  refine Ends.ret1 Try.func55 Try.results55 hA rfl ?_
  exact ⟨rfl, hM.firstN 5⟩
set_option maxRecDepth 100000 in
set_option maxHeartbeats 400000 in
theorem pf_none (p q m nb ns ob ws : Nat) (bs wr : Int) (os : List Value) (av : Option Addr) (Y : List Int) (cap : Nat) (hwr : 0 ≤ wr ∧ wr < ws) (hlen : os.length = ws) (hos : os[wr.toNat]? = some (.slice av Y.length cap)) (hY2 : Y.length ≤ 2) (c : Nat) (l : List Int) (s : Int) (o : CellOp) (hmc : m ≠ c) (hl : 0 ≤ bs ∧ bs + 1 ≤ l.length ∧ l.length ≤ 1000000) (hs : 0 ≤ s ∧ s < 9223372036854775806) (sl tp nx : Int) (htp : 0 ≤ l.getD bs.toNat 0 ∧ l.getD bs.toNat 0 < 4611686018427387904) (hY : Y.length = 0) (hat : l.getD bs.toNat 0 % 4294967296 - 1 < 0) (w : World) (hM : Mem w (feet [pt p #[.pointer (some ⟨q, 0, none⟩), .int .i64 wr, .bool false, .int .i64 sl, .int .i64 0, .int .i64 tp, .int .i64 nx] 131, pt q #[.pointer (some ⟨m, 0, none⟩), .int .i64 bs, .slice (some ⟨nb, 0, none⟩) ns ns, .slice (some ⟨ob, 0, none⟩) ws ws] 128, pt ob ((vals os)) 43, own 3 1 (.slice av Y.length cap) Y.length (Y.map (Value.int .i64)), memO m c l s o]) [pt p #[.pointer (some ⟨q, 0, none⟩), .int .i64 wr, .bool false, .int .i64 sl, .int .i64 0, .int .i64 tp, .int .i64 nx] 131, pt q #[.pointer (some ⟨m, 0, none⟩), .int .i64 bs, .slice (some ⟨nb, 0, none⟩) ns ns, .slice (some ⟨ob, 0, none⟩) ws ws] 128, pt ob ((vals os)) 43, own 3 1 (.slice av Y.length cap) Y.length (Y.map (Value.int .i64)), memO m c l s o] w) :
    Calls Try.prog 78 #[.pointer (some ⟨p, 0, none⟩)] w fun e w' => ∃ op, e = .returned (.tuple #[]) ∧ Mem w (feet [pt p #[.pointer (some ⟨q, 0, none⟩), .int .i64 wr, .bool false, .int .i64 sl, .int .i64 0, .int .i64 tp, .int .i64 nx] 131, pt q #[.pointer (some ⟨m, 0, none⟩), .int .i64 bs, .slice (some ⟨nb, 0, none⟩) ns ns, .slice (some ⟨ob, 0, none⟩) ws ws] 128, pt ob ((vals os)) 43, own 3 1 (.slice av Y.length cap) Y.length (Y.map (Value.int .i64)), memO m c l s o]) [pt p #[.pointer (some ⟨q, 0, none⟩), .int .i64 wr, .bool false, .int .i64 sl, .int .i64 3, .int .i64 (l.getD bs.toNat 0), .int .i64 nx] 131, pt q #[.pointer (some ⟨m, 0, none⟩), .int .i64 bs, .slice (some ⟨nb, 0, none⟩) ns ns, .slice (some ⟨ob, 0, none⟩) ws ws] 128, pt ob ((vals os)) 43, own 3 1 (.slice av Y.length cap) Y.length (Y.map (Value.int .i64)), memO m c l (s + 1) op] w' := by
  have hM0 : True := trivial  -- have hM
  refine Calls.of_ends (vs := [.pointer (some ⟨p, 0, none⟩)]) Try.func78 rfl Try.ntmps78 rfl ?_
  intro a hA
  replace hA : St 53 [(0, _)] a := hA
  refine Ends.seq ?_
  refine Ends.seq ?_
  refine Ends.region ?_
  refine S.val hA (R.move rfl) rfl ?_; clear hA a; intro a hA
  refine S.call hA (R.callF Try.func85 rfl rfl rfl) rfl (ppriv_none p q m nb ns ob ws bs wr os av Y cap hwr hlen hos hY2 sl 0 tp nx hY _ (hM.hereN 4)) ?_; clear hA a
  rintro e w1 ⟨rfl, hn⟩
  replace hM : Mem _ _ [pt p #[.pointer (some ⟨q, 0, none⟩), .int .i64 wr, .bool false, .int .i64 sl, .int .i64 0, .int .i64 tp, .int .i64 nx] 131, pt q #[.pointer (some ⟨m, 0, none⟩), .int .i64 bs, .slice (some ⟨nb, 0, none⟩) ns ns, .slice (some ⟨ob, 0, none⟩) ws ws] 128, pt ob ((vals os)) 43, own 3 1 (.slice av Y.length cap) Y.length (Y.map (Value.int .i64)), memO m c l s o] _ := hM.callL 4 hn; clear hn
  refine ⟨.bool false, rfl, fun a hA => ?_⟩
  refine S.done ?_
  replace hA : St 53 [(0, _), (5, _)] a := hA.sub ((.cons rfl (.cons rfl .nil)))
  refine Ends.condF hA rfl ?_
  refine Ends.skip ?_
  refine Ends.seq ?_
  refine Ends.drawn (Mem w (feet [pt p #[.pointer (some ⟨q, 0, none⟩), .int .i64 wr, .bool false, .int .i64 sl, .int .i64 0, .int .i64 tp, .int .i64 nx] 131, pt q #[.pointer (some ⟨m, 0, none⟩), .int .i64 bs, .slice (some ⟨nb, 0, none⟩) ns ns, .slice (some ⟨ob, 0, none⟩) ws ws] 128, pt ob ((vals os)) 43, own 3 1 (.slice av Y.length cap) Y.length (Y.map (Value.int .i64)), memO m c l s o]) [pt p #[.pointer (some ⟨q, 0, none⟩), .int .i64 wr, .bool false, .int .i64 sl, .int .i64 0, .int .i64 tp, .int .i64 nx] 131, pt q #[.pointer (some ⟨m, 0, none⟩), .int .i64 bs, .slice (some ⟨nb, 0, none⟩) ns ns, .slice (some ⟨ob, 0, none⟩) ws ws] 128, pt ob ((vals os)) 43, own 3 1 (.slice av Y.length cap) Y.length (Y.map (Value.int .i64))]) (.cons (0, true) (.cons (1, true) (.cons (2, true) (.cons (3, true) (.cons (4, true) (.cons (5, true) (.cons (6, true) (.cons (7, true) (.cons (8, true) (.cons (9, true) (.cons (10, true) (.cons (11, true) (.cons (12, true) (.cons (13, true) (.cons (14, true) (.cons (15, false) (.cons (16, true) (.cons (17, true) (.cons (18, true) (.cons (19, true) (.cons (20, true) (.cons (21, false) .nil)))))))))))))))))))))) 21 mixed (by kernel_rfl) (by kernel_rfl) (by kernel_rfl) (hM.drop 4).drew ?_
  replace hM := hM.drew
  refine D.valF hA rfl (fun _ => R.move rfl) rfl ?_; clear hA a; intro a hA
  refine D.valF hA rfl (fun _ => R.move rfl) rfl ?_; clear hA a; intro a hA
  refine D.valF hA rfl (fun _ => R.nilCheck rfl) rfl ?_; clear hA a; intro a hA
  refine D.valF hA rfl (fun _ => R.fieldAddr (q := 0) fi131_0 rfl rfl rfl) rfl ?_; clear hA a; intro a hA
  refine D.val hA rfl (by kernel_rfl) (fun _ hM => R.load sz72 rfl (hM.cell (k := 0) rfl rfl)) rfl ?_; clear hA a; intro a hA
  refine D.valF hA rfl (fun _ => R.nilCheck rfl) rfl ?_; clear hA a; intro a hA
  refine D.valF hA rfl (fun _ => R.fieldAddr (q := 0) fi128_0 rfl rfl rfl) rfl ?_; clear hA a; intro a hA
  refine D.val hA rfl (by kernel_rfl) (fun _ hM => R.load sz24 rfl (hM.cell (k := 1) rfl rfl)) rfl ?_; clear hA a; intro a hA
  refine D.valF hA rfl (fun _ => R.move rfl) rfl ?_; clear hA a; intro a hA
  refine D.valF hA rfl (fun _ => R.nilCheck rfl) rfl ?_; clear hA a; intro a hA
  refine D.valF hA rfl (fun _ => R.fieldAddr (q := 0) fi131_0 rfl rfl rfl) rfl ?_; clear hA a; intro a hA
  refine D.val hA rfl (by kernel_rfl) (fun _ hM => R.load sz72 rfl (hM.cell (k := 0) rfl rfl)) rfl ?_; clear hA a; intro a hA
  refine D.valF hA rfl (fun _ => R.nilCheck rfl) rfl ?_; clear hA a; intro a hA
  refine D.valF hA rfl (fun _ => R.fieldAddr (q := 1) fi128_1 rfl rfl rfl) rfl ?_; clear hA a; intro a hA
  refine D.val hA rfl (by kernel_rfl) (fun _ hM => R.load sz3 rfl (hM.cell (k := 1) rfl rfl)) rfl ?_; clear hA a; intro a hA
  refine D.call hA rfl (R.callF Try.func63 rfl rfl rfl) rfl (get_ok m c l s o hmc bs (by omega) (by first | omega | (simp; omega)) (by omega) _ (hM.mem (k := 4) rfl)) ?_; clear hA a
  rintro e w2 ⟨rfl, hn⟩
  replace hM : Mem _ _ [memO m c ((l.set bs.toNat (l.getD bs.toNat 0))) (s + 1) ⟨1, bs, l.getD bs.toNat 0, l.getD bs.toNat 0, true⟩, pt p #[.pointer (some ⟨q, 0, none⟩), .int .i64 wr, .bool false, .int .i64 sl, .int .i64 0, .int .i64 tp, .int .i64 nx] 131, pt q #[.pointer (some ⟨m, 0, none⟩), .int .i64 bs, .slice (some ⟨nb, 0, none⟩) ns ns, .slice (some ⟨ob, 0, none⟩) ws ws] 128, pt ob ((vals os)) 43, own 3 1 (.slice av Y.length cap) Y.length (Y.map (Value.int .i64))] _ := hM.callW (k := 4) rfl hn (fun _ h => h); clear hn
  refine ⟨.tuple #[.int .i64 (l.getD bs.toNat 0), .int .i64 0], rfl, (hM.drop 0), fun a hA => ?_⟩
  refine D.valF hA rfl (fun _ => R.move rfl) rfl ?_; clear hA a; intro a hA
  refine D.valF hA rfl (fun _ => R.extract (v := .int .i64 (l.getD bs.toNat 0)) rfl rfl) rfl ?_; clear hA a; intro a hA
  refine D.valF hA rfl (fun _ => R.extract (v := .int .i64 0) rfl rfl) rfl ?_; clear hA a; intro a hA
  refine D.valF hA rfl (fun _ => R.nilCheck rfl) rfl ?_; clear hA a; intro a hA
  refine D.valF hA rfl (fun _ => R.fieldAddr (q := 5) fi131_5 rfl rfl rfl) rfl ?_; clear hA a; intro a hA
  refine D.store (k := 1) hA hM rfl sz3 rfl rfl rfl rfl rfl ?_; clear hM
  intro w3 hM; refine ⟨fun hne => absurd rfl hne, ?_⟩
  replace hM : Mem _ _ [memO m c ((l.set bs.toNat (l.getD bs.toNat 0))) (s + 1) ⟨1, bs, l.getD bs.toNat 0, l.getD bs.toNat 0, true⟩, pt p #[.pointer (some ⟨q, 0, none⟩), .int .i64 wr, .bool false, .int .i64 sl, .int .i64 0, .int .i64 (l.getD bs.toNat 0), .int .i64 nx] 131, pt q #[.pointer (some ⟨m, 0, none⟩), .int .i64 bs, .slice (some ⟨nb, 0, none⟩) ns ns, .slice (some ⟨ob, 0, none⟩) ws ws] 128, pt ob ((vals os)) 43, own 3 1 (.slice av Y.length cap) Y.length (Y.map (Value.int .i64))] _ := hM
  refine D.done ?_
  replace hA : St 53 [(0, _)] a := hA.sub ((.cons rfl .nil))
  refine Ends.seq ?_
  refine Ends.region ?_
  refine S.val hA (R.move rfl) rfl ?_; clear hA a; intro a hA
  refine S.val hA (R.nilCheck rfl) rfl ?_; clear hA a; intro a hA
  refine S.val hA (R.fieldAddr (q := 4) fi131_4 rfl rfl rfl) rfl ?_; clear hA a; intro a hA
  refine S.store (k := 1) hA hM sz129 rfl rfl rfl rfl rfl ?_; clear hM
  intro w4 hM
  replace hM : Mem _ _ [memO m c ((l.set bs.toNat (l.getD bs.toNat 0))) (s + 1) ⟨1, bs, l.getD bs.toNat 0, l.getD bs.toNat 0, true⟩, pt p #[.pointer (some ⟨q, 0, none⟩), .int .i64 wr, .bool false, .int .i64 sl, .int .i64 1, .int .i64 (l.getD bs.toNat 0), .int .i64 nx] 131, pt q #[.pointer (some ⟨m, 0, none⟩), .int .i64 bs, .slice (some ⟨nb, 0, none⟩) ns ns, .slice (some ⟨ob, 0, none⟩) ws ws] 128, pt ob ((vals os)) 43, own 3 1 (.slice av Y.length cap) Y.length (Y.map (Value.int .i64))] _ := hM
  refine S.done ?_
  replace hA : St 53 [(0, _)] a := hA.sub ((.cons rfl .nil))
  refine Ends.seq ?_
  refine Ends.region ?_
  refine S.val hA (R.move rfl) rfl ?_; clear hA a; intro a hA
  refine S.val hA (R.nilCheck rfl) rfl ?_; clear hA a; intro a hA
  refine S.val hA (R.fieldAddr (q := 5) fi131_5 rfl rfl rfl) rfl ?_; clear hA a; intro a hA
  refine S.val hA (R.load sz3 rfl (hM.cell (k := 1) rfl rfl)) rfl ?_; clear hA a; intro a hA
  refine S.call hA (R.callF Try.func77 rfl rfl rfl) rfl (unpack_any (l.getD bs.toNat 0) (by omega) (by omega) _) ?_; clear hA a
  rintro e w5 ⟨rfl, rfl⟩
  refine ⟨.tuple #[.int .i64 ((l.getD bs.toNat 0) / 4294967296 % 1073741824), .int .i64 ((l.getD bs.toNat 0) % 4294967296 - 1)], rfl, fun a hA => ?_⟩
  refine S.val hA (R.move rfl) rfl ?_; clear hA a; intro a hA
  refine S.val hA (R.extract (v := .int .i64 ((l.getD bs.toNat 0) / 4294967296 % 1073741824)) rfl rfl) rfl ?_; clear hA a; intro a hA
  refine S.val hA (R.extract (v := .int .i64 ((l.getD bs.toNat 0) % 4294967296 - 1)) rfl rfl) rfl ?_; clear hA a; intro a hA
  refine S.val hA (R.assign rfl) rfl ?_; clear hA a; intro a hA
  refine S.val hA (R.assign rfl) rfl ?_; clear hA a; intro a hA
  refine S.done ?_
  replace hA : St 53 [(0, _), (3, _)] a := hA.sub ((.cons rfl (.cons rfl .nil)))
  refine Ends.seq ?_
  refine Ends.region ?_
  refine S.val hA (R.move rfl) rfl ?_; clear hA a; intro a hA
  refine S.val hA (R.tt (R.lss rfl rfl) (by omega)) rfl ?_; clear hA a; intro a hA
  refine S.val hA (R.move rfl) rfl ?_; clear hA a; intro a hA
  refine S.valg (dj := 43) hA (by kernel_rfl) rfl (R.move rfl) rfl ?_; clear hA a; intro a hA
  refine S.valg (dj := 43) hA (by kernel_rfl) rfl (R.nilCheck rfl) rfl ?_; clear hA a; intro a hA
  refine S.valg (dj := 43) hA (by kernel_rfl) rfl (R.fieldAddr (q := 2) fi131_2 rfl rfl rfl) rfl ?_; clear hA a; intro a hA
  refine S.valg (dj := 43) hA (by kernel_rfl) rfl (R.load sz4 rfl (hM.cell (k := 1) rfl rfl)) rfl ?_; clear hA a; intro a hA
  refine S.valg (dj := 43) hA (by kernel_rfl) rfl (R.not rfl) rfl ?_; clear hA a; intro a hA
  refine S.val hA (R.pickT rfl rfl) rfl ?_; clear hA a; intro a hA
  refine S.done ?_
  replace hA : St 53 [(0, _), (49, _)] a := hA.sub ((.cons rfl (.cons rfl .nil)))
  refine Ends.condT hA rfl ?_
  refine Ends.region ?_
  refine S.val hA (R.move rfl) rfl ?_; clear hA a; intro a hA
  refine S.val hA (R.nilCheck rfl) rfl ?_; clear hA a; intro a hA
  refine S.val hA (R.fieldAddr (q := 4) fi131_4 rfl rfl rfl) rfl ?_; clear hA a; intro a hA
  refine S.store (k := 1) hA hM sz129 rfl rfl rfl rfl rfl ?_; clear hM
  intro w6 hM
  replace hM : Mem _ _ [memO m c ((l.set bs.toNat (l.getD bs.toNat 0))) (s + 1) ⟨1, bs, l.getD bs.toNat 0, l.getD bs.toNat 0, true⟩, pt p #[.pointer (some ⟨q, 0, none⟩), .int .i64 wr, .bool false, .int .i64 sl, .int .i64 3, .int .i64 (l.getD bs.toNat 0), .int .i64 nx] 131, pt q #[.pointer (some ⟨m, 0, none⟩), .int .i64 bs, .slice (some ⟨nb, 0, none⟩) ns ns, .slice (some ⟨ob, 0, none⟩) ws ws] 128, pt ob ((vals os)) 43, own 3 1 (.slice av Y.length cap) Y.length (Y.map (Value.int .i64))] _ := hM
  refine S.done ?_
  replace hA : St 53 [] a := hA.sub (.nil)
  refine Ends.end0 Try.func78 Try.results78 hA ?_
  replace hM := hM.front (k := 4) rfl
  replace hM := hM.front (k := 4) rfl
  replace hM := hM.front (k := 4) rfl
  replace hM := hM.front (k := 4) rfl
  replace hM : Mem _ _ [pt p #[.pointer (some ⟨q, 0, none⟩), .int .i64 wr, .bool false, .int .i64 sl, .int .i64 3, .int .i64 (l.getD bs.toNat 0), .int .i64 nx] 131, pt q #[.pointer (some ⟨m, 0, none⟩), .int .i64 bs, .slice (some ⟨nb, 0, none⟩) ns ns, .slice (some ⟨ob, 0, none⟩) ws ws] 128, pt ob ((vals os)) 43, own 3 1 (.slice av Y.length cap) Y.length (Y.map (Value.int .i64)), memO m c ((l.set bs.toNat (l.getD bs.toNat 0))) (s + 1) ⟨1, bs, l.getD bs.toNat 0, l.getD bs.toNat 0, true⟩] _ := hM
  rw [set_getD l bs.toNat (by omega)] at hM
  exact ⟨_, rfl, hM.firstN 5⟩
set_option maxRecDepth 100000 in
set_option maxHeartbeats 400000 in
theorem Spf_none (p q m nb ns ob ws : Nat) (bs wr : Int) (os : List Value) (av : Option Addr) (Y : List Int) (cap : Nat) (hwr : 0 ≤ wr ∧ wr < ws) (hlen : os.length = ws) (hos : os[wr.toNat]? = some (.slice av Y.length cap)) (hY2 : Y.length ≤ 2) (c : Nat) (l : List Int) (s : Int) (o : CellOp) (hmc : m ≠ c) (hl : 0 ≤ bs ∧ bs + 1 ≤ l.length ∧ l.length ≤ 1000000) (hs : 0 ≤ s ∧ s < 9223372036854775806) (sl tp nx : Int) (htp : 0 ≤ l.getD bs.toNat 0 ∧ l.getD bs.toNat 0 < 4611686018427387904) (hY : Y.length = 0) (hat : l.getD bs.toNat 0 % 4294967296 - 1 < 0) (w : World) (hM : Mem w (feet [pt p #[.pointer (some ⟨q, 0, none⟩), .int .i64 wr, .bool false, .int .i64 sl, .int .i64 0, .int .i64 tp, .int .i64 nx] 131, pt q #[.pointer (some ⟨m, 0, none⟩), .int .i64 bs, .slice (some ⟨nb, 0, none⟩) ns ns, .slice (some ⟨ob, 0, none⟩) ws ws] 128, pt ob ((vals os)) 43, own 3 1 (.slice av Y.length cap) Y.length (Y.map (Value.int .i64)), memO m c l s o]) [pt p #[.pointer (some ⟨q, 0, none⟩), .int .i64 wr, .bool false, .int .i64 sl, .int .i64 0, .int .i64 tp, .int .i64 nx] 131, pt q #[.pointer (some ⟨m, 0, none⟩), .int .i64 bs, .slice (some ⟨nb, 0, none⟩) ns ns, .slice (some ⟨ob, 0, none⟩) ws ws] 128, pt ob ((vals os)) 43, own 3 1 (.slice av Y.length cap) Y.length (Y.map (Value.int .i64)), memO m c l s o] w) :
    Calls Try.prog 55 #[.pointer (some ⟨p, 0, none⟩)] w fun e w' => ∃ op, e = .returned (.bool true) ∧ Mem w (feet [pt p #[.pointer (some ⟨q, 0, none⟩), .int .i64 wr, .bool false, .int .i64 sl, .int .i64 0, .int .i64 tp, .int .i64 nx] 131, pt q #[.pointer (some ⟨m, 0, none⟩), .int .i64 bs, .slice (some ⟨nb, 0, none⟩) ns ns, .slice (some ⟨ob, 0, none⟩) ws ws] 128, pt ob ((vals os)) 43, own 3 1 (.slice av Y.length cap) Y.length (Y.map (Value.int .i64)), memO m c l s o]) [pt p #[.pointer (some ⟨q, 0, none⟩), .int .i64 wr, .bool false, .int .i64 sl, .int .i64 3, .int .i64 (l.getD bs.toNat 0), .int .i64 nx] 131, pt q #[.pointer (some ⟨m, 0, none⟩), .int .i64 bs, .slice (some ⟨nb, 0, none⟩) ns ns, .slice (some ⟨ob, 0, none⟩) ws ws] 128, pt ob ((vals os)) 43, own 3 1 (.slice av Y.length cap) Y.length (Y.map (Value.int .i64)), memO m c l (s + 1) op] w' := by
  have hM0 : True := trivial  -- have hM
  refine Calls.of_ends (vs := [.pointer (some ⟨p, 0, none⟩)]) Try.func55 rfl Try.ntmps55 rfl ?_
  intro a hA
  replace hA : St 26 [(0, _)] a := hA
  refine Ends.seq ?_
  refine Ends.region ?_
  refine S.val hA (R.assign rfl) rfl ?_; clear hA a; intro a hA
  refine S.done ?_
  replace hA : St 26 [(0, _), (2, _)] a := hA.sub ((.cons rfl (.cons rfl .nil)))
  refine Ends.seq ?_
  refine Ends.seq ?_
  refine Ends.region ?_
  refine S.val hA (R.move rfl) rfl ?_; clear hA a; intro a hA
  refine S.val hA (R.eqlNil Try.underlying83 rfl rfl) rfl ?_; clear hA a; intro a hA
  refine S.done ?_
  replace hA : St 26 [(0, _), (2, _), (4, _)] a := hA.sub ((.cons rfl (.cons rfl (.cons rfl .nil))))
  refine Ends.condF hA rfl ?_
  refine Ends.skip ?_
  refine Ends.seq ?_
  refine Ends.seq ?_
  refine Ends.region ?_
  refine S.val hA (R.move rfl) rfl ?_; clear hA a; intro a hA
  refine S.val hA (R.nilCheck rfl) rfl ?_; clear hA a; intro a hA
  refine S.val hA (R.fieldAddr (q := 4) fi131_4 rfl rfl rfl) rfl ?_; clear hA a; intro a hA
  refine S.val hA (R.load sz129 rfl (hM.cell (k := 0) rfl rfl)) rfl ?_; clear hA a; intro a hA
  refine S.done ?_
  replace hA : St 26 [(0, _), (2, _), (8, _)] a := hA.sub ((.cons rfl (.cons rfl (.cons rfl .nil))))
  refine Ends.block ?_
  refine Ends.seq ?_
  refine Ends.region ?_
  refine S.val hA (R.tt (R.eql rfl rfl) (by first | decide | simp | omega)) rfl ?_; clear hA a; intro a hA
  refine S.val hA (R.assign rfl) rfl ?_; clear hA a; intro a hA
  refine S.done ?_
  replace hA : St 26 [(0, _), (2, _), (8, _), (9, _)] a := hA.sub ((.cons rfl (.cons rfl (.cons rfl (.cons rfl .nil)))))
  refine Ends.condT hA rfl ?_
  refine Ends.region ?_
  refine S.val hA (R.move rfl) rfl ?_; clear hA a; intro a hA
  refine S.call hA (R.callF Try.func78 rfl rfl rfl) rfl (pf_none p q m nb ns ob ws bs wr os av Y cap hwr hlen hos hY2 c l s o hmc hl hs sl tp nx htp hY hat _ (hM.hereN 5)) ?_; clear hA a
  rintro e w1 ⟨op, rfl, hn⟩
  replace hM : Mem _ _ [pt p #[.pointer (some ⟨q, 0, none⟩), .int .i64 wr, .bool false, .int .i64 sl, .int .i64 3, .int .i64 (l.getD bs.toNat 0), .int .i64 nx] 131, pt q #[.pointer (some ⟨m, 0, none⟩), .int .i64 bs, .slice (some ⟨nb, 0, none⟩) ns ns, .slice (some ⟨ob, 0, none⟩) ws ws] 128, pt ob ((vals os)) 43, own 3 1 (.slice av Y.length cap) Y.length (Y.map (Value.int .i64)), memO m c l (s + 1) op] _ := hM.callL 5 hn; clear hn
  refine ⟨.tuple #[], rfl, fun a hA => ?_⟩
  refine S.done ?_
  replace hA : St 26 [(0, _), (2, _)] a := hA.sub ((.cons rfl (.cons rfl .nil)))
  refine Ends.inBlock ?_
  refine Ends.seq ?_
  refine Ends.region ?_
  refine S.val hA (R.move rfl) rfl ?_; clear hA a; intro a hA
  refine S.val hA (R.nilCheck rfl) rfl ?_; clear hA a; intro a hA
  refine S.val hA (R.fieldAddr (q := 4) fi131_4 rfl rfl rfl) rfl ?_; clear hA a; intro a hA
  refine S.val hA (R.load sz129 rfl (hM.cell (k := 0) rfl rfl)) rfl ?_; clear hA a; intro a hA
  refine S.val hA (R.tt (R.eql rfl rfl) (by first | decide | simp | omega)) rfl ?_; clear hA a; intro a hA
  refine S.val hA (R.assign rfl) rfl ?_; clear hA a; intro a hA
  refine S.done ?_
  replace hA : St 26 [(2, _)] a := hA.sub ((.cons rfl .nil))
  refine Ends.ret1 Try.func55 Try.results55 hA rfl ?_
  exact ⟨_, rfl, hM.firstN 5⟩
set_option maxRecDepth 100000 in
set_option maxHeartbeats 400000 in
theorem pf_some (p q m nb ns ob ws : Nat) (bs wr : Int) (os : List Value) (av : Option Addr) (Y : List Int) (cap : Nat) (hwr : 0 ≤ wr ∧ wr < ws) (hlen : os.length = ws) (hos : os[wr.toNat]? = some (.slice av Y.length cap)) (hY2 : Y.length ≤ 2) (c : Nat) (l : List Int) (s : Int) (o : CellOp) (hmc : m ≠ c) (hl : 0 ≤ bs ∧ bs + 1 ≤ l.length ∧ l.length ≤ 1000000) (hs : 0 ≤ s ∧ s < 9223372036854775806) (sl tp nx : Int) (htp : 0 ≤ l.getD bs.toNat 0 ∧ l.getD bs.toNat 0 < 4611686018427387904) (hY : Y.length = 0) (hat : 0 ≤ l.getD bs.toNat 0 % 4294967296 - 1) (w : World) (hM : Mem w (feet [pt p #[.pointer (some ⟨q, 0, none⟩), .int .i64 wr, .bool false, .int .i64 sl, .int .i64 0, .int .i64 tp, .int .i64 nx] 131, pt q #[.pointer (some ⟨m, 0, none⟩), .int .i64 bs, .slice (some ⟨nb, 0, none⟩) ns ns, .slice (some ⟨ob, 0, none⟩) ws ws] 128, pt ob ((vals os)) 43, own 3 1 (.slice av Y.length cap) Y.length (Y.map (Value.int .i64)), memO m c l s o]) [pt p #[.pointer (some ⟨q, 0, none⟩), .int .i64 wr, .bool false, .int .i64 sl, .int .i64 0, .int .i64 tp, .int .i64 nx] 131, pt q #[.pointer (some ⟨m, 0, none⟩), .int .i64 bs, .slice (some ⟨nb, 0, none⟩) ns ns, .slice (some ⟨ob, 0, none⟩) ws ws] 128, pt ob ((vals os)) 43, own 3 1 (.slice av Y.length cap) Y.length (Y.map (Value.int .i64)), memO m c l s o] w) :
    Calls Try.prog 78 #[.pointer (some ⟨p, 0, none⟩)] w fun e w' => ∃ op, e = .returned (.tuple #[]) ∧ Mem w (feet [pt p #[.pointer (some ⟨q, 0, none⟩), .int .i64 wr, .bool false, .int .i64 sl, .int .i64 0, .int .i64 tp, .int .i64 nx] 131, pt q #[.pointer (some ⟨m, 0, none⟩), .int .i64 bs, .slice (some ⟨nb, 0, none⟩) ns ns, .slice (some ⟨ob, 0, none⟩) ws ws] 128, pt ob ((vals os)) 43, own 3 1 (.slice av Y.length cap) Y.length (Y.map (Value.int .i64)), memO m c l s o]) [pt p #[.pointer (some ⟨q, 0, none⟩), .int .i64 wr, .bool false, .int .i64 sl, .int .i64 1, .int .i64 (l.getD bs.toNat 0), .int .i64 nx] 131, pt q #[.pointer (some ⟨m, 0, none⟩), .int .i64 bs, .slice (some ⟨nb, 0, none⟩) ns ns, .slice (some ⟨ob, 0, none⟩) ws ws] 128, pt ob ((vals os)) 43, own 3 1 (.slice av Y.length cap) Y.length (Y.map (Value.int .i64)), memO m c l (s + 1) op] w' := by
  have hM0 : True := trivial  -- have hM
  refine Calls.of_ends (vs := [.pointer (some ⟨p, 0, none⟩)]) Try.func78 rfl Try.ntmps78 rfl ?_
  intro a hA
  replace hA : St 53 [(0, _)] a := hA
  refine Ends.seq ?_
  refine Ends.seq ?_
  refine Ends.region ?_
  refine S.val hA (R.move rfl) rfl ?_; clear hA a; intro a hA
  refine S.call hA (R.callF Try.func85 rfl rfl rfl) rfl (ppriv_none p q m nb ns ob ws bs wr os av Y cap hwr hlen hos hY2 sl 0 tp nx hY _ (hM.hereN 4)) ?_; clear hA a
  rintro e w1 ⟨rfl, hn⟩
  replace hM : Mem _ _ [pt p #[.pointer (some ⟨q, 0, none⟩), .int .i64 wr, .bool false, .int .i64 sl, .int .i64 0, .int .i64 tp, .int .i64 nx] 131, pt q #[.pointer (some ⟨m, 0, none⟩), .int .i64 bs, .slice (some ⟨nb, 0, none⟩) ns ns, .slice (some ⟨ob, 0, none⟩) ws ws] 128, pt ob ((vals os)) 43, own 3 1 (.slice av Y.length cap) Y.length (Y.map (Value.int .i64)), memO m c l s o] _ := hM.callL 4 hn; clear hn
  refine ⟨.bool false, rfl, fun a hA => ?_⟩
  refine S.done ?_
  replace hA : St 53 [(0, _), (5, _)] a := hA.sub ((.cons rfl (.cons rfl .nil)))
  refine Ends.condF hA rfl ?_
  refine Ends.skip ?_
  refine Ends.seq ?_
  refine Ends.drawn (Mem w (feet [pt p #[.pointer (some ⟨q, 0, none⟩), .int .i64 wr, .bool false, .int .i64 sl, .int .i64 0, .int .i64 tp, .int .i64 nx] 131, pt q #[.pointer (some ⟨m, 0, none⟩), .int .i64 bs, .slice (some ⟨nb, 0, none⟩) ns ns, .slice (some ⟨ob, 0, none⟩) ws ws] 128, pt ob ((vals os)) 43, own 3 1 (.slice av Y.length cap) Y.length (Y.map (Value.int .i64)), memO m c l s o]) [pt p #[.pointer (some ⟨q, 0, none⟩), .int .i64 wr, .bool false, .int .i64 sl, .int .i64 0, .int .i64 tp, .int .i64 nx] 131, pt q #[.pointer (some ⟨m, 0, none⟩), .int .i64 bs, .slice (some ⟨nb, 0, none⟩) ns ns, .slice (some ⟨ob, 0, none⟩) ws ws] 128, pt ob ((vals os)) 43, own 3 1 (.slice av Y.length cap) Y.length (Y.map (Value.int .i64))]) (.cons (0, true) (.cons (1, true) (.cons (2, true) (.cons (3, true) (.cons (4, true) (.cons (5, true) (.cons (6, true) (.cons (7, true) (.cons (8, true) (.cons (9, true) (.cons (10, true) (.cons (11, true) (.cons (12, true) (.cons (13, true) (.cons (14, true) (.cons (15, false) (.cons (16, true) (.cons (17, true) (.cons (18, true) (.cons (19, true) (.cons (20, true) (.cons (21, false) .nil)))))))))))))))))))))) 21 mixed (by kernel_rfl) (by kernel_rfl) (by kernel_rfl) (hM.drop 4).drew ?_
  replace hM := hM.drew
  refine D.valF hA rfl (fun _ => R.move rfl) rfl ?_; clear hA a; intro a hA
  refine D.valF hA rfl (fun _ => R.move rfl) rfl ?_; clear hA a; intro a hA
  refine D.valF hA rfl (fun _ => R.nilCheck rfl) rfl ?_; clear hA a; intro a hA
  refine D.valF hA rfl (fun _ => R.fieldAddr (q := 0) fi131_0 rfl rfl rfl) rfl ?_; clear hA a; intro a hA
  refine D.val hA rfl (by kernel_rfl) (fun _ hM => R.load sz72 rfl (hM.cell (k := 0) rfl rfl)) rfl ?_; clear hA a; intro a hA
  refine D.valF hA rfl (fun _ => R.nilCheck rfl) rfl ?_; clear hA a; intro a hA
  refine D.valF hA rfl (fun _ => R.fieldAddr (q := 0) fi128_0 rfl rfl rfl) rfl ?_; clear hA a; intro a hA
  refine D.val hA rfl (by kernel_rfl) (fun _ hM => R.load sz24 rfl (hM.cell (k := 1) rfl rfl)) rfl ?_; clear hA a; intro a hA
  refine D.valF hA rfl (fun _ => R.move rfl) rfl ?_; clear hA a; intro a hA
  refine D.valF hA rfl (fun _ => R.nilCheck rfl) rfl ?_; clear hA a; intro a hA
  refine D.valF hA rfl (fun _ => R.fieldAddr (q := 0) fi131_0 rfl rfl rfl) rfl ?_; clear hA a; intro a hA
  refine D.val hA rfl (by kernel_rfl) (fun _ hM => R.load sz72 rfl (hM.cell (k := 0) rfl rfl)) rfl ?_; clear hA a; intro a hA
  refine D.valF hA rfl (fun _ => R.nilCheck rfl) rfl ?_; clear hA a; intro a hA
  refine D.valF hA rfl (fun _ => R.fieldAddr (q := 1) fi128_1 rfl rfl rfl) rfl ?_; clear hA a; intro a hA
  refine D.val hA rfl (by kernel_rfl) (fun _ hM => R.load sz3 rfl (hM.cell (k := 1) rfl rfl)) rfl ?_; clear hA a; intro a hA
  refine D.call hA rfl (R.callF Try.func63 rfl rfl rfl) rfl (get_ok m c l s o hmc bs (by omega) (by first | omega | (simp; omega)) (by omega) _ (hM.mem (k := 4) rfl)) ?_; clear hA a
  rintro e w2 ⟨rfl, hn⟩
  replace hM : Mem _ _ [memO m c ((l.set bs.toNat (l.getD bs.toNat 0))) (s + 1) ⟨1, bs, l.getD bs.toNat 0, l.getD bs.toNat 0, true⟩, pt p #[.pointer (some ⟨q, 0, none⟩), .int .i64 wr, .bool false, .int .i64 sl, .int .i64 0, .int .i64 tp, .int .i64 nx] 131, pt q #[.pointer (some ⟨m, 0, none⟩), .int .i64 bs, .slice (some ⟨nb, 0, none⟩) ns ns, .slice (some ⟨ob, 0, none⟩) ws ws] 128, pt ob ((vals os)) 43, own 3 1 (.slice av Y.length cap) Y.length (Y.map (Value.int .i64))] _ := hM.callW (k := 4) rfl hn (fun _ h => h); clear hn
  refine ⟨.tuple #[.int .i64 (l.getD bs.toNat 0), .int .i64 0], rfl, (hM.drop 0), fun a hA => ?_⟩
  refine D.valF hA rfl (fun _ => R.move rfl) rfl ?_; clear hA a; intro a hA
  refine D.valF hA rfl (fun _ => R.extract (v := .int .i64 (l.getD bs.toNat 0)) rfl rfl) rfl ?_; clear hA a; intro a hA
  refine D.valF hA rfl (fun _ => R.extract (v := .int .i64 0) rfl rfl) rfl ?_; clear hA a; intro a hA
  refine D.valF hA rfl (fun _ => R.nilCheck rfl) rfl ?_; clear hA a; intro a hA
  refine D.valF hA rfl (fun _ => R.fieldAddr (q := 5) fi131_5 rfl rfl rfl) rfl ?_; clear hA a; intro a hA
  refine D.store (k := 1) hA hM rfl sz3 rfl rfl rfl rfl rfl ?_; clear hM
  intro w3 hM; refine ⟨fun hne => absurd rfl hne, ?_⟩
  replace hM : Mem _ _ [memO m c ((l.set bs.toNat (l.getD bs.toNat 0))) (s + 1) ⟨1, bs, l.getD bs.toNat 0, l.getD bs.toNat 0, true⟩, pt p #[.pointer (some ⟨q, 0, none⟩), .int .i64 wr, .bool false, .int .i64 sl, .int .i64 0, .int .i64 (l.getD bs.toNat 0), .int .i64 nx] 131, pt q #[.pointer (some ⟨m, 0, none⟩), .int .i64 bs, .slice (some ⟨nb, 0, none⟩) ns ns, .slice (some ⟨ob, 0, none⟩) ws ws] 128, pt ob ((vals os)) 43, own 3 1 (.slice av Y.length cap) Y.length (Y.map (Value.int .i64))] _ := hM
  refine D.done ?_
  replace hA : St 53 [(0, _)] a := hA.sub ((.cons rfl .nil))
  refine Ends.seq ?_
  refine Ends.region ?_
  refine S.val hA (R.move rfl) rfl ?_; clear hA a; intro a hA
  refine S.val hA (R.nilCheck rfl) rfl ?_; clear hA a; intro a hA
  refine S.val hA (R.fieldAddr (q := 4) fi131_4 rfl rfl rfl) rfl ?_; clear hA a; intro a hA
  refine S.store (k := 1) hA hM sz129 rfl rfl rfl rfl rfl ?_; clear hM
  intro w4 hM
  replace hM : Mem _ _ [memO m c ((l.set bs.toNat (l.getD bs.toNat 0))) (s + 1) ⟨1, bs, l.getD bs.toNat 0, l.getD bs.toNat 0, true⟩, pt p #[.pointer (some ⟨q, 0, none⟩), .int .i64 wr, .bool false, .int .i64 sl, .int .i64 1, .int .i64 (l.getD bs.toNat 0), .int .i64 nx] 131, pt q #[.pointer (some ⟨m, 0, none⟩), .int .i64 bs, .slice (some ⟨nb, 0, none⟩) ns ns, .slice (some ⟨ob, 0, none⟩) ws ws] 128, pt ob ((vals os)) 43, own 3 1 (.slice av Y.length cap) Y.length (Y.map (Value.int .i64))] _ := hM
  refine S.done ?_
  replace hA : St 53 [(0, _)] a := hA.sub ((.cons rfl .nil))
  refine Ends.seq ?_
  refine Ends.region ?_
  refine S.val hA (R.move rfl) rfl ?_; clear hA a; intro a hA
  refine S.val hA (R.nilCheck rfl) rfl ?_; clear hA a; intro a hA
  refine S.val hA (R.fieldAddr (q := 5) fi131_5 rfl rfl rfl) rfl ?_; clear hA a; intro a hA
  refine S.val hA (R.load sz3 rfl (hM.cell (k := 1) rfl rfl)) rfl ?_; clear hA a; intro a hA
  refine S.call hA (R.callF Try.func77 rfl rfl rfl) rfl (unpack_any (l.getD bs.toNat 0) (by omega) (by omega) _) ?_; clear hA a
  rintro e w5 ⟨rfl, rfl⟩
  refine ⟨.tuple #[.int .i64 ((l.getD bs.toNat 0) / 4294967296 % 1073741824), .int .i64 ((l.getD bs.toNat 0) % 4294967296 - 1)], rfl, fun a hA => ?_⟩
  refine S.val hA (R.move rfl) rfl ?_; clear hA a; intro a hA
  refine S.val hA (R.extract (v := .int .i64 ((l.getD bs.toNat 0) / 4294967296 % 1073741824)) rfl rfl) rfl ?_; clear hA a; intro a hA
  refine S.val hA (R.extract (v := .int .i64 ((l.getD bs.toNat 0) % 4294967296 - 1)) rfl rfl) rfl ?_; clear hA a; intro a hA
  refine S.val hA (R.assign rfl) rfl ?_; clear hA a; intro a hA
  refine S.val hA (R.assign rfl) rfl ?_; clear hA a; intro a hA
  refine S.done ?_
  replace hA : St 53 [(0, _), (3, _)] a := hA.sub ((.cons rfl (.cons rfl .nil)))
  refine Ends.seq ?_
  refine Ends.region ?_
  refine S.val hA (R.move rfl) rfl ?_; clear hA a; intro a hA
  refine S.val hA (R.ff (R.lss rfl rfl) (by omega)) rfl ?_; clear hA a; intro a hA
  refine S.val hA (R.move rfl) rfl ?_; clear hA a; intro a hA
  refine S.no (dj := 43) hA (by kernel_rfl) rfl rfl rfl ?_; clear hA a; intro a hA
  refine S.no (dj := 43) hA (by kernel_rfl) rfl rfl rfl ?_; clear hA a; intro a hA
  refine S.no (dj := 43) hA (by kernel_rfl) rfl rfl rfl ?_; clear hA a; intro a hA
  refine S.no (dj := 43) hA (by kernel_rfl) rfl rfl rfl ?_; clear hA a; intro a hA
  refine S.no (dj := 43) hA (by kernel_rfl) rfl rfl rfl ?_; clear hA a; intro a hA
  refine S.val hA (R.pickF rfl rfl) rfl ?_; clear hA a; intro a hA
  refine S.done ?_
  replace hA : St 53 [(0, _), (49, _)] a := hA.sub ((.cons rfl (.cons rfl .nil)))
  refine Ends.condF hA rfl ?_
  refine Ends.skip ?_
  refine Ends.end0 Try.func78 Try.results78 hA ?_
  replace hM := hM.front (k := 4) rfl
  replace hM := hM.front (k := 4) rfl
  replace hM := hM.front (k := 4) rfl
  replace hM := hM.front (k := 4) rfl
  replace hM : Mem _ _ [pt p #[.pointer (some ⟨q, 0, none⟩), .int .i64 wr, .bool false, .int .i64 sl, .int .i64 1, .int .i64 (l.getD bs.toNat 0), .int .i64 nx] 131, pt q #[.pointer (some ⟨m, 0, none⟩), .int .i64 bs, .slice (some ⟨nb, 0, none⟩) ns ns, .slice (some ⟨ob, 0, none⟩) ws ws] 128, pt ob ((vals os)) 43, own 3 1 (.slice av Y.length cap) Y.length (Y.map (Value.int .i64)), memO m c ((l.set bs.toNat (l.getD bs.toNat 0))) (s + 1) ⟨1, bs, l.getD bs.toNat 0, l.getD bs.toNat 0, true⟩] _ := hM
  rw [set_getD l bs.toNat (by omega)] at hM
  exact ⟨_, rfl, hM.firstN 5⟩
set_option maxRecDepth 100000 in
set_option maxHeartbeats 400000 in
theorem Spf_some (p q m nb ns ob ws : Nat) (bs wr : Int) (os : List Value) (av : Option Addr) (Y : List Int) (cap : Nat) (hwr : 0 ≤ wr ∧ wr < ws) (hlen : os.length = ws) (hos : os[wr.toNat]? = some (.slice av Y.length cap)) (hY2 : Y.length ≤ 2) (c : Nat) (l : List Int) (s : Int) (o : CellOp) (hmc : m ≠ c) (hl : 0 ≤ bs ∧ bs + 1 ≤ l.length ∧ l.length ≤ 1000000) (hs : 0 ≤ s ∧ s < 9223372036854775806) (sl tp nx : Int) (htp : 0 ≤ l.getD bs.toNat 0 ∧ l.getD bs.toNat 0 < 4611686018427387904) (hY : Y.length = 0) (hat : 0 ≤ l.getD bs.toNat 0 % 4294967296 - 1) (w : World) (hM : Mem w (feet [pt p #[.pointer (some ⟨q, 0, none⟩), .int .i64 wr, .bool false, .int .i64 sl, .int .i64 0, .int .i64 tp, .int .i64 nx] 131, pt q #[.pointer (some ⟨m, 0, none⟩), .int .i64 bs, .slice (some ⟨nb, 0, none⟩) ns ns, .slice (some ⟨ob, 0, none⟩) ws ws] 128, pt ob ((vals os)) 43, own 3 1 (.slice av Y.length cap) Y.length (Y.map (Value.int .i64)), memO m c l s o]) [pt p #[.pointer (some ⟨q, 0, none⟩), .int .i64 wr, .bool false, .int .i64 sl, .int .i64 0, .int .i64 tp, .int .i64 nx] 131, pt q #[.pointer (some ⟨m, 0, none⟩), .int .i64 bs, .slice (some ⟨nb, 0, none⟩) ns ns, .slice (some ⟨ob, 0, none⟩) ws ws] 128, pt ob ((vals os)) 43, own 3 1 (.slice av Y.length cap) Y.length (Y.map (Value.int .i64)), memO m c l s o] w) :
    Calls Try.prog 55 #[.pointer (some ⟨p, 0, none⟩)] w fun e w' => ∃ op, e = .returned (.bool false) ∧ Mem w (feet [pt p #[.pointer (some ⟨q, 0, none⟩), .int .i64 wr, .bool false, .int .i64 sl, .int .i64 0, .int .i64 tp, .int .i64 nx] 131, pt q #[.pointer (some ⟨m, 0, none⟩), .int .i64 bs, .slice (some ⟨nb, 0, none⟩) ns ns, .slice (some ⟨ob, 0, none⟩) ws ws] 128, pt ob ((vals os)) 43, own 3 1 (.slice av Y.length cap) Y.length (Y.map (Value.int .i64)), memO m c l s o]) [pt p #[.pointer (some ⟨q, 0, none⟩), .int .i64 wr, .bool false, .int .i64 sl, .int .i64 1, .int .i64 (l.getD bs.toNat 0), .int .i64 nx] 131, pt q #[.pointer (some ⟨m, 0, none⟩), .int .i64 bs, .slice (some ⟨nb, 0, none⟩) ns ns, .slice (some ⟨ob, 0, none⟩) ws ws] 128, pt ob ((vals os)) 43, own 3 1 (.slice av Y.length cap) Y.length (Y.map (Value.int .i64)), memO m c l (s + 1) op] w' := by
  have hM0 : True := trivial  -- have hM
  refine Calls.of_ends (vs := [.pointer (some ⟨p, 0, none⟩)]) Try.func55 rfl Try.ntmps55 rfl ?_
  intro a hA
  replace hA : St 26 [(0, _)] a := hA
  refine Ends.seq ?_
  refine Ends.region ?_
  refine S.val hA (R.assign rfl) rfl ?_; clear hA a; intro a hA
  refine S.done ?_
  replace hA : St 26 [(0, _), (2, _)] a := hA.sub ((.cons rfl (.cons rfl .nil)))
  refine Ends.seq ?_
  refine Ends.seq ?_
  refine Ends.region ?_
  refine S.val hA (R.move rfl) rfl ?_; clear hA a; intro a hA
  refine S.val hA (R.eqlNil Try.underlying83 rfl rfl) rfl ?_; clear hA a; intro a hA
  refine S.done ?_
  replace hA : St 26 [(0, _), (2, _), (4, _)] a := hA.sub ((.cons rfl (.cons rfl (.cons rfl .nil))))
  refine Ends.condF hA rfl ?_
  refine Ends.skip ?_
  refine Ends.seq ?_
  refine Ends.seq ?_
  refine Ends.region ?_
  refine S.val hA (R.move rfl) rfl ?_; clear hA a; intro a hA
  refine S.val hA (R.nilCheck rfl) rfl ?_; clear hA a; intro a hA
  refine S.val hA (R.fieldAddr (q := 4) fi131_4 rfl rfl rfl) rfl ?_; clear hA a; intro a hA
  refine S.val hA (R.load sz129 rfl (hM.cell (k := 0) rfl rfl)) rfl ?_; clear hA a; intro a hA
  refine S.done ?_
  replace hA : St 26 [(0, _), (2, _), (8, _)] a := hA.sub ((.cons rfl (.cons rfl (.cons rfl .nil))))
  refine Ends.block ?_
  refine Ends.seq ?_
  refine Ends.region ?_
  refine S.val hA (R.tt (R.eql rfl rfl) (by first | decide | simp | omega)) rfl ?_; clear hA a; intro a hA
  refine S.val hA (R.assign rfl) rfl ?_; clear hA a; intro a hA
  refine S.done ?_
  replace hA : St 26 [(0, _), (2, _), (8, _), (9, _)] a := hA.sub ((.cons rfl (.cons rfl (.cons rfl (.cons rfl .nil)))))
  refine Ends.condT hA rfl ?_
  refine Ends.region ?_
  refine S.val hA (R.move rfl) rfl ?_; clear hA a; intro a hA
  refine S.call hA (R.callF Try.func78 rfl rfl rfl) rfl (pf_some p q m nb ns ob ws bs wr os av Y cap hwr hlen hos hY2 c l s o hmc hl hs sl tp nx htp hY hat _ (hM.hereN 5)) ?_; clear hA a
  rintro e w1 ⟨op, rfl, hn⟩
  replace hM : Mem _ _ [pt p #[.pointer (some ⟨q, 0, none⟩), .int .i64 wr, .bool false, .int .i64 sl, .int .i64 1, .int .i64 (l.getD bs.toNat 0), .int .i64 nx] 131, pt q #[.pointer (some ⟨m, 0, none⟩), .int .i64 bs, .slice (some ⟨nb, 0, none⟩) ns ns, .slice (some ⟨ob, 0, none⟩) ws ws] 128, pt ob ((vals os)) 43, own 3 1 (.slice av Y.length cap) Y.length (Y.map (Value.int .i64)), memO m c l (s + 1) op] _ := hM.callL 5 hn; clear hn
  refine ⟨.tuple #[], rfl, fun a hA => ?_⟩
  refine S.done ?_
  replace hA : St 26 [(0, _), (2, _)] a := hA.sub ((.cons rfl (.cons rfl .nil)))
  refine Ends.inBlock ?_
  refine Ends.seq ?_
  refine Ends.region ?_
  refine S.val hA (R.move rfl) rfl ?_; clear hA a; intro a hA
  refine S.val hA (R.nilCheck rfl) rfl ?_; clear hA a; intro a hA
  refine S.val hA (R.fieldAddr (q := 4) fi131_4 rfl rfl rfl) rfl ?_; clear hA a; intro a hA
  refine S.val hA (R.load sz129 rfl (hM.cell (k := 0) rfl rfl)) rfl ?_; clear hA a; intro a hA
  refine S.val hA (R.ff (R.eql rfl rfl) (by first | decide | simp | omega)) rfl ?_; clear hA a; intro a hA
  refine S.val hA (R.assign rfl) rfl ?_; clear hA a; intro a hA
  refine S.done ?_
  replace hA : St 26 [(2, _)] a := hA.sub ((.cons rfl .nil))
  refine Ends.ret1 Try.func55 Try.results55 hA rfl ?_
  exact ⟨_, rfl, hM.firstN 5⟩
set_option maxRecDepth 100000 in
set_option maxHeartbeats 400000 in
theorem pf_full (p q m nb ns ob ws : Nat) (bs wr : Int) (os : List Value) (av : Option Addr) (Y : List Int) (cap : Nat) (hwr : 0 ≤ wr ∧ wr < ws) (hlen : os.length = ws) (hos : os[wr.toNat]? = some (.slice av Y.length cap)) (hY2 : Y.length ≤ 2) (c : Nat) (l : List Int) (s : Int) (o : CellOp) (hmc : m ≠ c) (hl : 0 ≤ bs ∧ bs + 1 ≤ l.length ∧ l.length ≤ 1000000) (hs : 0 ≤ s ∧ s < 9223372036854775806) (sl tp nx : Int) (htp : 0 ≤ l.getD bs.toNat 0 ∧ l.getD bs.toNat 0 < 4611686018427387904) (hY : 2 ≤ Y.length) (w : World) (hM : Mem w (feet [pt p #[.pointer (some ⟨q, 0, none⟩), .int .i64 wr, .bool true, .int .i64 sl, .int .i64 0, .int .i64 tp, .int .i64 nx] 131, pt q #[.pointer (some ⟨m, 0, none⟩), .int .i64 bs, .slice (some ⟨nb, 0, none⟩) ns ns, .slice (some ⟨ob, 0, none⟩) ws ws] 128, pt ob ((vals os)) 43, own 3 1 (.slice av Y.length cap) Y.length (Y.map (Value.int .i64)), memO m c l s o]) [pt p #[.pointer (some ⟨q, 0, none⟩), .int .i64 wr, .bool true, .int .i64 sl, .int .i64 0, .int .i64 tp, .int .i64 nx] 131, pt q #[.pointer (some ⟨m, 0, none⟩), .int .i64 bs, .slice (some ⟨nb, 0, none⟩) ns ns, .slice (some ⟨ob, 0, none⟩) ws ws] 128, pt ob ((vals os)) 43, own 3 1 (.slice av Y.length cap) Y.length (Y.map (Value.int .i64)), memO m c l s o] w) :
    Calls Try.prog 78 #[.pointer (some ⟨p, 0, none⟩)] w fun e w' => ∃ op, e = .returned (.tuple #[]) ∧ Mem w (feet [pt p #[.pointer (some ⟨q, 0, none⟩), .int .i64 wr, .bool true, .int .i64 sl, .int .i64 0, .int .i64 tp, .int .i64 nx] 131, pt q #[.pointer (some ⟨m, 0, none⟩), .int .i64 bs, .slice (some ⟨nb, 0, none⟩) ns ns, .slice (some ⟨ob, 0, none⟩) ws ws] 128, pt ob ((vals os)) 43, own 3 1 (.slice av Y.length cap) Y.length (Y.map (Value.int .i64)), memO m c l s o]) [pt p #[.pointer (some ⟨q, 0, none⟩), .int .i64 wr, .bool true, .int .i64 sl, .int .i64 1, .int .i64 (l.getD bs.toNat 0), .int .i64 nx] 131, pt q #[.pointer (some ⟨m, 0, none⟩), .int .i64 bs, .slice (some ⟨nb, 0, none⟩) ns ns, .slice (some ⟨ob, 0, none⟩) ws ws] 128, pt ob ((vals os)) 43, own 3 1 (.slice av Y.length cap) Y.length (Y.map (Value.int .i64)), memO m c l (s + 1) op] w' := by
  have hM0 : True := trivial  -- have hM
  refine Calls.of_ends (vs := [.pointer (some ⟨p, 0, none⟩)]) Try.func78 rfl Try.ntmps78 rfl ?_
  intro a hA
  replace hA : St 53 [(0, _)] a := hA
  refine Ends.seq ?_
  refine Ends.seq ?_
  refine Ends.region ?_
  refine S.val hA (R.move rfl) rfl ?_; clear hA a; intro a hA
  refine S.call hA (R.callF Try.func85 rfl rfl rfl) rfl (ppriv_full p q m nb ns ob ws bs wr os av Y cap hwr hlen hos hY2 sl 0 tp nx hY _ (hM.hereN 4)) ?_; clear hA a
  rintro e w1 ⟨rfl, hn⟩
  replace hM : Mem _ _ [pt p #[.pointer (some ⟨q, 0, none⟩), .int .i64 wr, .bool true, .int .i64 sl, .int .i64 0, .int .i64 tp, .int .i64 nx] 131, pt q #[.pointer (some ⟨m, 0, none⟩), .int .i64 bs, .slice (some ⟨nb, 0, none⟩) ns ns, .slice (some ⟨ob, 0, none⟩) ws ws] 128, pt ob ((vals os)) 43, own 3 1 (.slice av Y.length cap) Y.length (Y.map (Value.int .i64)), memO m c l s o] _ := hM.callL 4 hn; clear hn
  refine ⟨.bool false, rfl, fun a hA => ?_⟩
  refine S.done ?_
  replace hA : St 53 [(0, _), (5, _)] a := hA.sub ((.cons rfl (.cons rfl .nil)))
  refine Ends.condF hA rfl ?_
  refine Ends.skip ?_
  refine Ends.seq ?_
  refine Ends.drawn (Mem w (feet [pt p #[.pointer (some ⟨q, 0, none⟩), .int .i64 wr, .bool true, .int .i64 sl, .int .i64 0, .int .i64 tp, .int .i64 nx] 131, pt q #[.pointer (some ⟨m, 0, none⟩), .int .i64 bs, .slice (some ⟨nb, 0, none⟩) ns ns, .slice (some ⟨ob, 0, none⟩) ws ws] 128, pt ob ((vals os)) 43, own 3 1 (.slice av Y.length cap) Y.length (Y.map (Value.int .i64)), memO m c l s o]) [pt p #[.pointer (some ⟨q, 0, none⟩), .int .i64 wr, .bool true, .int .i64 sl, .int .i64 0, .int .i64 tp, .int .i64 nx] 131, pt q #[.pointer (some ⟨m, 0, none⟩), .int .i64 bs, .slice (some ⟨nb, 0, none⟩) ns ns, .slice (some ⟨ob, 0, none⟩) ws ws] 128, pt ob ((vals os)) 43, own 3 1 (.slice av Y.length cap) Y.length (Y.map (Value.int .i64))]) (.cons (0, true) (.cons (1, true) (.cons (2, true) (.cons (3, true) (.cons (4, true) (.cons (5, true) (.cons (6, true) (.cons (7, true) (.cons (8, true) (.cons (9, true) (.cons (10, true) (.cons (11, true) (.cons (12, true) (.cons (13, true) (.cons (14, true) (.cons (15, false) (.cons (16, true) (.cons (17, true) (.cons (18, true) (.cons (19, true) (.cons (20, true) (.cons (21, false) .nil)))))))))))))))))))))) 21 mixed (by kernel_rfl) (by kernel_rfl) (by kernel_rfl) (hM.drop 4).drew ?_
  replace hM := hM.drew
  refine D.valF hA rfl (fun _ => R.move rfl) rfl ?_; clear hA a; intro a hA
  refine D.valF hA rfl (fun _ => R.move rfl) rfl ?_; clear hA a; intro a hA
  refine D.valF hA rfl (fun _ => R.nilCheck rfl) rfl ?_; clear hA a; intro a hA
  refine D.valF hA rfl (fun _ => R.fieldAddr (q := 0) fi131_0 rfl rfl rfl) rfl ?_; clear hA a; intro a hA
  refine D.val hA rfl (by kernel_rfl) (fun _ hM => R.load sz72 rfl (hM.cell (k := 0) rfl rfl)) rfl ?_; clear hA a; intro a hA
  refine D.valF hA rfl (fun _ => R.nilCheck rfl) rfl ?_; clear hA a; intro a hA
  refine D.valF hA rfl (fun _ => R.fieldAddr (q := 0) fi128_0 rfl rfl rfl) rfl ?_; clear hA a; intro a hA
  refine D.val hA rfl (by kernel_rfl) (fun _ hM => R.load sz24 rfl (hM.cell (k := 1) rfl rfl)) rfl ?_; clear hA a; intro a hA
  refine D.valF hA rfl (fun _ => R.move rfl) rfl ?_; clear hA a; intro a hA
  refine D.valF hA rfl (fun _ => R.nilCheck rfl) rfl ?_; clear hA a; intro a hA
  refine D.valF hA rfl (fun _ => R.fieldAddr (q := 0) fi131_0 rfl rfl rfl) rfl ?_; clear hA a; intro a hA
  refine D.val hA rfl (by kernel_rfl) (fun _ hM => R.load sz72 rfl (hM.cell (k := 0) rfl rfl)) rfl ?_; clear hA a; intro a hA
  refine D.valF hA rfl (fun _ => R.nilCheck rfl) rfl ?_; clear hA a; intro a hA
  refine D.valF hA rfl (fun _ => R.fieldAddr (q := 1) fi128_1 rfl rfl rfl) rfl ?_; clear hA a; intro a hA
  refine D.val hA rfl (by kernel_rfl) (fun _ hM => R.load sz3 rfl (hM.cell (k := 1) rfl rfl)) rfl ?_; clear hA a; intro a hA
  refine D.call hA rfl (R.callF Try.func63 rfl rfl rfl) rfl (get_ok m c l s o hmc bs (by omega) (by first | omega | (simp; omega)) (by omega) _ (hM.mem (k := 4) rfl)) ?_; clear hA a
  rintro e w2 ⟨rfl, hn⟩
  replace hM : Mem _ _ [memO m c ((l.set bs.toNat (l.getD bs.toNat 0))) (s + 1) ⟨1, bs, l.getD bs.toNat 0, l.getD bs.toNat 0, true⟩, pt p #[.pointer (some ⟨q, 0, none⟩), .int .i64 wr, .bool true, .int .i64 sl, .int .i64 0, .int .i64 tp, .int .i64 nx] 131, pt q #[.pointer (some ⟨m, 0, none⟩), .int .i64 bs, .slice (some ⟨nb, 0, none⟩) ns ns, .slice (some ⟨ob, 0, none⟩) ws ws] 128, pt ob ((vals os)) 43, own 3 1 (.slice av Y.length cap) Y.length (Y.map (Value.int .i64))] _ := hM.callW (k := 4) rfl hn (fun _ h => h); clear hn
  refine ⟨.tuple #[.int .i64 (l.getD bs.toNat 0), .int .i64 0], rfl, (hM.drop 0), fun a hA => ?_⟩
  refine D.valF hA rfl (fun _ => R.move rfl) rfl ?_; clear hA a; intro a hA
  refine D.valF hA rfl (fun _ => R.extract (v := .int .i64 (l.getD bs.toNat 0)) rfl rfl) rfl ?_; clear hA a; intro a hA
  refine D.valF hA rfl (fun _ => R.extract (v := .int .i64 0) rfl rfl) rfl ?_; clear hA a; intro a hA
  refine D.valF hA rfl (fun _ => R.nilCheck rfl) rfl ?_; clear hA a; intro a hA
  refine D.valF hA rfl (fun _ => R.fieldAddr (q := 5) fi131_5 rfl rfl rfl) rfl ?_; clear hA a; intro a hA
  refine D.store (k := 1) hA hM rfl sz3 rfl rfl rfl rfl rfl ?_; clear hM
  intro w3 hM; refine ⟨fun hne => absurd rfl hne, ?_⟩
  replace hM : Mem _ _ [memO m c ((l.set bs.toNat (l.getD bs.toNat 0))) (s + 1) ⟨1, bs, l.getD bs.toNat 0, l.getD bs.toNat 0, true⟩, pt p #[.pointer (some ⟨q, 0, none⟩), .int .i64 wr, .bool true, .int .i64 sl, .int .i64 0, .int .i64 (l.getD bs.toNat 0), .int .i64 nx] 131, pt q #[.pointer (some ⟨m, 0, none⟩), .int .i64 bs, .slice (some ⟨nb, 0, none⟩) ns ns, .slice (some ⟨ob, 0, none⟩) ws ws] 128, pt ob ((vals os)) 43, own 3 1 (.slice av Y.length cap) Y.length (Y.map (Value.int .i64))] _ := hM
  refine D.done ?_
  replace hA : St 53 [(0, _)] a := hA.sub ((.cons rfl .nil))
  refine Ends.seq ?_
  refine Ends.region ?_
  refine S.val hA (R.move rfl) rfl ?_; clear hA a; intro a hA
  refine S.val hA (R.nilCheck rfl) rfl ?_; clear hA a; intro a hA
  refine S.val hA (R.fieldAddr (q := 4) fi131_4 rfl rfl rfl) rfl ?_; clear hA a; intro a hA
  refine S.store (k := 1) hA hM sz129 rfl rfl rfl rfl rfl ?_; clear hM
  intro w4 hM
  replace hM : Mem _ _ [memO m c ((l.set bs.toNat (l.getD bs.toNat 0))) (s + 1) ⟨1, bs, l.getD bs.toNat 0, l.getD bs.toNat 0, true⟩, pt p #[.pointer (some ⟨q, 0, none⟩), .int .i64 wr, .bool true, .int .i64 sl, .int .i64 1, .int .i64 (l.getD bs.toNat 0), .int .i64 nx] 131, pt q #[.pointer (some ⟨m, 0, none⟩), .int .i64 bs, .slice (some ⟨nb, 0, none⟩) ns ns, .slice (some ⟨ob, 0, none⟩) ws ws] 128, pt ob ((vals os)) 43, own 3 1 (.slice av Y.length cap) Y.length (Y.map (Value.int .i64))] _ := hM
  refine S.done ?_
  replace hA : St 53 [(0, _)] a := hA.sub ((.cons rfl .nil))
  refine Ends.seq ?_
  refine Ends.region ?_
  refine S.val hA (R.move rfl) rfl ?_; clear hA a; intro a hA
  refine S.val hA (R.nilCheck rfl) rfl ?_; clear hA a; intro a hA
  refine S.val hA (R.fieldAddr (q := 5) fi131_5 rfl rfl rfl) rfl ?_; clear hA a; intro a hA
  refine S.val hA (R.load sz3 rfl (hM.cell (k := 1) rfl rfl)) rfl ?_; clear hA a; intro a hA
  refine S.call hA (R.callF Try.func77 rfl rfl rfl) rfl (unpack_any (l.getD bs.toNat 0) (by omega) (by omega) _) ?_; clear hA a
  rintro e w5 ⟨rfl, rfl⟩
  refine ⟨.tuple #[.int .i64 ((l.getD bs.toNat 0) / 4294967296 % 1073741824), .int .i64 ((l.getD bs.toNat 0) % 4294967296 - 1)], rfl, fun a hA => ?_⟩
  refine S.val hA (R.move rfl) rfl ?_; clear hA a; intro a hA
  refine S.val hA (R.extract (v := .int .i64 ((l.getD bs.toNat 0) / 4294967296 % 1073741824)) rfl rfl) rfl ?_; clear hA a; intro a hA
  refine S.val hA (R.extract (v := .int .i64 ((l.getD bs.toNat 0) % 4294967296 - 1)) rfl rfl) rfl ?_; clear hA a; intro a hA
  refine S.val hA (R.assign rfl) rfl ?_; clear hA a; intro a hA
  refine S.val hA (R.assign rfl) rfl ?_; clear hA a; intro a hA
  refine S.done ?_
  replace hA : St 53 [(0, _), (3, _)] a := hA.sub ((.cons rfl (.cons rfl .nil)))
  refine Ends.seq ?_
  refine Ends.cut (fun (a : Act) (wv : World) => St 53 [(0, .pointer (some ⟨p, 0, none⟩)), (49, .bool (decide ((((l.getD bs.toNat 0) % 4294967296 - 1) < 0 ∧ False))))] a ∧ Mem w (feet [pt p #[.pointer (some ⟨q, 0, none⟩), .int .i64 wr, .bool true, .int .i64 sl, .int .i64 0, .int .i64 tp, .int .i64 nx] 131, pt q #[.pointer (some ⟨m, 0, none⟩), .int .i64 bs, .slice (some ⟨nb, 0, none⟩) ns ns, .slice (some ⟨ob, 0, none⟩) ws ws] 128, pt ob ((vals os)) 43, own 3 1 (.slice av Y.length cap) Y.length (Y.map (Value.int .i64)), memO m c l s o]) [memO m c ((l.set bs.toNat (l.getD bs.toNat 0))) (s + 1) ⟨1, bs, l.getD bs.toNat 0, l.getD bs.toNat 0, true⟩, pt p #[.pointer (some ⟨q, 0, none⟩), .int .i64 wr, .bool true, .int .i64 sl, .int .i64 1, .int .i64 (l.getD bs.toNat 0), .int .i64 nx] 131, pt q #[.pointer (some ⟨m, 0, none⟩), .int .i64 bs, .slice (some ⟨nb, 0, none⟩) ns ns, .slice (some ⟨ob, 0, none⟩) ws ws] 128, pt ob ((vals os)) 43, own 3 1 (.slice av Y.length cap) Y.length (Y.map (Value.int .i64))] wv) ?_ (fun k2 hJ => ?_)
  · clear hA hM a; rintro a w6 ⟨hA, hM⟩
    refine Ends.ite hA rfl (fun hc1 => ?_) (fun hc1 => ?_)
    · exact (hc1.2).elim
    ·
      refine Ends.skip ?_
      refine Ends.end0 Try.func78 Try.results78 hA ?_
      replace hM := hM.front (k := 4) rfl
      replace hM := hM.front (k := 4) rfl
      replace hM := hM.front (k := 4) rfl
      replace hM := hM.front (k := 4) rfl
      replace hM : Mem _ _ [pt p #[.pointer (some ⟨q, 0, none⟩), .int .i64 wr, .bool true, .int .i64 sl, .int .i64 1, .int .i64 (l.getD bs.toNat 0), .int .i64 nx] 131, pt q #[.pointer (some ⟨m, 0, none⟩), .int .i64 bs, .slice (some ⟨nb, 0, none⟩) ns ns, .slice (some ⟨ob, 0, none⟩) ws ws] 128, pt ob ((vals os)) 43, own 3 1 (.slice av Y.length cap) Y.length (Y.map (Value.int .i64)), memO m c ((l.set bs.toNat (l.getD bs.toNat 0))) (s + 1) ⟨1, bs, l.getD bs.toNat 0, l.getD bs.toNat 0, true⟩] _ := hM
      rw [set_getD l bs.toNat (by omega)] at hM
      exact ⟨_, rfl, hM.firstN 5⟩
  ·
    refine Ends.region ?_
    refine S.val hA (R.move rfl) rfl ?_; clear hA a; intro a hA
    refine S.val hA (R.lss rfl rfl) rfl ?_; clear hA a; intro a hA
    refine S.val hA (R.move rfl) rfl ?_; clear hA a; intro a hA
    refine hA.split (d := 43) rfl ?_ ?_
    · clear hA; intro hg2 hA
      refine S.valg (dj := 43) hA (by kernel_rfl) rfl (R.move rfl) rfl ?_; clear hA a; intro a hA
      refine S.valg (dj := 43) hA (by kernel_rfl) rfl (R.nilCheck rfl) rfl ?_; clear hA a; intro a hA
      refine S.valg (dj := 43) hA (by kernel_rfl) rfl (R.fieldAddr (q := 2) fi131_2 rfl rfl rfl) rfl ?_; clear hA a; intro a hA
      refine S.valg (dj := 43) hA (by kernel_rfl) rfl (R.load sz4 rfl (hM.cell (k := 1) rfl rfl)) rfl ?_; clear hA a; intro a hA
      refine S.valg (dj := 43) hA (by kernel_rfl) rfl (R.not rfl) rfl ?_; clear hA a; intro a hA
      refine S.val hA (R.pickT rfl rfl) rfl ?_; clear hA a; intro a hA
      refine S.done ?_
      replace hA : St 53 [(0, _), (49, _)] a := hA.sub ((.cons rfl (.cons rfl .nil)))
      exact hJ _ _ ⟨hA.sub (.cons rfl (.cons (by first | rfl | exact congrArg (fun b => some (Value.bool b)) (by first | (simp; done) | simp [hg2])) .nil)), hM⟩
    · clear hA; intro hg2 hA
      refine S.no (dj := 43) hA (by kernel_rfl) rfl rfl rfl ?_; clear hA a; intro a hA
      refine S.no (dj := 43) hA (by kernel_rfl) rfl rfl rfl ?_; clear hA a; intro a hA
      refine S.no (dj := 43) hA (by kernel_rfl) rfl rfl rfl ?_; clear hA a; intro a hA
      refine S.no (dj := 43) hA (by kernel_rfl) rfl rfl rfl ?_; clear hA a; intro a hA
      refine S.no (dj := 43) hA (by kernel_rfl) rfl rfl rfl ?_; clear hA a; intro a hA
      refine S.val hA (R.pickF rfl rfl) rfl ?_; clear hA a; intro a hA
      refine S.done ?_
      replace hA : St 53 [(0, _), (49, _)] a := hA.sub ((.cons rfl (.cons rfl .nil)))
      exact hJ _ _ ⟨hA.sub (.cons rfl (.cons (by first | rfl | exact congrArg (fun b => some (Value.bool b)) (by first | (simp; done) | simp [hg2])) .nil)), hM⟩
set_option maxRecDepth 100000 in
set_option maxHeartbeats 400000 in
theorem Spf_full (p q m nb ns ob ws : Nat) (bs wr : Int) (os : List Value) (av : Option Addr) (Y : List Int) (cap : Nat) (hwr : 0 ≤ wr ∧ wr < ws) (hlen : os.length = ws) (hos : os[wr.toNat]? = some (.slice av Y.length cap)) (hY2 : Y.length ≤ 2) (c : Nat) (l : List Int) (s : Int) (o : CellOp) (hmc : m ≠ c) (hl : 0 ≤ bs ∧ bs + 1 ≤ l.length ∧ l.length ≤ 1000000) (hs : 0 ≤ s ∧ s < 9223372036854775806) (sl tp nx : Int) (htp : 0 ≤ l.getD bs.toNat 0 ∧ l.getD bs.toNat 0 < 4611686018427387904) (hY : 2 ≤ Y.length) (w : World) (hM : Mem w (feet [pt p #[.pointer (some ⟨q, 0, none⟩), .int .i64 wr, .bool true, .int .i64 sl, .int .i64 0, .int .i64 tp, .int .i64 nx] 131, pt q #[.pointer (some ⟨m, 0, none⟩), .int .i64 bs, .slice (some ⟨nb, 0, none⟩) ns ns, .slice (some ⟨ob, 0, none⟩) ws ws] 128, pt ob ((vals os)) 43, own 3 1 (.slice av Y.length cap) Y.length (Y.map (Value.int .i64)), memO m c l s o]) [pt p #[.pointer (some ⟨q, 0, none⟩), .int .i64 wr, .bool true, .int .i64 sl, .int .i64 0, .int .i64 tp, .int .i64 nx] 131, pt q #[.pointer (some ⟨m, 0, none⟩), .int .i64 bs, .slice (some ⟨nb, 0, none⟩) ns ns, .slice (some ⟨ob, 0, none⟩) ws ws] 128, pt ob ((vals os)) 43, own 3 1 (.slice av Y.length cap) Y.length (Y.map (Value.int .i64)), memO m c l s o] w) :
    Calls Try.prog 55 #[.pointer (some ⟨p, 0, none⟩)] w fun e w' => ∃ op, e = .returned (.bool false) ∧ Mem w (feet [pt p #[.pointer (some ⟨q, 0, none⟩), .int .i64 wr, .bool true, .int .i64 sl, .int .i64 0, .int .i64 tp, .int .i64 nx] 131, pt q #[.pointer (some ⟨m, 0, none⟩), .int .i64 bs, .slice (some ⟨nb, 0, none⟩) ns ns, .slice (some ⟨ob, 0, none⟩) ws ws] 128, pt ob ((vals os)) 43, own 3 1 (.slice av Y.length cap) Y.length (Y.map (Value.int .i64)), memO m c l s o]) [pt p #[.pointer (some ⟨q, 0, none⟩), .int .i64 wr, .bool true, .int .i64 sl, .int .i64 1, .int .i64 (l.getD bs.toNat 0), .int .i64 nx] 131, pt q #[.pointer (some ⟨m, 0, none⟩), .int .i64 bs, .slice (some ⟨nb, 0, none⟩) ns ns, .slice (some ⟨ob, 0, none⟩) ws ws] 128, pt ob ((vals os)) 43, own 3 1 (.slice av Y.length cap) Y.length (Y.map (Value.int .i64)), memO m c l (s + 1) op] w' := by
  have hM0 : True := trivial  -- have hM
  refine Calls.of_ends (vs := [.pointer (some ⟨p, 0, none⟩)]) Try.func55 rfl Try.ntmps55 rfl ?_
  intro a hA
  replace hA : St 26 [(0, _)] a := hA
  refine Ends.seq ?_
  refine Ends.region ?_
  refine S.val hA (R.assign rfl) rfl ?_; clear hA a; intro a hA
  refine S.done ?_
  replace hA : St 26 [(0, _), (2, _)] a := hA.sub ((.cons rfl (.cons rfl .nil)))
  refine Ends.seq ?_
  refine Ends.seq ?_
  refine Ends.region ?_
  refine S.val hA (R.move rfl) rfl ?_; clear hA a; intro a hA
  refine S.val hA (R.eqlNil Try.underlying83 rfl rfl) rfl ?_; clear hA a; intro a hA
  refine S.done ?_
  replace hA : St 26 [(0, _), (2, _), (4, _)] a := hA.sub ((.cons rfl (.cons rfl (.cons rfl .nil))))
  refine Ends.condF hA rfl ?_
  refine Ends.skip ?_
  refine Ends.seq ?_
  refine Ends.seq ?_
  refine Ends.region ?_
  refine S.val hA (R.move rfl) rfl ?_; clear hA a; intro a hA
  refine S.val hA (R.nilCheck rfl) rfl ?_; clear hA a; intro a hA
  refine S.val hA (R.fieldAddr (q := 4) fi131_4 rfl rfl rfl) rfl ?_; clear hA a; intro a hA
  refine S.val hA (R.load sz129 rfl (hM.cell (k := 0) rfl rfl)) rfl ?_; clear hA a; intro a hA
  refine S.done ?_
  replace hA : St 26 [(0, _), (2, _), (8, _)] a := hA.sub ((.cons rfl (.cons rfl (.cons rfl .nil))))
  refine Ends.block ?_
  refine Ends.seq ?_
  refine Ends.region ?_
  refine S.val hA (R.tt (R.eql rfl rfl) (by first | decide | simp | omega)) rfl ?_; clear hA a; intro a hA
  refine S.val hA (R.assign rfl) rfl ?_; clear hA a; intro a hA
  refine S.done ?_
  replace hA : St 26 [(0, _), (2, _), (8, _), (9, _)] a := hA.sub ((.cons rfl (.cons rfl (.cons rfl (.cons rfl .nil)))))
  refine Ends.condT hA rfl ?_
  refine Ends.region ?_
  refine S.val hA (R.move rfl) rfl ?_; clear hA a; intro a hA
  refine S.call hA (R.callF Try.func78 rfl rfl rfl) rfl (pf_full p q m nb ns ob ws bs wr os av Y cap hwr hlen hos hY2 c l s o hmc hl hs sl tp nx htp hY _ (hM.hereN 5)) ?_; clear hA a
  rintro e w1 ⟨op, rfl, hn⟩
  replace hM : Mem _ _ [pt p #[.pointer (some ⟨q, 0, none⟩), .int .i64 wr, .bool true, .int .i64 sl, .int .i64 1, .int .i64 (l.getD bs.toNat 0), .int .i64 nx] 131, pt q #[.pointer (some ⟨m, 0, none⟩), .int .i64 bs, .slice (some ⟨nb, 0, none⟩) ns ns, .slice (some ⟨ob, 0, none⟩) ws ws] 128, pt ob ((vals os)) 43, own 3 1 (.slice av Y.length cap) Y.length (Y.map (Value.int .i64)), memO m c l (s + 1) op] _ := hM.callL 5 hn; clear hn
  refine ⟨.tuple #[], rfl, fun a hA => ?_⟩
  refine S.done ?_
  replace hA : St 26 [(0, _), (2, _)] a := hA.sub ((.cons rfl (.cons rfl .nil)))
  refine Ends.inBlock ?_
  refine Ends.seq ?_
  refine Ends.region ?_
  refine S.val hA (R.move rfl) rfl ?_; clear hA a; intro a hA
  refine S.val hA (R.nilCheck rfl) rfl ?_; clear hA a; intro a hA
  refine S.val hA (R.fieldAddr (q := 4) fi131_4 rfl rfl rfl) rfl ?_; clear hA a; intro a hA
  refine S.val hA (R.load sz129 rfl (hM.cell (k := 0) rfl rfl)) rfl ?_; clear hA a; intro a hA
  refine S.val hA (R.ff (R.eql rfl rfl) (by first | decide | simp | omega)) rfl ?_; clear hA a; intro a hA
  refine S.val hA (R.assign rfl) rfl ?_; clear hA a; intro a hA
  refine S.done ?_
  replace hA : St 26 [(2, _)] a := hA.sub ((.cons rfl .nil))
  refine Ends.ret1 Try.func55 Try.results55 hA rfl ?_
  exact ⟨_, rfl, hM.firstN 5⟩
set_option maxRecDepth 100000 in
set_option maxHeartbeats 400000 in
theorem pf_link (p q m nb ns ob ws : Nat) (bs wr : Int) (os : List Value) (av : Option Addr) (Y : List Int) (cap : Nat) (hwr : 0 ≤ wr ∧ wr < ws) (hlen : os.length = ws) (hos : os[wr.toNat]? = some (.slice av Y.length cap)) (hY2 : Y.length ≤ 2) (c : Nat) (l : List Int) (s : Int) (o : CellOp) (hmc : m ≠ c) (hl : 0 ≤ bs ∧ bs + 1 ≤ l.length ∧ l.length ≤ 1000000) (hs : 0 ≤ s ∧ s < 9223372036854775806) (sl tp nx : Int) (htp : 0 ≤ tp ∧ tp < 4611686018427387904) (hsl : 0 ≤ sl ∧ bs + 1 + sl < l.length) (w : World) (hM : Mem w (feet [pt p #[.pointer (some ⟨q, 0, none⟩), .int .i64 wr, .bool true, .int .i64 sl, .int .i64 1, .int .i64 tp, .int .i64 nx] 131, pt q #[.pointer (some ⟨m, 0, none⟩), .int .i64 bs, .slice (some ⟨nb, 0, none⟩) ns ns, .slice (some ⟨ob, 0, none⟩) ws ws] 128, pt ob ((vals os)) 43, own 3 1 (.slice av Y.length cap) Y.length (Y.map (Value.int .i64)), memO m c l s o]) [pt p #[.pointer (some ⟨q, 0, none⟩), .int .i64 wr, .bool true, .int .i64 sl, .int .i64 1, .int .i64 tp, .int .i64 nx] 131, pt q #[.pointer (some ⟨m, 0, none⟩), .int .i64 bs, .slice (some ⟨nb, 0, none⟩) ns ns, .slice (some ⟨ob, 0, none⟩) ws ws] 128, pt ob ((vals os)) 43, own 3 1 (.slice av Y.length cap) Y.length (Y.map (Value.int .i64)), memO m c l s o] w) :
    Calls Try.prog 79 #[.pointer (some ⟨p, 0, none⟩)] w fun e w' => ∃ op, e = .returned (.tuple #[]) ∧ Mem w (feet [pt p #[.pointer (some ⟨q, 0, none⟩), .int .i64 wr, .bool true, .int .i64 sl, .int .i64 1, .int .i64 tp, .int .i64 nx] 131, pt q #[.pointer (some ⟨m, 0, none⟩), .int .i64 bs, .slice (some ⟨nb, 0, none⟩) ns ns, .slice (some ⟨ob, 0, none⟩) ws ws] 128, pt ob ((vals os)) 43, own 3 1 (.slice av Y.length cap) Y.length (Y.map (Value.int .i64)), memO m c l s o]) [pt p #[.pointer (some ⟨q, 0, none⟩), .int .i64 wr, .bool true, .int .i64 sl, .int .i64 2, .int .i64 tp, .int .i64 nx] 131, pt q #[.pointer (some ⟨m, 0, none⟩), .int .i64 bs, .slice (some ⟨nb, 0, none⟩) ns ns, .slice (some ⟨ob, 0, none⟩) ws ws] 128, pt ob ((vals os)) 43, own 3 1 (.slice av Y.length cap) Y.length (Y.map (Value.int .i64)), memO m c ((l.set (bs + 1 + sl).toNat (tp % 4294967296 - 1))) (s + 1) op] w' := by
  have hM0 : True := trivial  -- have hM
  refine Calls.of_ends (vs := [.pointer (some ⟨p, 0, none⟩)]) Try.func79 rfl Try.ntmps79 rfl ?_
  intro a hA
  replace hA : St 57 [(0, _)] a := hA
  refine Ends.seq ?_
  refine Ends.region ?_
  refine S.val hA (R.move rfl) rfl ?_; clear hA a; intro a hA
  refine S.val hA (R.nilCheck rfl) rfl ?_; clear hA a; intro a hA
  refine S.val hA (R.fieldAddr (q := 5) fi131_5 rfl rfl rfl) rfl ?_; clear hA a; intro a hA
  refine S.val hA (R.load sz3 rfl (hM.cell (k := 0) rfl rfl)) rfl ?_; clear hA a; intro a hA
  refine S.call hA (R.callF Try.func77 rfl rfl rfl) rfl (unpack_any tp (by omega) (by omega) _) ?_; clear hA a
  rintro e w1 ⟨rfl, rfl⟩
  refine ⟨.tuple #[.int .i64 (tp / 4294967296 % 1073741824), .int .i64 (tp % 4294967296 - 1)], rfl, fun a hA => ?_⟩
  refine S.val hA (R.move rfl) rfl ?_; clear hA a; intro a hA
  refine S.val hA (R.extract (v := .int .i64 (tp / 4294967296 % 1073741824)) rfl rfl) rfl ?_; clear hA a; intro a hA
  refine S.val hA (R.extract (v := .int .i64 (tp % 4294967296 - 1)) rfl rfl) rfl ?_; clear hA a; intro a hA
  refine S.val hA (R.assign rfl) rfl ?_; clear hA a; intro a hA
  refine S.val hA (R.assign rfl) rfl ?_; clear hA a; intro a hA
  refine S.done ?_
  replace hA : St 57 [(0, _), (3, _)] a := hA.sub ((.cons rfl (.cons rfl .nil)))
  refine Ends.seq ?_
  refine Ends.seq ?_
  refine Ends.region ?_
  refine S.val hA (R.move rfl) rfl ?_; clear hA a; intro a hA
  refine S.val hA (R.nilCheck rfl) rfl ?_; clear hA a; intro a hA
  refine S.val hA (R.fieldAddr (q := 2) fi131_2 rfl rfl rfl) rfl ?_; clear hA a; intro a hA
  refine S.val hA (R.load sz4 rfl (hM.cell (k := 0) rfl rfl)) rfl ?_; clear hA a; intro a hA
  refine S.done ?_
  replace hA : St 57 [(0, _), (3, _), (15, _)] a := hA.sub ((.cons rfl (.cons rfl (.cons rfl .nil))))
  refine Ends.condT hA rfl ?_
  refine Ends.drawn (Mem w (feet [pt p #[.pointer (some ⟨q, 0, none⟩), .int .i64 wr, .bool true, .int .i64 sl, .int .i64 1, .int .i64 tp, .int .i64 nx] 131, pt q #[.pointer (some ⟨m, 0, none⟩), .int .i64 bs, .slice (some ⟨nb, 0, none⟩) ns ns, .slice (some ⟨ob, 0, none⟩) ws ws] 128, pt ob ((vals os)) 43, own 3 1 (.slice av Y.length cap) Y.length (Y.map (Value.int .i64)), memO m c l s o]) [pt p #[.pointer (some ⟨q, 0, none⟩), .int .i64 wr, .bool true, .int .i64 sl, .int .i64 1, .int .i64 tp, .int .i64 nx] 131, pt q #[.pointer (some ⟨m, 0, none⟩), .int .i64 bs, .slice (some ⟨nb, 0, none⟩) ns ns, .slice (some ⟨ob, 0, none⟩) ws ws] 128, pt ob ((vals os)) 43, own 3 1 (.slice av Y.length cap) Y.length (Y.map (Value.int .i64))]) (.cons (0, true) (.cons (1, true) (.cons (2, true) (.cons (3, true) (.cons (4, true) (.cons (5, true) (.cons (6, true) (.cons (7, true) (.cons (8, true) (.cons (9, true) (.cons (10, true) (.cons (11, true) (.cons (12, true) (.cons (13, true) (.cons (14, true) (.cons (16, true) (.cons (15, false) (.cons (17, false) .nil)))))))))))))))))) 18 mixed (by kernel_rfl) (by kernel_rfl) (by kernel_rfl) (hM.drop 4).drew ?_
  replace hM := hM.drew
  refine D.valF hA rfl (fun _ => R.move rfl) rfl ?_; clear hA a; intro a hA
  refine D.valF hA rfl (fun _ => R.nilCheck rfl) rfl ?_; clear hA a; intro a hA
  refine D.valF hA rfl (fun _ => R.fieldAddr (q := 0) fi131_0 rfl rfl rfl) rfl ?_; clear hA a; intro a hA
  refine D.val hA rfl (by kernel_rfl) (fun _ hM => R.load sz72 rfl (hM.cell (k := 0) rfl rfl)) rfl ?_; clear hA a; intro a hA
  refine D.valF hA rfl (fun _ => R.nilCheck rfl) rfl ?_; clear hA a; intro a hA
  refine D.valF hA rfl (fun _ => R.fieldAddr (q := 0) fi128_0 rfl rfl rfl) rfl ?_; clear hA a; intro a hA
  refine D.val hA rfl (by kernel_rfl) (fun _ hM => R.load sz24 rfl (hM.cell (k := 1) rfl rfl)) rfl ?_; clear hA a; intro a hA
  refine D.valF hA rfl (fun _ => R.move rfl) rfl ?_; clear hA a; intro a hA
  refine D.valF hA rfl (fun _ => R.nilCheck rfl) rfl ?_; clear hA a; intro a hA
  refine D.valF hA rfl (fun _ => R.fieldAddr (q := 0) fi131_0 rfl rfl rfl) rfl ?_; clear hA a; intro a hA
  refine D.val hA rfl (by kernel_rfl) (fun _ hM => R.load sz72 rfl (hM.cell (k := 0) rfl rfl)) rfl ?_; clear hA a; intro a hA
  refine D.valF hA rfl (fun _ => R.move rfl) rfl ?_; clear hA a; intro a hA
  refine D.valF hA rfl (fun _ => R.nilCheck rfl) rfl ?_; clear hA a; intro a hA
  refine D.valF hA rfl (fun _ => R.fieldAddr (q := 3) fi131_3 rfl rfl rfl) rfl ?_; clear hA a; intro a hA
  refine D.val hA rfl (by kernel_rfl) (fun _ hM => R.load sz3 rfl (hM.cell (k := 0) rfl rfl)) rfl ?_; clear hA a; intro a hA
  refine D.valF hA rfl (fun _ => R.move rfl) rfl ?_; clear hA a; intro a hA
  refine D.call hA rfl (R.callF Try.func76 rfl rfl rfl) rfl (plink q m nb ob ns ws bs sl (by omega) (by omega) _ (hM.block (k := 1) rfl)) ?_; clear hA a
  rintro e w2 ⟨rfl, rfl⟩
  refine ⟨.int .i64 (bs + 1 + sl), rfl, (hM.drop 4), fun a hA => ?_⟩
  refine D.call hA rfl (R.callF Try.func67 rfl rfl rfl) rfl (set_ok m c l s o hmc (bs + 1 + sl) (tp % 4294967296 - 1) (by omega) (by first | omega | (simp; omega)) (by omega) _ (hM.mem (k := 4) rfl)) ?_; clear hA a
  rintro e w3 ⟨rfl, hn⟩
  replace hM : Mem _ _ [memO m c ((l.set (bs + 1 + sl).toNat (tp % 4294967296 - 1))) (s + 1) ⟨2, bs + 1 + sl, l.getD (bs + 1 + sl).toNat 0, tp % 4294967296 - 1, true⟩, pt p #[.pointer (some ⟨q, 0, none⟩), .int .i64 wr, .bool true, .int .i64 sl, .int .i64 1, .int .i64 tp, .int .i64 nx] 131, pt q #[.pointer (some ⟨m, 0, none⟩), .int .i64 bs, .slice (some ⟨nb, 0, none⟩) ns ns, .slice (some ⟨ob, 0, none⟩) ws ws] 128, pt ob ((vals os)) 43, own 3 1 (.slice av Y.length cap) Y.length (Y.map (Value.int .i64))] _ := hM.callW (k := 4) rfl hn (fun _ h => h); clear hn
  refine ⟨.int .i64 0, rfl, (hM.drop 0), fun a hA => ?_⟩
  refine D.done ?_
  replace hA : St 57 [(0, _)] a := hA.sub ((.cons rfl .nil))
  refine Ends.region ?_
  refine S.val hA (R.move rfl) rfl ?_; clear hA a; intro a hA
  refine S.val hA (R.nilCheck rfl) rfl ?_; clear hA a; intro a hA
  refine S.val hA (R.fieldAddr (q := 4) fi131_4 rfl rfl rfl) rfl ?_; clear hA a; intro a hA
  refine S.store (k := 1) hA hM sz129 rfl rfl rfl rfl rfl ?_; clear hM
  intro w4 hM
  replace hM : Mem _ _ [memO m c ((l.set (bs + 1 + sl).toNat (tp % 4294967296 - 1))) (s + 1) ⟨2, bs + 1 + sl, l.getD (bs + 1 + sl).toNat 0, tp % 4294967296 - 1, true⟩, pt p #[.pointer (some ⟨q, 0, none⟩), .int .i64 wr, .bool true, .int .i64 sl, .int .i64 2, .int .i64 tp, .int .i64 nx] 131, pt q #[.pointer (some ⟨m, 0, none⟩), .int .i64 bs, .slice (some ⟨nb, 0, none⟩) ns ns, .slice (some ⟨ob, 0, none⟩) ws ws] 128, pt ob ((vals os)) 43, own 3 1 (.slice av Y.length cap) Y.length (Y.map (Value.int .i64))] _ := hM
  refine S.done ?_
  replace hA : St 57 [] a := hA.sub (.nil)
  refine Ends.end0 Try.func79 Try.results79 hA ?_
  replace hM := hM.front (k := 4) rfl
  replace hM := hM.front (k := 4) rfl
  replace hM := hM.front (k := 4) rfl
  replace hM := hM.front (k := 4) rfl
  replace hM : Mem _ _ [pt p #[.pointer (some ⟨q, 0, none⟩), .int .i64 wr, .bool true, .int .i64 sl, .int .i64 2, .int .i64 tp, .int .i64 nx] 131, pt q #[.pointer (some ⟨m, 0, none⟩), .int .i64 bs, .slice (some ⟨nb, 0, none⟩) ns ns, .slice (some ⟨ob, 0, none⟩) ws ws] 128, pt ob ((vals os)) 43, own 3 1 (.slice av Y.length cap) Y.length (Y.map (Value.int .i64)), memO m c ((l.set (bs + 1 + sl).toNat (tp % 4294967296 - 1))) (s + 1) ⟨2, bs + 1 + sl, l.getD (bs + 1 + sl).toNat 0, tp % 4294967296 - 1, true⟩] _ := hM
  exact ⟨_, rfl, hM.firstN 5⟩
set_option maxRecDepth 100000 in
set_option maxHeartbeats 400000 in
theorem Spf_link (p q m nb ns ob ws : Nat) (bs wr : Int) (os : List Value) (av : Option Addr) (Y : List Int) (cap : Nat) (hwr : 0 ≤ wr ∧ wr < ws) (hlen : os.length = ws) (hos : os[wr.toNat]? = some (.slice av Y.length cap)) (hY2 : Y.length ≤ 2) (c : Nat) (l : List Int) (s : Int) (o : CellOp) (hmc : m ≠ c) (hl : 0 ≤ bs ∧ bs + 1 ≤ l.length ∧ l.length ≤ 1000000) (hs : 0 ≤ s ∧ s < 9223372036854775806) (sl tp nx : Int) (htp : 0 ≤ tp ∧ tp < 4611686018427387904) (hsl : 0 ≤ sl ∧ bs + 1 + sl < l.length) (w : World) (hM : Mem w (feet [pt p #[.pointer (some ⟨q, 0, none⟩), .int .i64 wr, .bool true, .int .i64 sl, .int .i64 1, .int .i64 tp, .int .i64 nx] 131, pt q #[.pointer (some ⟨m, 0, none⟩), .int .i64 bs, .slice (some ⟨nb, 0, none⟩) ns ns, .slice (some ⟨ob, 0, none⟩) ws ws] 128, pt ob ((vals os)) 43, own 3 1 (.slice av Y.length cap) Y.length (Y.map (Value.int .i64)), memO m c l s o]) [pt p #[.pointer (some ⟨q, 0, none⟩), .int .i64 wr, .bool true, .int .i64 sl, .int .i64 1, .int .i64 tp, .int .i64 nx] 131, pt q #[.pointer (some ⟨m, 0, none⟩), .int .i64 bs, .slice (some ⟨nb, 0, none⟩) ns ns, .slice (some ⟨ob, 0, none⟩) ws ws] 128, pt ob ((vals os)) 43, own 3 1 (.slice av Y.length cap) Y.length (Y.map (Value.int .i64)), memO m c l s o] w) :
    Calls Try.prog 55 #[.pointer (some ⟨p, 0, none⟩)] w fun e w' => ∃ op, e = .returned (.bool false) ∧ Mem w (feet [pt p #[.pointer (some ⟨q, 0, none⟩), .int .i64 wr, .bool true, .int .i64 sl, .int .i64 1, .int .i64 tp, .int .i64 nx] 131, pt q #[.pointer (some ⟨m, 0, none⟩), .int .i64 bs, .slice (some ⟨nb, 0, none⟩) ns ns, .slice (some ⟨ob, 0, none⟩) ws ws] 128, pt ob ((vals os)) 43, own 3 1 (.slice av Y.length cap) Y.length (Y.map (Value.int .i64)), memO m c l s o]) [pt p #[.pointer (some ⟨q, 0, none⟩), .int .i64 wr, .bool true, .int .i64 sl, .int .i64 2, .int .i64 tp, .int .i64 nx] 131, pt q #[.pointer (some ⟨m, 0, none⟩), .int .i64 bs, .slice (some ⟨nb, 0, none⟩) ns ns, .slice (some ⟨ob, 0, none⟩) ws ws] 128, pt ob ((vals os)) 43, own 3 1 (.slice av Y.length cap) Y.length (Y.map (Value.int .i64)), memO m c ((l.set (bs + 1 + sl).toNat (tp % 4294967296 - 1))) (s + 1) op] w' := by
  have hM0 : True := trivial  -- have hM
  refine Calls.of_ends (vs := [.pointer (some ⟨p, 0, none⟩)]) Try.func55 rfl Try.ntmps55 rfl ?_
  intro a hA
  replace hA : St 26 [(0, _)] a := hA
  refine Ends.seq ?_
  refine Ends.region ?_
  refine S.val hA (R.assign rfl) rfl ?_; clear hA a; intro a hA
  refine S.done ?_
  replace hA : St 26 [(0, _), (2, _)] a := hA.sub ((.cons rfl (.cons rfl .nil)))
  refine Ends.seq ?_
  refine Ends.seq ?_
  refine Ends.region ?_
  refine S.val hA (R.move rfl) rfl ?_; clear hA a; intro a hA
  refine S.val hA (R.eqlNil Try.underlying83 rfl rfl) rfl ?_; clear hA a; intro a hA
  refine S.done ?_
  replace hA : St 26 [(0, _), (2, _), (4, _)] a := hA.sub ((.cons rfl (.cons rfl (.cons rfl .nil))))
  refine Ends.condF hA rfl ?_
  refine Ends.skip ?_
  refine Ends.seq ?_
  refine Ends.seq ?_
  refine Ends.region ?_
  refine S.val hA (R.move rfl) rfl ?_; clear hA a; intro a hA
  refine S.val hA (R.nilCheck rfl) rfl ?_; clear hA a; intro a hA
  refine S.val hA (R.fieldAddr (q := 4) fi131_4 rfl rfl rfl) rfl ?_; clear hA a; intro a hA
  refine S.val hA (R.load sz129 rfl (hM.cell (k := 0) rfl rfl)) rfl ?_; clear hA a; intro a hA
  refine S.done ?_
  replace hA : St 26 [(0, _), (2, _), (8, _)] a := hA.sub ((.cons rfl (.cons rfl (.cons rfl .nil))))
  refine Ends.block ?_
  refine Ends.seq ?_
  refine Ends.region ?_
  refine S.val hA (R.ff (R.eql rfl rfl) (by first | decide | simp | omega)) rfl ?_; clear hA a; intro a hA
  refine S.val hA (R.assign rfl) rfl ?_; clear hA a; intro a hA
  refine S.done ?_
  replace hA : St 26 [(0, _), (2, _), (8, _), (9, _)] a := hA.sub ((.cons rfl (.cons rfl (.cons rfl (.cons rfl .nil)))))
  refine Ends.condF hA rfl ?_
  refine Ends.seq ?_
  refine Ends.region ?_
  refine S.val hA (R.tt (R.eql rfl rfl) (by first | decide | simp | omega)) rfl ?_; clear hA a; intro a hA
  refine S.val hA (R.assign rfl) rfl ?_; clear hA a; intro a hA
  refine S.done ?_
  replace hA : St 26 [(0, _), (2, _), (8, _), (13, _)] a := hA.sub ((.cons rfl (.cons rfl (.cons rfl (.cons rfl .nil)))))
  refine Ends.condT hA rfl ?_
  refine Ends.region ?_
  refine S.val hA (R.move rfl) rfl ?_; clear hA a; intro a hA
  refine S.call hA (R.callF Try.func79 rfl rfl rfl) rfl (pf_link p q m nb ns ob ws bs wr os av Y cap hwr hlen hos hY2 c l s o hmc hl hs sl tp nx htp hsl _ (hM.hereN 5)) ?_; clear hA a
  rintro e w1 ⟨op, rfl, hn⟩
  replace hM : Mem _ _ [pt p #[.pointer (some ⟨q, 0, none⟩), .int .i64 wr, .bool true, .int .i64 sl, .int .i64 2, .int .i64 tp, .int .i64 nx] 131, pt q #[.pointer (some ⟨m, 0, none⟩), .int .i64 bs, .slice (some ⟨nb, 0, none⟩) ns ns, .slice (some ⟨ob, 0, none⟩) ws ws] 128, pt ob ((vals os)) 43, own 3 1 (.slice av Y.length cap) Y.length (Y.map (Value.int .i64)), memO m c ((l.set (bs + 1 + sl).toNat (tp % 4294967296 - 1))) (s + 1) op] _ := hM.callL 5 hn; clear hn
  refine ⟨.tuple #[], rfl, fun a hA => ?_⟩
  refine S.done ?_
  replace hA : St 26 [(0, _), (2, _)] a := hA.sub ((.cons rfl (.cons rfl .nil)))
  refine Ends.inBlock ?_
  refine Ends.seq ?_
  refine Ends.region ?_
  refine S.val hA (R.move rfl) rfl ?_; clear hA a; intro a hA
  refine S.val hA (R.nilCheck rfl) rfl ?_; clear hA a; intro a hA
  refine S.val hA (R.fieldAddr (q := 4) fi131_4 rfl rfl rfl) rfl ?_; clear hA a; intro a hA
  refine S.val hA (R.load sz129 rfl (hM.cell (k := 0) rfl rfl)) rfl ?_; clear hA a; intro a hA
  refine S.val hA (R.ff (R.eql rfl rfl) (by first | decide | simp | omega)) rfl ?_; clear hA a; intro a hA
  refine S.val hA (R.assign rfl) rfl ?_; clear hA a; intro a hA
  refine S.done ?_
  replace hA : St 26 [(2, _)] a := hA.sub ((.cons rfl .nil))
  refine Ends.ret1 Try.func55 Try.results55 hA rfl ?_
  exact ⟨_, rfl, hM.firstN 5⟩
set_option maxRecDepth 100000 in
set_option maxHeartbeats 400000 in
theorem pf_next (p q m nb ns ob ws : Nat) (bs wr : Int) (os : List Value) (av : Option Addr) (Y : List Int) (cap : Nat) (hwr : 0 ≤ wr ∧ wr < ws) (hlen : os.length = ws) (hos : os[wr.toNat]? = some (.slice av Y.length cap)) (hY2 : Y.length ≤ 2) (c : Nat) (l : List Int) (s : Int) (o : CellOp) (hmc : m ≠ c) (hl : 0 ≤ bs ∧ bs + 1 ≤ l.length ∧ l.length ≤ 1000000) (hs : 0 ≤ s ∧ s < 9223372036854775806) (sl tp nx : Int) (htp : 0 ≤ tp ∧ tp < 4611686018427387904) (hsl : 0 ≤ tp % 4294967296 - 1 ∧ bs + 1 + (tp % 4294967296 - 1) < l.length) (w : World) (hM : Mem w (feet [pt p #[.pointer (some ⟨q, 0, none⟩), .int .i64 wr, .bool false, .int .i64 sl, .int .i64 1, .int .i64 tp, .int .i64 nx] 131, pt q #[.pointer (some ⟨m, 0, none⟩), .int .i64 bs, .slice (some ⟨nb, 0, none⟩) ns ns, .slice (some ⟨ob, 0, none⟩) ws ws] 128, pt ob ((vals os)) 43, own 3 1 (.slice av Y.length cap) Y.length (Y.map (Value.int .i64)), memO m c l s o]) [pt p #[.pointer (some ⟨q, 0, none⟩), .int .i64 wr, .bool false, .int .i64 sl, .int .i64 1, .int .i64 tp, .int .i64 nx] 131, pt q #[.pointer (some ⟨m, 0, none⟩), .int .i64 bs, .slice (some ⟨nb, 0, none⟩) ns ns, .slice (some ⟨ob, 0, none⟩) ws ws] 128, pt ob ((vals os)) 43, own 3 1 (.slice av Y.length cap) Y.length (Y.map (Value.int .i64)), memO m c l s o] w) :
    Calls Try.prog 79 #[.pointer (some ⟨p, 0, none⟩)] w fun e w' => ∃ op, e = .returned (.tuple #[]) ∧ Mem w (feet [pt p #[.pointer (some ⟨q, 0, none⟩), .int .i64 wr, .bool false, .int .i64 sl, .int .i64 1, .int .i64 tp, .int .i64 nx] 131, pt q #[.pointer (some ⟨m, 0, none⟩), .int .i64 bs, .slice (some ⟨nb, 0, none⟩) ns ns, .slice (some ⟨ob, 0, none⟩) ws ws] 128, pt ob ((vals os)) 43, own 3 1 (.slice av Y.length cap) Y.length (Y.map (Value.int .i64)), memO m c l s o]) [pt p #[.pointer (some ⟨q, 0, none⟩), .int .i64 wr, .bool false, .int .i64 sl, .int .i64 2, .int .i64 tp, .int .i64 (l.getD (bs + 1 + (tp % 4294967296 - 1)).toNat 0)] 131, pt q #[.pointer (some ⟨m, 0, none⟩), .int .i64 bs, .slice (some ⟨nb, 0, none⟩) ns ns, .slice (some ⟨ob, 0, none⟩) ws ws] 128, pt ob ((vals os)) 43, own 3 1 (.slice av Y.length cap) Y.length (Y.map (Value.int .i64)), memO m c l (s + 1) op] w' := by
  have hM0 : True := trivial  -- have hM
  refine Calls.of_ends (vs := [.pointer (some ⟨p, 0, none⟩)]) Try.func79 rfl Try.ntmps79 rfl ?_
  intro a hA
  replace hA : St 57 [(0, _)] a := hA
  refine Ends.seq ?_
  refine Ends.region ?_
  refine S.val hA (R.move rfl) rfl ?_; clear hA a; intro a hA
  refine S.val hA (R.nilCheck rfl) rfl ?_; clear hA a; intro a hA
  refine S.val hA (R.fieldAddr (q := 5) fi131_5 rfl rfl rfl) rfl ?_; clear hA a; intro a hA
  refine S.val hA (R.load sz3 rfl (hM.cell (k := 0) rfl rfl)) rfl ?_; clear hA a; intro a hA
  refine S.call hA (R.callF Try.func77 rfl rfl rfl) rfl (unpack_any tp (by omega) (by omega) _) ?_; clear hA a
  rintro e w1 ⟨rfl, rfl⟩
  refine ⟨.tuple #[.int .i64 (tp / 4294967296 % 1073741824), .int .i64 (tp % 4294967296 - 1)], rfl, fun a hA => ?_⟩
  refine S.val hA (R.move rfl) rfl ?_; clear hA a; intro a hA
  refine S.val hA (R.extract (v := .int .i64 (tp / 4294967296 % 1073741824)) rfl rfl) rfl ?_; clear hA a; intro a hA
  refine S.val hA (R.extract (v := .int .i64 (tp % 4294967296 - 1)) rfl rfl) rfl ?_; clear hA a; intro a hA
  refine S.val hA (R.assign rfl) rfl ?_; clear hA a; intro a hA
  refine S.val hA (R.assign rfl) rfl ?_; clear hA a; intro a hA
  refine S.done ?_
  replace hA : St 57 [(0, _), (3, _)] a := hA.sub ((.cons rfl (.cons rfl .nil)))
  refine Ends.seq ?_
  refine Ends.seq ?_
  refine Ends.region ?_
  refine S.val hA (R.move rfl) rfl ?_; clear hA a; intro a hA
  refine S.val hA (R.nilCheck rfl) rfl ?_; clear hA a; intro a hA
  refine S.val hA (R.fieldAddr (q := 2) fi131_2 rfl rfl rfl) rfl ?_; clear hA a; intro a hA
  refine S.val hA (R.load sz4 rfl (hM.cell (k := 0) rfl rfl)) rfl ?_; clear hA a; intro a hA
  refine S.done ?_
  replace hA : St 57 [(0, _), (3, _), (15, _)] a := hA.sub ((.cons rfl (.cons rfl (.cons rfl .nil))))
  refine Ends.condF hA rfl ?_
  refine Ends.drawn (Mem w (feet [pt p #[.pointer (some ⟨q, 0, none⟩), .int .i64 wr, .bool false, .int .i64 sl, .int .i64 1, .int .i64 tp, .int .i64 nx] 131, pt q #[.pointer (some ⟨m, 0, none⟩), .int .i64 bs, .slice (some ⟨nb, 0, none⟩) ns ns, .slice (some ⟨ob, 0, none⟩) ws ws] 128, pt ob ((vals os)) 43, own 3 1 (.slice av Y.length cap) Y.length (Y.map (Value.int .i64)), memO m c l s o]) [pt p #[.pointer (some ⟨q, 0, none⟩), .int .i64 wr, .bool false, .int .i64 sl, .int .i64 1, .int .i64 tp, .int .i64 nx] 131, pt q #[.pointer (some ⟨m, 0, none⟩), .int .i64 bs, .slice (some ⟨nb, 0, none⟩) ns ns, .slice (some ⟨ob, 0, none⟩) ws ws] 128, pt ob ((vals os)) 43, own 3 1 (.slice av Y.length cap) Y.length (Y.map (Value.int .i64))]) (.cons (0, true) (.cons (1, true) (.cons (2, true) (.cons (3, true) (.cons (4, true) (.cons (5, true) (.cons (6, true) (.cons (7, true) (.cons (8, true) (.cons (9, true) (.cons (10, true) (.cons (11, true) (.cons (12, true) (.cons (13, false) (.cons (14, false) (.cons (15, true) (.cons (16, true) (.cons (17, true) (.cons (18, true) (.cons (19, true) (.cons (20, false) .nil))))))))))))))))))))) 20 mixed (by kernel_rfl) (by kernel_rfl) (by kernel_rfl) (hM.drop 4).drew ?_
  replace hM := hM.drew
  refine D.valF hA rfl (fun _ => R.move rfl) rfl ?_; clear hA a; intro a hA
  refine D.valF hA rfl (fun _ => R.move rfl) rfl ?_; clear hA a; intro a hA
  refine D.valF hA rfl (fun _ => R.nilCheck rfl) rfl ?_; clear hA a; intro a hA
  refine D.valF hA rfl (fun _ => R.fieldAddr (q := 0) fi131_0 rfl rfl rfl) rfl ?_; clear hA a; intro a hA
  refine D.val hA rfl (by kernel_rfl) (fun _ hM => R.load sz72 rfl (hM.cell (k := 0) rfl rfl)) rfl ?_; clear hA a; intro a hA
  refine D.valF hA rfl (fun _ => R.nilCheck rfl) rfl ?_; clear hA a; intro a hA
  refine D.valF hA rfl (fun _ => R.fieldAddr (q := 0) fi128_0 rfl rfl rfl) rfl ?_; clear hA a; intro a hA
  refine D.val hA rfl (by kernel_rfl) (fun _ hM => R.load sz24 rfl (hM.cell (k := 1) rfl rfl)) rfl ?_; clear hA a; intro a hA
  refine D.valF hA rfl (fun _ => R.move rfl) rfl ?_; clear hA a; intro a hA
  refine D.valF hA rfl (fun _ => R.nilCheck rfl) rfl ?_; clear hA a; intro a hA
  refine D.valF hA rfl (fun _ => R.fieldAddr (q := 0) fi131_0 rfl rfl rfl) rfl ?_; clear hA a; intro a hA
  refine D.val hA rfl (by kernel_rfl) (fun _ hM => R.load sz72 rfl (hM.cell (k := 0) rfl rfl)) rfl ?_; clear hA a; intro a hA
  refine D.valF hA rfl (fun _ => R.move rfl) rfl ?_; clear hA a; intro a hA
  refine D.call hA rfl (R.callF Try.func76 rfl rfl rfl) rfl (plink q m nb ob ns ws bs (tp % 4294967296 - 1) (by omega) (by omega) _ (hM.block (k := 1) rfl)) ?_; clear hA a
  rintro e w2 ⟨rfl, rfl⟩
  refine ⟨.int .i64 (bs + 1 + (tp % 4294967296 - 1)), rfl, (hM.drop 4), fun a hA => ?_⟩
  refine D.call hA rfl (R.callF Try.func63 rfl rfl rfl) rfl (get_ok m c l s o hmc (bs + 1 + (tp % 4294967296 - 1)) (by omega) (by first | omega | (simp; omega)) (by omega) _ (hM.mem (k := 4) rfl)) ?_; clear hA a
  rintro e w3 ⟨rfl, hn⟩
  replace hM : Mem _ _ [memO m c ((l.set (bs + 1 + (tp % 4294967296 - 1)).toNat (l.getD (bs + 1 + (tp % 4294967296 - 1)).toNat 0))) (s + 1) ⟨1, bs + 1 + (tp % 4294967296 - 1), l.getD (bs + 1 + (tp % 4294967296 - 1)).toNat 0, l.getD (bs + 1 + (tp % 4294967296 - 1)).toNat 0, true⟩, pt p #[.pointer (some ⟨q, 0, none⟩), .int .i64 wr, .bool false, .int .i64 sl, .int .i64 1, .int .i64 tp, .int .i64 nx] 131, pt q #[.pointer (some ⟨m, 0, none⟩), .int .i64 bs, .slice (some ⟨nb, 0, none⟩) ns ns, .slice (some ⟨ob, 0, none⟩) ws ws] 128, pt ob ((vals os)) 43, own 3 1 (.slice av Y.length cap) Y.length (Y.map (Value.int .i64))] _ := hM.callW (k := 4) rfl hn (fun _ h => h); clear hn
  refine ⟨.tuple #[.int .i64 (l.getD (bs + 1 + (tp % 4294967296 - 1)).toNat 0), .int .i64 0], rfl, (hM.drop 0), fun a hA => ?_⟩
  refine D.valF hA rfl (fun _ => R.move rfl) rfl ?_; clear hA a; intro a hA
  refine D.valF hA rfl (fun _ => R.extract (v := .int .i64 (l.getD (bs + 1 + (tp % 4294967296 - 1)).toNat 0)) rfl rfl) rfl ?_; clear hA a; intro a hA
  refine D.valF hA rfl (fun _ => R.extract (v := .int .i64 0) rfl rfl) rfl ?_; clear hA a; intro a hA
  refine D.valF hA rfl (fun _ => R.nilCheck rfl) rfl ?_; clear hA a; intro a hA
  refine D.valF hA rfl (fun _ => R.fieldAddr (q := 6) fi131_6 rfl rfl rfl) rfl ?_; clear hA a; intro a hA
  refine D.store (k := 1) hA hM rfl sz3 rfl rfl rfl rfl rfl ?_; clear hM
  intro w4 hM; refine ⟨fun hne => absurd rfl hne, ?_⟩
  replace hM : Mem _ _ [memO m c ((l.set (bs + 1 + (tp % 4294967296 - 1)).toNat (l.getD (bs + 1 + (tp % 4294967296 - 1)).toNat 0))) (s + 1) ⟨1, bs + 1 + (tp % 4294967296 - 1), l.getD (bs + 1 + (tp % 4294967296 - 1)).toNat 0, l.getD (bs + 1 + (tp % 4294967296 - 1)).toNat 0, true⟩, pt p #[.pointer (some ⟨q, 0, none⟩), .int .i64 wr, .bool false, .int .i64 sl, .int .i64 1, .int .i64 tp, .int .i64 (l.getD (bs + 1 + (tp % 4294967296 - 1)).toNat 0)] 131, pt q #[.pointer (some ⟨m, 0, none⟩), .int .i64 bs, .slice (some ⟨nb, 0, none⟩) ns ns, .slice (some ⟨ob, 0, none⟩) ws ws] 128, pt ob ((vals os)) 43, own 3 1 (.slice av Y.length cap) Y.length (Y.map (Value.int .i64))] _ := hM
  refine D.done ?_
  replace hA : St 57 [(0, _)] a := hA.sub ((.cons rfl .nil))
  refine Ends.region ?_
  refine S.val hA (R.move rfl) rfl ?_; clear hA a; intro a hA
  refine S.val hA (R.nilCheck rfl) rfl ?_; clear hA a; intro a hA
  refine S.val hA (R.fieldAddr (q := 4) fi131_4 rfl rfl rfl) rfl ?_; clear hA a; intro a hA
  refine S.store (k := 1) hA hM sz129 rfl rfl rfl rfl rfl ?_; clear hM
  intro w5 hM
  replace hM : Mem _ _ [memO m c ((l.set (bs + 1 + (tp % 4294967296 - 1)).toNat (l.getD (bs + 1 + (tp % 4294967296 - 1)).toNat 0))) (s + 1) ⟨1, bs + 1 + (tp % 4294967296 - 1), l.getD (bs + 1 + (tp % 4294967296 - 1)).toNat 0, l.getD (bs + 1 + (tp % 4294967296 - 1)).toNat 0, true⟩, pt p #[.pointer (some ⟨q, 0, none⟩), .int .i64 wr, .bool false, .int .i64 sl, .int .i64 2, .int .i64 tp, .int .i64 (l.getD (bs + 1 + (tp % 4294967296 - 1)).toNat 0)] 131, pt q #[.pointer (some ⟨m, 0, none⟩), .int .i64 bs, .slice (some ⟨nb, 0, none⟩) ns ns, .slice (some ⟨ob, 0, none⟩) ws ws] 128, pt ob ((vals os)) 43, own 3 1 (.slice av Y.length cap) Y.length (Y.map (Value.int .i64))] _ := hM
  refine S.done ?_
  replace hA : St 57 [] a := hA.sub (.nil)
  refine Ends.end0 Try.func79 Try.results79 hA ?_
  replace hM := hM.front (k := 4) rfl
  replace hM := hM.front (k := 4) rfl
  replace hM := hM.front (k := 4) rfl
  replace hM := hM.front (k := 4) rfl
  replace hM : Mem _ _ [pt p #[.pointer (some ⟨q, 0, none⟩), .int .i64 wr, .bool false, .int .i64 sl, .int .i64 2, .int .i64 tp, .int .i64 (l.getD (bs + 1 + (tp % 4294967296 - 1)).toNat 0)] 131, pt q #[.pointer (some ⟨m, 0, none⟩), .int .i64 bs, .slice (some ⟨nb, 0, none⟩) ns ns, .slice (some ⟨ob, 0, none⟩) ws ws] 128, pt ob ((vals os)) 43, own 3 1 (.slice av Y.length cap) Y.length (Y.map (Value.int .i64)), memO m c ((l.set (bs + 1 + (tp % 4294967296 - 1)).toNat (l.getD (bs + 1 + (tp % 4294967296 - 1)).toNat 0))) (s + 1) ⟨1, bs + 1 + (tp % 4294967296 - 1), l.getD (bs + 1 + (tp % 4294967296 - 1)).toNat 0, l.getD (bs + 1 + (tp % 4294967296 - 1)).toNat 0, true⟩] _ := hM
  rw [set_getD l ((bs + 1 + (tp % 4294967296 - 1))).toNat (by omega)] at hM
  exact ⟨_, rfl, hM.firstN 5⟩
set_option maxRecDepth 100000 in
set_option maxHeartbeats 400000 in
theorem Spf_next (p q m nb ns ob ws : Nat) (bs wr : Int) (os : List Value) (av : Option Addr) (Y : List Int) (cap : Nat) (hwr : 0 ≤ wr ∧ wr < ws) (hlen : os.length = ws) (hos : os[wr.toNat]? = some (.slice av Y.length cap)) (hY2 : Y.length ≤ 2) (c : Nat) (l : List Int) (s : Int) (o : CellOp) (hmc : m ≠ c) (hl : 0 ≤ bs ∧ bs + 1 ≤ l.length ∧ l.length ≤ 1000000) (hs : 0 ≤ s ∧ s < 9223372036854775806) (sl tp nx : Int) (htp : 0 ≤ tp ∧ tp < 4611686018427387904) (hsl : 0 ≤ tp % 4294967296 - 1 ∧ bs + 1 + (tp % 4294967296 - 1) < l.length) (w : World) (hM : Mem w (feet [pt p #[.pointer (some ⟨q, 0, none⟩), .int .i64 wr, .bool false, .int .i64 sl, .int .i64 1, .int .i64 tp, .int .i64 nx] 131, pt q #[.pointer (some ⟨m, 0, none⟩), .int .i64 bs, .slice (some ⟨nb, 0, none⟩) ns ns, .slice (some ⟨ob, 0, none⟩) ws ws] 128, pt ob ((vals os)) 43, own 3 1 (.slice av Y.length cap) Y.length (Y.map (Value.int .i64)), memO m c l s o]) [pt p #[.pointer (some ⟨q, 0, none⟩), .int .i64 wr, .bool false, .int .i64 sl, .int .i64 1, .int .i64 tp, .int .i64 nx] 131, pt q #[.pointer (some ⟨m, 0, none⟩), .int .i64 bs, .slice (some ⟨nb, 0, none⟩) ns ns, .slice (some ⟨ob, 0, none⟩) ws ws] 128, pt ob ((vals os)) 43, own 3 1 (.slice av Y.length cap) Y.length (Y.map (Value.int .i64)), memO m c l s o] w) :
    Calls Try.prog 55 #[.pointer (some ⟨p, 0, none⟩)] w fun e w' => ∃ op, e = .returned (.bool false) ∧ Mem w (feet [pt p #[.pointer (some ⟨q, 0, none⟩), .int .i64 wr, .bool false, .int .i64 sl, .int .i64 1, .int .i64 tp, .int .i64 nx] 131, pt q #[.pointer (some ⟨m, 0, none⟩), .int .i64 bs, .slice (some ⟨nb, 0, none⟩) ns ns, .slice (some ⟨ob, 0, none⟩) ws ws] 128, pt ob ((vals os)) 43, own 3 1 (.slice av Y.length cap) Y.length (Y.map (Value.int .i64)), memO m c l s o]) [pt p #[.pointer (some ⟨q, 0, none⟩), .int .i64 wr, .bool false, .int .i64 sl, .int .i64 2, .int .i64 tp, .int .i64 (l.getD (bs + 1 + (tp % 4294967296 - 1)).toNat 0)] 131, pt q #[.pointer (some ⟨m, 0, none⟩), .int .i64 bs, .slice (some ⟨nb, 0, none⟩) ns ns, .slice (some ⟨ob, 0, none⟩) ws ws] 128, pt ob ((vals os)) 43, own 3 1 (.slice av Y.length cap) Y.length (Y.map (Value.int .i64)), memO m c l (s + 1) op] w' := by
  have hM0 : True := trivial  -- have hM
  refine Calls.of_ends (vs := [.pointer (some ⟨p, 0, none⟩)]) Try.func55 rfl Try.ntmps55 rfl ?_
  intro a hA
  replace hA : St 26 [(0, _)] a := hA
  refine Ends.seq ?_
  refine Ends.region ?_
  refine S.val hA (R.assign rfl) rfl ?_; clear hA a; intro a hA
  refine S.done ?_
  replace hA : St 26 [(0, _), (2, _)] a := hA.sub ((.cons rfl (.cons rfl .nil)))
  refine Ends.seq ?_
  refine Ends.seq ?_
  refine Ends.region ?_
  refine S.val hA (R.move rfl) rfl ?_; clear hA a; intro a hA
  refine S.val hA (R.eqlNil Try.underlying83 rfl rfl) rfl ?_; clear hA a; intro a hA
  refine S.done ?_
  replace hA : St 26 [(0, _), (2, _), (4, _)] a := hA.sub ((.cons rfl (.cons rfl (.cons rfl .nil))))
  refine Ends.condF hA rfl ?_
  refine Ends.skip ?_
  refine Ends.seq ?_
  refine Ends.seq ?_
  refine Ends.region ?_
  refine S.val hA (R.move rfl) rfl ?_; clear hA a; intro a hA
  refine S.val hA (R.nilCheck rfl) rfl ?_; clear hA a; intro a hA
  refine S.val hA (R.fieldAddr (q := 4) fi131_4 rfl rfl rfl) rfl ?_; clear hA a; intro a hA
  refine S.val hA (R.load sz129 rfl (hM.cell (k := 0) rfl rfl)) rfl ?_; clear hA a; intro a hA
  refine S.done ?_
  replace hA : St 26 [(0, _), (2, _), (8, _)] a := hA.sub ((.cons rfl (.cons rfl (.cons rfl .nil))))
  refine Ends.block ?_
  refine Ends.seq ?_
  refine Ends.region ?_
  refine S.val hA (R.ff (R.eql rfl rfl) (by first | decide | simp | omega)) rfl ?_; clear hA a; intro a hA
  refine S.val hA (R.assign rfl) rfl ?_; clear hA a; intro a hA
  refine S.done ?_
  replace hA : St 26 [(0, _), (2, _), (8, _), (9, _)] a := hA.sub ((.cons rfl (.cons rfl (.cons rfl (.cons rfl .nil)))))
  refine Ends.condF hA rfl ?_
  refine Ends.seq ?_
  refine Ends.region ?_
  refine S.val hA (R.tt (R.eql rfl rfl) (by first | decide | simp | omega)) rfl ?_; clear hA a; intro a hA
  refine S.val hA (R.assign rfl) rfl ?_; clear hA a; intro a hA
  refine S.done ?_
  replace hA : St 26 [(0, _), (2, _), (8, _), (13, _)] a := hA.sub ((.cons rfl (.cons rfl (.cons rfl (.cons rfl .nil)))))
  refine Ends.condT hA rfl ?_
  refine Ends.region ?_
  refine S.val hA (R.move rfl) rfl ?_; clear hA a; intro a hA
  refine S.call hA (R.callF Try.func79 rfl rfl rfl) rfl (pf_next p q m nb ns ob ws bs wr os av Y cap hwr hlen hos hY2 c l s o hmc hl hs sl tp nx htp hsl _ (hM.hereN 5)) ?_; clear hA a
  rintro e w1 ⟨op, rfl, hn⟩
  replace hM : Mem _ _ [pt p #[.pointer (some ⟨q, 0, none⟩), .int .i64 wr, .bool false, .int .i64 sl, .int .i64 2, .int .i64 tp, .int .i64 (l.getD (bs + 1 + (tp % 4294967296 - 1)).toNat 0)] 131, pt q #[.pointer (some ⟨m, 0, none⟩), .int .i64 bs, .slice (some ⟨nb, 0, none⟩) ns ns, .slice (some ⟨ob, 0, none⟩) ws ws] 128, pt ob ((vals os)) 43, own 3 1 (.slice av Y.length cap) Y.length (Y.map (Value.int .i64)), memO m c l (s + 1) op] _ := hM.callL 5 hn; clear hn
  refine ⟨.tuple #[], rfl, fun a hA => ?_⟩
  refine S.done ?_
  replace hA : St 26 [(0, _), (2, _)] a := hA.sub ((.cons rfl (.cons rfl .nil)))
  refine Ends.inBlock ?_
  refine Ends.seq ?_
  refine Ends.region ?_
  refine S.val hA (R.move rfl) rfl ?_; clear hA a; intro a hA
  refine S.val hA (R.nilCheck rfl) rfl ?_; clear hA a; intro a hA
  refine S.val hA (R.fieldAddr (q := 4) fi131_4 rfl rfl rfl) rfl ?_; clear hA a; intro a hA
  refine S.val hA (R.load sz129 rfl (hM.cell (k := 0) rfl rfl)) rfl ?_; clear hA a; intro a hA
  refine S.val hA (R.ff (R.eql rfl rfl) (by first | decide | simp | omega)) rfl ?_; clear hA a; intro a hA
  refine S.val hA (R.assign rfl) rfl ?_; clear hA a; intro a hA
  refine S.done ?_
  replace hA : St 26 [(2, _)] a := hA.sub ((.cons rfl .nil))
  refine Ends.ret1 Try.func55 Try.results55 hA rfl ?_
  exact ⟨_, rfl, hM.firstN 5⟩
set_option maxRecDepth 100000 in
set_option maxHeartbeats 400000 in
theorem pf_push (p q m nb ns ob ws : Nat) (bs wr : Int) (os : List Value) (av : Option Addr) (Y : List Int) (cap : Nat) (hwr : 0 ≤ wr ∧ wr < ws) (hlen : os.length = ws) (hos : os[wr.toNat]? = some (.slice av Y.length cap)) (hY2 : Y.length ≤ 2) (c : Nat) (l : List Int) (s : Int) (o : CellOp) (hmc : m ≠ c) (hl : 0 ≤ bs ∧ bs + 1 ≤ l.length ∧ l.length ≤ 1000000) (hs : 0 ≤ s ∧ s < 9223372036854775806) (sl tp nx : Int) (htp : 0 ≤ tp ∧ tp < 4611686018427387904) (hh : l.getD bs.toNat 0 = tp) (w : World) (hM : Mem w (feet [pt p #[.pointer (some ⟨q, 0, none⟩), .int .i64 wr, .bool true, .int .i64 sl, .int .i64 2, .int .i64 tp, .int .i64 nx] 131, pt q #[.pointer (some ⟨m, 0, none⟩), .int .i64 bs, .slice (some ⟨nb, 0, none⟩) ns ns, .slice (some ⟨ob, 0, none⟩) ws ws] 128, pt ob ((vals os)) 43, own 3 1 (.slice av Y.length cap) Y.length (Y.map (Value.int .i64)), memO m c l s o]) [pt p #[.pointer (some ⟨q, 0, none⟩), .int .i64 wr, .bool true, .int .i64 sl, .int .i64 2, .int .i64 tp, .int .i64 nx] 131, pt q #[.pointer (some ⟨m, 0, none⟩), .int .i64 bs, .slice (some ⟨nb, 0, none⟩) ns ns, .slice (some ⟨ob, 0, none⟩) ws ws] 128, pt ob ((vals os)) 43, own 3 1 (.slice av Y.length cap) Y.length (Y.map (Value.int .i64)), memO m c l s o] w) :
    Calls Try.prog 80 #[.pointer (some ⟨p, 0, none⟩)] w fun e w' => ∃ op, e = .returned (.tuple #[]) ∧ Mem w (feet [pt p #[.pointer (some ⟨q, 0, none⟩), .int .i64 wr, .bool true, .int .i64 sl, .int .i64 2, .int .i64 tp, .int .i64 nx] 131, pt q #[.pointer (some ⟨m, 0, none⟩), .int .i64 bs, .slice (some ⟨nb, 0, none⟩) ns ns, .slice (some ⟨ob, 0, none⟩) ws ws] 128, pt ob ((vals os)) 43, own 3 1 (.slice av Y.length cap) Y.length (Y.map (Value.int .i64)), memO m c l s o]) [pt p #[.pointer (some ⟨q, 0, none⟩), .int .i64 wr, .bool true, .int .i64 sl, .int .i64 3, .int .i64 tp, .int .i64 nx] 131, pt q #[.pointer (some ⟨m, 0, none⟩), .int .i64 bs, .slice (some ⟨nb, 0, none⟩) ns ns, .slice (some ⟨ob, 0, none⟩) ws ws] 128, pt ob ((vals os)) 43, own 3 1 (.slice av Y.length cap) Y.length (Y.map (Value.int .i64)), memO m c ((l.set bs.toNat (packI (tp / 4294967296 % 1073741824 + 1) sl))) (s + 1) op] w' := by
  have hM0 : True := trivial  -- have hM
  refine Calls.of_ends (vs := [.pointer (some ⟨p, 0, none⟩)]) Try.func80 rfl Try.ntmps80 rfl ?_
  intro a hA
  replace hA : St 68 [(0, _)] a := hA
  refine Ends.seq ?_
  refine Ends.region ?_
  refine S.val hA (R.move rfl) rfl ?_; clear hA a; intro a hA
  refine S.val hA (R.nilCheck rfl) rfl ?_; clear hA a; intro a hA
  refine S.val hA (R.fieldAddr (q := 6) fi131_6 rfl rfl rfl) rfl ?_; clear hA a; intro a hA
  refine S.val hA (R.load sz3 rfl (hM.cell (k := 0) rfl rfl)) rfl ?_; clear hA a; intro a hA
  refine S.val hA (R.assign rfl) rfl ?_; clear hA a; intro a hA
  refine S.done ?_
  replace hA : St 68 [(0, _), (2, _)] a := hA.sub ((.cons rfl (.cons rfl .nil)))
  refine Ends.seq ?_
  refine Ends.seq ?_
  refine Ends.region ?_
  refine S.val hA (R.move rfl) rfl ?_; clear hA a; intro a hA
  refine S.val hA (R.nilCheck rfl) rfl ?_; clear hA a; intro a hA
  refine S.val hA (R.fieldAddr (q := 2) fi131_2 rfl rfl rfl) rfl ?_; clear hA a; intro a hA
  refine S.val hA (R.load sz4 rfl (hM.cell (k := 0) rfl rfl)) rfl ?_; clear hA a; intro a hA
  refine S.done ?_
  replace hA : St 68 [(0, _), (2, _), (12, _)] a := hA.sub ((.cons rfl (.cons rfl (.cons rfl .nil))))
  refine Ends.condT hA rfl ?_
  refine Ends.region ?_
  refine S.val hA (R.move rfl) rfl ?_; clear hA a; intro a hA
  refine S.val hA (R.nilCheck rfl) rfl ?_; clear hA a; intro a hA
  refine S.val hA (R.fieldAddr (q := 3) fi131_3 rfl rfl rfl) rfl ?_; clear hA a; intro a hA
  refine S.val hA (R.load sz3 rfl (hM.cell (k := 0) rfl rfl)) rfl ?_; clear hA a; intro a hA
  refine S.val hA (R.assign rfl) rfl ?_; clear hA a; intro a hA
  refine S.done ?_
  replace hA : St 68 [(0, _), (2, _)] a := hA.sub ((.cons rfl (.cons rfl .nil)))
  refine Ends.seq ?_
  refine Ends.drawn (Mem w (feet [pt p #[.pointer (some ⟨q, 0, none⟩), .int .i64 wr, .bool true, .int .i64 sl, .int .i64 2, .int .i64 tp, .int .i64 nx] 131, pt q #[.pointer (some ⟨m, 0, none⟩), .int .i64 bs, .slice (some ⟨nb, 0, none⟩) ns ns, .slice (some ⟨ob, 0, none⟩) ws ws] 128, pt ob ((vals os)) 43, own 3 1 (.slice av Y.length cap) Y.length (Y.map (Value.int .i64)), memO m c l s o]) [pt p #[.pointer (some ⟨q, 0, none⟩), .int .i64 wr, .bool true, .int .i64 sl, .int .i64 2, .int .i64 tp, .int .i64 nx] 131, pt q #[.pointer (some ⟨m, 0, none⟩), .int .i64 bs, .slice (some ⟨nb, 0, none⟩) ns ns, .slice (some ⟨ob, 0, none⟩) ws ws] 128, pt ob ((vals os)) 43, own 3 1 (.slice av Y.length cap) Y.length (Y.map (Value.int .i64))]) (.cons (0, true) (.cons (1, true) (.cons (2, true) (.cons (3, true) (.cons (4, true) (.cons (5, true) (.cons (6, true) (.cons (7, true) (.cons (8, true) (.cons (9, true) (.cons (10, true) (.cons (11, true) (.cons (12, true) (.cons (13, true) (.cons (14, true) (.cons (15, true) (.cons (16, true) (.cons (17, true) (.cons (18, true) (.cons (19, true) (.cons (20, true) (.cons (21, true) (.cons (22, true) (.cons (23, false) (.cons (24, false) (.cons (25, true) (.cons (26, true) (.cons (27, true) (.cons (28, true) (.cons (29, true) .nil)))))))))))))))))))))))))))))) 30 mixed (by kernel_rfl) (by kernel_rfl) (by kernel_rfl) (hM.drop 4).drew ?_
  replace hM := hM.drew
  refine D.valF hA rfl (fun _ => R.move rfl) rfl ?_; clear hA a; intro a hA
  refine D.valF hA rfl (fun _ => R.nilCheck rfl) rfl ?_; clear hA a; intro a hA
  refine D.valF hA rfl (fun _ => R.fieldAddr (q := 0) fi131_0 rfl rfl rfl) rfl ?_; clear hA a; intro a hA
  refine D.val hA rfl (by kernel_rfl) (fun _ hM => R.load sz72 rfl (hM.cell (k := 0) rfl rfl)) rfl ?_; clear hA a; intro a hA
  refine D.valF hA rfl (fun _ => R.nilCheck rfl) rfl ?_; clear hA a; intro a hA
  refine D.valF hA rfl (fun _ => R.fieldAddr (q := 0) fi128_0 rfl rfl rfl) rfl ?_; clear hA a; intro a hA
  refine D.val hA rfl (by kernel_rfl) (fun _ hM => R.load sz24 rfl (hM.cell (k := 1) rfl rfl)) rfl ?_; clear hA a; intro a hA
  refine D.valF hA rfl (fun _ => R.move rfl) rfl ?_; clear hA a; intro a hA
  refine D.valF hA rfl (fun _ => R.nilCheck rfl) rfl ?_; clear hA a; intro a hA
  refine D.valF hA rfl (fun _ => R.fieldAddr (q := 0) fi131_0 rfl rfl rfl) rfl ?_; clear hA a; intro a hA
  refine D.val hA rfl (by kernel_rfl) (fun _ hM => R.load sz72 rfl (hM.cell (k := 0) rfl rfl)) rfl ?_; clear hA a; intro a hA
  refine D.valF hA rfl (fun _ => R.nilCheck rfl) rfl ?_; clear hA a; intro a hA
  refine D.valF hA rfl (fun _ => R.fieldAddr (q := 1) fi128_1 rfl rfl rfl) rfl ?_; clear hA a; intro a hA
  refine D.val hA rfl (by kernel_rfl) (fun _ hM => R.load sz3 rfl (hM.cell (k := 1) rfl rfl)) rfl ?_; clear hA a; intro a hA
  refine D.valF hA rfl (fun _ => R.move rfl) rfl ?_; clear hA a; intro a hA
  refine D.valF hA rfl (fun _ => R.nilCheck rfl) rfl ?_; clear hA a; intro a hA
  refine D.valF hA rfl (fun _ => R.fieldAddr (q := 5) fi131_5 rfl rfl rfl) rfl ?_; clear hA a; intro a hA
  refine D.val hA rfl (by kernel_rfl) (fun _ hM => R.load sz3 rfl (hM.cell (k := 0) rfl rfl)) rfl ?_; clear hA a; intro a hA
  refine D.valF hA rfl (fun _ => R.move rfl) rfl ?_; clear hA a; intro a hA
  refine D.valF hA rfl (fun _ => R.nilCheck rfl) rfl ?_; clear hA a; intro a hA
  refine D.valF hA rfl (fun _ => R.fieldAddr (q := 5) fi131_5 rfl rfl rfl) rfl ?_; clear hA a; intro a hA
  refine D.val hA rfl (by kernel_rfl) (fun _ hM => R.load sz3 rfl (hM.cell (k := 0) rfl rfl)) rfl ?_; clear hA a; intro a hA
  refine D.valF hA rfl (fun _ => R.move rfl) rfl ?_; clear hA a; intro a hA
  refine D.call hA rfl (R.callF Try.func86 rfl rfl rfl) rfl (up_any tp sl (by omega) (by omega) _) ?_; clear hA a
  rintro e w1 ⟨rfl, rfl⟩
  refine ⟨.int .i64 (packI (tp / 4294967296 % 1073741824 + 1) sl), rfl, (hM.drop 4), fun a hA => ?_⟩
  refine D.call hA rfl (R.callF Try.func61 rfl rfl rfl) rfl (cas_hit m c l s o hmc bs tp (packI (tp / 4294967296 % 1073741824 + 1) sl) (by omega) (by first | omega | (simp; omega)) (by omega) hh _ (hM.mem (k := 4) rfl)) ?_; clear hA a
  rintro e w2 ⟨rfl, hn⟩
  replace hM : Mem _ _ [memO m c ((l.set bs.toNat (packI (tp / 4294967296 % 1073741824 + 1) sl))) (s + 1) ⟨3, bs, l.getD bs.toNat 0, packI (tp / 4294967296 % 1073741824 + 1) sl, true⟩, pt p #[.pointer (some ⟨q, 0, none⟩), .int .i64 wr, .bool true, .int .i64 sl, .int .i64 2, .int .i64 tp, .int .i64 nx] 131, pt q #[.pointer (some ⟨m, 0, none⟩), .int .i64 bs, .slice (some ⟨nb, 0, none⟩) ns ns, .slice (some ⟨ob, 0, none⟩) ws ws] 128, pt ob ((vals os)) 43, own 3 1 (.slice av Y.length cap) Y.length (Y.map (Value.int .i64))] _ := hM.callW (k := 4) rfl hn (fun _ h => h); clear hn
  refine ⟨.tuple #[.bool true, .int .i64 0], rfl, (hM.drop 0), fun a hA => ?_⟩
  refine D.valF hA rfl (fun _ => R.move rfl) rfl ?_; clear hA a; intro a hA
  refine D.valF hA rfl (fun _ => R.extract (v := .bool true) rfl rfl) rfl ?_; clear hA a; intro a hA
  refine D.valF hA rfl (fun _ => R.extract (v := .int .i64 0) rfl rfl) rfl ?_; clear hA a; intro a hA
  refine D.valF hA rfl (fun _ => R.assign rfl) rfl ?_; clear hA a; intro a hA
  refine D.valF hA rfl (fun _ => R.assign rfl) rfl ?_; clear hA a; intro a hA
  refine D.done ?_
  replace hA : St 68 [(0, _), (3, _)] a := hA.sub ((.cons rfl (.cons rfl .nil)))
  refine Ends.seq ?_
  refine Ends.region ?_
  refine S.val hA (R.move rfl) rfl ?_; clear hA a; intro a hA
  refine S.val hA (R.nilCheck rfl) rfl ?_; clear hA a; intro a hA
  refine S.val hA (R.fieldAddr (q := 4) fi131_4 rfl rfl rfl) rfl ?_; clear hA a; intro a hA
  refine S.store (k := 1) hA hM sz129 rfl rfl rfl rfl rfl ?_; clear hM
  intro w3 hM
  replace hM : Mem _ _ [memO m c ((l.set bs.toNat (packI (tp / 4294967296 % 1073741824 + 1) sl))) (s + 1) ⟨3, bs, l.getD bs.toNat 0, packI (tp / 4294967296 % 1073741824 + 1) sl, true⟩, pt p #[.pointer (some ⟨q, 0, none⟩), .int .i64 wr, .bool true, .int .i64 sl, .int .i64 0, .int .i64 tp, .int .i64 nx] 131, pt q #[.pointer (some ⟨m, 0, none⟩), .int .i64 bs, .slice (some ⟨nb, 0, none⟩) ns ns, .slice (some ⟨ob, 0, none⟩) ws ws] 128, pt ob ((vals os)) 43, own 3 1 (.slice av Y.length cap) Y.length (Y.map (Value.int .i64))] _ := hM
  refine S.done ?_
  replace hA : St 68 [(0, _), (3, _)] a := hA.sub ((.cons rfl (.cons rfl .nil)))
  refine Ends.seq ?_
  refine Ends.region ?_
  refine S.val hA (R.move rfl) rfl ?_; clear hA a; intro a hA
  refine S.done ?_
  replace hA : St 68 [(0, _), (48, _)] a := hA.sub ((.cons rfl (.cons rfl .nil)))
  refine Ends.condT hA rfl ?_
  refine Ends.seq ?_
  refine Ends.region ?_
  refine S.val hA (R.move rfl) rfl ?_; clear hA a; intro a hA
  refine S.val hA (R.nilCheck rfl) rfl ?_; clear hA a; intro a hA
  refine S.val hA (R.fieldAddr (q := 4) fi131_4 rfl rfl rfl) rfl ?_; clear hA a; intro a hA
  refine S.store (k := 1) hA hM sz129 rfl rfl rfl rfl rfl ?_; clear hM
  intro w4 hM
  replace hM : Mem _ _ [memO m c ((l.set bs.toNat (packI (tp / 4294967296 % 1073741824 + 1) sl))) (s + 1) ⟨3, bs, l.getD bs.toNat 0, packI (tp / 4294967296 % 1073741824 + 1) sl, true⟩, pt p #[.pointer (some ⟨q, 0, none⟩), .int .i64 wr, .bool true, .int .i64 sl, .int .i64 3, .int .i64 tp, .int .i64 nx] 131, pt q #[.pointer (some ⟨m, 0, none⟩), .int .i64 bs, .slice (some ⟨nb, 0, none⟩) ns ns, .slice (some ⟨ob, 0, none⟩) ws ws] 128, pt ob ((vals os)) 43, own 3 1 (.slice av Y.length cap) Y.length (Y.map (Value.int .i64))] _ := hM
  refine S.done ?_
  replace hA : St 68 [(0, _)] a := hA.sub ((.cons rfl .nil))
  refine Ends.seq ?_
  refine Ends.region ?_
  refine S.val hA (R.move rfl) rfl ?_; clear hA a; intro a hA
  refine S.val hA (R.nilCheck rfl) rfl ?_; clear hA a; intro a hA
  refine S.val hA (R.fieldAddr (q := 2) fi131_2 rfl rfl rfl) rfl ?_; clear hA a; intro a hA
  refine S.val hA (R.load sz4 rfl (hM.cell (k := 1) rfl rfl)) rfl ?_; clear hA a; intro a hA
  refine S.val hA (R.not rfl) rfl ?_; clear hA a; intro a hA
  refine S.done ?_
  replace hA : St 68 [(0, _), (56, _)] a := hA.sub ((.cons rfl (.cons rfl .nil)))
  refine Ends.condF hA rfl ?_
  refine Ends.skip ?_
  refine Ends.end0 Try.func80 Try.results80 hA ?_
  replace hM := hM.front (k := 4) rfl
  replace hM := hM.front (k := 4) rfl
  replace hM := hM.front (k := 4) rfl
  replace hM := hM.front (k := 4) rfl
  replace hM : Mem _ _ [pt p #[.pointer (some ⟨q, 0, none⟩), .int .i64 wr, .bool true, .int .i64 sl, .int .i64 3, .int .i64 tp, .int .i64 nx] 131, pt q #[.pointer (some ⟨m, 0, none⟩), .int .i64 bs, .slice (some ⟨nb, 0, none⟩) ns ns, .slice (some ⟨ob, 0, none⟩) ws ws] 128, pt ob ((vals os)) 43, own 3 1 (.slice av Y.length cap) Y.length (Y.map (Value.int .i64)), memO m c ((l.set bs.toNat (packI (tp / 4294967296 % 1073741824 + 1) sl))) (s + 1) ⟨3, bs, l.getD bs.toNat 0, packI (tp / 4294967296 % 1073741824 + 1) sl, true⟩] _ := hM
  exact ⟨_, rfl, hM.firstN 5⟩
set_option maxRecDepth 100000 in
set_option maxHeartbeats 400000 in
theorem Spf_push (p q m nb ns ob ws : Nat) (bs wr : Int) (os : List Value) (av : Option Addr) (Y : List Int) (cap : Nat) (hwr : 0 ≤ wr ∧ wr < ws) (hlen : os.length = ws) (hos : os[wr.toNat]? = some (.slice av Y.length cap)) (hY2 : Y.length ≤ 2) (c : Nat) (l : List Int) (s : Int) (o : CellOp) (hmc : m ≠ c) (hl : 0 ≤ bs ∧ bs + 1 ≤ l.length ∧ l.length ≤ 1000000) (hs : 0 ≤ s ∧ s < 9223372036854775806) (sl tp nx : Int) (htp : 0 ≤ tp ∧ tp < 4611686018427387904) (hh : l.getD bs.toNat 0 = tp) (w : World) (hM : Mem w (feet [pt p #[.pointer (some ⟨q, 0, none⟩), .int .i64 wr, .bool true, .int .i64 sl, .int .i64 2, .int .i64 tp, .int .i64 nx] 131, pt q #[.pointer (some ⟨m, 0, none⟩), .int .i64 bs, .slice (some ⟨nb, 0, none⟩) ns ns, .slice (some ⟨ob, 0, none⟩) ws ws] 128, pt ob ((vals os)) 43, own 3 1 (.slice av Y.length cap) Y.length (Y.map (Value.int .i64)), memO m c l s o]) [pt p #[.pointer (some ⟨q, 0, none⟩), .int .i64 wr, .bool true, .int .i64 sl, .int .i64 2, .int .i64 tp, .int .i64 nx] 131, pt q #[.pointer (some ⟨m, 0, none⟩), .int .i64 bs, .slice (some ⟨nb, 0, none⟩) ns ns, .slice (some ⟨ob, 0, none⟩) ws ws] 128, pt ob ((vals os)) 43, own 3 1 (.slice av Y.length cap) Y.length (Y.map (Value.int .i64)), memO m c l s o] w) :
    Calls Try.prog 55 #[.pointer (some ⟨p, 0, none⟩)] w fun e w' => ∃ op, e = .returned (.bool true) ∧ Mem w (feet [pt p #[.pointer (some ⟨q, 0, none⟩), .int .i64 wr, .bool true, .int .i64 sl, .int .i64 2, .int .i64 tp, .int .i64 nx] 131, pt q #[.pointer (some ⟨m, 0, none⟩), .int .i64 bs, .slice (some ⟨nb, 0, none⟩) ns ns, .slice (some ⟨ob, 0, none⟩) ws ws] 128, pt ob ((vals os)) 43, own 3 1 (.slice av Y.length cap) Y.length (Y.map (Value.int .i64)), memO m c l s o]) [pt p #[.pointer (some ⟨q, 0, none⟩), .int .i64 wr, .bool true, .int .i64 sl, .int .i64 3, .int .i64 tp, .int .i64 nx] 131, pt q #[.pointer (some ⟨m, 0, none⟩), .int .i64 bs, .slice (some ⟨nb, 0, none⟩) ns ns, .slice (some ⟨ob, 0, none⟩) ws ws] 128, pt ob ((vals os)) 43, own 3 1 (.slice av Y.length cap) Y.length (Y.map (Value.int .i64)), memO m c ((l.set bs.toNat (packI (tp / 4294967296 % 1073741824 + 1) sl))) (s + 1) op] w' := by
  have hM0 : True := trivial  -- have hM
  refine Calls.of_ends (vs := [.pointer (some ⟨p, 0, none⟩)]) Try.func55 rfl Try.ntmps55 rfl ?_
  intro a hA
  replace hA : St 26 [(0, _)] a := hA
  refine Ends.seq ?_
  refine Ends.region ?_
  refine S.val hA (R.assign rfl) rfl ?_; clear hA a; intro a hA
  refine S.done ?_
  replace hA : St 26 [(0, _), (2, _)] a := hA.sub ((.cons rfl (.cons rfl .nil)))
  refine Ends.seq ?_
  refine Ends.seq ?_
  refine Ends.region ?_
  refine S.val hA (R.move rfl) rfl ?_; clear hA a; intro a hA
  refine S.val hA (R.eqlNil Try.underlying83 rfl rfl) rfl ?_; clear hA a; intro a hA
  refine S.done ?_
  replace hA : St 26 [(0, _), (2, _), (4, _)] a := hA.sub ((.cons rfl (.cons rfl (.cons rfl .nil))))
  refine Ends.condF hA rfl ?_
  refine Ends.skip ?_
  refine Ends.seq ?_
  refine Ends.seq ?_
  refine Ends.region ?_
  refine S.val hA (R.move rfl) rfl ?_; clear hA a; intro a hA
  refine S.val hA (R.nilCheck rfl) rfl ?_; clear hA a; intro a hA
  refine S.val hA (R.fieldAddr (q := 4) fi131_4 rfl rfl rfl) rfl ?_; clear hA a; intro a hA
  refine S.val hA (R.load sz129 rfl (hM.cell (k := 0) rfl rfl)) rfl ?_; clear hA a; intro a hA
  refine S.done ?_
  replace hA : St 26 [(0, _), (2, _), (8, _)] a := hA.sub ((.cons rfl (.cons rfl (.cons rfl .nil))))
  refine Ends.block ?_
  refine Ends.seq ?_
  refine Ends.region ?_
  refine S.val hA (R.ff (R.eql rfl rfl) (by first | decide | simp | omega)) rfl ?_; clear hA a; intro a hA
  refine S.val hA (R.assign rfl) rfl ?_; clear hA a; intro a hA
  refine S.done ?_
  replace hA : St 26 [(0, _), (2, _), (8, _), (9, _)] a := hA.sub ((.cons rfl (.cons rfl (.cons rfl (.cons rfl .nil)))))
  refine Ends.condF hA rfl ?_
  refine Ends.seq ?_
  refine Ends.region ?_
  refine S.val hA (R.ff (R.eql rfl rfl) (by first | decide | simp | omega)) rfl ?_; clear hA a; intro a hA
  refine S.val hA (R.assign rfl) rfl ?_; clear hA a; intro a hA
  refine S.done ?_
  replace hA : St 26 [(0, _), (2, _), (8, _), (13, _)] a := hA.sub ((.cons rfl (.cons rfl (.cons rfl (.cons rfl .nil)))))
  refine Ends.condF hA rfl ?_
  refine Ends.seq ?_
  refine Ends.region ?_
  refine S.val hA (R.tt (R.eql rfl rfl) (by first | decide | simp | omega)) rfl ?_; clear hA a; intro a hA
  refine S.val hA (R.assign rfl) rfl ?_; clear hA a; intro a hA
  refine S.done ?_
  replace hA : St 26 [(0, _), (2, _), (17, _)] a := hA.sub ((.cons rfl (.cons rfl (.cons rfl .nil))))
  refine Ends.condT hA rfl ?_
  refine Ends.region ?_
  refine S.val hA (R.move rfl) rfl ?_; clear hA a; intro a hA
  refine S.call hA (R.callF Try.func80 rfl rfl rfl) rfl (pf_push p q m nb ns ob ws bs wr os av Y cap hwr hlen hos hY2 c l s o hmc hl hs sl tp nx htp hh _ (hM.hereN 5)) ?_; clear hA a
  rintro e w1 ⟨op, rfl, hn⟩
  replace hM : Mem _ _ [pt p #[.pointer (some ⟨q, 0, none⟩), .int .i64 wr, .bool true, .int .i64 sl, .int .i64 3, .int .i64 tp, .int .i64 nx] 131, pt q #[.pointer (some ⟨m, 0, none⟩), .int .i64 bs, .slice (some ⟨nb, 0, none⟩) ns ns, .slice (some ⟨ob, 0, none⟩) ws ws] 128, pt ob ((vals os)) 43, own 3 1 (.slice av Y.length cap) Y.length (Y.map (Value.int .i64)), memO m c ((l.set bs.toNat (packI (tp / 4294967296 % 1073741824 + 1) sl))) (s + 1) op] _ := hM.callL 5 hn; clear hn
  refine ⟨.tuple #[], rfl, fun a hA => ?_⟩
  refine S.done ?_
  replace hA : St 26 [(0, _), (2, _)] a := hA.sub ((.cons rfl (.cons rfl .nil)))
  refine Ends.inBlock ?_
  refine Ends.seq ?_
  refine Ends.region ?_
  refine S.val hA (R.move rfl) rfl ?_; clear hA a; intro a hA
  refine S.val hA (R.nilCheck rfl) rfl ?_; clear hA a; intro a hA
  refine S.val hA (R.fieldAddr (q := 4) fi131_4 rfl rfl rfl) rfl ?_; clear hA a; intro a hA
  refine S.val hA (R.load sz129 rfl (hM.cell (k := 0) rfl rfl)) rfl ?_; clear hA a; intro a hA
  refine S.val hA (R.tt (R.eql rfl rfl) (by first | decide | simp | omega)) rfl ?_; clear hA a; intro a hA
  refine S.val hA (R.assign rfl) rfl ?_; clear hA a; intro a hA
  refine S.done ?_
  replace hA : St 26 [(2, _)] a := hA.sub ((.cons rfl .nil))
  refine Ends.ret1 Try.func55 Try.results55 hA rfl ?_
  exact ⟨_, rfl, hM.firstN 5⟩
set_option maxRecDepth 100000 in
set_option maxHeartbeats 400000 in
theorem pf_pop (p q m nb ns ob ws : Nat) (bs wr : Int) (os : List Value) (av : Option Addr) (Y : List Int) (cap : Nat) (hwr : 0 ≤ wr ∧ wr < ws) (hlen : os.length = ws) (hos : os[wr.toNat]? = some (.slice av Y.length cap)) (hY2 : Y.length ≤ 2) (c : Nat) (l : List Int) (s : Int) (o : CellOp) (hmc : m ≠ c) (hl : 0 ≤ bs ∧ bs + 1 ≤ l.length ∧ l.length ≤ 1000000) (hs : 0 ≤ s ∧ s < 9223372036854775806) (sl tp nx : Int) (htp : 0 ≤ tp ∧ tp < 4611686018427387904) (hh : l.getD bs.toNat 0 = tp) (w : World) (hM : Mem w (feet [pt p #[.pointer (some ⟨q, 0, none⟩), .int .i64 wr, .bool false, .int .i64 sl, .int .i64 2, .int .i64 tp, .int .i64 nx] 131, pt q #[.pointer (some ⟨m, 0, none⟩), .int .i64 bs, .slice (some ⟨nb, 0, none⟩) ns ns, .slice (some ⟨ob, 0, none⟩) ws ws] 128, pt ob ((vals os)) 43, own 3 1 (.slice av Y.length cap) Y.length (Y.map (Value.int .i64)), memO m c l s o]) [pt p #[.pointer (some ⟨q, 0, none⟩), .int .i64 wr, .bool false, .int .i64 sl, .int .i64 2, .int .i64 tp, .int .i64 nx] 131, pt q #[.pointer (some ⟨m, 0, none⟩), .int .i64 bs, .slice (some ⟨nb, 0, none⟩) ns ns, .slice (some ⟨ob, 0, none⟩) ws ws] 128, pt ob ((vals os)) 43, own 3 1 (.slice av Y.length cap) Y.length (Y.map (Value.int .i64)), memO m c l s o] w) :
    Calls Try.prog 80 #[.pointer (some ⟨p, 0, none⟩)] w fun e w' => ∃ op, e = .returned (.tuple #[]) ∧ Mem w (feet [pt p #[.pointer (some ⟨q, 0, none⟩), .int .i64 wr, .bool false, .int .i64 sl, .int .i64 2, .int .i64 tp, .int .i64 nx] 131, pt q #[.pointer (some ⟨m, 0, none⟩), .int .i64 bs, .slice (some ⟨nb, 0, none⟩) ns ns, .slice (some ⟨ob, 0, none⟩) ws ws] 128, pt ob ((vals os)) 43, own 3 1 (.slice av Y.length cap) Y.length (Y.map (Value.int .i64)), memO m c l s o]) [pt p #[.pointer (some ⟨q, 0, none⟩), .int .i64 wr, .bool false, .int .i64 (tp % 4294967296 - 1), .int .i64 3, .int .i64 tp, .int .i64 nx] 131, pt q #[.pointer (some ⟨m, 0, none⟩), .int .i64 bs, .slice (some ⟨nb, 0, none⟩) ns ns, .slice (some ⟨ob, 0, none⟩) ws ws] 128, pt ob ((vals os)) 43, own 3 1 (.slice av Y.length cap) Y.length (Y.map (Value.int .i64)), memO m c ((l.set bs.toNat (packI (tp / 4294967296 % 1073741824 + 1) nx))) (s + 1) op] w' := by
  have hM0 : True := trivial  -- have hM
  refine Calls.of_ends (vs := [.pointer (some ⟨p, 0, none⟩)]) Try.func80 rfl Try.ntmps80 rfl ?_
  intro a hA
  replace hA : St 68 [(0, _)] a := hA
  refine Ends.seq ?_
  refine Ends.region ?_
  refine S.val hA (R.move rfl) rfl ?_; clear hA a; intro a hA
  refine S.val hA (R.nilCheck rfl) rfl ?_; clear hA a; intro a hA
  refine S.val hA (R.fieldAddr (q := 6) fi131_6 rfl rfl rfl) rfl ?_; clear hA a; intro a hA
  refine S.val hA (R.load sz3 rfl (hM.cell (k := 0) rfl rfl)) rfl ?_; clear hA a; intro a hA
  refine S.val hA (R.assign rfl) rfl ?_; clear hA a; intro a hA
  refine S.done ?_
  replace hA : St 68 [(0, _), (2, _)] a := hA.sub ((.cons rfl (.cons rfl .nil)))
  refine Ends.seq ?_
  refine Ends.seq ?_
  refine Ends.region ?_
  refine S.val hA (R.move rfl) rfl ?_; clear hA a; intro a hA
  refine S.val hA (R.nilCheck rfl) rfl ?_; clear hA a; intro a hA
  refine S.val hA (R.fieldAddr (q := 2) fi131_2 rfl rfl rfl) rfl ?_; clear hA a; intro a hA
  refine S.val hA (R.load sz4 rfl (hM.cell (k := 0) rfl rfl)) rfl ?_; clear hA a; intro a hA
  refine S.done ?_
  replace hA : St 68 [(0, _), (2, _), (12, _)] a := hA.sub ((.cons rfl (.cons rfl (.cons rfl .nil))))
  refine Ends.condF hA rfl ?_
  refine Ends.skip ?_
  refine Ends.seq ?_
  refine Ends.drawn (Mem w (feet [pt p #[.pointer (some ⟨q, 0, none⟩), .int .i64 wr, .bool false, .int .i64 sl, .int .i64 2, .int .i64 tp, .int .i64 nx] 131, pt q #[.pointer (some ⟨m, 0, none⟩), .int .i64 bs, .slice (some ⟨nb, 0, none⟩) ns ns, .slice (some ⟨ob, 0, none⟩) ws ws] 128, pt ob ((vals os)) 43, own 3 1 (.slice av Y.length cap) Y.length (Y.map (Value.int .i64)), memO m c l s o]) [pt p #[.pointer (some ⟨q, 0, none⟩), .int .i64 wr, .bool false, .int .i64 sl, .int .i64 2, .int .i64 tp, .int .i64 nx] 131, pt q #[.pointer (some ⟨m, 0, none⟩), .int .i64 bs, .slice (some ⟨nb, 0, none⟩) ns ns, .slice (some ⟨ob, 0, none⟩) ws ws] 128, pt ob ((vals os)) 43, own 3 1 (.slice av Y.length cap) Y.length (Y.map (Value.int .i64))]) (.cons (0, true) (.cons (1, true) (.cons (2, true) (.cons (3, true) (.cons (4, true) (.cons (5, true) (.cons (6, true) (.cons (7, true) (.cons (8, true) (.cons (9, true) (.cons (10, true) (.cons (11, true) (.cons (12, true) (.cons (13, true) (.cons (14, true) (.cons (15, true) (.cons (16, true) (.cons (17, true) (.cons (18, true) (.cons (19, true) (.cons (20, true) (.cons (21, true) (.cons (22, true) (.cons (23, false) (.cons (24, false) (.cons (25, true) (.cons (26, true) (.cons (27, true) (.cons (28, true) (.cons (29, true) .nil)))))))))))))))))))))))))))))) 30 mixed (by kernel_rfl) (by kernel_rfl) (by kernel_rfl) (hM.drop 4).drew ?_
  replace hM := hM.drew
  refine D.valF hA rfl (fun _ => R.move rfl) rfl ?_; clear hA a; intro a hA
  refine D.valF hA rfl (fun _ => R.nilCheck rfl) rfl ?_; clear hA a; intro a hA
  refine D.valF hA rfl (fun _ => R.fieldAddr (q := 0) fi131_0 rfl rfl rfl) rfl ?_; clear hA a; intro a hA
  refine D.val hA rfl (by kernel_rfl) (fun _ hM => R.load sz72 rfl (hM.cell (k := 0) rfl rfl)) rfl ?_; clear hA a; intro a hA
  refine D.valF hA rfl (fun _ => R.nilCheck rfl) rfl ?_; clear hA a; intro a hA
  refine D.valF hA rfl (fun _ => R.fieldAddr (q := 0) fi128_0 rfl rfl rfl) rfl ?_; clear hA a; intro a hA
  refine D.val hA rfl (by kernel_rfl) (fun _ hM => R.load sz24 rfl (hM.cell (k := 1) rfl rfl)) rfl ?_; clear hA a; intro a hA
  refine D.valF hA rfl (fun _ => R.move rfl) rfl ?_; clear hA a; intro a hA
  refine D.valF hA rfl (fun _ => R.nilCheck rfl) rfl ?_; clear hA a; intro a hA
  refine D.valF hA rfl (fun _ => R.fieldAddr (q := 0) fi131_0 rfl rfl rfl) rfl ?_; clear hA a; intro a hA
  refine D.val hA rfl (by kernel_rfl) (fun _ hM => R.load sz72 rfl (hM.cell (k := 0) rfl rfl)) rfl ?_; clear hA a; intro a hA
  refine D.valF hA rfl (fun _ => R.nilCheck rfl) rfl ?_; clear hA a; intro a hA
  refine D.valF hA rfl (fun _ => R.fieldAddr (q := 1) fi128_1 rfl rfl rfl) rfl ?_; clear hA a; intro a hA
  refine D.val hA rfl (by kernel_rfl) (fun _ hM => R.load sz3 rfl (hM.cell (k := 1) rfl rfl)) rfl ?_; clear hA a; intro a hA
  refine D.valF hA rfl (fun _ => R.move rfl) rfl ?_; clear hA a; intro a hA
  refine D.valF hA rfl (fun _ => R.nilCheck rfl) rfl ?_; clear hA a; intro a hA
  refine D.valF hA rfl (fun _ => R.fieldAddr (q := 5) fi131_5 rfl rfl rfl) rfl ?_; clear hA a; intro a hA
  refine D.val hA rfl (by kernel_rfl) (fun _ hM => R.load sz3 rfl (hM.cell (k := 0) rfl rfl)) rfl ?_; clear hA a; intro a hA
  refine D.valF hA rfl (fun _ => R.move rfl) rfl ?_; clear hA a; intro a hA
  refine D.valF hA rfl (fun _ => R.nilCheck rfl) rfl ?_; clear hA a; intro a hA
  refine D.valF hA rfl (fun _ => R.fieldAddr (q := 5) fi131_5 rfl rfl rfl) rfl ?_; clear hA a; intro a hA
  refine D.val hA rfl (by kernel_rfl) (fun _ hM => R.load sz3 rfl (hM.cell (k := 0) rfl rfl)) rfl ?_; clear hA a; intro a hA
  refine D.valF hA rfl (fun _ => R.move rfl) rfl ?_; clear hA a; intro a hA
  refine D.call hA rfl (R.callF Try.func86 rfl rfl rfl) rfl (up_any tp nx (by omega) (by omega) _) ?_; clear hA a
  rintro e w1 ⟨rfl, rfl⟩
  refine ⟨.int .i64 (packI (tp / 4294967296 % 1073741824 + 1) nx), rfl, (hM.drop 4), fun a hA => ?_⟩
  refine D.call hA rfl (R.callF Try.func61 rfl rfl rfl) rfl (cas_hit m c l s o hmc bs tp (packI (tp / 4294967296 % 1073741824 + 1) nx) (by omega) (by first | omega | (simp; omega)) (by omega) hh _ (hM.mem (k := 4) rfl)) ?_; clear hA a
  rintro e w2 ⟨rfl, hn⟩
  replace hM : Mem _ _ [memO m c ((l.set bs.toNat (packI (tp / 4294967296 % 1073741824 + 1) nx))) (s + 1) ⟨3, bs, l.getD bs.toNat 0, packI (tp / 4294967296 % 1073741824 + 1) nx, true⟩, pt p #[.pointer (some ⟨q, 0, none⟩), .int .i64 wr, .bool false, .int .i64 sl, .int .i64 2, .int .i64 tp, .int .i64 nx] 131, pt q #[.pointer (some ⟨m, 0, none⟩), .int .i64 bs, .slice (some ⟨nb, 0, none⟩) ns ns, .slice (some ⟨ob, 0, none⟩) ws ws] 128, pt ob ((vals os)) 43, own 3 1 (.slice av Y.length cap) Y.length (Y.map (Value.int .i64))] _ := hM.callW (k := 4) rfl hn (fun _ h => h); clear hn
  refine ⟨.tuple #[.bool true, .int .i64 0], rfl, (hM.drop 0), fun a hA => ?_⟩
  refine D.valF hA rfl (fun _ => R.move rfl) rfl ?_; clear hA a; intro a hA
  refine D.valF hA rfl (fun _ => R.extract (v := .bool true) rfl rfl) rfl ?_; clear hA a; intro a hA
  refine D.valF hA rfl (fun _ => R.extract (v := .int .i64 0) rfl rfl) rfl ?_; clear hA a; intro a hA
  refine D.valF hA rfl (fun _ => R.assign rfl) rfl ?_; clear hA a; intro a hA
  refine D.valF hA rfl (fun _ => R.assign rfl) rfl ?_; clear hA a; intro a hA
  refine D.done ?_
  replace hA : St 68 [(0, _), (3, _)] a := hA.sub ((.cons rfl (.cons rfl .nil)))
  refine Ends.seq ?_
  refine Ends.region ?_
  refine S.val hA (R.move rfl) rfl ?_; clear hA a; intro a hA
  refine S.val hA (R.nilCheck rfl) rfl ?_; clear hA a; intro a hA
  refine S.val hA (R.fieldAddr (q := 4) fi131_4 rfl rfl rfl) rfl ?_; clear hA a; intro a hA
  refine S.store (k := 1) hA hM sz129 rfl rfl rfl rfl rfl ?_; clear hM
  intro w3 hM
  replace hM : Mem _ _ [memO m c ((l.set bs.toNat (packI (tp / 4294967296 % 1073741824 + 1) nx))) (s + 1) ⟨3, bs, l.getD bs.toNat 0, packI (tp / 4294967296 % 1073741824 + 1) nx, true⟩, pt p #[.pointer (some ⟨q, 0, none⟩), .int .i64 wr, .bool false, .int .i64 sl, .int .i64 0, .int .i64 tp, .int .i64 nx] 131, pt q #[.pointer (some ⟨m, 0, none⟩), .int .i64 bs, .slice (some ⟨nb, 0, none⟩) ns ns, .slice (some ⟨ob, 0, none⟩) ws ws] 128, pt ob ((vals os)) 43, own 3 1 (.slice av Y.length cap) Y.length (Y.map (Value.int .i64))] _ := hM
  refine S.done ?_
  replace hA : St 68 [(0, _), (3, _)] a := hA.sub ((.cons rfl (.cons rfl .nil)))
  refine Ends.seq ?_
  refine Ends.region ?_
  refine S.val hA (R.move rfl) rfl ?_; clear hA a; intro a hA
  refine S.done ?_
  replace hA : St 68 [(0, _), (48, _)] a := hA.sub ((.cons rfl (.cons rfl .nil)))
  refine Ends.condT hA rfl ?_
  refine Ends.seq ?_
  refine Ends.region ?_
  refine S.val hA (R.move rfl) rfl ?_; clear hA a; intro a hA
  refine S.val hA (R.nilCheck rfl) rfl ?_; clear hA a; intro a hA
  refine S.val hA (R.fieldAddr (q := 4) fi131_4 rfl rfl rfl) rfl ?_; clear hA a; intro a hA
  refine S.store (k := 1) hA hM sz129 rfl rfl rfl rfl rfl ?_; clear hM
  intro w4 hM
  replace hM : Mem _ _ [memO m c ((l.set bs.toNat (packI (tp / 4294967296 % 1073741824 + 1) nx))) (s + 1) ⟨3, bs, l.getD bs.toNat 0, packI (tp / 4294967296 % 1073741824 + 1) nx, true⟩, pt p #[.pointer (some ⟨q, 0, none⟩), .int .i64 wr, .bool false, .int .i64 sl, .int .i64 3, .int .i64 tp, .int .i64 nx] 131, pt q #[.pointer (some ⟨m, 0, none⟩), .int .i64 bs, .slice (some ⟨nb, 0, none⟩) ns ns, .slice (some ⟨ob, 0, none⟩) ws ws] 128, pt ob ((vals os)) 43, own 3 1 (.slice av Y.length cap) Y.length (Y.map (Value.int .i64))] _ := hM
  refine S.done ?_
  replace hA : St 68 [(0, _)] a := hA.sub ((.cons rfl .nil))
  refine Ends.seq ?_
  refine Ends.region ?_
  refine S.val hA (R.move rfl) rfl ?_; clear hA a; intro a hA
  refine S.val hA (R.nilCheck rfl) rfl ?_; clear hA a; intro a hA
  refine S.val hA (R.fieldAddr (q := 2) fi131_2 rfl rfl rfl) rfl ?_; clear hA a; intro a hA
  refine S.val hA (R.load sz4 rfl (hM.cell (k := 1) rfl rfl)) rfl ?_; clear hA a; intro a hA
  refine S.val hA (R.not rfl) rfl ?_; clear hA a; intro a hA
  refine S.done ?_
  replace hA : St 68 [(0, _), (56, _)] a := hA.sub ((.cons rfl (.cons rfl .nil)))
  refine Ends.condT hA rfl ?_
  refine Ends.region ?_
  refine S.val hA (R.move rfl) rfl ?_; clear hA a; intro a hA
  refine S.val hA (R.move rfl) rfl ?_; clear hA a; intro a hA
  refine S.val hA (R.nilCheck rfl) rfl ?_; clear hA a; intro a hA
  refine S.val hA (R.fieldAddr (q := 5) fi131_5 rfl rfl rfl) rfl ?_; clear hA a; intro a hA
  refine S.val hA (R.load sz3 rfl (hM.cell (k := 1) rfl rfl)) rfl ?_; clear hA a; intro a hA
  refine S.call hA (R.callF Try.func77 rfl rfl rfl) rfl (unpack_any tp (by omega) (by omega) _) ?_; clear hA a
  rintro e w5 ⟨rfl, rfl⟩
  refine ⟨.tuple #[.int .i64 (tp / 4294967296 % 1073741824), .int .i64 (tp % 4294967296 - 1)], rfl, fun a hA => ?_⟩
  refine S.val hA (R.move rfl) rfl ?_; clear hA a; intro a hA
  refine S.val hA (R.extract (v := .int .i64 (tp / 4294967296 % 1073741824)) rfl rfl) rfl ?_; clear hA a; intro a hA
  refine S.val hA (R.extract (v := .int .i64 (tp % 4294967296 - 1)) rfl rfl) rfl ?_; clear hA a; intro a hA
  refine S.val hA (R.nilCheck rfl) rfl ?_; clear hA a; intro a hA
  refine S.val hA (R.fieldAddr (q := 3) fi131_3 rfl rfl rfl) rfl ?_; clear hA a; intro a hA
  refine S.store (k := 1) hA hM sz3 rfl rfl rfl rfl rfl ?_; clear hM
  intro w6 hM
  replace hM : Mem _ _ [memO m c ((l.set bs.toNat (packI (tp / 4294967296 % 1073741824 + 1) nx))) (s + 1) ⟨3, bs, l.getD bs.toNat 0, packI (tp / 4294967296 % 1073741824 + 1) nx, true⟩, pt p #[.pointer (some ⟨q, 0, none⟩), .int .i64 wr, .bool false, .int .i64 (tp % 4294967296 - 1), .int .i64 3, .int .i64 tp, .int .i64 nx] 131, pt q #[.pointer (some ⟨m, 0, none⟩), .int .i64 bs, .slice (some ⟨nb, 0, none⟩) ns ns, .slice (some ⟨ob, 0, none⟩) ws ws] 128, pt ob ((vals os)) 43, own 3 1 (.slice av Y.length cap) Y.length (Y.map (Value.int .i64))] _ := hM
  refine S.done ?_
  replace hA : St 68 [] a := hA.sub (.nil)
  refine Ends.end0 Try.func80 Try.results80 hA ?_
  replace hM := hM.front (k := 4) rfl
  replace hM := hM.front (k := 4) rfl
  replace hM := hM.front (k := 4) rfl
  replace hM := hM.front (k := 4) rfl
  replace hM : Mem _ _ [pt p #[.pointer (some ⟨q, 0, none⟩), .int .i64 wr, .bool false, .int .i64 (tp % 4294967296 - 1), .int .i64 3, .int .i64 tp, .int .i64 nx] 131, pt q #[.pointer (some ⟨m, 0, none⟩), .int .i64 bs, .slice (some ⟨nb, 0, none⟩) ns ns, .slice (some ⟨ob, 0, none⟩) ws ws] 128, pt ob ((vals os)) 43, own 3 1 (.slice av Y.length cap) Y.length (Y.map (Value.int .i64)), memO m c ((l.set bs.toNat (packI (tp / 4294967296 % 1073741824 + 1) nx))) (s + 1) ⟨3, bs, l.getD bs.toNat 0, packI (tp / 4294967296 % 1073741824 + 1) nx, true⟩] _ := hM
  exact ⟨_, rfl, hM.firstN 5⟩
set_option maxRecDepth 100000 in
set_option maxHeartbeats 400000 in
theorem Spf_pop (p q m nb ns ob ws : Nat) (bs wr : Int) (os : List Value) (av : Option Addr) (Y : List Int) (cap : Nat) (hwr : 0 ≤ wr ∧ wr < ws) (hlen : os.length = ws) (hos : os[wr.toNat]? = some (.slice av Y.length cap)) (hY2 : Y.length ≤ 2) (c : Nat) (l : List Int) (s : Int) (o : CellOp) (hmc : m ≠ c) (hl : 0 ≤ bs ∧ bs + 1 ≤ l.length ∧ l.length ≤ 1000000) (hs : 0 ≤ s ∧ s < 9223372036854775806) (sl tp nx : Int) (htp : 0 ≤ tp ∧ tp < 4611686018427387904) (hh : l.getD bs.toNat 0 = tp) (w : World) (hM : Mem w (feet [pt p #[.pointer (some ⟨q, 0, none⟩), .int .i64 wr, .bool false, .int .i64 sl, .int .i64 2, .int .i64 tp, .int .i64 nx] 131, pt q #[.pointer (some ⟨m, 0, none⟩), .int .i64 bs, .slice (some ⟨nb, 0, none⟩) ns ns, .slice (some ⟨ob, 0, none⟩) ws ws] 128, pt ob ((vals os)) 43, own 3 1 (.slice av Y.length cap) Y.length (Y.map (Value.int .i64)), memO m c l s o]) [pt p #[.pointer (some ⟨q, 0, none⟩), .int .i64 wr, .bool false, .int .i64 sl, .int .i64 2, .int .i64 tp, .int .i64 nx] 131, pt q #[.pointer (some ⟨m, 0, none⟩), .int .i64 bs, .slice (some ⟨nb, 0, none⟩) ns ns, .slice (some ⟨ob, 0, none⟩) ws ws] 128, pt ob ((vals os)) 43, own 3 1 (.slice av Y.length cap) Y.length (Y.map (Value.int .i64)), memO m c l s o] w) :
    Calls Try.prog 55 #[.pointer (some ⟨p, 0, none⟩)] w fun e w' => ∃ op, e = .returned (.bool true) ∧ Mem w (feet [pt p #[.pointer (some ⟨q, 0, none⟩), .int .i64 wr, .bool false, .int .i64 sl, .int .i64 2, .int .i64 tp, .int .i64 nx] 131, pt q #[.pointer (some ⟨m, 0, none⟩), .int .i64 bs, .slice (some ⟨nb, 0, none⟩) ns ns, .slice (some ⟨ob, 0, none⟩) ws ws] 128, pt ob ((vals os)) 43, own 3 1 (.slice av Y.length cap) Y.length (Y.map (Value.int .i64)), memO m c l s o]) [pt p #[.pointer (some ⟨q, 0, none⟩), .int .i64 wr, .bool false, .int .i64 (tp % 4294967296 - 1), .int .i64 3, .int .i64 tp, .int .i64 nx] 131, pt q #[.pointer (some ⟨m, 0, none⟩), .int .i64 bs, .slice (some ⟨nb, 0, none⟩) ns ns, .slice (some ⟨ob, 0, none⟩) ws ws] 128, pt ob ((vals os)) 43, own 3 1 (.slice av Y.length cap) Y.length (Y.map (Value.int .i64)), memO m c ((l.set bs.toNat (packI (tp / 4294967296 % 1073741824 + 1) nx))) (s + 1) op] w' := by
  have hM0 : True := trivial  -- have hM
  refine Calls.of_ends (vs := [.pointer (some ⟨p, 0, none⟩)]) Try.func55 rfl Try.ntmps55 rfl ?_
  intro a hA
  replace hA : St 26 [(0, _)] a := hA
  refine Ends.seq ?_
  refine Ends.region ?_
  refine S.val hA (R.assign rfl) rfl ?_; clear hA a; intro a hA
  refine S.done ?_
  replace hA : St 26 [(0, _), (2, _)] a := hA.sub ((.cons rfl (.cons rfl .nil)))
  refine Ends.seq ?_
  refine Ends.seq ?_
  refine Ends.region ?_
  refine S.val hA (R.move rfl) rfl ?_; clear hA a; intro a hA
  refine S.val hA (R.eqlNil Try.underlying83 rfl rfl) rfl ?_; clear hA a; intro a hA
  refine S.done ?_
  replace hA : St 26 [(0, _), (2, _), (4, _)] a := hA.sub ((.cons rfl (.cons rfl (.cons rfl .nil))))
  refine Ends.condF hA rfl ?_
  refine Ends.skip ?_
  refine Ends.seq ?_
  refine Ends.seq ?_
  refine Ends.region ?_
  refine S.val hA (R.move rfl) rfl ?_; clear hA a; intro a hA
  refine S.val hA (R.nilCheck rfl) rfl ?_; clear hA a; intro a hA
  refine S.val hA (R.fieldAddr (q := 4) fi131_4 rfl rfl rfl) rfl ?_; clear hA a; intro a hA
  refine S.val hA (R.load sz129 rfl (hM.cell (k := 0) rfl rfl)) rfl ?_; clear hA a; intro a hA
  refine S.done ?_
  replace hA : St 26 [(0, _), (2, _), (8, _)] a := hA.sub ((.cons rfl (.cons rfl (.cons rfl .nil))))
  refine Ends.block ?_
  refine Ends.seq ?_
  refine Ends.region ?_
  refine S.val hA (R.ff (R.eql rfl rfl) (by first | decide | simp | omega)) rfl ?_; clear hA a; intro a hA
  refine S.val hA (R.assign rfl) rfl ?_; clear hA a; intro a hA
  refine S.done ?_
  replace hA : St 26 [(0, _), (2, _), (8, _), (9, _)] a := hA.sub ((.cons rfl (.cons rfl (.cons rfl (.cons rfl .nil)))))
  refine Ends.condF hA rfl ?_
  refine Ends.seq ?_
  refine Ends.region ?_
  refine S.val hA (R.ff (R.eql rfl rfl) (by first | decide | simp | omega)) rfl ?_; clear hA a; intro a hA
  refine S.val hA (R.assign rfl) rfl ?_; clear hA a; intro a hA
  refine S.done ?_
  replace hA : St 26 [(0, _), (2, _), (8, _), (13, _)] a := hA.sub ((.cons rfl (.cons rfl (.cons rfl (.cons rfl .nil)))))
  refine Ends.condF hA rfl ?_
  refine Ends.seq ?_
  refine Ends.region ?_
  refine S.val hA (R.tt (R.eql rfl rfl) (by first | decide | simp | omega)) rfl ?_; clear hA a; intro a hA
  refine S.val hA (R.assign rfl) rfl ?_; clear hA a; intro a hA
  refine S.done ?_
  replace hA : St 26 [(0, _), (2, _), (17, _)] a := hA.sub ((.cons rfl (.cons rfl (.cons rfl .nil))))
  refine Ends.condT hA rfl ?_
  refine Ends.region ?_
  refine S.val hA (R.move rfl) rfl ?_; clear hA a; intro a hA
  refine S.call hA (R.callF Try.func80 rfl rfl rfl) rfl (pf_pop p q m nb ns ob ws bs wr os av Y cap hwr hlen hos hY2 c l s o hmc hl hs sl tp nx htp hh _ (hM.hereN 5)) ?_; clear hA a
  rintro e w1 ⟨op, rfl, hn⟩
  replace hM : Mem _ _ [pt p #[.pointer (some ⟨q, 0, none⟩), .int .i64 wr, .bool false, .int .i64 (tp % 4294967296 - 1), .int .i64 3, .int .i64 tp, .int .i64 nx] 131, pt q #[.pointer (some ⟨m, 0, none⟩), .int .i64 bs, .slice (some ⟨nb, 0, none⟩) ns ns, .slice (some ⟨ob, 0, none⟩) ws ws] 128, pt ob ((vals os)) 43, own 3 1 (.slice av Y.length cap) Y.length (Y.map (Value.int .i64)), memO m c ((l.set bs.toNat (packI (tp / 4294967296 % 1073741824 + 1) nx))) (s + 1) op] _ := hM.callL 5 hn; clear hn
  refine ⟨.tuple #[], rfl, fun a hA => ?_⟩
  refine S.done ?_
  replace hA : St 26 [(0, _), (2, _)] a := hA.sub ((.cons rfl (.cons rfl .nil)))
  refine Ends.inBlock ?_
  refine Ends.seq ?_
  refine Ends.region ?_
  refine S.val hA (R.move rfl) rfl ?_; clear hA a; intro a hA
  refine S.val hA (R.nilCheck rfl) rfl ?_; clear hA a; intro a hA
  refine S.val hA (R.fieldAddr (q := 4) fi131_4 rfl rfl rfl) rfl ?_; clear hA a; intro a hA
  refine S.val hA (R.load sz129 rfl (hM.cell (k := 0) rfl rfl)) rfl ?_; clear hA a; intro a hA
  refine S.val hA (R.tt (R.eql rfl rfl) (by first | decide | simp | omega)) rfl ?_; clear hA a; intro a hA
  refine S.val hA (R.assign rfl) rfl ?_; clear hA a; intro a hA
  refine S.done ?_
  replace hA : St 26 [(2, _)] a := hA.sub ((.cons rfl .nil))
  refine Ends.ret1 Try.func55 Try.results55 hA rfl ?_
  exact ⟨_, rfl, hM.firstN 5⟩
set_option maxRecDepth 100000 in
set_option maxHeartbeats 400000 in
theorem pf_misst (p q m nb ns ob ws : Nat) (bs wr : Int) (os : List Value) (av : Option Addr) (Y : List Int) (cap : Nat) (hwr : 0 ≤ wr ∧ wr < ws) (hlen : os.length = ws) (hos : os[wr.toNat]? = some (.slice av Y.length cap)) (hY2 : Y.length ≤ 2) (c : Nat) (l : List Int) (s : Int) (o : CellOp) (hmc : m ≠ c) (hl : 0 ≤ bs ∧ bs + 1 ≤ l.length ∧ l.length ≤ 1000000) (hs : 0 ≤ s ∧ s < 9223372036854775806) (sl tp nx : Int) (htp : 0 ≤ tp ∧ tp < 4611686018427387904) (hh : l.getD bs.toNat 0 ≠ tp) (w : World) (hM : Mem w (feet [pt p #[.pointer (some ⟨q, 0, none⟩), .int .i64 wr, .bool true, .int .i64 sl, .int .i64 2, .int .i64 tp, .int .i64 nx] 131, pt q #[.pointer (some ⟨m, 0, none⟩), .int .i64 bs, .slice (some ⟨nb, 0, none⟩) ns ns, .slice (some ⟨ob, 0, none⟩) ws ws] 128, pt ob ((vals os)) 43, own 3 1 (.slice av Y.length cap) Y.length (Y.map (Value.int .i64)), memO m c l s o]) [pt p #[.pointer (some ⟨q, 0, none⟩), .int .i64 wr, .bool true, .int .i64 sl, .int .i64 2, .int .i64 tp, .int .i64 nx] 131, pt q #[.pointer (some ⟨m, 0, none⟩), .int .i64 bs, .slice (some ⟨nb, 0, none⟩) ns ns, .slice (some ⟨ob, 0, none⟩) ws ws] 128, pt ob ((vals os)) 43, own 3 1 (.slice av Y.length cap) Y.length (Y.map (Value.int .i64)), memO m c l s o] w) :
    Calls Try.prog 80 #[.pointer (some ⟨p, 0, none⟩)] w fun e w' => ∃ op, e = .returned (.tuple #[]) ∧ Mem w (feet [pt p #[.pointer (some ⟨q, 0, none⟩), .int .i64 wr, .bool true, .int .i64 sl, .int .i64 2, .int .i64 tp, .int .i64 nx] 131, pt q #[.pointer (some ⟨m, 0, none⟩), .int .i64 bs, .slice (some ⟨nb, 0, none⟩) ns ns, .slice (some ⟨ob, 0, none⟩) ws ws] 128, pt ob ((vals os)) 43, own 3 1 (.slice av Y.length cap) Y.length (Y.map (Value.int .i64)), memO m c l s o]) [pt p #[.pointer (some ⟨q, 0, none⟩), .int .i64 wr, .bool true, .int .i64 sl, .int .i64 0, .int .i64 tp, .int .i64 nx] 131, pt q #[.pointer (some ⟨m, 0, none⟩), .int .i64 bs, .slice (some ⟨nb, 0, none⟩) ns ns, .slice (some ⟨ob, 0, none⟩) ws ws] 128, pt ob ((vals os)) 43, own 3 1 (.slice av Y.length cap) Y.length (Y.map (Value.int .i64)), memO m c l (s + 1) op] w' := by
  have hM0 : True := trivial  -- have hM
  refine Calls.of_ends (vs := [.pointer (some ⟨p, 0, none⟩)]) Try.func80 rfl Try.ntmps80 rfl ?_
  intro a hA
  replace hA : St 68 [(0, _)] a := hA
  refine Ends.seq ?_
  refine Ends.region ?_
  refine S.val hA (R.move rfl) rfl ?_; clear hA a; intro a hA
  refine S.val hA (R.nilCheck rfl) rfl ?_; clear hA a; intro a hA
  refine S.val hA (R.fieldAddr (q := 6) fi131_6 rfl rfl rfl) rfl ?_; clear hA a; intro a hA
  refine S.val hA (R.load sz3 rfl (hM.cell (k := 0) rfl rfl)) rfl ?_; clear hA a; intro a hA
  refine S.val hA (R.assign rfl) rfl ?_; clear hA a; intro a hA
  refine S.done ?_
  replace hA : St 68 [(0, _), (2, _)] a := hA.sub ((.cons rfl (.cons rfl .nil)))
  refine Ends.seq ?_
  refine Ends.seq ?_
  refine Ends.region ?_
  refine S.val hA (R.move rfl) rfl ?_; clear hA a; intro a hA
  refine S.val hA (R.nilCheck rfl) rfl ?_; clear hA a; intro a hA
  refine S.val hA (R.fieldAddr (q := 2) fi131_2 rfl rfl rfl) rfl ?_; clear hA a; intro a hA
  refine S.val hA (R.load sz4 rfl (hM.cell (k := 0) rfl rfl)) rfl ?_; clear hA a; intro a hA
  refine S.done ?_
  replace hA : St 68 [(0, _), (2, _), (12, _)] a := hA.sub ((.cons rfl (.cons rfl (.cons rfl .nil))))
  refine Ends.condT hA rfl ?_
  refine Ends.region ?_
  refine S.val hA (R.move rfl) rfl ?_; clear hA a; intro a hA
  refine S.val hA (R.nilCheck rfl) rfl ?_; clear hA a; intro a hA
  refine S.val hA (R.fieldAddr (q := 3) fi131_3 rfl rfl rfl) rfl ?_; clear hA a; intro a hA
  refine S.val hA (R.load sz3 rfl (hM.cell (k := 0) rfl rfl)) rfl ?_; clear hA a; intro a hA
  refine S.val hA (R.assign rfl) rfl ?_; clear hA a; intro a hA
  refine S.done ?_
  replace hA : St 68 [(0, _), (2, _)] a := hA.sub ((.cons rfl (.cons rfl .nil)))
  refine Ends.seq ?_
  refine Ends.drawn (Mem w (feet [pt p #[.pointer (some ⟨q, 0, none⟩), .int .i64 wr, .bool true, .int .i64 sl, .int .i64 2, .int .i64 tp, .int .i64 nx] 131, pt q #[.pointer (some ⟨m, 0, none⟩), .int .i64 bs, .slice (some ⟨nb, 0, none⟩) ns ns, .slice (some ⟨ob, 0, none⟩) ws ws] 128, pt ob ((vals os)) 43, own 3 1 (.slice av Y.length cap) Y.length (Y.map (Value.int .i64)), memO m c l s o]) [pt p #[.pointer (some ⟨q, 0, none⟩), .int .i64 wr, .bool true, .int .i64 sl, .int .i64 2, .int .i64 tp, .int .i64 nx] 131, pt q #[.pointer (some ⟨m, 0, none⟩), .int .i64 bs, .slice (some ⟨nb, 0, none⟩) ns ns, .slice (some ⟨ob, 0, none⟩) ws ws] 128, pt ob ((vals os)) 43, own 3 1 (.slice av Y.length cap) Y.length (Y.map (Value.int .i64))]) (.cons (0, true) (.cons (1, true) (.cons (2, true) (.cons (3, true) (.cons (4, true) (.cons (5, true) (.cons (6, true) (.cons (7, true) (.cons (8, true) (.cons (9, true) (.cons (10, true) (.cons (11, true) (.cons (12, true) (.cons (13, true) (.cons (14, true) (.cons (15, true) (.cons (16, true) (.cons (17, true) (.cons (18, true) (.cons (19, true) (.cons (20, true) (.cons (21, true) (.cons (22, true) (.cons (23, false) (.cons (24, false) (.cons (25, true) (.cons (26, true) (.cons (27, true) (.cons (28, true) (.cons (29, true) .nil)))))))))))))))))))))))))))))) 30 mixed (by kernel_rfl) (by kernel_rfl) (by kernel_rfl) (hM.drop 4).drew ?_
  replace hM := hM.drew
  refine D.valF hA rfl (fun _ => R.move rfl) rfl ?_; clear hA a; intro a hA
  refine D.valF hA rfl (fun _ => R.nilCheck rfl) rfl ?_; clear hA a; intro a hA
  refine D.valF hA rfl (fun _ => R.fieldAddr (q := 0) fi131_0 rfl rfl rfl) rfl ?_; clear hA a; intro a hA
  refine D.val hA rfl (by kernel_rfl) (fun _ hM => R.load sz72 rfl (hM.cell (k := 0) rfl rfl)) rfl ?_; clear hA a; intro a hA
  refine D.valF hA rfl (fun _ => R.nilCheck rfl) rfl ?_; clear hA a; intro a hA
  refine D.valF hA rfl (fun _ => R.fieldAddr (q := 0) fi128_0 rfl rfl rfl) rfl ?_; clear hA a; intro a hA
  refine D.val hA rfl (by kernel_rfl) (fun _ hM => R.load sz24 rfl (hM.cell (k := 1) rfl rfl)) rfl ?_; clear hA a; intro a hA
  refine D.valF hA rfl (fun _ => R.move rfl) rfl ?_; clear hA a; intro a hA
  refine D.valF hA rfl (fun _ => R.nilCheck rfl) rfl ?_; clear hA a; intro a hA
  refine D.valF hA rfl (fun _ => R.fieldAddr (q := 0) fi131_0 rfl rfl rfl) rfl ?_; clear hA a; intro a hA
  refine D.val hA rfl (by kernel_rfl) (fun _ hM => R.load sz72 rfl (hM.cell (k := 0) rfl rfl)) rfl ?_; clear hA a; intro a hA
  refine D.valF hA rfl (fun _ => R.nilCheck rfl) rfl ?_; clear hA a; intro a hA
  refine D.valF hA rfl (fun _ => R.fieldAddr (q := 1) fi128_1 rfl rfl rfl) rfl ?_; clear hA a; intro a hA
  refine D.val hA rfl (by kernel_rfl) (fun _ hM => R.load sz3 rfl (hM.cell (k := 1) rfl rfl)) rfl ?_; clear hA a; intro a hA
  refine D.valF hA rfl (fun _ => R.move rfl) rfl ?_; clear hA a; intro a hA
  refine D.valF hA rfl (fun _ => R.nilCheck rfl) rfl ?_; clear hA a; intro a hA
  refine D.valF hA rfl (fun _ => R.fieldAddr (q := 5) fi131_5 rfl rfl rfl) rfl ?_; clear hA a; intro a hA
  refine D.val hA rfl (by kernel_rfl) (fun _ hM => R.load sz3 rfl (hM.cell (k := 0) rfl rfl)) rfl ?_; clear hA a; intro a hA
  refine D.valF hA rfl (fun _ => R.move rfl) rfl ?_; clear hA a; intro a hA
  refine D.valF hA rfl (fun _ => R.nilCheck rfl) rfl ?_; clear hA a; intro a hA
  refine D.valF hA rfl (fun _ => R.fieldAddr (q := 5) fi131_5 rfl rfl rfl) rfl ?_; clear hA a; intro a hA
  refine D.val hA rfl (by kernel_rfl) (fun _ hM => R.load sz3 rfl (hM.cell (k := 0) rfl rfl)) rfl ?_; clear hA a; intro a hA
  refine D.valF hA rfl (fun _ => R.move rfl) rfl ?_; clear hA a; intro a hA
  refine D.call hA rfl (R.callF Try.func86 rfl rfl rfl) rfl (up_any tp sl (by omega) (by omega) _) ?_; clear hA a
  rintro e w1 ⟨rfl, rfl⟩
  refine ⟨.int .i64 (packI (tp / 4294967296 % 1073741824 + 1) sl), rfl, (hM.drop 4), fun a hA => ?_⟩
  refine D.call hA rfl (R.callF Try.func61 rfl rfl rfl) rfl (cas_not m c l s o hmc bs tp (packI (tp / 4294967296 % 1073741824 + 1) sl) (by omega) (by first | omega | (simp; omega)) (by omega) hh _ (hM.mem (k := 4) rfl)) ?_; clear hA a
  rintro e w2 ⟨rfl, hn⟩
  replace hM : Mem _ _ [memO m c ((l.set bs.toNat (l.getD bs.toNat 0))) (s + 1) ⟨3, bs, l.getD bs.toNat 0, l.getD bs.toNat 0, false⟩, pt p #[.pointer (some ⟨q, 0, none⟩), .int .i64 wr, .bool true, .int .i64 sl, .int .i64 2, .int .i64 tp, .int .i64 nx] 131, pt q #[.pointer (some ⟨m, 0, none⟩), .int .i64 bs, .slice (some ⟨nb, 0, none⟩) ns ns, .slice (some ⟨ob, 0, none⟩) ws ws] 128, pt ob ((vals os)) 43, own 3 1 (.slice av Y.length cap) Y.length (Y.map (Value.int .i64))] _ := hM.callW (k := 4) rfl hn (fun _ h => h); clear hn
  refine ⟨.tuple #[.bool false, .int .i64 0], rfl, (hM.drop 0), fun a hA => ?_⟩
  refine D.valF hA rfl (fun _ => R.move rfl) rfl ?_; clear hA a; intro a hA
  refine D.valF hA rfl (fun _ => R.extract (v := .bool false) rfl rfl) rfl ?_; clear hA a; intro a hA
  refine D.valF hA rfl (fun _ => R.extract (v := .int .i64 0) rfl rfl) rfl ?_; clear hA a; intro a hA
  refine D.valF hA rfl (fun _ => R.assign rfl) rfl ?_; clear hA a; intro a hA
  refine D.valF hA rfl (fun _ => R.assign rfl) rfl ?_; clear hA a; intro a hA
  refine D.done ?_
  replace hA : St 68 [(0, _), (3, _)] a := hA.sub ((.cons rfl (.cons rfl .nil)))
  refine Ends.seq ?_
  refine Ends.region ?_
  refine S.val hA (R.move rfl) rfl ?_; clear hA a; intro a hA
  refine S.val hA (R.nilCheck rfl) rfl ?_; clear hA a; intro a hA
  refine S.val hA (R.fieldAddr (q := 4) fi131_4 rfl rfl rfl) rfl ?_; clear hA a; intro a hA
  refine S.store (k := 1) hA hM sz129 rfl rfl rfl rfl rfl ?_; clear hM
  intro w3 hM
  replace hM : Mem _ _ [memO m c ((l.set bs.toNat (l.getD bs.toNat 0))) (s + 1) ⟨3, bs, l.getD bs.toNat 0, l.getD bs.toNat 0, false⟩, pt p #[.pointer (some ⟨q, 0, none⟩), .int .i64 wr, .bool true, .int .i64 sl, .int .i64 0, .int .i64 tp, .int .i64 nx] 131, pt q #[.pointer (some ⟨m, 0, none⟩), .int .i64 bs, .slice (some ⟨nb, 0, none⟩) ns ns, .slice (some ⟨ob, 0, none⟩) ws ws] 128, pt ob ((vals os)) 43, own 3 1 (.slice av Y.length cap) Y.length (Y.map (Value.int .i64))] _ := hM
  refine S.done ?_
  replace hA : St 68 [(0, _), (3, _)] a := hA.sub ((.cons rfl (.cons rfl .nil)))
  refine Ends.seq ?_
  refine Ends.region ?_
  refine S.val hA (R.move rfl) rfl ?_; clear hA a; intro a hA
  refine S.done ?_
  replace hA : St 68 [(0, _), (48, _)] a := hA.sub ((.cons rfl (.cons rfl .nil)))
  refine Ends.condF hA rfl ?_
  refine Ends.skip ?_
  refine Ends.end0 Try.func80 Try.results80 hA ?_
  replace hM := hM.front (k := 4) rfl
  replace hM := hM.front (k := 4) rfl
  replace hM := hM.front (k := 4) rfl
  replace hM := hM.front (k := 4) rfl
  replace hM : Mem _ _ [pt p #[.pointer (some ⟨q, 0, none⟩), .int .i64 wr, .bool true, .int .i64 sl, .int .i64 0, .int .i64 tp, .int .i64 nx] 131, pt q #[.pointer (some ⟨m, 0, none⟩), .int .i64 bs, .slice (some ⟨nb, 0, none⟩) ns ns, .slice (some ⟨ob, 0, none⟩) ws ws] 128, pt ob ((vals os)) 43, own 3 1 (.slice av Y.length cap) Y.length (Y.map (Value.int .i64)), memO m c ((l.set bs.toNat (l.getD bs.toNat 0))) (s + 1) ⟨3, bs, l.getD bs.toNat 0, l.getD bs.toNat 0, false⟩] _ := hM
  rw [set_getD l bs.toNat (by omega)] at hM
  exact ⟨_, rfl, hM.firstN 5⟩
set_option maxRecDepth 100000 in
set_option maxHeartbeats 400000 in
theorem Spf_misst (p q m nb ns ob ws : Nat) (bs wr : Int) (os : List Value) (av : Option Addr) (Y : List Int) (cap : Nat) (hwr : 0 ≤ wr ∧ wr < ws) (hlen : os.length = ws) (hos : os[wr.toNat]? = some (.slice av Y.length cap)) (hY2 : Y.length ≤ 2) (c : Nat) (l : List Int) (s : Int) (o : CellOp) (hmc : m ≠ c) (hl : 0 ≤ bs ∧ bs + 1 ≤ l.length ∧ l.length ≤ 1000000) (hs : 0 ≤ s ∧ s < 9223372036854775806) (sl tp nx : Int) (htp : 0 ≤ tp ∧ tp < 4611686018427387904) (hh : l.getD bs.toNat 0 ≠ tp) (w : World) (hM : Mem w (feet [pt p #[.pointer (some ⟨q, 0, none⟩), .int .i64 wr, .bool true, .int .i64 sl, .int .i64 2, .int .i64 tp, .int .i64 nx] 131, pt q #[.pointer (some ⟨m, 0, none⟩), .int .i64 bs, .slice (some ⟨nb, 0, none⟩) ns ns, .slice (some ⟨ob, 0, none⟩) ws ws] 128, pt ob ((vals os)) 43, own 3 1 (.slice av Y.length cap) Y.length (Y.map (Value.int .i64)), memO m c l s o]) [pt p #[.pointer (some ⟨q, 0, none⟩), .int .i64 wr, .bool true, .int .i64 sl, .int .i64 2, .int .i64 tp, .int .i64 nx] 131, pt q #[.pointer (some ⟨m, 0, none⟩), .int .i64 bs, .slice (some ⟨nb, 0, none⟩) ns ns, .slice (some ⟨ob, 0, none⟩) ws ws] 128, pt ob ((vals os)) 43, own 3 1 (.slice av Y.length cap) Y.length (Y.map (Value.int .i64)), memO m c l s o] w) :
    Calls Try.prog 55 #[.pointer (some ⟨p, 0, none⟩)] w fun e w' => ∃ op, e = .returned (.bool false) ∧ Mem w (feet [pt p #[.pointer (some ⟨q, 0, none⟩), .int .i64 wr, .bool true, .int .i64 sl, .int .i64 2, .int .i64 tp, .int .i64 nx] 131, pt q #[.pointer (some ⟨m, 0, none⟩), .int .i64 bs, .slice (some ⟨nb, 0, none⟩) ns ns, .slice (some ⟨ob, 0, none⟩) ws ws] 128, pt ob ((vals os)) 43, own 3 1 (.slice av Y.length cap) Y.length (Y.map (Value.int .i64)), memO m c l s o]) [pt p #[.pointer (some ⟨q, 0, none⟩), .int .i64 wr, .bool true, .int .i64 sl, .int .i64 0, .int .i64 tp, .int .i64 nx] 131, pt q #[.pointer (some ⟨m, 0, none⟩), .int .i64 bs, .slice (some ⟨nb, 0, none⟩) ns ns, .slice (some ⟨ob, 0, none⟩) ws ws] 128, pt ob ((vals os)) 43, own 3 1 (.slice av Y.length cap) Y.length (Y.map (Value.int .i64)), memO m c l (s + 1) op] w' := by
  have hM0 : True := trivial  -- have hM
  refine Calls.of_ends (vs := [.pointer (some ⟨p, 0, none⟩)]) Try.func55 rfl Try.ntmps55 rfl ?_
  intro a hA
  replace hA : St 26 [(0, _)] a := hA
  refine Ends.seq ?_
  refine Ends.region ?_
  refine S.val hA (R.assign rfl) rfl ?_; clear hA a; intro a hA
  refine S.done ?_
  replace hA : St 26 [(0, _), (2, _)] a := hA.sub ((.cons rfl (.cons rfl .nil)))
  refine Ends.seq ?_
  refine Ends.seq ?_
  refine Ends.region ?_
  refine S.val hA (R.move rfl) rfl ?_; clear hA a; intro a hA
  refine S.val hA (R.eqlNil Try.underlying83 rfl rfl) rfl ?_; clear hA a; intro a hA
  refine S.done ?_
  replace hA : St 26 [(0, _), (2, _), (4, _)] a := hA.sub ((.cons rfl (.cons rfl (.cons rfl .nil))))
  refine Ends.condF hA rfl ?_
  refine Ends.skip ?_
  refine Ends.seq ?_
  refine Ends.seq ?_
  refine Ends.region ?_
  refine S.val hA (R.move rfl) rfl ?_; clear hA a; intro a hA
  refine S.val hA (R.nilCheck rfl) rfl ?_; clear hA a; intro a hA
  refine S.val hA (R.fieldAddr (q := 4) fi131_4 rfl rfl rfl) rfl ?_; clear hA a; intro a hA
  refine S.val hA (R.load sz129 rfl (hM.cell (k := 0) rfl rfl)) rfl ?_; clear hA a; intro a hA
  refine S.done ?_
  replace hA : St 26 [(0, _), (2, _), (8, _)] a := hA.sub ((.cons rfl (.cons rfl (.cons rfl .nil))))
  refine Ends.block ?_
  refine Ends.seq ?_
  refine Ends.region ?_
  refine S.val hA (R.ff (R.eql rfl rfl) (by first | decide | simp | omega)) rfl ?_; clear hA a; intro a hA
  refine S.val hA (R.assign rfl) rfl ?_; clear hA a; intro a hA
  refine S.done ?_
  replace hA : St 26 [(0, _), (2, _), (8, _), (9, _)] a := hA.sub ((.cons rfl (.cons rfl (.cons rfl (.cons rfl .nil)))))
  refine Ends.condF hA rfl ?_
  refine Ends.seq ?_
  refine Ends.region ?_
  refine S.val hA (R.ff (R.eql rfl rfl) (by first | decide | simp | omega)) rfl ?_; clear hA a; intro a hA
  refine S.val hA (R.assign rfl) rfl ?_; clear hA a; intro a hA
  refine S.done ?_
  replace hA : St 26 [(0, _), (2, _), (8, _), (13, _)] a := hA.sub ((.cons rfl (.cons rfl (.cons rfl (.cons rfl .nil)))))
  refine Ends.condF hA rfl ?_
  refine Ends.seq ?_
  refine Ends.region ?_
  refine S.val hA (R.tt (R.eql rfl rfl) (by first | decide | simp | omega)) rfl ?_; clear hA a; intro a hA
  refine S.val hA (R.assign rfl) rfl ?_; clear hA a; intro a hA
  refine S.done ?_
  replace hA : St 26 [(0, _), (2, _), (17, _)] a := hA.sub ((.cons rfl (.cons rfl (.cons rfl .nil))))
  refine Ends.condT hA rfl ?_
  refine Ends.region ?_
  refine S.val hA (R.move rfl) rfl ?_; clear hA a; intro a hA
  refine S.call hA (R.callF Try.func80 rfl rfl rfl) rfl (pf_misst p q m nb ns ob ws bs wr os av Y cap hwr hlen hos hY2 c l s o hmc hl hs sl tp nx htp hh _ (hM.hereN 5)) ?_; clear hA a
  rintro e w1 ⟨op, rfl, hn⟩
  replace hM : Mem _ _ [pt p #[.pointer (some ⟨q, 0, none⟩), .int .i64 wr, .bool true, .int .i64 sl, .int .i64 0, .int .i64 tp, .int .i64 nx] 131, pt q #[.pointer (some ⟨m, 0, none⟩), .int .i64 bs, .slice (some ⟨nb, 0, none⟩) ns ns, .slice (some ⟨ob, 0, none⟩) ws ws] 128, pt ob ((vals os)) 43, own 3 1 (.slice av Y.length cap) Y.length (Y.map (Value.int .i64)), memO m c l (s + 1) op] _ := hM.callL 5 hn; clear hn
  refine ⟨.tuple #[], rfl, fun a hA => ?_⟩
  refine S.done ?_
  replace hA : St 26 [(0, _), (2, _)] a := hA.sub ((.cons rfl (.cons rfl .nil)))
  refine Ends.inBlock ?_
  refine Ends.seq ?_
  refine Ends.region ?_
  refine S.val hA (R.move rfl) rfl ?_; clear hA a; intro a hA
  refine S.val hA (R.nilCheck rfl) rfl ?_; clear hA a; intro a hA
  refine S.val hA (R.fieldAddr (q := 4) fi131_4 rfl rfl rfl) rfl ?_; clear hA a; intro a hA
  refine S.val hA (R.load sz129 rfl (hM.cell (k := 0) rfl rfl)) rfl ?_; clear hA a; intro a hA
  refine S.val hA (R.ff (R.eql rfl rfl) (by first | decide | simp | omega)) rfl ?_; clear hA a; intro a hA
  refine S.val hA (R.assign rfl) rfl ?_; clear hA a; intro a hA
  refine S.done ?_
  replace hA : St 26 [(2, _)] a := hA.sub ((.cons rfl .nil))
  refine Ends.ret1 Try.func55 Try.results55 hA rfl ?_
  exact ⟨_, rfl, hM.firstN 5⟩
set_option maxRecDepth 100000 in
set_option maxHeartbeats 400000 in
theorem pf_missf (p q m nb ns ob ws : Nat) (bs wr : Int) (os : List Value) (av : Option Addr) (Y : List Int) (cap : Nat) (hwr : 0 ≤ wr ∧ wr < ws) (hlen : os.length = ws) (hos : os[wr.toNat]? = some (.slice av Y.length cap)) (hY2 : Y.length ≤ 2) (c : Nat) (l : List Int) (s : Int) (o : CellOp) (hmc : m ≠ c) (hl : 0 ≤ bs ∧ bs + 1 ≤ l.length ∧ l.length ≤ 1000000) (hs : 0 ≤ s ∧ s < 9223372036854775806) (sl tp nx : Int) (htp : 0 ≤ tp ∧ tp < 4611686018427387904) (hh : l.getD bs.toNat 0 ≠ tp) (w : World) (hM : Mem w (feet [pt p #[.pointer (some ⟨q, 0, none⟩), .int .i64 wr, .bool false, .int .i64 sl, .int .i64 2, .int .i64 tp, .int .i64 nx] 131, pt q #[.pointer (some ⟨m, 0, none⟩), .int .i64 bs, .slice (some ⟨nb, 0, none⟩) ns ns, .slice (some ⟨ob, 0, none⟩) ws ws] 128, pt ob ((vals os)) 43, own 3 1 (.slice av Y.length cap) Y.length (Y.map (Value.int .i64)), memO m c l s o]) [pt p #[.pointer (some ⟨q, 0, none⟩), .int .i64 wr, .bool false, .int .i64 sl, .int .i64 2, .int .i64 tp, .int .i64 nx] 131, pt q #[.pointer (some ⟨m, 0, none⟩), .int .i64 bs, .slice (some ⟨nb, 0, none⟩) ns ns, .slice (some ⟨ob, 0, none⟩) ws ws] 128, pt ob ((vals os)) 43, own 3 1 (.slice av Y.length cap) Y.length (Y.map (Value.int .i64)), memO m c l s o] w) :
    Calls Try.prog 80 #[.pointer (some ⟨p, 0, none⟩)] w fun e w' => ∃ op, e = .returned (.tuple #[]) ∧ Mem w (feet [pt p #[.pointer (some ⟨q, 0, none⟩), .int .i64 wr, .bool false, .int .i64 sl, .int .i64 2, .int .i64 tp, .int .i64 nx] 131, pt q #[.pointer (some ⟨m, 0, none⟩), .int .i64 bs, .slice (some ⟨nb, 0, none⟩) ns ns, .slice (some ⟨ob, 0, none⟩) ws ws] 128, pt ob ((vals os)) 43, own 3 1 (.slice av Y.length cap) Y.length (Y.map (Value.int .i64)), memO m c l s o]) [pt p #[.pointer (some ⟨q, 0, none⟩), .int .i64 wr, .bool false, .int .i64 sl, .int .i64 0, .int .i64 tp, .int .i64 nx] 131, pt q #[.pointer (some ⟨m, 0, none⟩), .int .i64 bs, .slice (some ⟨nb, 0, none⟩) ns ns, .slice (some ⟨ob, 0, none⟩) ws ws] 128, pt ob ((vals os)) 43, own 3 1 (.slice av Y.length cap) Y.length (Y.map (Value.int .i64)), memO m c l (s + 1) op] w' := by
  have hM0 : True := trivial  -- have hM
  refine Calls.of_ends (vs := [.pointer (some ⟨p, 0, none⟩)]) Try.func80 rfl Try.ntmps80 rfl ?_
  intro a hA
  replace hA : St 68 [(0, _)] a := hA
  refine Ends.seq ?_
  refine Ends.region ?_
  refine S.val hA (R.move rfl) rfl ?_; clear hA a; intro a hA
  refine S.val hA (R.nilCheck rfl) rfl ?_; clear hA a; intro a hA
  refine S.val hA (R.fieldAddr (q := 6) fi131_6 rfl rfl rfl) rfl ?_; clear hA a; intro a hA
  refine S.val hA (R.load sz3 rfl (hM.cell (k := 0) rfl rfl)) rfl ?_; clear hA a; intro a hA
  refine S.val hA (R.assign rfl) rfl ?_; clear hA a; intro a hA
  refine S.done ?_
  replace hA : St 68 [(0, _), (2, _)] a := hA.sub ((.cons rfl (.cons rfl .nil)))
  refine Ends.seq ?_
  refine Ends.seq ?_
  refine Ends.region ?_
  refine S.val hA (R.move rfl) rfl ?_; clear hA a; intro a hA
  refine S.val hA (R.nilCheck rfl) rfl ?_; clear hA a; intro a hA
  refine S.val hA (R.fieldAddr (q := 2) fi131_2 rfl rfl rfl) rfl ?_; clear hA a; intro a hA
  refine S.val hA (R.load sz4 rfl (hM.cell (k := 0) rfl rfl)) rfl ?_; clear hA a; intro a hA
  refine S.done ?_
  replace hA : St 68 [(0, _), (2, _), (12, _)] a := hA.sub ((.cons rfl (.cons rfl (.cons rfl .nil))))
  refine Ends.condF hA rfl ?_
  refine Ends.skip ?_
  refine Ends.seq ?_
  refine Ends.drawn (Mem w (feet [pt p #[.pointer (some ⟨q, 0, none⟩), .int .i64 wr, .bool false, .int .i64 sl, .int .i64 2, .int .i64 tp, .int .i64 nx] 131, pt q #[.pointer (some ⟨m, 0, none⟩), .int .i64 bs, .slice (some ⟨nb, 0, none⟩) ns ns, .slice (some ⟨ob, 0, none⟩) ws ws] 128, pt ob ((vals os)) 43, own 3 1 (.slice av Y.length cap) Y.length (Y.map (Value.int .i64)), memO m c l s o]) [pt p #[.pointer (some ⟨q, 0, none⟩), .int .i64 wr, .bool false, .int .i64 sl, .int .i64 2, .int .i64 tp, .int .i64 nx] 131, pt q #[.pointer (some ⟨m, 0, none⟩), .int .i64 bs, .slice (some ⟨nb, 0, none⟩) ns ns, .slice (some ⟨ob, 0, none⟩) ws ws] 128, pt ob ((vals os)) 43, own 3 1 (.slice av Y.length cap) Y.length (Y.map (Value.int .i64))]) (.cons (0, true) (.cons (1, true) (.cons (2, true) (.cons (3, true) (.cons (4, true) (.cons (5, true) (.cons (6, true) (.cons (7, true) (.cons (8, true) (.cons (9, true) (.cons (10, true) (.cons (11, true) (.cons (12, true) (.cons (13, true) (.cons (14, true) (.cons (15, true) (.cons (16, true) (.cons (17, true) (.cons (18, true) (.cons (19, true) (.cons (20, true) (.cons (21, true) (.cons (22, true) (.cons (23, false) (.cons (24, false) (.cons (25, true) (.cons (26, true) (.cons (27, true) (.cons (28, true) (.cons (29, true) .nil)))))))))))))))))))))))))))))) 30 mixed (by kernel_rfl) (by kernel_rfl) (by kernel_rfl) (hM.drop 4).drew ?_
  replace hM := hM.drew
  refine D.valF hA rfl (fun _ => R.move rfl) rfl ?_; clear hA a; intro a hA
  refine D.valF hA rfl (fun _ => R.nilCheck rfl) rfl ?_; clear hA a; intro a hA
  refine D.valF hA rfl (fun _ => R.fieldAddr (q := 0) fi131_0 rfl rfl rfl) rfl ?_; clear hA a; intro a hA
  refine D.val hA rfl (by kernel_rfl) (fun _ hM => R.load sz72 rfl (hM.cell (k := 0) rfl rfl)) rfl ?_; clear hA a; intro a hA
  refine D.valF hA rfl (fun _ => R.nilCheck rfl) rfl ?_; clear hA a; intro a hA
  refine D.valF hA rfl (fun _ => R.fieldAddr (q := 0) fi128_0 rfl rfl rfl) rfl ?_; clear hA a; intro a hA
  refine D.val hA rfl (by kernel_rfl) (fun _ hM => R.load sz24 rfl (hM.cell (k := 1) rfl rfl)) rfl ?_; clear hA a; intro a hA
  refine D.valF hA rfl (fun _ => R.move rfl) rfl ?_; clear hA a; intro a hA
  refine D.valF hA rfl (fun _ => R.nilCheck rfl) rfl ?_; clear hA a; intro a hA
  refine D.valF hA rfl (fun _ => R.fieldAddr (q := 0) fi131_0 rfl rfl rfl) rfl ?_; clear hA a; intro a hA
  refine D.val hA rfl (by kernel_rfl) (fun _ hM => R.load sz72 rfl (hM.cell (k := 0) rfl rfl)) rfl ?_; clear hA a; intro a hA
  refine D.valF hA rfl (fun _ => R.nilCheck rfl) rfl ?_; clear hA a; intro a hA
  refine D.valF hA rfl (fun _ => R.fieldAddr (q := 1) fi128_1 rfl rfl rfl) rfl ?_; clear hA a; intro a hA
  refine D.val hA rfl (by kernel_rfl) (fun _ hM => R.load sz3 rfl (hM.cell (k := 1) rfl rfl)) rfl ?_; clear hA a; intro a hA
  refine D.valF hA rfl (fun _ => R.move rfl) rfl ?_; clear hA a; intro a hA
  refine D.valF hA rfl (fun _ => R.nilCheck rfl) rfl ?_; clear hA a; intro a hA
  refine D.valF hA rfl (fun _ => R.fieldAddr (q := 5) fi131_5 rfl rfl rfl) rfl ?_; clear hA a; intro a hA
  refine D.val hA rfl (by kernel_rfl) (fun _ hM => R.load sz3 rfl (hM.cell (k := 0) rfl rfl)) rfl ?_; clear hA a; intro a hA
  refine D.valF hA rfl (fun _ => R.move rfl) rfl ?_; clear hA a; intro a hA
  refine D.valF hA rfl (fun _ => R.nilCheck rfl) rfl ?_; clear hA a; intro a hA
  refine D.valF hA rfl (fun _ => R.fieldAddr (q := 5) fi131_5 rfl rfl rfl) rfl ?_; clear hA a; intro a hA
  refine D.val hA rfl (by kernel_rfl) (fun _ hM => R.load sz3 rfl (hM.cell (k := 0) rfl rfl)) rfl ?_; clear hA a; intro a hA
  refine D.valF hA rfl (fun _ => R.move rfl) rfl ?_; clear hA a; intro a hA
  refine D.call hA rfl (R.callF Try.func86 rfl rfl rfl) rfl (up_any tp nx (by omega) (by omega) _) ?_; clear hA a
  rintro e w1 ⟨rfl, rfl⟩
  refine ⟨.int .i64 (packI (tp / 4294967296 % 1073741824 + 1) nx), rfl, (hM.drop 4), fun a hA => ?_⟩
  refine D.call hA rfl (R.callF Try.func61 rfl rfl rfl) rfl (cas_not m c l s o hmc bs tp (packI (tp / 4294967296 % 1073741824 + 1) nx) (by omega) (by first | omega | (simp; omega)) (by omega) hh _ (hM.mem (k := 4) rfl)) ?_; clear hA a
  rintro e w2 ⟨rfl, hn⟩
  replace hM : Mem _ _ [memO m c ((l.set bs.toNat (l.getD bs.toNat 0))) (s + 1) ⟨3, bs, l.getD bs.toNat 0, l.getD bs.toNat 0, false⟩, pt p #[.pointer (some ⟨q, 0, none⟩), .int .i64 wr, .bool false, .int .i64 sl, .int .i64 2, .int .i64 tp, .int .i64 nx] 131, pt q #[.pointer (some ⟨m, 0, none⟩), .int .i64 bs, .slice (some ⟨nb, 0, none⟩) ns ns, .slice (some ⟨ob, 0, none⟩) ws ws] 128, pt ob ((vals os)) 43, own 3 1 (.slice av Y.length cap) Y.length (Y.map (Value.int .i64))] _ := hM.callW (k := 4) rfl hn (fun _ h => h); clear hn
  refine ⟨.tuple #[.bool false, .int .i64 0], rfl, (hM.drop 0), fun a hA => ?_⟩
  refine D.valF hA rfl (fun _ => R.move rfl) rfl ?_; clear hA a; intro a hA
  refine D.valF hA rfl (fun _ => R.extract (v := .bool false) rfl rfl) rfl ?_; clear hA a; intro a hA
  refine D.valF hA rfl (fun _ => R.extract (v := .int .i64 0) rfl rfl) rfl ?_; clear hA a; intro a hA
  refine D.valF hA rfl (fun _ => R.assign rfl) rfl ?_; clear hA a; intro a hA
  refine D.valF hA rfl (fun _ => R.assign rfl) rfl ?_; clear hA a; intro a hA
  refine D.done ?_
  replace hA : St 68 [(0, _), (3, _)] a := hA.sub ((.cons rfl (.cons rfl .nil)))
  refine Ends.seq ?_
  refine Ends.region ?_
  refine S.val hA (R.move rfl) rfl ?_; clear hA a; intro a hA
  refine S.val hA (R.nilCheck rfl) rfl ?_; clear hA a; intro a hA
  refine S.val hA (R.fieldAddr (q := 4) fi131_4 rfl rfl rfl) rfl ?_; clear hA a; intro a hA
  refine S.store (k := 1) hA hM sz129 rfl rfl rfl rfl rfl ?_; clear hM
  intro w3 hM
  replace hM : Mem _ _ [memO m c ((l.set bs.toNat (l.getD bs.toNat 0))) (s + 1) ⟨3, bs, l.getD bs.toNat 0, l.getD bs.toNat 0, false⟩, pt p #[.pointer (some ⟨q, 0, none⟩), .int .i64 wr, .bool false, .int .i64 sl, .int .i64 0, .int .i64 tp, .int .i64 nx] 131, pt q #[.pointer (some ⟨m, 0, none⟩), .int .i64 bs, .slice (some ⟨nb, 0, none⟩) ns ns, .slice (some ⟨ob, 0, none⟩) ws ws] 128, pt ob ((vals os)) 43, own 3 1 (.slice av Y.length cap) Y.length (Y.map (Value.int .i64))] _ := hM
  refine S.done ?_
  replace hA : St 68 [(0, _), (3, _)] a := hA.sub ((.cons rfl (.cons rfl .nil)))
  refine Ends.seq ?_
  refine Ends.region ?_
  refine S.val hA (R.move rfl) rfl ?_; clear hA a; intro a hA
  refine S.done ?_
  replace hA : St 68 [(0, _), (48, _)] a := hA.sub ((.cons rfl (.cons rfl .nil)))
  refine Ends.condF hA rfl ?_
  refine Ends.skip ?_
  refine Ends.end0 Try.func80 Try.results80 hA ?_
  replace hM := hM.front (k := 4) rfl
  replace hM := hM.front (k := 4) rfl
  replace hM := hM.front (k := 4) rfl
  replace hM := hM.front (k := 4) rfl
  replace hM : Mem _ _ [pt p #[.pointer (some ⟨q, 0, none⟩), .int .i64 wr, .bool false, .int .i64 sl, .int .i64 0, .int .i64 tp, .int .i64 nx] 131, pt q #[.pointer (some ⟨m, 0, none⟩), .int .i64 bs, .slice (some ⟨nb, 0, none⟩) ns ns, .slice (some ⟨ob, 0, none⟩) ws ws] 128, pt ob ((vals os)) 43, own 3 1 (.slice av Y.length cap) Y.length (Y.map (Value.int .i64)), memO m c ((l.set bs.toNat (l.getD bs.toNat 0))) (s + 1) ⟨3, bs, l.getD bs.toNat 0, l.getD bs.toNat 0, false⟩] _ := hM
  rw [set_getD l bs.toNat (by omega)] at hM
  exact ⟨_, rfl, hM.firstN 5⟩
set_option maxRecDepth 100000 in
set_option maxHeartbeats 400000 in
theorem Spf_missf (p q m nb ns ob ws : Nat) (bs wr : Int) (os : List Value) (av : Option Addr) (Y : List Int) (cap : Nat) (hwr : 0 ≤ wr ∧ wr < ws) (hlen : os.length = ws) (hos : os[wr.toNat]? = some (.slice av Y.length cap)) (hY2 : Y.length ≤ 2) (c : Nat) (l : List Int) (s : Int) (o : CellOp) (hmc : m ≠ c) (hl : 0 ≤ bs ∧ bs + 1 ≤ l.length ∧ l.length ≤ 1000000) (hs : 0 ≤ s ∧ s < 9223372036854775806) (sl tp nx : Int) (htp : 0 ≤ tp ∧ tp < 4611686018427387904) (hh : l.getD bs.toNat 0 ≠ tp) (w : World) (hM : Mem w (feet [pt p #[.pointer (some ⟨q, 0, none⟩), .int .i64 wr, .bool false, .int .i64 sl, .int .i64 2, .int .i64 tp, .int .i64 nx] 131, pt q #[.pointer (some ⟨m, 0, none⟩), .int .i64 bs, .slice (some ⟨nb, 0, none⟩) ns ns, .slice (some ⟨ob, 0, none⟩) ws ws] 128, pt ob ((vals os)) 43, own 3 1 (.slice av Y.length cap) Y.length (Y.map (Value.int .i64)), memO m c l s o]) [pt p #[.pointer (some ⟨q, 0, none⟩), .int .i64 wr, .bool false, .int .i64 sl, .int .i64 2, .int .i64 tp, .int .i64 nx] 131, pt q #[.pointer (some ⟨m, 0, none⟩), .int .i64 bs, .slice (some ⟨nb, 0, none⟩) ns ns, .slice (some ⟨ob, 0, none⟩) ws ws] 128, pt ob ((vals os)) 43, own 3 1 (.slice av Y.length cap) Y.length (Y.map (Value.int .i64)), memO m c l s o] w) :
    Calls Try.prog 55 #[.pointer (some ⟨p, 0, none⟩)] w fun e w' => ∃ op, e = .returned (.bool false) ∧ Mem w (feet [pt p #[.pointer (some ⟨q, 0, none⟩), .int .i64 wr, .bool false, .int .i64 sl, .int .i64 2, .int .i64 tp, .int .i64 nx] 131, pt q #[.pointer (some ⟨m, 0, none⟩), .int .i64 bs, .slice (some ⟨nb, 0, none⟩) ns ns, .slice (some ⟨ob, 0, none⟩) ws ws] 128, pt ob ((vals os)) 43, own 3 1 (.slice av Y.length cap) Y.length (Y.map (Value.int .i64)), memO m c l s o]) [pt p #[.pointer (some ⟨q, 0, none⟩), .int .i64 wr, .bool false, .int .i64 sl, .int .i64 0, .int .i64 tp, .int .i64 nx] 131, pt q #[.pointer (some ⟨m, 0, none⟩), .int .i64 bs, .slice (some ⟨nb, 0, none⟩) ns ns, .slice (some ⟨ob, 0, none⟩) ws ws] 128, pt ob ((vals os)) 43, own 3 1 (.slice av Y.length cap) Y.length (Y.map (Value.int .i64)), memO m c l (s + 1) op] w' := by
  have hM0 : True := trivial  -- have hM
  refine Calls.of_ends (vs := [.pointer (some ⟨p, 0, none⟩)]) Try.func55 rfl Try.ntmps55 rfl ?_
  intro a hA
  replace hA : St 26 [(0, _)] a := hA
  refine Ends.seq ?_
  refine Ends.region ?_
  refine S.val hA (R.assign rfl) rfl ?_; clear hA a; intro a hA
  refine S.done ?_
  replace hA : St 26 [(0, _), (2, _)] a := hA.sub ((.cons rfl (.cons rfl .nil)))
  refine Ends.seq ?_
  refine Ends.seq ?_
  refine Ends.region ?_
  refine S.val hA (R.move rfl) rfl ?_; clear hA a; intro a hA
  refine S.val hA (R.eqlNil Try.underlying83 rfl rfl) rfl ?_; clear hA a; intro a hA
  refine S.done ?_
  replace hA : St 26 [(0, _), (2, _), (4, _)] a := hA.sub ((.cons rfl (.cons rfl (.cons rfl .nil))))
  refine Ends.condF hA rfl ?_
  refine Ends.skip ?_
  refine Ends.seq ?_
  refine Ends.seq ?_
  refine Ends.region ?_
  refine S.val hA (R.move rfl) rfl ?_; clear hA a; intro a hA
  refine S.val hA (R.nilCheck rfl) rfl ?_; clear hA a; intro a hA
  refine S.val hA (R.fieldAddr (q := 4) fi131_4 rfl rfl rfl) rfl ?_; clear hA a; intro a hA
  refine S.val hA (R.load sz129 rfl (hM.cell (k := 0) rfl rfl)) rfl ?_; clear hA a; intro a hA
  refine S.done ?_
  replace hA : St 26 [(0, _), (2, _), (8, _)] a := hA.sub ((.cons rfl (.cons rfl (.cons rfl .nil))))
  refine Ends.block ?_
  refine Ends.seq ?_
  refine Ends.region ?_
  refine S.val hA (R.ff (R.eql rfl rfl) (by first | decide | simp | omega)) rfl ?_; clear hA a; intro a hA
  refine S.val hA (R.assign rfl) rfl ?_; clear hA a; intro a hA
  refine S.done ?_
  replace hA : St 26 [(0, _), (2, _), (8, _), (9, _)] a := hA.sub ((.cons rfl (.cons rfl (.cons rfl (.cons rfl .nil)))))
  refine Ends.condF hA rfl ?_
  refine Ends.seq ?_
  refine Ends.region ?_
  refine S.val hA (R.ff (R.eql rfl rfl) (by first | decide | simp | omega)) rfl ?_; clear hA a; intro a hA
  refine S.val hA (R.assign rfl) rfl ?_; clear hA a; intro a hA
  refine S.done ?_
  replace hA : St 26 [(0, _), (2, _), (8, _), (13, _)] a := hA.sub ((.cons rfl (.cons rfl (.cons rfl (.cons rfl .nil)))))
  refine Ends.condF hA rfl ?_
  refine Ends.seq ?_
  refine Ends.region ?_
  refine S.val hA (R.tt (R.eql rfl rfl) (by first | decide | simp | omega)) rfl ?_; clear hA a; intro a hA
  refine S.val hA (R.assign rfl) rfl ?_; clear hA a; intro a hA
  refine S.done ?_
  replace hA : St 26 [(0, _), (2, _), (17, _)] a := hA.sub ((.cons rfl (.cons rfl (.cons rfl .nil))))
  refine Ends.condT hA rfl ?_
  refine Ends.region ?_
  refine S.val hA (R.move rfl) rfl ?_; clear hA a; intro a hA
  refine S.call hA (R.callF Try.func80 rfl rfl rfl) rfl (pf_missf p q m nb ns ob ws bs wr os av Y cap hwr hlen hos hY2 c l s o hmc hl hs sl tp nx htp hh _ (hM.hereN 5)) ?_; clear hA a
  rintro e w1 ⟨op, rfl, hn⟩
  replace hM : Mem _ _ [pt p #[.pointer (some ⟨q, 0, none⟩), .int .i64 wr, .bool false, .int .i64 sl, .int .i64 0, .int .i64 tp, .int .i64 nx] 131, pt q #[.pointer (some ⟨m, 0, none⟩), .int .i64 bs, .slice (some ⟨nb, 0, none⟩) ns ns, .slice (some ⟨ob, 0, none⟩) ws ws] 128, pt ob ((vals os)) 43, own 3 1 (.slice av Y.length cap) Y.length (Y.map (Value.int .i64)), memO m c l (s + 1) op] _ := hM.callL 5 hn; clear hn
  refine ⟨.tuple #[], rfl, fun a hA => ?_⟩
  refine S.done ?_
  replace hA : St 26 [(0, _), (2, _)] a := hA.sub ((.cons rfl (.cons rfl .nil)))
  refine Ends.inBlock ?_
  refine Ends.seq ?_
  refine Ends.region ?_
  refine S.val hA (R.move rfl) rfl ?_; clear hA a; intro a hA
  refine S.val hA (R.nilCheck rfl) rfl ?_; clear hA a; intro a hA
  refine S.val hA (R.fieldAddr (q := 4) fi131_4 rfl rfl rfl) rfl ?_; clear hA a; intro a hA
  refine S.val hA (R.load sz129 rfl (hM.cell (k := 0) rfl rfl)) rfl ?_; clear hA a; intro a hA
  refine S.val hA (R.ff (R.eql rfl rfl) (by first | decide | simp | omega)) rfl ?_; clear hA a; intro a hA
  refine S.val hA (R.assign rfl) rfl ?_; clear hA a; intro a hA
  refine S.done ?_
  replace hA : St 26 [(2, _)] a := hA.sub ((.cons rfl .nil))
  refine Ends.ret1 Try.func55 Try.results55 hA rfl ?_
  exact ⟨_, rfl, hM.firstN 5⟩
set_option maxRecDepth 100000 in
set_option maxHeartbeats 400000 in
theorem Spf_over (p q m nb ns ob ws : Nat) (bs wr : Int) (os : List Value) (av : Option Addr) (Y : List Int) (cap : Nat) (hwr : 0 ≤ wr ∧ wr < ws) (hlen : os.length = ws) (hos : os[wr.toNat]? = some (.slice av Y.length cap)) (hY2 : Y.length ≤ 2) (c : Nat) (l : List Int) (s : Int) (o : CellOp) (hmc : m ≠ c) (hl : 0 ≤ bs ∧ bs + 1 ≤ l.length ∧ l.length ≤ 1000000) (hs : 0 ≤ s ∧ s < 9223372036854775806) (g : Bool) (sl tp nx : Int) (w : World) (hM : Mem w (feet [pt p #[.pointer (some ⟨q, 0, none⟩), .int .i64 wr, .bool g, .int .i64 sl, .int .i64 3, .int .i64 tp, .int .i64 nx] 131, pt q #[.pointer (some ⟨m, 0, none⟩), .int .i64 bs, .slice (some ⟨nb, 0, none⟩) ns ns, .slice (some ⟨ob, 0, none⟩) ws ws] 128, pt ob ((vals os)) 43, own 3 1 (.slice av Y.length cap) Y.length (Y.map (Value.int .i64)), memO m c l s o]) [pt p #[.pointer (some ⟨q, 0, none⟩), .int .i64 wr, .bool g, .int .i64 sl, .int .i64 3, .int .i64 tp, .int .i64 nx] 131, pt q #[.pointer (some ⟨m, 0, none⟩), .int .i64 bs, .slice (some ⟨nb, 0, none⟩) ns ns, .slice (some ⟨ob, 0, none⟩) ws ws] 128, pt ob ((vals os)) 43, own 3 1 (.slice av Y.length cap) Y.length (Y.map (Value.int .i64)), memO m c l s o] w) :
    Calls Try.prog 55 #[.pointer (some ⟨p, 0, none⟩)] w fun e w' => e = .returned (.bool true) ∧ Mem w (feet [pt p #[.pointer (some ⟨q, 0, none⟩), .int .i64 wr, .bool g, .int .i64 sl, .int .i64 3, .int .i64 tp, .int .i64 nx] 131, pt q #[.pointer (some ⟨m, 0, none⟩), .int .i64 bs, .slice (some ⟨nb, 0, none⟩) ns ns, .slice (some ⟨ob, 0, none⟩) ws ws] 128, pt ob ((vals os)) 43, own 3 1 (.slice av Y.length cap) Y.length (Y.map (Value.int .i64)), memO m c l s o]) [pt p #[.pointer (some ⟨q, 0, none⟩), .int .i64 wr, .bool g, .int .i64 sl, .int .i64 3, .int .i64 tp, .int .i64 nx] 131, pt q #[.pointer (some ⟨m, 0, none⟩), .int .i64 bs, .slice (some ⟨nb, 0, none⟩) ns ns, .slice (some ⟨ob, 0, none⟩) ws ws] 128, pt ob ((vals os)) 43, own 3 1 (.slice av Y.length cap) Y.length (Y.map (Value.int .i64)), memO m c l s o] w' := by
  have hM0 : True := trivial  -- have hM
  refine Calls.of_ends (vs := [.pointer (some ⟨p, 0, none⟩)]) Try.func55 rfl Try.ntmps55 rfl ?_
  intro a hA
  replace hA : St 26 [(0, _)] a := hA
  refine Ends.seq ?_
  refine Ends.region ?_
  refine S.val hA (R.assign rfl) rfl ?_; clear hA a; intro a hA
  refine S.done ?_
  replace hA : St 26 [(0, _), (2, _)] a := hA.sub ((.cons rfl (.cons rfl .nil)))
  refine Ends.seq ?_
  refine Ends.seq ?_
  refine Ends.region ?_
  refine S.val hA (R.move rfl) rfl ?_; clear hA a; intro a hA
  refine S.val hA (R.eqlNil Try.underlying83 rfl rfl) rfl ?_; clear hA a; intro a hA
  refine S.done ?_
  replace hA : St 26 [(0, _), (2, _), (4, _)] a := hA.sub ((.cons rfl (.cons rfl (.cons rfl .nil))))
  refine Ends.condF hA rfl ?_
  refine Ends.skip ?_
  refine Ends.seq ?_
  refine Ends.seq ?_
  refine Ends.region ?_
  refine S.val hA (R.move rfl) rfl ?_; clear hA a; intro a hA
  refine S.val hA (R.nilCheck rfl) rfl ?_; clear hA a; intro a hA
  refine S.val hA (R.fieldAddr (q := 4) fi131_4 rfl rfl rfl) rfl ?_; clear hA a; intro a hA
  refine S.val hA (R.load sz129 rfl (hM.cell (k := 0) rfl rfl)) rfl ?_; clear hA a; intro a hA
  refine S.done ?_
  replace hA : St 26 [(0, _), (2, _), (8, _)] a := hA.sub ((.cons rfl (.cons rfl (.cons rfl .nil))))
  refine Ends.block ?_
  refine Ends.seq ?_
  refine Ends.region ?_
  refine S.val hA (R.ff (R.eql rfl rfl) (by first | decide | simp | omega)) rfl ?_; clear hA a; intro a hA
  refine S.val hA (R.assign rfl) rfl ?_; clear hA a; intro a hA
  refine S.done ?_
  replace hA : St 26 [(0, _), (2, _), (8, _), (9, _)] a := hA.sub ((.cons rfl (.cons rfl (.cons rfl (.cons rfl .nil)))))
  refine Ends.condF hA rfl ?_
  refine Ends.seq ?_
  refine Ends.region ?_
  refine S.val hA (R.ff (R.eql rfl rfl) (by first | decide | simp | omega)) rfl ?_; clear hA a; intro a hA
  refine S.val hA (R.assign rfl) rfl ?_; clear hA a; intro a hA
  refine S.done ?_
  replace hA : St 26 [(0, _), (2, _), (8, _), (13, _)] a := hA.sub ((.cons rfl (.cons rfl (.cons rfl (.cons rfl .nil)))))
  refine Ends.condF hA rfl ?_
  refine Ends.seq ?_
  refine Ends.region ?_
  refine S.val hA (R.ff (R.eql rfl rfl) (by first | decide | simp | omega)) rfl ?_; clear hA a; intro a hA
  refine S.val hA (R.assign rfl) rfl ?_; clear hA a; intro a hA
  refine S.done ?_
  replace hA : St 26 [(0, _), (2, _), (17, _)] a := hA.sub ((.cons rfl (.cons rfl (.cons rfl .nil))))
  refine Ends.condF hA rfl ?_
  refine Ends.skip ?_
  refine Ends.inBlock ?_
  refine Ends.seq ?_
  refine Ends.region ?_
  refine S.val hA (R.move rfl) rfl ?_; clear hA a; intro a hA
  refine S.val hA (R.nilCheck rfl) rfl ?_; clear hA a; intro a hA
  refine S.val hA (R.fieldAddr (q := 4) fi131_4 rfl rfl rfl) rfl ?_; clear hA a; intro a hA
  refine S.val hA (R.load sz129 rfl (hM.cell (k := 0) rfl rfl)) rfl ?_; clear hA a; intro a hA
  refine S.val hA (R.tt (R.eql rfl rfl) (by first | decide | simp | omega)) rfl ?_; clear hA a; intro a hA
  refine S.val hA (R.assign rfl) rfl ?_; clear hA a; intro a hA
  refine S.done ?_
  replace hA : St 26 [(2, _)] a := hA.sub ((.cons rfl .nil))
  refine Ends.ret1 Try.func55 Try.results55 hA rfl ?_
  exact ⟨rfl, hM⟩
set_option maxRecDepth 100000 in
set_option maxHeartbeats 400000 in
theorem pact_over (p q : Nat) (wr : Int) (t : PAct) (w : World) (hp : w.heap[p]? = some (.cells #[.pointer (some ⟨q, 0, none⟩), .int .i64 wr, .bool t.give, .int .i64 t.slot, .int .i64 t.ph, .int .i64 t.top, .int .i64 t.next] 131 (0, 0))) :
    Calls Try.prog 54 #[.pointer (some ⟨p, 0, none⟩)] w fun e w' => e = .returned (.bool (decide (t.ph = 3))) ∧ w = w' := by
  have hM := Mem.start w
  refine Calls.of_ends (vs := [.pointer (some ⟨p, 0, none⟩)]) Try.func54 rfl Try.ntmps54 rfl ?_
  intro a hA
  replace hA : St 12 [(0, _)] a := hA
  refine Ends.seq ?_
  refine Ends.region ?_
  refine S.val hA (R.assign rfl) rfl ?_; clear hA a; intro a hA
  refine S.done ?_
  replace hA : St 12 [(0, _), (2, _)] a := hA.sub ((.cons rfl (.cons rfl .nil)))
  refine Ends.seq ?_
  refine Ends.region ?_
  refine S.val hA (R.move rfl) rfl ?_; clear hA a; intro a hA
  refine S.val hA (R.eqlNil Try.underlying83 rfl rfl) rfl ?_; clear hA a; intro a hA
  refine S.val hA (R.move rfl) rfl ?_; clear hA a; intro a hA
  refine S.valg (dj := 5) hA (by kernel_rfl) rfl (R.move rfl) rfl ?_; clear hA a; intro a hA
  refine S.valg (dj := 5) hA (by kernel_rfl) rfl (R.nilCheck rfl) rfl ?_; clear hA a; intro a hA
  refine S.valg (dj := 5) hA (by kernel_rfl) rfl (R.fieldAddr (q := 4) fi131_4 rfl rfl rfl) rfl ?_; clear hA a; intro a hA
  refine S.valg (dj := 5) hA (by kernel_rfl) rfl (R.load sz129 rfl (hM.cellB hp rfl)) rfl ?_; clear hA a; intro a hA
  refine S.valg (dj := 5) hA (by kernel_rfl) rfl (R.eql rfl rfl) rfl ?_; clear hA a; intro a hA
  refine S.val hA (R.pickF rfl rfl) rfl ?_; clear hA a; intro a hA
  refine S.val hA (R.assign rfl) rfl ?_; clear hA a; intro a hA
  refine S.done ?_
  replace hA : St 12 [(2, _)] a := hA.sub ((.cons rfl .nil))
  refine Ends.ret1 Try.func54 Try.results54 hA rfl ?_
  exact ⟨rfl, rfl⟩
set_option maxRecDepth 100000 in
set_option maxHeartbeats 400000 in
theorem pact_slot (p q : Nat) (wr : Int) (t : PAct) (h3 : t.ph = 3) (w : World) (hp : w.heap[p]? = some (.cells #[.pointer (some ⟨q, 0, none⟩), .int .i64 wr, .bool t.give, .int .i64 t.slot, .int .i64 t.ph, .int .i64 t.top, .int .i64 t.next] 131 (0, 0))) :
    Calls Try.prog 56 #[.pointer (some ⟨p, 0, none⟩)] w fun e w' => e = .returned (.int .i64 (t.slot)) ∧ w = w' := by
  have hM := Mem.start w
  refine Calls.of_ends (vs := [.pointer (some ⟨p, 0, none⟩)]) Try.func56 rfl Try.ntmps56 rfl ?_
  intro a hA
  replace hA : St 16 [(0, _)] a := hA
  refine Ends.seq ?_
  refine Ends.region ?_
  refine S.val hA (R.assign rfl) rfl ?_; clear hA a; intro a hA
  refine S.done ?_
  replace hA : St 16 [(0, _), (2, _)] a := hA.sub ((.cons rfl (.cons rfl .nil)))
  refine Ends.seq ?_
  refine Ends.seq ?_
  refine Ends.region ?_
  refine S.val hA (R.move rfl) rfl ?_; clear hA a; intro a hA
  refine S.val hA (R.eqlNil Try.underlying83 rfl rfl) rfl ?_; clear hA a; intro a hA
  refine S.val hA (R.move rfl) rfl ?_; clear hA a; intro a hA
  refine S.valg (dj := 5) hA (by kernel_rfl) rfl (R.move rfl) rfl ?_; clear hA a; intro a hA
  refine S.valg (dj := 5) hA (by kernel_rfl) rfl (R.nilCheck rfl) rfl ?_; clear hA a; intro a hA
  refine S.valg (dj := 5) hA (by kernel_rfl) rfl (R.fieldAddr (q := 4) fi131_4 rfl rfl rfl) rfl ?_; clear hA a; intro a hA
  refine S.valg (dj := 5) hA (by kernel_rfl) rfl (R.load sz129 rfl (hM.cellB hp rfl)) rfl ?_; clear hA a; intro a hA
  refine S.valg (dj := 5) hA (by kernel_rfl) rfl (R.ff (R.neq rfl rfl) (by omega)) rfl ?_; clear hA a; intro a hA
  refine S.val hA (R.pickF rfl rfl) rfl ?_; clear hA a; intro a hA
  refine S.done ?_
  replace hA : St 16 [(0, _), (2, _), (11, _)] a := hA.sub ((.cons rfl (.cons rfl (.cons rfl .nil))))
  refine Ends.condF hA rfl ?_
  refine Ends.skip ?_
  refine Ends.seq ?_
  refine Ends.region ?_
  refine S.val hA (R.move rfl) rfl ?_; clear hA a; intro a hA
  refine S.val hA (R.nilCheck rfl) rfl ?_; clear hA a; intro a hA
  refine S.val hA (R.fieldAddr (q := 3) fi131_3 rfl rfl rfl) rfl ?_; clear hA a; intro a hA
  refine S.val hA (R.load sz3 rfl (hM.cellB hp rfl)) rfl ?_; clear hA a; intro a hA
  refine S.val hA (R.assign rfl) rfl ?_; clear hA a; intro a hA
  refine S.done ?_
  replace hA : St 16 [(2, _)] a := hA.sub ((.cons rfl .nil))
  refine Ends.ret1 Try.func56 Try.results56 hA rfl ?_
  exact ⟨rfl, rfl⟩
set_option maxRecDepth 100000 in
set_option maxHeartbeats 400000 in
theorem pact_noslot (p q : Nat) (wr : Int) (t : PAct) (h3 : t.ph ≠ 3) (w : World) (hp : w.heap[p]? = some (.cells #[.pointer (some ⟨q, 0, none⟩), .int .i64 wr, .bool t.give, .int .i64 t.slot, .int .i64 t.ph, .int .i64 t.top, .int .i64 t.next] 131 (0, 0))) :
    Calls Try.prog 56 #[.pointer (some ⟨p, 0, none⟩)] w fun e w' => e = .returned (.int .i64 (-1)) ∧ w = w' := by
  have hM := Mem.start w
  refine Calls.of_ends (vs := [.pointer (some ⟨p, 0, none⟩)]) Try.func56 rfl Try.ntmps56 rfl ?_
  intro a hA
  replace hA : St 16 [(0, _)] a := hA
  refine Ends.seq ?_
  refine Ends.region ?_
  refine S.val hA (R.assign rfl) rfl ?_; clear hA a; intro a hA
  refine S.done ?_
  replace hA : St 16 [(0, _), (2, _)] a := hA.sub ((.cons rfl (.cons rfl .nil)))
  refine Ends.seq ?_
  refine Ends.seq ?_
  refine Ends.region ?_
  refine S.val hA (R.move rfl) rfl ?_; clear hA a; intro a hA
  refine S.val hA (R.eqlNil Try.underlying83 rfl rfl) rfl ?_; clear hA a; intro a hA
  refine S.val hA (R.move rfl) rfl ?_; clear hA a; intro a hA
  refine S.valg (dj := 5) hA (by kernel_rfl) rfl (R.move rfl) rfl ?_; clear hA a; intro a hA
  refine S.valg (dj := 5) hA (by kernel_rfl) rfl (R.nilCheck rfl) rfl ?_; clear hA a; intro a hA
  refine S.valg (dj := 5) hA (by kernel_rfl) rfl (R.fieldAddr (q := 4) fi131_4 rfl rfl rfl) rfl ?_; clear hA a; intro a hA
  refine S.valg (dj := 5) hA (by kernel_rfl) rfl (R.load sz129 rfl (hM.cellB hp rfl)) rfl ?_; clear hA a; intro a hA
  refine S.valg (dj := 5) hA (by kernel_rfl) rfl (R.tt (R.neq rfl rfl) (by omega)) rfl ?_; clear hA a; intro a hA
  refine S.val hA (R.pickF rfl rfl) rfl ?_; clear hA a; intro a hA
  refine S.done ?_
  replace hA : St 16 [(0, _), (2, _), (11, _)] a := hA.sub ((.cons rfl (.cons rfl (.cons rfl .nil))))
  refine Ends.condT hA rfl ?_
  refine Ends.seq ?_
  refine Ends.region ?_
  refine S.val hA (R.assign rfl) rfl ?_; clear hA a; intro a hA
  refine S.done ?_
  replace hA : St 16 [(0, _), (2, _)] a := hA.sub ((.cons rfl (.cons rfl .nil)))
  refine Ends.ret1 Try.func56 Try.results56 hA rfl ?_
  exact ⟨rfl, rfl⟩
set_option maxRecDepth 100000 in
set_option maxHeartbeats 400000 in
theorem pgive_ok (q m nb ns ob ws : Nat) (bs i j : Int) (h : 0 ≤ j ∧ j < ns) (hi : 0 ≤ i ∧ i < ws) (w : World) (hp : w.heap[q]? = some (.cells #[.pointer (some ⟨m, 0, none⟩), .int .i64 bs, .slice (some ⟨nb, 0, none⟩) ns ns, .slice (some ⟨ob, 0, none⟩) ws ws] 128 (0, 0))) :
    Calls Try.prog 51 #[.pointer (some ⟨q, 0, none⟩), .int .i64 i, .int .i64 j] w fun e w' => ∃ r, e = .returned (.pointer (some ⟨r, 0, none⟩)) ∧ Mem w nof [pt r #[.pointer (some ⟨q, 0, none⟩), .int .i64 i, .bool true, .int .i64 j, .int .i64 0, .int .i64 0, .int .i64 0] 131] w' := by
  have hM := Mem.start w
  refine Calls.of_ends (vs := [.pointer (some ⟨q, 0, none⟩), .int .i64 i, .int .i64 j]) Try.func51 rfl Try.ntmps51 rfl ?_
  intro a hA
  replace hA : St 29 [(0, _), (1, _), (2, _)] a := hA
  refine Ends.seq ?_
  refine Ends.region ?_
  refine S.val hA (R.assign rfl) rfl ?_; clear hA a; intro a hA
  refine S.done ?_
  replace hA : St 29 [(0, _), (1, _), (2, _), (6, _)] a := hA.sub ((.cons rfl (.cons rfl (.cons rfl (.cons rfl .nil)))))
  refine Ends.seq ?_
  refine Ends.seq ?_
  refine Ends.region ?_
  refine S.val hA (R.move rfl) rfl ?_; clear hA a; intro a hA
  refine S.val hA (R.move rfl) rfl ?_; clear hA a; intro a hA
  refine S.call hA (R.callF Try.func73 rfl rfl rfl) rfl (phas_yes q m nb ob ns ws bs j h _ hp) ?_; clear hA a
  rintro e w1 ⟨rfl, rfl⟩
  refine ⟨.bool true, rfl, fun a hA => ?_⟩
  refine S.val hA (R.not rfl) rfl ?_; clear hA a; intro a hA
  refine S.val hA (R.move rfl) rfl ?_; clear hA a; intro a hA
  refine S.valg (dj := 11) hA (by kernel_rfl) rfl (R.move rfl) rfl ?_; clear hA a; intro a hA
  refine S.valg (dj := 11) hA (by kernel_rfl) rfl (R.ff (R.lss rfl rfl) (by omega)) rfl ?_; clear hA a; intro a hA
  refine S.val hA (R.pickF rfl rfl) rfl ?_; clear hA a; intro a hA
  refine S.val hA (R.move rfl) rfl ?_; clear hA a; intro a hA
  refine S.valg (dj := 15) hA (by kernel_rfl) rfl (R.move rfl) rfl ?_; clear hA a; intro a hA
  refine S.valg (dj := 15) hA (by kernel_rfl) rfl (R.move rfl) rfl ?_; clear hA a; intro a hA
  refine S.valg (dj := 15) hA (by kernel_rfl) rfl (R.nilCheck rfl) rfl ?_; clear hA a; intro a hA
  refine S.valg (dj := 15) hA (by kernel_rfl) rfl (R.fieldAddr (q := 3) fi128_3 rfl rfl rfl) rfl ?_; clear hA a; intro a hA
  refine S.valg (dj := 15) hA (by kernel_rfl) rfl (R.load sz95 rfl (hM.cellB hp rfl)) rfl ?_; clear hA a; intro a hA
  refine S.valg (dj := 15) hA (by kernel_rfl) rfl (R.lenS Try.underlying95 rfl rfl) rfl ?_; clear hA a; intro a hA
  refine S.valg (dj := 15) hA (by kernel_rfl) rfl (R.ff (R.geq rfl rfl) (by omega)) rfl ?_; clear hA a; intro a hA
  refine S.val hA (R.pickF rfl rfl) rfl ?_; clear hA a; intro a hA
  refine S.done ?_
  replace hA : St 29 [(0, _), (1, _), (2, _), (6, _), (23, _)] a := hA.sub ((.cons rfl (.cons rfl (.cons rfl (.cons rfl (.cons rfl .nil))))))
  refine Ends.condF hA rfl ?_
  refine Ends.skip ?_
  refine Ends.seq ?_
  refine Ends.region ?_
  refine S.val hA (R.move rfl) rfl ?_; clear hA a; intro a hA
  refine S.val hA (R.move rfl) rfl ?_; clear hA a; intro a hA
  refine S.val hA (R.move rfl) rfl ?_; clear hA a; intro a hA
  refine S.val hA (R.build (cells := #[.pointer (some ⟨q, 0, none⟩), .int .i64 i, .bool true, .int .i64 j, .int .i64 0, .int .i64 0, .int .i64 0]) rfl (by kernel_rfl)) rfl ?_; clear hA a; intro a hA
  refine S.box hA hM rfl rfl ?_; clear hA hM a; intro b1 w2 hb2 hM a hA
  replace hM : Mem _ _ [pt b1 #[.pointer (some ⟨q, 0, none⟩), .int .i64 i, .bool true, .int .i64 j, .int .i64 0, .int .i64 0, .int .i64 0] 131] _ := hM
  refine S.val hA (R.assign rfl) rfl ?_; clear hA a; intro a hA
  refine S.done ?_
  replace hA : St 29 [(6, _)] a := hA.sub ((.cons rfl .nil))
  refine Ends.ret1 Try.func51 Try.results51 hA rfl ?_
  exact ⟨_, rfl, hM⟩
/-- An act, as a chunk. -/
def actC (p q : Nat) (wr : Int) (t : PAct) : Ck := pt p #[.pointer (some ⟨q, 0, none⟩), .int .i64 wr, .bool t.give, .int .i64 t.slot, .int .i64 t.ph, .int .i64 t.top, .int .i64 t.next] 131
/-- What an act reaches: itself, the pool, the workers' own slots, those of its worker, the memory. -/
def pcks (p q m nb ns ob ws c : Nat) (bs wr : Int) (os : List Value) (av : Option Addr) (cap : Nat) (o : CellOp) (z : PSt) : List Ck :=
  [actC p q wr z.t, pt q #[.pointer (some ⟨m, 0, none⟩), .int .i64 bs, .slice (some ⟨nb, 0, none⟩) ns ns, .slice (some ⟨ob, 0, none⟩) ws ws] 128, pt ob (vals (os.set wr.toNat (.slice av z.Y.length cap))) 43, own 3 1 (.slice av z.Y.length cap) z.Y.length (z.Y.map (Value.int .i64)), memO m c z.l z.s o]
theorem pstep_any (p q m nb ns ob ws c : Nat) (bs wr n : Int) (os : List Value) (av : Option Addr) (cap : Nat) (o : CellOp) (hmc : m ≠ c) (hwr : 0 ≤ wr ∧ wr < ws) (hlen : os.length = ws) (z : PSt) (hz : SOK bs n z) (hs : z.s < 9223372036854775806) (w : World)
    (hM : Mem w (feet (pcks p q m nb ns ob ws c bs wr os av cap o z)) (pcks p q m nb ns ob ws c bs wr os av cap o z) w) :
    Calls Try.prog 55 #[.pointer (some ⟨p, 0, none⟩)] w fun e w' => ∃ av' cap' o', e = .returned (.bool (decide ((pstep bs z).t.ph = 3))) ∧
      Mem w (feet (pcks p q m nb ns ob ws c bs wr os av cap o z)) (pcks p q m nb ns ob ws c bs wr os av' cap' o' (pstep bs z)) w' := by
  obtain ⟨⟨g, sl, ph, tp, nx⟩, Y, l, s⟩ := z
  obtain ⟨hm, ha, hy, hy2, hs0⟩ := hz
  simp only at hs0 hs hy2
  obtain ⟨hb0, hn1, hn2, hbl, hll, htop, hlk⟩ := hm
  simp only at hbl hll htop
  have hl : 0 ≤ bs ∧ bs + 1 ≤ l.length ∧ l.length ≤ 1000000 := by omega
  have hss : 0 ≤ s ∧ s < 9223372036854775806 := ⟨hs0, hs⟩
  have hwl : wr.toNat < os.length := by omega
  have hlen' : (os.set wr.toNat (.slice av Y.length cap)).length = ws := by rw [List.length_set]; exact hlen
  have hos : (os.set wr.toNat (.slice av Y.length cap))[wr.toNat]? = some (.slice av Y.length cap) := by rw [List.getElem?_set_self hwl]
  have hfix : ∀ Z : List Int, Z = Y → (os.set wr.toNat (.slice av Z.length cap)) = (os.set wr.toNat (.slice av Y.length cap)) := fun Z hZ => by rw [hZ]
  rcases pcase ha bs Y l with ⟨h, hg, hY⟩ | ⟨h, hg, hY⟩ | ⟨h, hg, hY, ht⟩ | ⟨h, hg, hY, ht⟩ | ⟨h, hg, hY⟩ | ⟨h, hg⟩ | ⟨h, hg⟩ | ⟨h, hg, hh⟩ | ⟨h, hg, hh⟩ | ⟨h, hh⟩ | ⟨h⟩
  all_goals simp only at h
  all_goals subst h
  all_goals (try (simp only at hg; subst hg))
  · rw [pstep_keep rfl rfl hY]
    refine (Spf_keep p q m nb ns ob ws bs wr _ av Y cap hwr hlen' hos hy2 c l s o hmc hl hss sl tp nx hY w hM).mono ?_
    rintro e w' ⟨a2, c2, he, hn⟩
    rw [List.set_set] at hn
    exact ⟨a2, c2, _, he, hn⟩
  · rw [pstep_own rfl rfl hY]
    refine (Spf_own p q m nb ns ob ws bs wr _ av Y cap hwr hlen' hos hy2 c l s o hmc hl hss sl tp nx hY w hM).mono ?_
    rintro e w' ⟨he, hn⟩
    rw [List.set_set] at hn
    exact ⟨_, _, _, he, hn⟩
  · rw [pstep_none rfl rfl hY ht]
    refine (Spf_none p q m nb ns ob ws bs wr _ av Y cap hwr hlen' hos hy2 c l s o hmc hl hss sl tp nx ⟨htop.1, htop.2.1⟩ (by rw [hY]; rfl) ht w hM).mono ?_
    rintro e w' ⟨op, he, hn⟩
    exact ⟨_, _, _, he, hn⟩
  · rw [pstep_some rfl rfl hY ht]
    refine (Spf_some p q m nb ns ob ws bs wr _ av Y cap hwr hlen' hos hy2 c l s o hmc hl hss sl tp nx ⟨htop.1, htop.2.1⟩ (by rw [hY]; rfl) ht w hM).mono ?_
    rintro e w' ⟨op, he, hn⟩
    exact ⟨_, _, _, he, hn⟩
  · rw [pstep_full rfl rfl hY]
    refine (Spf_full p q m nb ns ob ws bs wr _ av Y cap hwr hlen' hos hy2 c l s o hmc hl hss sl tp nx ⟨htop.1, htop.2.1⟩ hY w hM).mono ?_
    rintro e w' ⟨op, he, hn⟩
    exact ⟨_, _, _, he, hn⟩
  · rw [pstep_link rfl rfl]
    have h3 := ha.2.2.1 (.inl rfl)
    have h1 := ha.1 rfl
    simp only at h1 h3
    refine (Spf_link p q m nb ns ob ws bs wr _ av Y cap hwr hlen' hos hy2 c l s o hmc hl hss sl tp nx ⟨h3.1.1, h3.1.2.1⟩ (by omega) w hM).mono ?_
    rintro e w' ⟨op, he, hn⟩
    exact ⟨_, _, _, he, hn⟩
  · rw [pstep_next rfl rfl]
    have h3 := ha.2.2.1 (.inl rfl)
    have h4 := h3.1.2.2
    have h5 := h3.2 rfl
    unfold atI at h4 h5
    simp only at h4 h5
    refine (Spf_next p q m nb ns ob ws bs wr _ av Y cap hwr hlen' hos hy2 c l s o hmc hl hss sl tp nx ⟨h3.1.1, h3.1.2.1⟩ (by omega) w hM).mono ?_
    rintro e w' ⟨op, he, hn⟩
    exact ⟨_, _, _, he, hn⟩
  · rw [pstep_push rfl rfl hh]
    have h3 := ha.2.2.1 (.inr rfl)
    refine (Spf_push p q m nb ns ob ws bs wr _ av Y cap hwr hlen' hos hy2 c l s o hmc hl hss sl tp nx ⟨h3.1.1, h3.1.2.1⟩ hh w hM).mono ?_
    rintro e w' ⟨op, he, hn⟩
    exact ⟨_, _, _, he, hn⟩
  · rw [pstep_pop rfl rfl hh]
    have h3 := ha.2.2.1 (.inr rfl)
    refine (Spf_pop p q m nb ns ob ws bs wr _ av Y cap hwr hlen' hos hy2 c l s o hmc hl hss sl tp nx ⟨h3.1.1, h3.1.2.1⟩ hh w hM).mono ?_
    rintro e w' ⟨op, he, hn⟩
    exact ⟨_, _, _, he, hn⟩
  · rw [pstep_miss rfl hh]
    have h3 := ha.2.2.1 (.inr rfl)
    cases g
    · refine (Spf_missf p q m nb ns ob ws bs wr _ av Y cap hwr hlen' hos hy2 c l s o hmc hl hss sl tp nx ⟨h3.1.1, h3.1.2.1⟩ hh w hM).mono ?_
      rintro e w' ⟨op, he, hn⟩
      exact ⟨_, _, _, he, hn⟩
    · refine (Spf_misst p q m nb ns ob ws bs wr _ av Y cap hwr hlen' hos hy2 c l s o hmc hl hss sl tp nx ⟨h3.1.1, h3.1.2.1⟩ hh w hM).mono ?_
      rintro e w' ⟨op, he, hn⟩
      exact ⟨_, _, _, he, hn⟩
  · rw [pstep_over rfl]
    refine (Spf_over p q m nb ns ob ws bs wr _ av Y cap hwr hlen' hos hy2 c l s o hmc hl hss g sl tp nx w hM).mono ?_
    rintro e w' ⟨he, hn⟩
    exact ⟨_, _, _, he, hn⟩
end Go.Proofs.Ytjjbognomeplbaa
