/-
  HistPools, part 4 of 5: what the code computes, and plain laws; no condition beside those that each theorem tells.
-/
import Derived.Test.YtjjbognomeplbaaDoorHistPoolsC
namespace Go.Proofs.YtjjbognomeplbaaDoor
open Go.RowKit
theorem Mem.ownCut {w0 w : World} {F : Nat → Prop} {L : List Ck} {t : TypeId} {a : Option Addr} {cap : Nat} {X : List Int} (h : Mem w0 F (own t 1 (.slice a X.length cap) X.length (X.map (Value.int .i64)) :: L) w) (m : Nat) (hm : m ≤ X.length) : Mem w0 F (own t 1 (.slice a (X.take m).length cap) (X.take m).length ((X.take m).map (Value.int .i64)) :: L) w := by
  have hl : (X.take m).length = m := by rw [List.length_take]; omega
  refine h.head ?_ (fun b hb => by cases a <;> exact hb)
  have ho : w.ownsRow 0 t 1 (.slice a X.length cap) X.length (X.map (Value.int .i64)) := h.mem (k := 0) rfl
  rw [hl]
  refine ⟨by rw [List.length_map, hl]; omega, ?_⟩
  rcases ho.2 with ⟨h1, h2⟩ | ⟨g, c, cur, h1, h2, h3, h4, h5, h6, h7⟩
  · injection h1 with h1 h1' h1''
    subst h1 h1''
    have h0 : m = 0 := by omega
    subst h0
    exact .inl ⟨rfl, rfl⟩
  · injection h1 with h1 h1' h1''
    subst h1 h1''
    refine .inr ⟨g, cap, cur, rfl, h2, h3, by omega, h5, h6, ?_⟩
    rw [List.map_take, ← h7, List.take_take]
    congr 1
    omega
set_option maxRecDepth 100000 in
set_option maxHeartbeats 400000 in
theorem ppriv_keep (p q m nb ns ob ws : Nat) (bs wr : Int) (os : List Value) (av : Option Addr) (Y : List Int) (cap : Nat) (hwr : 0 ≤ wr ∧ wr < ws) (hlen : os.length = ws) (hos : os[wr.toNat]? = some (.slice av Y.length cap)) (hY2 : Y.length ≤ 2) (sl ph tp nx : Int) (hY : Y.length < 2) (w : World) (hM : Mem w (feet [pt p #[.pointer (some ⟨q, 0, none⟩), .int .i64 wr, .bool true, .int .i64 sl, .int .i64 ph, .int .i64 tp, .int .i64 nx] 76, pt q #[.pointer (some ⟨m, 0, none⟩), .int .i64 bs, .slice (some ⟨nb, 0, none⟩) ns ns, .slice (some ⟨ob, 0, none⟩) ws ws] 73, pt ob ((vals os)) 22, own 3 1 (.slice av Y.length cap) Y.length (Y.map (Value.int .i64))]) [pt p #[.pointer (some ⟨q, 0, none⟩), .int .i64 wr, .bool true, .int .i64 sl, .int .i64 ph, .int .i64 tp, .int .i64 nx] 76, pt q #[.pointer (some ⟨m, 0, none⟩), .int .i64 bs, .slice (some ⟨nb, 0, none⟩) ns ns, .slice (some ⟨ob, 0, none⟩) ws ws] 73, pt ob ((vals os)) 22, own 3 1 (.slice av Y.length cap) Y.length (Y.map (Value.int .i64))] w) :
  Calls Tryd.prog 37 #[.pointer (some ⟨p, 0, none⟩)] w fun e w' => ∃ a2 c2, e = .returned (.bool true) ∧ Mem w (feet [pt p #[.pointer (some ⟨q, 0, none⟩), .int .i64 wr, .bool true, .int .i64 sl, .int .i64 ph, .int .i64 tp, .int .i64 nx] 76, pt q #[.pointer (some ⟨m, 0, none⟩), .int .i64 bs, .slice (some ⟨nb, 0, none⟩) ns ns, .slice (some ⟨ob, 0, none⟩) ws ws] 73, pt ob ((vals os)) 22, own 3 1 (.slice av Y.length cap) Y.length (Y.map (Value.int .i64))]) [pt p #[.pointer (some ⟨q, 0, none⟩), .int .i64 wr, .bool true, .int .i64 sl, .int .i64 ph, .int .i64 tp, .int .i64 nx] 76, pt q #[.pointer (some ⟨m, 0, none⟩), .int .i64 bs, .slice (some ⟨nb, 0, none⟩) ns ns, .slice (some ⟨ob, 0, none⟩) ws ws] 73, pt ob (vals (os.set wr.toNat (.slice a2 (Y ++ [sl]).length c2))) 22, own 3 1 (.slice a2 (Y ++ [sl]).length c2) (Y ++ [sl]).length ((Y ++ [sl]).map (Value.int .i64))] w' := by
 refine Calls.of_ends (vs := [.pointer (some ⟨p, 0, none⟩)]) Tryd.func37 rfl Tryd.ntmps37 rfl ?_
 intro a hA
 replace hA : St 74 [(0, _)] a := hA
 refine Ends.seq (Ends.region ?_)
 refine S.val hA (R.assign rfl) rfl ?_; clear hA a; intro a hA
 refine S.done ?_
 refine Ends.seq ?_
 refine Ends.drawn (Mem w (feet [pt p #[.pointer (some ⟨q, 0, none⟩), .int .i64 wr, .bool true, .int .i64 sl, .int .i64 ph, .int .i64 tp, .int .i64 nx] 76, pt q #[.pointer (some ⟨m, 0, none⟩), .int .i64 bs, .slice (some ⟨nb, 0, none⟩) ns ns, .slice (some ⟨ob, 0, none⟩) ws ws] 73, pt ob ((vals os)) 22, own 3 1 (.slice av Y.length cap) Y.length (Y.map (Value.int .i64))]) [pt p #[.pointer (some ⟨q, 0, none⟩), .int .i64 wr, .bool true, .int .i64 sl, .int .i64 ph, .int .i64 tp, .int .i64 nx] 76, pt q #[.pointer (some ⟨m, 0, none⟩), .int .i64 bs, .slice (some ⟨nb, 0, none⟩) ns ns, .slice (some ⟨ob, 0, none⟩) ws ws] 73, pt ob ((vals os)) 22, own 3 1 (.slice av Y.length cap) Y.length (Y.map (Value.int .i64))]) (.cons (0, true) (.cons (1, true) (.cons (2, true) (.cons (3, true) (.cons (4, true) (.cons (5, true) (.cons (6, true) (.cons (7, true) (.cons (8, true) (.cons (9, true) (.cons (10, true) (.cons (11, true) (.cons (12, true) .nil))))))))))))) 13 mixed (by kernel_rfl) (by kernel_rfl) (by kernel_rfl) hM.drew ?_
 replace hM := hM.drew
 refine D.valF hA rfl (fun _ => R.move rfl) rfl ?_; clear hA a; intro a hA
 refine D.valF hA rfl (fun _ => R.nilCheck rfl) rfl ?_; clear hA a; intro a hA
 refine D.valF hA rfl (fun _ => R.fieldAddr (q := 0) fi76_0 rfl rfl rfl) rfl ?_; clear hA a; intro a hA
 refine D.val hA rfl (by kernel_rfl) (fun _ hM => R.load sz46 rfl (hM.cell (k := 0) rfl rfl)) rfl ?_; clear hA a; intro a hA
 refine D.valF hA rfl (fun _ => R.nilCheck rfl) rfl ?_; clear hA a; intro a hA
 refine D.valF hA rfl (fun _ => R.fieldAddr (q := 3) fi73_3 rfl rfl rfl) rfl ?_; clear hA a; intro a hA
 refine D.val hA rfl (by kernel_rfl) (fun _ hM => R.load sz71 rfl (hM.cell (k := 1) rfl rfl)) rfl ?_; clear hA a; intro a hA
 refine D.valF hA rfl (fun _ => R.move rfl) rfl ?_; clear hA a; intro a hA
 refine D.valF hA rfl (fun _ => R.nilCheck rfl) rfl ?_; clear hA a; intro a hA
 refine D.valF hA rfl (fun _ => R.fieldAddr (q := 1) fi76_1 rfl rfl rfl) rfl ?_; clear hA a; intro a hA
 refine D.val hA rfl (by kernel_rfl) (fun _ hM => R.load sz3 rfl (hM.cell (k := 0) rfl rfl)) rfl ?_; clear hA a; intro a hA
 refine D.valF hA rfl (fun _ => R.indexAddr (q := wr.toNat) sl71 rfl rfl (by omega) (by omega)) rfl ?_; clear hA a; intro a hA
 refine D.valF hA rfl (fun _ => R.assign rfl) rfl ?_; clear hA a; intro a hA
 refine D.done ?_
 replace hA : St 74 [(0, _), (3, _)] a := hA.sub ((.cons rfl (.cons rfl .nil)))
 refine Ends.seq (Ends.block (Ends.seq (Ends.region ?_)))
 refine S.val hA (R.move rfl) rfl ?_; clear hA a; intro a hA
 refine S.val hA (R.nilCheck rfl) rfl ?_; clear hA a; intro a hA
 refine S.val hA (R.fieldAddr (q := 2) fi76_2 rfl rfl rfl) rfl ?_; clear hA a; intro a hA
 refine S.val hA (R.load sz4 rfl (hM.cell (k := 0) rfl rfl)) rfl ?_; clear hA a; intro a hA
 refine S.val hA (R.move rfl) rfl ?_; clear hA a; intro a hA
 refine S.valg (dj := 22) hA (by kernel_rfl) rfl (R.move rfl) rfl ?_; clear hA a; intro a hA
 refine S.valg (dj := 22) hA (by kernel_rfl) rfl (R.nilCheck rfl) rfl ?_; clear hA a; intro a hA
 refine S.valg (dj := 22) hA (by kernel_rfl) rfl (R.load sz22 rfl (hM.cell (k := 2) rfl (vals_at os _ _ hos))) rfl ?_; clear hA a; intro a hA
 refine S.valg (dj := 22) hA (by kernel_rfl) rfl (R.lenS Tryd.underlying22 rfl rfl) rfl ?_; clear hA a; intro a hA
 refine S.valg (dj := 22) hA (by kernel_rfl) rfl (R.tt (R.lss rfl rfl) (by omega)) rfl ?_; clear hA a; intro a hA
 refine S.val hA (R.pickT rfl rfl) rfl ?_; clear hA a; intro a hA
 refine S.val hA (R.assign rfl) rfl ?_; clear hA a; intro a hA
 refine S.done ?_
 replace hA : St 74 [(0, _), (3, _), (17, _)] a := hA.sub ((.cons rfl (.cons rfl (.cons rfl .nil))))
 refine Ends.condT hA rfl ?_
 refine Ends.drawn (Mem w (feet [pt p #[.pointer (some ⟨q, 0, none⟩), .int .i64 wr, .bool true, .int .i64 sl, .int .i64 ph, .int .i64 tp, .int .i64 nx] 76, pt q #[.pointer (some ⟨m, 0, none⟩), .int .i64 bs, .slice (some ⟨nb, 0, none⟩) ns ns, .slice (some ⟨ob, 0, none⟩) ws ws] 73, pt ob ((vals os)) 22, own 3 1 (.slice av Y.length cap) Y.length (Y.map (Value.int .i64))]) [pt p #[.pointer (some ⟨q, 0, none⟩), .int .i64 wr, .bool true, .int .i64 sl, .int .i64 ph, .int .i64 tp, .int .i64 nx] 76, pt q #[.pointer (some ⟨m, 0, none⟩), .int .i64 bs, .slice (some ⟨nb, 0, none⟩) ns ns, .slice (some ⟨ob, 0, none⟩) ws ws] 73, pt ob ((vals os)) 22]) (.cons (0, true) (.cons (1, true) (.cons (2, true) (.cons (3, true) (.cons (4, true) (.cons (5, true) (.cons (6, true) (.cons (7, true) (.cons (8, false) (.cons (9, false) (.cons (10, true) (.cons (11, false) .nil)))))))))))) 11 mixed (by kernel_rfl) (by kernel_rfl) (by kernel_rfl) (hM.drop 3).drew ?_
 replace hM := hM.drew
 refine D.valF hA rfl (fun _ => R.move rfl) rfl ?_; clear hA a; intro a hA
 refine D.valF hA rfl (fun _ => R.move rfl) rfl ?_; clear hA a; intro a hA
 refine D.valF hA rfl (fun _ => R.nilCheck rfl) rfl ?_; clear hA a; intro a hA
 refine D.val hA rfl (by kernel_rfl) (fun _ hM => R.load sz22 rfl (hM.cell (k := 2) rfl (vals_at os _ _ hos))) rfl ?_; clear hA a; intro a hA
 refine D.valF hA rfl (fun _ => R.move rfl) rfl ?_; clear hA a; intro a hA
 refine D.valF hA rfl (fun _ => R.nilCheck rfl) rfl ?_; clear hA a; intro a hA
 refine D.valF hA rfl (fun _ => R.fieldAddr (q := 3) fi76_3 rfl rfl rfl) rfl ?_; clear hA a; intro a hA
 refine D.val hA rfl (by kernel_rfl) (fun _ hM => R.load sz3 rfl (hM.cell (k := 0) rfl rfl)) rfl ?_; clear hA a; intro a hA
 refine D.buildSl (cells := #[.int .i64 sl]) hA hM rfl Tryd.underlying22 info3 rfl rfl rfl rfl (by kernel_rfl) rfl ?_; clear hA hM a; intro b1 w1 hb2 hM; refine ⟨(fun hM => (hM.drop 3)) hM.tail, fun a hA => ?_⟩
 replace hM : Mem _ _ [pt b1 #[.int .i64 sl] 3, pt p #[.pointer (some ⟨q, 0, none⟩), .int .i64 wr, .bool true, .int .i64 sl, .int .i64 ph, .int .i64 tp, .int .i64 nx] 76, pt q #[.pointer (some ⟨m, 0, none⟩), .int .i64 bs, .slice (some ⟨nb, 0, none⟩) ns ns, .slice (some ⟨ob, 0, none⟩) ws ws] 73, pt ob ((vals os)) 22, own 3 1 (.slice av Y.length cap) Y.length (Y.map (Value.int .i64))] _ := hM
 refine D.append (k := 4) (k2 := 0) hA hM rfl rfl rfl Tryd.underlying22 info3 rfl rfl rfl rfl rfl rfl rfl rfl rfl (by first | omega | (show _ ≤ (9223372036854775807 : Nat); omega) | (show (Y.length + 1) * 8 ≤ _; omega) | (unfold maxLen; omega)) (by first | omega | (show _ ≤ (9223372036854775807 : Nat); omega) | (show (Y.length + 1) * 8 ≤ _; omega) | (unfold maxLen; omega)) rfl ?_; clear hA hM a; intro a3 c4 w2 hM
 replace hM : Mem _ _ [pt b1 #[.int .i64 sl] 3, pt p #[.pointer (some ⟨q, 0, none⟩), .int .i64 wr, .bool true, .int .i64 sl, .int .i64 ph, .int .i64 tp, .int .i64 nx] 76, pt q #[.pointer (some ⟨m, 0, none⟩), .int .i64 bs, .slice (some ⟨nb, 0, none⟩) ns ns, .slice (some ⟨ob, 0, none⟩) ws ws] 73, pt ob ((vals os)) 22, own 3 1 (.slice a3 (Y.length + 1) c4) (Y.length + 1) (Y.map (Value.int .i64) ++ [.int .i64 sl])] _ := hM
 have hl5 : Y.length + 1 = (Y ++ [sl]).length := by simp
 rw [hl5, show Y.map (Value.int .i64) ++ [.int .i64 sl] = (Y ++ [sl]).map (Value.int .i64) by simp] at hM
 replace hM := hM.drop 0
 replace hM : Mem _ _ [pt p #[.pointer (some ⟨q, 0, none⟩), .int .i64 wr, .bool true, .int .i64 sl, .int .i64 ph, .int .i64 tp, .int .i64 nx] 76, pt q #[.pointer (some ⟨m, 0, none⟩), .int .i64 bs, .slice (some ⟨nb, 0, none⟩) ns ns, .slice (some ⟨ob, 0, none⟩) ws ws] 73, pt ob ((vals os)) 22, own 3 1 (.slice a3 (((Y ++ [sl])).length) c4) (((Y ++ [sl])).length) (((Y ++ [sl])).map (Value.int .i64))] _ := hM
 refine ⟨(hM.drop 3), fun a hA => ?_⟩; rw [hl5] at hA; clear hl5
 refine D.valF hA rfl (fun _ => R.nilCheck rfl) rfl ?_; clear hA a; intro a hA
 refine D.store (k := 2) hA hM rfl sz22 rfl rfl rfl rfl (vals_get _ _ (by omega)) ?_; clear hM
 intro w3 hM; refine ⟨fun _ hne => absurd rfl hne, ?_⟩
 rw [vals_set] at hM
 replace hM : Mem _ _ [pt p #[.pointer (some ⟨q, 0, none⟩), .int .i64 wr, .bool true, .int .i64 sl, .int .i64 ph, .int .i64 tp, .int .i64 nx] 76, pt q #[.pointer (some ⟨m, 0, none⟩), .int .i64 bs, .slice (some ⟨nb, 0, none⟩) ns ns, .slice (some ⟨ob, 0, none⟩) ws ws] 73, pt ob ((vals (os.set wr.toNat (.slice a3 (((Y ++ [sl])).length) c4)))) 22, own 3 1 (.slice a3 (((Y ++ [sl])).length) c4) (((Y ++ [sl])).length) (((Y ++ [sl])).map (Value.int .i64))] _ := hM
 refine D.done ?_
 replace hA : St 74 [] a := hA.sub (.nil)
 refine Ends.inBlock (Ends.seq (Ends.region ?_))
 refine S.val hA (R.assign rfl) rfl ?_; clear hA a; intro a hA
 refine S.done ?_
 refine Ends.ret1 Tryd.func37 Tryd.results37 hA rfl ?_
 exact ⟨_, _, rfl, hM.firstN 4⟩
theorem Mem.perm4 {w0 w : World} {F : Nat → Prop} {c1 c2 c3 c4 : Ck} (h : Mem w0 F [c1, c2, c3, c4] w) : Mem w0 F [c2, c3, c4, c1] w :=
  h.perm (List.perm_append_comm (l₁ := [c1]) (l₂ := [c2, c3, c4]))
set_option maxRecDepth 100000 in
set_option maxHeartbeats 400000 in
theorem ppriv_own (p q m nb ns ob ws : Nat) (bs wr : Int) (os : List Value) (av : Option Addr) (Y : List Int) (cap : Nat) (hwr : 0 ≤ wr ∧ wr < ws) (hlen : os.length = ws) (hos : os[wr.toNat]? = some (.slice av Y.length cap)) (hY2 : Y.length ≤ 2) (sl ph tp nx : Int) (hY : 0 < Y.length) (w : World) (hM : Mem w (feet [pt p #[.pointer (some ⟨q, 0, none⟩), .int .i64 wr, .bool false, .int .i64 sl, .int .i64 ph, .int .i64 tp, .int .i64 nx] 76, pt q #[.pointer (some ⟨m, 0, none⟩), .int .i64 bs, .slice (some ⟨nb, 0, none⟩) ns ns, .slice (some ⟨ob, 0, none⟩) ws ws] 73, pt ob ((vals os)) 22, own 3 1 (.slice av Y.length cap) Y.length (Y.map (Value.int .i64))]) [pt p #[.pointer (some ⟨q, 0, none⟩), .int .i64 wr, .bool false, .int .i64 sl, .int .i64 ph, .int .i64 tp, .int .i64 nx] 76, pt q #[.pointer (some ⟨m, 0, none⟩), .int .i64 bs, .slice (some ⟨nb, 0, none⟩) ns ns, .slice (some ⟨ob, 0, none⟩) ws ws] 73, pt ob ((vals os)) 22, own 3 1 (.slice av Y.length cap) Y.length (Y.map (Value.int .i64))] w) :
  Calls Tryd.prog 37 #[.pointer (some ⟨p, 0, none⟩)] w fun e w' => e = .returned (.bool true) ∧ Mem w (feet [pt p #[.pointer (some ⟨q, 0, none⟩), .int .i64 wr, .bool false, .int .i64 sl, .int .i64 ph, .int .i64 tp, .int .i64 nx] 76, pt q #[.pointer (some ⟨m, 0, none⟩), .int .i64 bs, .slice (some ⟨nb, 0, none⟩) ns ns, .slice (some ⟨ob, 0, none⟩) ws ws] 73, pt ob ((vals os)) 22, own 3 1 (.slice av Y.length cap) Y.length (Y.map (Value.int .i64))]) [pt p #[.pointer (some ⟨q, 0, none⟩), .int .i64 wr, .bool false, .int .i64 (Y.getD (Y.length - 1) 0), .int .i64 ph, .int .i64 tp, .int .i64 nx] 76, pt q #[.pointer (some ⟨m, 0, none⟩), .int .i64 bs, .slice (some ⟨nb, 0, none⟩) ns ns, .slice (some ⟨ob, 0, none⟩) ws ws] 73, pt ob ((vals (os.set wr.toNat (.slice av (Y.take (Y.length - 1)).length cap)))) 22, own 3 1 (.slice av (((Y.take (Y.length - 1))).length) cap) (((Y.take (Y.length - 1))).length) (((Y.take (Y.length - 1))).map (Value.int .i64))] w' := by
 refine Calls.of_ends (vs := [.pointer (some ⟨p, 0, none⟩)]) Tryd.func37 rfl Tryd.ntmps37 rfl ?_
 intro a hA
 replace hA : St 74 [(0, _)] a := hA
 refine Ends.seq (Ends.region ?_)
 refine S.val hA (R.assign rfl) rfl ?_; clear hA a; intro a hA
 refine S.done ?_
 refine Ends.seq ?_
 refine Ends.drawn (Mem w (feet [pt p #[.pointer (some ⟨q, 0, none⟩), .int .i64 wr, .bool false, .int .i64 sl, .int .i64 ph, .int .i64 tp, .int .i64 nx] 76, pt q #[.pointer (some ⟨m, 0, none⟩), .int .i64 bs, .slice (some ⟨nb, 0, none⟩) ns ns, .slice (some ⟨ob, 0, none⟩) ws ws] 73, pt ob ((vals os)) 22, own 3 1 (.slice av Y.length cap) Y.length (Y.map (Value.int .i64))]) [pt p #[.pointer (some ⟨q, 0, none⟩), .int .i64 wr, .bool false, .int .i64 sl, .int .i64 ph, .int .i64 tp, .int .i64 nx] 76, pt q #[.pointer (some ⟨m, 0, none⟩), .int .i64 bs, .slice (some ⟨nb, 0, none⟩) ns ns, .slice (some ⟨ob, 0, none⟩) ws ws] 73, pt ob ((vals os)) 22, own 3 1 (.slice av Y.length cap) Y.length (Y.map (Value.int .i64))]) (.cons (0, true) (.cons (1, true) (.cons (2, true) (.cons (3, true) (.cons (4, true) (.cons (5, true) (.cons (6, true) (.cons (7, true) (.cons (8, true) (.cons (9, true) (.cons (10, true) (.cons (11, true) (.cons (12, true) .nil))))))))))))) 13 mixed (by kernel_rfl) (by kernel_rfl) (by kernel_rfl) hM.drew ?_
 replace hM := hM.drew
 refine D.valF hA rfl (fun _ => R.move rfl) rfl ?_; clear hA a; intro a hA
 refine D.valF hA rfl (fun _ => R.nilCheck rfl) rfl ?_; clear hA a; intro a hA
 refine D.valF hA rfl (fun _ => R.fieldAddr (q := 0) fi76_0 rfl rfl rfl) rfl ?_; clear hA a; intro a hA
 refine D.val hA rfl (by kernel_rfl) (fun _ hM => R.load sz46 rfl (hM.cell (k := 0) rfl rfl)) rfl ?_; clear hA a; intro a hA
 refine D.valF hA rfl (fun _ => R.nilCheck rfl) rfl ?_; clear hA a; intro a hA
 refine D.valF hA rfl (fun _ => R.fieldAddr (q := 3) fi73_3 rfl rfl rfl) rfl ?_; clear hA a; intro a hA
 refine D.val hA rfl (by kernel_rfl) (fun _ hM => R.load sz71 rfl (hM.cell (k := 1) rfl rfl)) rfl ?_; clear hA a; intro a hA
 refine D.valF hA rfl (fun _ => R.move rfl) rfl ?_; clear hA a; intro a hA
 refine D.valF hA rfl (fun _ => R.nilCheck rfl) rfl ?_; clear hA a; intro a hA
 refine D.valF hA rfl (fun _ => R.fieldAddr (q := 1) fi76_1 rfl rfl rfl) rfl ?_; clear hA a; intro a hA
 refine D.val hA rfl (by kernel_rfl) (fun _ hM => R.load sz3 rfl (hM.cell (k := 0) rfl rfl)) rfl ?_; clear hA a; intro a hA
 refine D.valF hA rfl (fun _ => R.indexAddr (q := wr.toNat) sl71 rfl rfl (by omega) (by omega)) rfl ?_; clear hA a; intro a hA
 refine D.valF hA rfl (fun _ => R.assign rfl) rfl ?_; clear hA a; intro a hA
 refine D.done ?_
 replace hA : St 74 [(0, _), (3, _)] a := hA.sub ((.cons rfl (.cons rfl .nil)))
 refine Ends.seq (Ends.block (Ends.seq (Ends.region ?_)))
 refine S.val hA (R.move rfl) rfl ?_; clear hA a; intro a hA
 refine S.val hA (R.nilCheck rfl) rfl ?_; clear hA a; intro a hA
 refine S.val hA (R.fieldAddr (q := 2) fi76_2 rfl rfl rfl) rfl ?_; clear hA a; intro a hA
 refine S.val hA (R.load sz4 rfl (hM.cell (k := 0) rfl rfl)) rfl ?_; clear hA a; intro a hA
 refine S.val hA (R.move rfl) rfl ?_; clear hA a; intro a hA
 refine S.no (dj := 22) hA (by kernel_rfl) rfl rfl rfl ?_; clear hA a; intro a hA
 refine S.no (dj := 22) hA (by kernel_rfl) rfl rfl rfl ?_; clear hA a; intro a hA
 refine S.no (dj := 22) hA (by kernel_rfl) rfl rfl rfl ?_; clear hA a; intro a hA
 refine S.no (dj := 22) hA (by kernel_rfl) rfl rfl rfl ?_; clear hA a; intro a hA
 refine S.no (dj := 22) hA (by kernel_rfl) rfl rfl rfl ?_; clear hA a; intro a hA
 refine S.val hA (R.pickF rfl rfl) rfl ?_; clear hA a; intro a hA
 refine S.val hA (R.assign rfl) rfl ?_; clear hA a; intro a hA
 refine S.done ?_
 replace hA : St 74 [(0, _), (3, _), (17, _)] a := hA.sub ((.cons rfl (.cons rfl (.cons rfl .nil))))
 refine Ends.condF hA rfl ?_
 refine Ends.seq (Ends.region ?_)
 refine S.val hA (R.move rfl) rfl ?_; clear hA a; intro a hA
 refine S.val hA (R.nilCheck rfl) rfl ?_; clear hA a; intro a hA
 refine S.val hA (R.fieldAddr (q := 2) fi76_2 rfl rfl rfl) rfl ?_; clear hA a; intro a hA
 refine S.val hA (R.load sz4 rfl (hM.cell (k := 0) rfl rfl)) rfl ?_; clear hA a; intro a hA
 refine S.val hA (R.not rfl) rfl ?_; clear hA a; intro a hA
 refine S.val hA (R.move rfl) rfl ?_; clear hA a; intro a hA
 refine S.valg (dj := 46) hA (by kernel_rfl) rfl (R.move rfl) rfl ?_; clear hA a; intro a hA
 refine S.valg (dj := 46) hA (by kernel_rfl) rfl (R.nilCheck rfl) rfl ?_; clear hA a; intro a hA
 refine S.valg (dj := 46) hA (by kernel_rfl) rfl (R.load sz22 rfl (hM.cell (k := 2) rfl (vals_at os _ _ hos))) rfl ?_; clear hA a; intro a hA
 refine S.valg (dj := 46) hA (by kernel_rfl) rfl (R.lenS Tryd.underlying22 rfl rfl) rfl ?_; clear hA a; intro a hA
 refine S.valg (dj := 46) hA (by kernel_rfl) rfl (R.tt (R.gtr rfl rfl) (by omega)) rfl ?_; clear hA a; intro a hA
 refine S.val hA (R.pickT rfl rfl) rfl ?_; clear hA a; intro a hA
 refine S.val hA (R.assign rfl) rfl ?_; clear hA a; intro a hA
 refine S.done ?_
 replace hA : St 74 [(0, _), (3, _), (40, _)] a := hA.sub ((.cons rfl (.cons rfl (.cons rfl .nil))))
 refine Ends.condT hA rfl ?_
 refine Ends.seq (Ends.region ?_)
 refine S.val hA (R.move rfl) rfl ?_; clear hA a; intro a hA
 refine S.val hA (R.nilCheck rfl) rfl ?_; clear hA a; intro a hA
 refine S.val hA (R.load sz22 rfl (hM.cell (k := 2) rfl (vals_at os _ _ hos))) rfl ?_; clear hA a; intro a hA
 refine S.val hA (R.lenS Tryd.underlying22 rfl rfl) rfl ?_; clear hA a; intro a hA
 refine S.val hA (R.subI rfl rfl (r := ((Y.length : Int)) - 1) rfl (by omega)) rfl ?_; clear hA a; intro a hA
 refine S.val hA (R.assign rfl) rfl ?_; clear hA a; intro a hA
 refine S.done ?_
 replace hA : St 74 [(0, _), (3, _), (4, _)] a := hA.sub ((.cons rfl (.cons rfl (.cons rfl .nil))))
 refine Ends.seq ?_
 obtain ⟨gv, hgv⟩ := hM.ownAt (k := 3) rfl hY
 subst hgv
 have hcap := (hM.ownLe (k := 3) rfl).1
 replace hM : Mem _ _ [pt p #[.pointer (some ⟨q, 0, none⟩), .int .i64 wr, .bool false, .int .i64 sl, .int .i64 ph, .int .i64 tp, .int .i64 nx] 76, pt q #[.pointer (some ⟨m, 0, none⟩), .int .i64 bs, .slice (some ⟨nb, 0, none⟩) ns ns, .slice (some ⟨ob, 0, none⟩) ws ws] 73, pt ob ((vals os)) 22, own 3 1 (.slice (some ⟨gv, 0, none⟩) Y.length cap) Y.length (Y.map (Value.int .i64))] _ := hM
 refine Ends.region ?_
 refine S.val hA (R.move rfl) rfl ?_; clear hA a; intro a hA
 refine S.val hA (R.move rfl) rfl ?_; clear hA a; intro a hA
 refine S.val hA (R.nilCheck rfl) rfl ?_; clear hA a; intro a hA
 refine S.val hA (R.load sz22 rfl (hM.cell (k := 2) rfl (vals_at os _ _ hos))) rfl ?_; clear hA a; intro a hA
 refine S.val hA (R.move rfl) rfl ?_; clear hA a; intro a hA
 refine S.val hA (R.indexAddr (q := Y.length - 1) sl22 rfl rfl (by omega) (by omega)) rfl ?_; clear hA a; intro a hA
 refine S.val hA (R.load sz3 rfl (hM.ownCell (k := 3) rfl (mapi_get _ _ (by omega)))) rfl ?_; clear hA a; intro a hA
 refine S.val hA (R.nilCheck rfl) rfl ?_; clear hA a; intro a hA
 refine S.val hA (R.fieldAddr (q := 3) fi76_3 rfl rfl rfl) rfl ?_; clear hA a; intro a hA
 refine S.store (k := 0) hA hM sz3 rfl rfl rfl rfl rfl ?_; clear hM
 intro w1 hM
 replace hM : Mem _ _ [pt p #[.pointer (some ⟨q, 0, none⟩), .int .i64 wr, .bool false, .int .i64 (Y.getD (Y.length - 1) 0), .int .i64 ph, .int .i64 tp, .int .i64 nx] 76, pt q #[.pointer (some ⟨m, 0, none⟩), .int .i64 bs, .slice (some ⟨nb, 0, none⟩) ns ns, .slice (some ⟨ob, 0, none⟩) ws ws] 73, pt ob ((vals os)) 22, own 3 1 (.slice (some ⟨gv, 0, none⟩) Y.length cap) Y.length (Y.map (Value.int .i64))] _ := hM
 refine S.done ?_
 replace hA : St 74 [(3, _), (4, _)] a := hA.sub ((.cons rfl (.cons rfl .nil)))
 refine Ends.region ?_
 refine S.val hA (R.move rfl) rfl ?_; clear hA a; intro a hA
 refine S.val hA (R.move rfl) rfl ?_; clear hA a; intro a hA
 refine S.val hA (R.nilCheck rfl) rfl ?_; clear hA a; intro a hA
 refine S.val hA (R.load sz22 rfl (hM.cell (k := 2) rfl (vals_at os _ _ hos))) rfl ?_; clear hA a; intro a hA
 refine S.val hA (R.move rfl) rfl ?_; clear hA a; intro a hA
 refine S.val hA (R.sliceH (h := (Y.length - 1)) Tryd.underlying22 info3 rfl rfl (by omega) (by omega)) rfl ?_; clear hA a; intro a hA
 refine S.val hA (R.nilCheck rfl) rfl ?_; clear hA a; intro a hA
 refine S.store (k := 2) hA hM sz22 rfl rfl rfl rfl (vals_get _ _ (by omega)) ?_; clear hM
 intro w2 hM
 rw [vals_set] at hM
 replace hM : Mem _ _ [pt p #[.pointer (some ⟨q, 0, none⟩), .int .i64 wr, .bool false, .int .i64 (Y.getD (Y.length - 1) 0), .int .i64 ph, .int .i64 tp, .int .i64 nx] 76, pt q #[.pointer (some ⟨m, 0, none⟩), .int .i64 bs, .slice (some ⟨nb, 0, none⟩) ns ns, .slice (some ⟨ob, 0, none⟩) ws ws] 73, pt ob ((vals (os.set wr.toNat (.slice (some ⟨gv, 0, none⟩) ((Y.length - 1)) cap)))) 22, own 3 1 (.slice (some ⟨gv, 0, none⟩) Y.length cap) Y.length (Y.map (Value.int .i64))] _ := hM
 refine S.done ?_
 replace hA : St 74 [] a := hA.sub (.nil)
 refine Ends.inBlock (Ends.seq (Ends.region ?_))
 refine S.val hA (R.assign rfl) rfl ?_; clear hA a; intro a hA
 refine S.done ?_
 refine Ends.ret1 Tryd.func37 Tryd.results37 hA rfl ?_
 replace hM := hM.front (k := 2) rfl
 replace hM := hM.front (k := 2) rfl
 replace hM := hM.front (k := 2) rfl
 replace hM := hM.front (k := 3) rfl
 replace hM : Mem _ _ [own 3 1 (.slice (some ⟨gv, 0, none⟩) Y.length cap) Y.length (Y.map (Value.int .i64)), pt p #[.pointer (some ⟨q, 0, none⟩), .int .i64 wr, .bool false, .int .i64 (Y.getD (Y.length - 1) 0), .int .i64 ph, .int .i64 tp, .int .i64 nx] 76, pt q #[.pointer (some ⟨m, 0, none⟩), .int .i64 bs, .slice (some ⟨nb, 0, none⟩) ns ns, .slice (some ⟨ob, 0, none⟩) ws ws] 73, pt ob ((vals (os.set wr.toNat (.slice (some ⟨gv, 0, none⟩) ((Y.length - 1)) cap)))) 22] _ := hM
 have hcut : (Y.take (Y.length - 1)).length = Y.length - 1 := by rw [List.length_take]; omega
 replace hM := (hM.ownCut (Y.length - 1) (by omega)).firstN 4
 rw [hcut] at hM ⊢
 exact ⟨rfl, hM.perm4⟩
set_option maxRecDepth 100000 in
set_option maxHeartbeats 400000 in
theorem ppriv_full (p q m nb ns ob ws : Nat) (bs wr : Int) (os : List Value) (av : Option Addr) (Y : List Int) (cap : Nat) (hwr : 0 ≤ wr ∧ wr < ws) (hlen : os.length = ws) (hos : os[wr.toNat]? = some (.slice av Y.length cap)) (hY2 : Y.length ≤ 2) (sl ph tp nx : Int) (hY : 2 ≤ Y.length) (w : World) (hM : Mem w (feet [pt p #[.pointer (some ⟨q, 0, none⟩), .int .i64 wr, .bool true, .int .i64 sl, .int .i64 ph, .int .i64 tp, .int .i64 nx] 76, pt q #[.pointer (some ⟨m, 0, none⟩), .int .i64 bs, .slice (some ⟨nb, 0, none⟩) ns ns, .slice (some ⟨ob, 0, none⟩) ws ws] 73, pt ob ((vals os)) 22, own 3 1 (.slice av Y.length cap) Y.length (Y.map (Value.int .i64))]) [pt p #[.pointer (some ⟨q, 0, none⟩), .int .i64 wr, .bool true, .int .i64 sl, .int .i64 ph, .int .i64 tp, .int .i64 nx] 76, pt q #[.pointer (some ⟨m, 0, none⟩), .int .i64 bs, .slice (some ⟨nb, 0, none⟩) ns ns, .slice (some ⟨ob, 0, none⟩) ws ws] 73, pt ob ((vals os)) 22, own 3 1 (.slice av Y.length cap) Y.length (Y.map (Value.int .i64))] w) :
  Calls Tryd.prog 37 #[.pointer (some ⟨p, 0, none⟩)] w fun e w' => e = .returned (.bool false) ∧ Mem w (feet [pt p #[.pointer (some ⟨q, 0, none⟩), .int .i64 wr, .bool true, .int .i64 sl, .int .i64 ph, .int .i64 tp, .int .i64 nx] 76, pt q #[.pointer (some ⟨m, 0, none⟩), .int .i64 bs, .slice (some ⟨nb, 0, none⟩) ns ns, .slice (some ⟨ob, 0, none⟩) ws ws] 73, pt ob ((vals os)) 22, own 3 1 (.slice av Y.length cap) Y.length (Y.map (Value.int .i64))]) [pt p #[.pointer (some ⟨q, 0, none⟩), .int .i64 wr, .bool true, .int .i64 sl, .int .i64 ph, .int .i64 tp, .int .i64 nx] 76, pt q #[.pointer (some ⟨m, 0, none⟩), .int .i64 bs, .slice (some ⟨nb, 0, none⟩) ns ns, .slice (some ⟨ob, 0, none⟩) ws ws] 73, pt ob ((vals os)) 22, own 3 1 (.slice av Y.length cap) Y.length (Y.map (Value.int .i64))] w' := by
 refine Calls.of_ends (vs := [.pointer (some ⟨p, 0, none⟩)]) Tryd.func37 rfl Tryd.ntmps37 rfl ?_
 intro a hA
 replace hA : St 74 [(0, _)] a := hA
 refine Ends.seq (Ends.region ?_)
 refine S.val hA (R.assign rfl) rfl ?_; clear hA a; intro a hA
 refine S.done ?_
 refine Ends.seq ?_
 refine Ends.drawn (Mem w (feet [pt p #[.pointer (some ⟨q, 0, none⟩), .int .i64 wr, .bool true, .int .i64 sl, .int .i64 ph, .int .i64 tp, .int .i64 nx] 76, pt q #[.pointer (some ⟨m, 0, none⟩), .int .i64 bs, .slice (some ⟨nb, 0, none⟩) ns ns, .slice (some ⟨ob, 0, none⟩) ws ws] 73, pt ob ((vals os)) 22, own 3 1 (.slice av Y.length cap) Y.length (Y.map (Value.int .i64))]) [pt p #[.pointer (some ⟨q, 0, none⟩), .int .i64 wr, .bool true, .int .i64 sl, .int .i64 ph, .int .i64 tp, .int .i64 nx] 76, pt q #[.pointer (some ⟨m, 0, none⟩), .int .i64 bs, .slice (some ⟨nb, 0, none⟩) ns ns, .slice (some ⟨ob, 0, none⟩) ws ws] 73, pt ob ((vals os)) 22, own 3 1 (.slice av Y.length cap) Y.length (Y.map (Value.int .i64))]) (.cons (0, true) (.cons (1, true) (.cons (2, true) (.cons (3, true) (.cons (4, true) (.cons (5, true) (.cons (6, true) (.cons (7, true) (.cons (8, true) (.cons (9, true) (.cons (10, true) (.cons (11, true) (.cons (12, true) .nil))))))))))))) 13 mixed (by kernel_rfl) (by kernel_rfl) (by kernel_rfl) hM.drew ?_
 replace hM := hM.drew
 refine D.valF hA rfl (fun _ => R.move rfl) rfl ?_; clear hA a; intro a hA
 refine D.valF hA rfl (fun _ => R.nilCheck rfl) rfl ?_; clear hA a; intro a hA
 refine D.valF hA rfl (fun _ => R.fieldAddr (q := 0) fi76_0 rfl rfl rfl) rfl ?_; clear hA a; intro a hA
 refine D.val hA rfl (by kernel_rfl) (fun _ hM => R.load sz46 rfl (hM.cell (k := 0) rfl rfl)) rfl ?_; clear hA a; intro a hA
 refine D.valF hA rfl (fun _ => R.nilCheck rfl) rfl ?_; clear hA a; intro a hA
 refine D.valF hA rfl (fun _ => R.fieldAddr (q := 3) fi73_3 rfl rfl rfl) rfl ?_; clear hA a; intro a hA
 refine D.val hA rfl (by kernel_rfl) (fun _ hM => R.load sz71 rfl (hM.cell (k := 1) rfl rfl)) rfl ?_; clear hA a; intro a hA
 refine D.valF hA rfl (fun _ => R.move rfl) rfl ?_; clear hA a; intro a hA
 refine D.valF hA rfl (fun _ => R.nilCheck rfl) rfl ?_; clear hA a; intro a hA
 refine D.valF hA rfl (fun _ => R.fieldAddr (q := 1) fi76_1 rfl rfl rfl) rfl ?_; clear hA a; intro a hA
 refine D.val hA rfl (by kernel_rfl) (fun _ hM => R.load sz3 rfl (hM.cell (k := 0) rfl rfl)) rfl ?_; clear hA a; intro a hA
 refine D.valF hA rfl (fun _ => R.indexAddr (q := wr.toNat) sl71 rfl rfl (by omega) (by omega)) rfl ?_; clear hA a; intro a hA
 refine D.valF hA rfl (fun _ => R.assign rfl) rfl ?_; clear hA a; intro a hA
 refine D.done ?_
 replace hA : St 74 [(0, _), (3, _)] a := hA.sub ((.cons rfl (.cons rfl .nil)))
 refine Ends.seq (Ends.block (Ends.seq (Ends.region ?_)))
 refine S.val hA (R.move rfl) rfl ?_; clear hA a; intro a hA
 refine S.val hA (R.nilCheck rfl) rfl ?_; clear hA a; intro a hA
 refine S.val hA (R.fieldAddr (q := 2) fi76_2 rfl rfl rfl) rfl ?_; clear hA a; intro a hA
 refine S.val hA (R.load sz4 rfl (hM.cell (k := 0) rfl rfl)) rfl ?_; clear hA a; intro a hA
 refine S.val hA (R.move rfl) rfl ?_; clear hA a; intro a hA
 refine S.valg (dj := 22) hA (by kernel_rfl) rfl (R.move rfl) rfl ?_; clear hA a; intro a hA
 refine S.valg (dj := 22) hA (by kernel_rfl) rfl (R.nilCheck rfl) rfl ?_; clear hA a; intro a hA
 refine S.valg (dj := 22) hA (by kernel_rfl) rfl (R.load sz22 rfl (hM.cell (k := 2) rfl (vals_at os _ _ hos))) rfl ?_; clear hA a; intro a hA
 refine S.valg (dj := 22) hA (by kernel_rfl) rfl (R.lenS Tryd.underlying22 rfl rfl) rfl ?_; clear hA a; intro a hA
 refine S.valg (dj := 22) hA (by kernel_rfl) rfl (R.ff (R.lss rfl rfl) (by omega)) rfl ?_; clear hA a; intro a hA
 refine S.val hA (R.pickT rfl rfl) rfl ?_; clear hA a; intro a hA
 refine S.val hA (R.assign rfl) rfl ?_; clear hA a; intro a hA
 refine S.done ?_
 replace hA : St 74 [(0, _), (3, _), (17, _)] a := hA.sub ((.cons rfl (.cons rfl (.cons rfl .nil))))
 refine Ends.condF hA rfl ?_
 refine Ends.seq (Ends.region ?_)
 refine S.val hA (R.move rfl) rfl ?_; clear hA a; intro a hA
 refine S.val hA (R.nilCheck rfl) rfl ?_; clear hA a; intro a hA
 refine S.val hA (R.fieldAddr (q := 2) fi76_2 rfl rfl rfl) rfl ?_; clear hA a; intro a hA
 refine S.val hA (R.load sz4 rfl (hM.cell (k := 0) rfl rfl)) rfl ?_; clear hA a; intro a hA
 refine S.val hA (R.not rfl) rfl ?_; clear hA a; intro a hA
 refine S.val hA (R.move rfl) rfl ?_; clear hA a; intro a hA
 refine S.no (dj := 46) hA (by kernel_rfl) rfl rfl rfl ?_; clear hA a; intro a hA
 refine S.no (dj := 46) hA (by kernel_rfl) rfl rfl rfl ?_; clear hA a; intro a hA
 refine S.no (dj := 46) hA (by kernel_rfl) rfl rfl rfl ?_; clear hA a; intro a hA
 refine S.no (dj := 46) hA (by kernel_rfl) rfl rfl rfl ?_; clear hA a; intro a hA
 refine S.no (dj := 46) hA (by kernel_rfl) rfl rfl rfl ?_; clear hA a; intro a hA
 refine S.val hA (R.pickF rfl rfl) rfl ?_; clear hA a; intro a hA
 refine S.val hA (R.assign rfl) rfl ?_; clear hA a; intro a hA
 refine S.done ?_
 replace hA : St 74 [(0, _), (3, _), (40, _)] a := hA.sub ((.cons rfl (.cons rfl (.cons rfl .nil))))
 refine Ends.condF hA rfl ?_
 refine Ends.seq (Ends.region ?_)
 refine S.val hA (R.assign rfl) rfl ?_; clear hA a; intro a hA
 refine S.done ?_
 refine Ends.ret1 Tryd.func37 Tryd.results37 hA rfl ?_
 exact ⟨rfl, hM.firstN 4⟩
set_option maxRecDepth 100000 in
set_option maxHeartbeats 400000 in
theorem ppriv_none (p q m nb ns ob ws : Nat) (bs wr : Int) (os : List Value) (av : Option Addr) (Y : List Int) (cap : Nat) (hwr : 0 ≤ wr ∧ wr < ws) (hlen : os.length = ws) (hos : os[wr.toNat]? = some (.slice av Y.length cap)) (hY2 : Y.length ≤ 2) (sl ph tp nx : Int) (hY : Y.length = 0) (w : World) (hM : Mem w (feet [pt p #[.pointer (some ⟨q, 0, none⟩), .int .i64 wr, .bool false, .int .i64 sl, .int .i64 ph, .int .i64 tp, .int .i64 nx] 76, pt q #[.pointer (some ⟨m, 0, none⟩), .int .i64 bs, .slice (some ⟨nb, 0, none⟩) ns ns, .slice (some ⟨ob, 0, none⟩) ws ws] 73, pt ob ((vals os)) 22, own 3 1 (.slice av Y.length cap) Y.length (Y.map (Value.int .i64))]) [pt p #[.pointer (some ⟨q, 0, none⟩), .int .i64 wr, .bool false, .int .i64 sl, .int .i64 ph, .int .i64 tp, .int .i64 nx] 76, pt q #[.pointer (some ⟨m, 0, none⟩), .int .i64 bs, .slice (some ⟨nb, 0, none⟩) ns ns, .slice (some ⟨ob, 0, none⟩) ws ws] 73, pt ob ((vals os)) 22, own 3 1 (.slice av Y.length cap) Y.length (Y.map (Value.int .i64))] w) :
  Calls Tryd.prog 37 #[.pointer (some ⟨p, 0, none⟩)] w fun e w' => e = .returned (.bool false) ∧ Mem w (feet [pt p #[.pointer (some ⟨q, 0, none⟩), .int .i64 wr, .bool false, .int .i64 sl, .int .i64 ph, .int .i64 tp, .int .i64 nx] 76, pt q #[.pointer (some ⟨m, 0, none⟩), .int .i64 bs, .slice (some ⟨nb, 0, none⟩) ns ns, .slice (some ⟨ob, 0, none⟩) ws ws] 73, pt ob ((vals os)) 22, own 3 1 (.slice av Y.length cap) Y.length (Y.map (Value.int .i64))]) [pt p #[.pointer (some ⟨q, 0, none⟩), .int .i64 wr, .bool false, .int .i64 sl, .int .i64 ph, .int .i64 tp, .int .i64 nx] 76, pt q #[.pointer (some ⟨m, 0, none⟩), .int .i64 bs, .slice (some ⟨nb, 0, none⟩) ns ns, .slice (some ⟨ob, 0, none⟩) ws ws] 73, pt ob ((vals os)) 22, own 3 1 (.slice av Y.length cap) Y.length (Y.map (Value.int .i64))] w' := by
 refine Calls.of_ends (vs := [.pointer (some ⟨p, 0, none⟩)]) Tryd.func37 rfl Tryd.ntmps37 rfl ?_
 intro a hA
 replace hA : St 74 [(0, _)] a := hA
 refine Ends.seq (Ends.region ?_)
 refine S.val hA (R.assign rfl) rfl ?_; clear hA a; intro a hA
 refine S.done ?_
 refine Ends.seq ?_
 refine Ends.drawn (Mem w (feet [pt p #[.pointer (some ⟨q, 0, none⟩), .int .i64 wr, .bool false, .int .i64 sl, .int .i64 ph, .int .i64 tp, .int .i64 nx] 76, pt q #[.pointer (some ⟨m, 0, none⟩), .int .i64 bs, .slice (some ⟨nb, 0, none⟩) ns ns, .slice (some ⟨ob, 0, none⟩) ws ws] 73, pt ob ((vals os)) 22, own 3 1 (.slice av Y.length cap) Y.length (Y.map (Value.int .i64))]) [pt p #[.pointer (some ⟨q, 0, none⟩), .int .i64 wr, .bool false, .int .i64 sl, .int .i64 ph, .int .i64 tp, .int .i64 nx] 76, pt q #[.pointer (some ⟨m, 0, none⟩), .int .i64 bs, .slice (some ⟨nb, 0, none⟩) ns ns, .slice (some ⟨ob, 0, none⟩) ws ws] 73, pt ob ((vals os)) 22, own 3 1 (.slice av Y.length cap) Y.length (Y.map (Value.int .i64))]) (.cons (0, true) (.cons (1, true) (.cons (2, true) (.cons (3, true) (.cons (4, true) (.cons (5, true) (.cons (6, true) (.cons (7, true) (.cons (8, true) (.cons (9, true) (.cons (10, true) (.cons (11, true) (.cons (12, true) .nil))))))))))))) 13 mixed (by kernel_rfl) (by kernel_rfl) (by kernel_rfl) hM.drew ?_
 replace hM := hM.drew
 refine D.valF hA rfl (fun _ => R.move rfl) rfl ?_; clear hA a; intro a hA
 refine D.valF hA rfl (fun _ => R.nilCheck rfl) rfl ?_; clear hA a; intro a hA
 refine D.valF hA rfl (fun _ => R.fieldAddr (q := 0) fi76_0 rfl rfl rfl) rfl ?_; clear hA a; intro a hA
 refine D.val hA rfl (by kernel_rfl) (fun _ hM => R.load sz46 rfl (hM.cell (k := 0) rfl rfl)) rfl ?_; clear hA a; intro a hA
 refine D.valF hA rfl (fun _ => R.nilCheck rfl) rfl ?_; clear hA a; intro a hA
 refine D.valF hA rfl (fun _ => R.fieldAddr (q := 3) fi73_3 rfl rfl rfl) rfl ?_; clear hA a; intro a hA
 refine D.val hA rfl (by kernel_rfl) (fun _ hM => R.load sz71 rfl (hM.cell (k := 1) rfl rfl)) rfl ?_; clear hA a; intro a hA
 refine D.valF hA rfl (fun _ => R.move rfl) rfl ?_; clear hA a; intro a hA
 refine D.valF hA rfl (fun _ => R.nilCheck rfl) rfl ?_; clear hA a; intro a hA
 refine D.valF hA rfl (fun _ => R.fieldAddr (q := 1) fi76_1 rfl rfl rfl) rfl ?_; clear hA a; intro a hA
 refine D.val hA rfl (by kernel_rfl) (fun _ hM => R.load sz3 rfl (hM.cell (k := 0) rfl rfl)) rfl ?_; clear hA a; intro a hA
 refine D.valF hA rfl (fun _ => R.indexAddr (q := wr.toNat) sl71 rfl rfl (by omega) (by omega)) rfl ?_; clear hA a; intro a hA
 refine D.valF hA rfl (fun _ => R.assign rfl) rfl ?_; clear hA a; intro a hA
 refine D.done ?_
 replace hA : St 74 [(0, _), (3, _)] a := hA.sub ((.cons rfl (.cons rfl .nil)))
 refine Ends.seq (Ends.block (Ends.seq (Ends.region ?_)))
 refine S.val hA (R.move rfl) rfl ?_; clear hA a; intro a hA
 refine S.val hA (R.nilCheck rfl) rfl ?_; clear hA a; intro a hA
 refine S.val hA (R.fieldAddr (q := 2) fi76_2 rfl rfl rfl) rfl ?_; clear hA a; intro a hA
 refine S.val hA (R.load sz4 rfl (hM.cell (k := 0) rfl rfl)) rfl ?_; clear hA a; intro a hA
 refine S.val hA (R.move rfl) rfl ?_; clear hA a; intro a hA
 refine S.no (dj := 22) hA (by kernel_rfl) rfl rfl rfl ?_; clear hA a; intro a hA
 refine S.no (dj := 22) hA (by kernel_rfl) rfl rfl rfl ?_; clear hA a; intro a hA
 refine S.no (dj := 22) hA (by kernel_rfl) rfl rfl rfl ?_; clear hA a; intro a hA
 refine S.no (dj := 22) hA (by kernel_rfl) rfl rfl rfl ?_; clear hA a; intro a hA
 refine S.no (dj := 22) hA (by kernel_rfl) rfl rfl rfl ?_; clear hA a; intro a hA
 refine S.val hA (R.pickF rfl rfl) rfl ?_; clear hA a; intro a hA
 refine S.val hA (R.assign rfl) rfl ?_; clear hA a; intro a hA
 refine S.done ?_
 replace hA : St 74 [(0, _), (3, _), (17, _)] a := hA.sub ((.cons rfl (.cons rfl (.cons rfl .nil))))
 refine Ends.condF hA rfl ?_
 refine Ends.seq (Ends.region ?_)
 refine S.val hA (R.move rfl) rfl ?_; clear hA a; intro a hA
 refine S.val hA (R.nilCheck rfl) rfl ?_; clear hA a; intro a hA
 refine S.val hA (R.fieldAddr (q := 2) fi76_2 rfl rfl rfl) rfl ?_; clear hA a; intro a hA
 refine S.val hA (R.load sz4 rfl (hM.cell (k := 0) rfl rfl)) rfl ?_; clear hA a; intro a hA
 refine S.val hA (R.not rfl) rfl ?_; clear hA a; intro a hA
 refine S.val hA (R.move rfl) rfl ?_; clear hA a; intro a hA
 refine S.valg (dj := 46) hA (by kernel_rfl) rfl (R.move rfl) rfl ?_; clear hA a; intro a hA
 refine S.valg (dj := 46) hA (by kernel_rfl) rfl (R.nilCheck rfl) rfl ?_; clear hA a; intro a hA
 refine S.valg (dj := 46) hA (by kernel_rfl) rfl (R.load sz22 rfl (hM.cell (k := 2) rfl (vals_at os _ _ hos))) rfl ?_; clear hA a; intro a hA
 refine S.valg (dj := 46) hA (by kernel_rfl) rfl (R.lenS Tryd.underlying22 rfl rfl) rfl ?_; clear hA a; intro a hA
 refine S.valg (dj := 46) hA (by kernel_rfl) rfl (R.ff (R.gtr rfl rfl) (by omega)) rfl ?_; clear hA a; intro a hA
 refine S.val hA (R.pickT rfl rfl) rfl ?_; clear hA a; intro a hA
 refine S.val hA (R.assign rfl) rfl ?_; clear hA a; intro a hA
 refine S.done ?_
 replace hA : St 74 [(0, _), (3, _), (40, _)] a := hA.sub ((.cons rfl (.cons rfl (.cons rfl .nil))))
 refine Ends.condF hA rfl ?_
 refine Ends.seq (Ends.region ?_)
 refine S.val hA (R.assign rfl) rfl ?_; clear hA a; intro a hA
 refine S.done ?_
 refine Ends.ret1 Tryd.func37 Tryd.results37 hA rfl ?_
 exact ⟨rfl, hM.firstN 4⟩
set_option maxRecDepth 100000 in
set_option maxHeartbeats 400000 in
theorem pf_keep (p q m nb ns ob ws : Nat) (bs wr : Int) (os : List Value) (av : Option Addr) (Y : List Int) (cap : Nat) (hwr : 0 ≤ wr ∧ wr < ws) (hlen : os.length = ws) (hos : os[wr.toNat]? = some (.slice av Y.length cap)) (hY2 : Y.length ≤ 2) (c : Nat) (l : List Int) (s : Int) (o : CellOp) (hmc : m ≠ c) (hl : 0 ≤ bs ∧ bs + 1 ≤ l.length ∧ l.length ≤ 1000000) (hs : 0 ≤ s ∧ s < 9223372036854775806) (sl tp nx : Int) (hY : Y.length < 2) (w : World) (hM : Mem w (feet [pt p #[.pointer (some ⟨q, 0, none⟩), .int .i64 wr, .bool true, .int .i64 sl, .int .i64 0, .int .i64 tp, .int .i64 nx] 76, pt q #[.pointer (some ⟨m, 0, none⟩), .int .i64 bs, .slice (some ⟨nb, 0, none⟩) ns ns, .slice (some ⟨ob, 0, none⟩) ws ws] 73, pt ob ((vals os)) 22, own 3 1 (.slice av Y.length cap) Y.length (Y.map (Value.int .i64)), memO m c l s o]) [pt p #[.pointer (some ⟨q, 0, none⟩), .int .i64 wr, .bool true, .int .i64 sl, .int .i64 0, .int .i64 tp, .int .i64 nx] 76, pt q #[.pointer (some ⟨m, 0, none⟩), .int .i64 bs, .slice (some ⟨nb, 0, none⟩) ns ns, .slice (some ⟨ob, 0, none⟩) ws ws] 73, pt ob ((vals os)) 22, own 3 1 (.slice av Y.length cap) Y.length (Y.map (Value.int .i64)), memO m c l s o] w) :
    Calls Tryd.prog 28 #[.pointer (some ⟨p, 0, none⟩)] w fun e w' => ∃ a2 c2, e = .returned (.tuple #[]) ∧ Mem w (feet [pt p #[.pointer (some ⟨q, 0, none⟩), .int .i64 wr, .bool true, .int .i64 sl, .int .i64 0, .int .i64 tp, .int .i64 nx] 76, pt q #[.pointer (some ⟨m, 0, none⟩), .int .i64 bs, .slice (some ⟨nb, 0, none⟩) ns ns, .slice (some ⟨ob, 0, none⟩) ws ws] 73, pt ob ((vals os)) 22, own 3 1 (.slice av Y.length cap) Y.length (Y.map (Value.int .i64)), memO m c l s o]) [pt p #[.pointer (some ⟨q, 0, none⟩), .int .i64 wr, .bool true, .int .i64 sl, .int .i64 3, .int .i64 tp, .int .i64 nx] 76, pt q #[.pointer (some ⟨m, 0, none⟩), .int .i64 bs, .slice (some ⟨nb, 0, none⟩) ns ns, .slice (some ⟨ob, 0, none⟩) ws ws] 73, pt ob ((vals (os.set wr.toNat (.slice a2 (Y ++ [sl]).length c2)))) 22, own 3 1 (.slice a2 (((Y ++ [sl])).length) c2) (((Y ++ [sl])).length) (((Y ++ [sl])).map (Value.int .i64)), memO m c l s o] w' := by
  refine Calls.of_ends (vs := [.pointer (some ⟨p, 0, none⟩)]) Tryd.func28 rfl Tryd.ntmps28 rfl ?_
  intro a hA
  replace hA : St 53 [(0, _)] a := hA
  refine Ends.seq (Ends.seq (Ends.region ?_))
  refine S.val hA (R.move rfl) rfl ?_; clear hA a; intro a hA
  refine S.call hA (R.callF Tryd.func37 rfl rfl rfl) rfl (ppriv_keep p q m nb ns ob ws bs wr os av Y cap hwr hlen hos hY2 sl 0 tp nx hY _ (hM.hereN 4)) ?_; clear hA a
  rintro e w1 ⟨a1, c2, rfl, hn⟩
  replace hM : Mem _ _ [pt p #[.pointer (some ⟨q, 0, none⟩), .int .i64 wr, .bool true, .int .i64 sl, .int .i64 0, .int .i64 tp, .int .i64 nx] 76, pt q #[.pointer (some ⟨m, 0, none⟩), .int .i64 bs, .slice (some ⟨nb, 0, none⟩) ns ns, .slice (some ⟨ob, 0, none⟩) ws ws] 73, pt ob ((vals (os.set wr.toNat (.slice a1 (Y ++ [sl]).length c2)))) 22, own 3 1 (.slice a1 (((Y ++ [sl])).length) c2) (((Y ++ [sl])).length) (((Y ++ [sl])).map (Value.int .i64)), memO m c l s o] _ := hM.callL 4 hn; clear hn
  refine ⟨.bool true, rfl, fun a hA => ?_⟩
  refine S.done ?_
  refine Ends.condT hA rfl ?_
  refine Ends.seq (Ends.region ?_)
  refine S.val hA (R.move rfl) rfl ?_; clear hA a; intro a hA
  refine S.val hA (R.nilCheck rfl) rfl ?_; clear hA a; intro a hA
  refine S.val hA (R.fieldAddr (q := 4) fi76_4 rfl rfl rfl) rfl ?_; clear hA a; intro a hA
  refine S.store (k := 0) hA hM sz74 rfl rfl rfl rfl rfl ?_; clear hM
  intro w2 hM
  replace hM : Mem _ _ [pt p #[.pointer (some ⟨q, 0, none⟩), .int .i64 wr, .bool true, .int .i64 sl, .int .i64 3, .int .i64 tp, .int .i64 nx] 76, pt q #[.pointer (some ⟨m, 0, none⟩), .int .i64 bs, .slice (some ⟨nb, 0, none⟩) ns ns, .slice (some ⟨ob, 0, none⟩) ws ws] 73, pt ob ((vals (os.set wr.toNat (.slice a1 (Y ++ [sl]).length c2)))) 22, own 3 1 (.slice a1 (((Y ++ [sl])).length) c2) (((Y ++ [sl])).length) (((Y ++ [sl])).map (Value.int .i64)), memO m c l s o] _ := hM
  refine S.done ?_
  replace hA : St 53 [(0, _)] a := hA.sub ((.cons rfl .nil))
  refine Ends.ret0 Tryd.func28 Tryd.results28 hA ?_
  exact ⟨_, _, rfl, hM.firstN 5⟩
set_option maxRecDepth 100000 in
set_option maxHeartbeats 400000 in
theorem Spf_keep (p q m nb ns ob ws : Nat) (bs wr : Int) (os : List Value) (av : Option Addr) (Y : List Int) (cap : Nat) (hwr : 0 ≤ wr ∧ wr < ws) (hlen : os.length = ws) (hos : os[wr.toNat]? = some (.slice av Y.length cap)) (hY2 : Y.length ≤ 2) (c : Nat) (l : List Int) (s : Int) (o : CellOp) (hmc : m ≠ c) (hl : 0 ≤ bs ∧ bs + 1 ≤ l.length ∧ l.length ≤ 1000000) (hs : 0 ≤ s ∧ s < 9223372036854775806) (sl tp nx : Int) (hY : Y.length < 2) (w : World) (hM : Mem w (feet [pt p #[.pointer (some ⟨q, 0, none⟩), .int .i64 wr, .bool true, .int .i64 sl, .int .i64 0, .int .i64 tp, .int .i64 nx] 76, pt q #[.pointer (some ⟨m, 0, none⟩), .int .i64 bs, .slice (some ⟨nb, 0, none⟩) ns ns, .slice (some ⟨ob, 0, none⟩) ws ws] 73, pt ob ((vals os)) 22, own 3 1 (.slice av Y.length cap) Y.length (Y.map (Value.int .i64)), memO m c l s o]) [pt p #[.pointer (some ⟨q, 0, none⟩), .int .i64 wr, .bool true, .int .i64 sl, .int .i64 0, .int .i64 tp, .int .i64 nx] 76, pt q #[.pointer (some ⟨m, 0, none⟩), .int .i64 bs, .slice (some ⟨nb, 0, none⟩) ns ns, .slice (some ⟨ob, 0, none⟩) ws ws] 73, pt ob ((vals os)) 22, own 3 1 (.slice av Y.length cap) Y.length (Y.map (Value.int .i64)), memO m c l s o] w) :
  Calls Tryd.prog 18 #[.pointer (some ⟨p, 0, none⟩)] w fun e w' => ∃ a2 c2, e = .returned (.bool true) ∧ Mem w (feet [pt p #[.pointer (some ⟨q, 0, none⟩), .int .i64 wr, .bool true, .int .i64 sl, .int .i64 0, .int .i64 tp, .int .i64 nx] 76, pt q #[.pointer (some ⟨m, 0, none⟩), .int .i64 bs, .slice (some ⟨nb, 0, none⟩) ns ns, .slice (some ⟨ob, 0, none⟩) ws ws] 73, pt ob ((vals os)) 22, own 3 1 (.slice av Y.length cap) Y.length (Y.map (Value.int .i64)), memO m c l s o]) [pt p #[.pointer (some ⟨q, 0, none⟩), .int .i64 wr, .bool true, .int .i64 sl, .int .i64 3, .int .i64 tp, .int .i64 nx] 76, pt q #[.pointer (some ⟨m, 0, none⟩), .int .i64 bs, .slice (some ⟨nb, 0, none⟩) ns ns, .slice (some ⟨ob, 0, none⟩) ws ws] 73, pt ob ((vals (os.set wr.toNat (.slice a2 (Y ++ [sl]).length c2)))) 22, own 3 1 (.slice a2 (((Y ++ [sl])).length) c2) (((Y ++ [sl])).length) (((Y ++ [sl])).map (Value.int .i64)), memO m c l s o] w' := by
 refine Calls.of_ends (vs := [.pointer (some ⟨p, 0, none⟩)]) Tryd.func18 rfl Tryd.ntmps18 rfl ?_
 intro a hA
 replace hA : St 26 [(0, _)] a := hA
 refine Ends.seq (Ends.region ?_)
 refine S.val hA (R.assign rfl) rfl ?_; clear hA a; intro a hA
 refine S.done ?_
 refine Ends.seq (Ends.seq (Ends.region ?_))
 refine S.val hA (R.move rfl) rfl ?_; clear hA a; intro a hA
 refine S.val hA (R.eqlNil Tryd.underlying49 rfl rfl) rfl ?_; clear hA a; intro a hA
 refine S.done ?_
 refine Ends.condF hA rfl ?_
 refine Ends.skip (Ends.seq (Ends.seq (Ends.region ?_)))
 refine S.val hA (R.move rfl) rfl ?_; clear hA a; intro a hA
 refine S.val hA (R.nilCheck rfl) rfl ?_; clear hA a; intro a hA
 refine S.val hA (R.fieldAddr (q := 4) fi76_4 rfl rfl rfl) rfl ?_; clear hA a; intro a hA
 refine S.val hA (R.load sz74 rfl (hM.cell (k := 0) rfl rfl)) rfl ?_; clear hA a; intro a hA
 refine S.done ?_
 replace hA : St 26 [(0, _), (8, _)] a := hA.sub ((.cons rfl (.cons rfl .nil)))
 refine Ends.block (Ends.seq (Ends.region ?_))
 refine S.val hA (R.tt (R.eql rfl rfl) (by first | decide | simp | omega)) rfl ?_; clear hA a; intro a hA
 refine S.val hA (R.assign rfl) rfl ?_; clear hA a; intro a hA
 refine S.done ?_
 refine Ends.condT hA rfl ?_
 refine Ends.region ?_
 refine S.val hA (R.move rfl) rfl ?_; clear hA a; intro a hA
 refine S.call hA (R.callF Tryd.func28 rfl rfl rfl) rfl (pf_keep p q m nb ns ob ws bs wr os av Y cap hwr hlen hos hY2 c l s o hmc hl hs sl tp nx hY _ (hM.hereN 5)) ?_; clear hA a
 rintro e w1 ⟨a2, c2, rfl, hn⟩
 replace hM : Mem _ _ [pt p #[.pointer (some ⟨q, 0, none⟩), .int .i64 wr, .bool true, .int .i64 sl, .int .i64 3, .int .i64 tp, .int .i64 nx] 76, pt q #[.pointer (some ⟨m, 0, none⟩), .int .i64 bs, .slice (some ⟨nb, 0, none⟩) ns ns, .slice (some ⟨ob, 0, none⟩) ws ws] 73, pt ob ((vals (os.set wr.toNat (.slice a2 (Y ++ [sl]).length c2)))) 22, own 3 1 (.slice a2 (((Y ++ [sl])).length) c2) (((Y ++ [sl])).length) (((Y ++ [sl])).map (Value.int .i64)), memO m c l s o] _ := hM.callL 5 hn; clear hn
 refine ⟨.tuple #[], rfl, fun a hA => ?_⟩
 refine S.done ?_
 replace hA : St 26 [(0, _)] a := hA.sub ((.cons rfl .nil))
 refine Ends.inBlock (Ends.seq (Ends.region ?_))
 refine S.val hA (R.move rfl) rfl ?_; clear hA a; intro a hA
 refine S.val hA (R.nilCheck rfl) rfl ?_; clear hA a; intro a hA
 refine S.val hA (R.fieldAddr (q := 4) fi76_4 rfl rfl rfl) rfl ?_; clear hA a; intro a hA
 refine S.val hA (R.load sz74 rfl (hM.cell (k := 0) rfl rfl)) rfl ?_; clear hA a; intro a hA
 refine S.val hA (R.tt (R.eql rfl rfl) (by first | decide | simp | omega)) rfl ?_; clear hA a; intro a hA
 refine S.val hA (R.assign rfl) rfl ?_; clear hA a; intro a hA
 refine S.done ?_
 replace hA : St 26 [(2, _)] a := hA.sub ((.cons rfl .nil))
 refine Ends.ret1 Tryd.func18 Tryd.results18 hA rfl ?_
 exact ⟨_, _, rfl, hM.firstN 5⟩
set_option maxRecDepth 100000 in
set_option maxHeartbeats 400000 in
theorem pf_own (p q m nb ns ob ws : Nat) (bs wr : Int) (os : List Value) (av : Option Addr) (Y : List Int) (cap : Nat) (hwr : 0 ≤ wr ∧ wr < ws) (hlen : os.length = ws) (hos : os[wr.toNat]? = some (.slice av Y.length cap)) (hY2 : Y.length ≤ 2) (c : Nat) (l : List Int) (s : Int) (o : CellOp) (hmc : m ≠ c) (hl : 0 ≤ bs ∧ bs + 1 ≤ l.length ∧ l.length ≤ 1000000) (hs : 0 ≤ s ∧ s < 9223372036854775806) (sl tp nx : Int) (hY : 0 < Y.length) (w : World) (hM : Mem w (feet [pt p #[.pointer (some ⟨q, 0, none⟩), .int .i64 wr, .bool false, .int .i64 sl, .int .i64 0, .int .i64 tp, .int .i64 nx] 76, pt q #[.pointer (some ⟨m, 0, none⟩), .int .i64 bs, .slice (some ⟨nb, 0, none⟩) ns ns, .slice (some ⟨ob, 0, none⟩) ws ws] 73, pt ob ((vals os)) 22, own 3 1 (.slice av Y.length cap) Y.length (Y.map (Value.int .i64)), memO m c l s o]) [pt p #[.pointer (some ⟨q, 0, none⟩), .int .i64 wr, .bool false, .int .i64 sl, .int .i64 0, .int .i64 tp, .int .i64 nx] 76, pt q #[.pointer (some ⟨m, 0, none⟩), .int .i64 bs, .slice (some ⟨nb, 0, none⟩) ns ns, .slice (some ⟨ob, 0, none⟩) ws ws] 73, pt ob ((vals os)) 22, own 3 1 (.slice av Y.length cap) Y.length (Y.map (Value.int .i64)), memO m c l s o] w) :
    Calls Tryd.prog 28 #[.pointer (some ⟨p, 0, none⟩)] w fun e w' => e = .returned (.tuple #[]) ∧ Mem w (feet [pt p #[.pointer (some ⟨q, 0, none⟩), .int .i64 wr, .bool false, .int .i64 sl, .int .i64 0, .int .i64 tp, .int .i64 nx] 76, pt q #[.pointer (some ⟨m, 0, none⟩), .int .i64 bs, .slice (some ⟨nb, 0, none⟩) ns ns, .slice (some ⟨ob, 0, none⟩) ws ws] 73, pt ob ((vals os)) 22, own 3 1 (.slice av Y.length cap) Y.length (Y.map (Value.int .i64)), memO m c l s o]) [pt p #[.pointer (some ⟨q, 0, none⟩), .int .i64 wr, .bool false, .int .i64 (Y.getD (Y.length - 1) 0), .int .i64 3, .int .i64 tp, .int .i64 nx] 76, pt q #[.pointer (some ⟨m, 0, none⟩), .int .i64 bs, .slice (some ⟨nb, 0, none⟩) ns ns, .slice (some ⟨ob, 0, none⟩) ws ws] 73, pt ob ((vals (os.set wr.toNat (.slice av (Y.take (Y.length - 1)).length cap)))) 22, own 3 1 (.slice av (((Y.take (Y.length - 1))).length) cap) (((Y.take (Y.length - 1))).length) (((Y.take (Y.length - 1))).map (Value.int .i64)), memO m c l s o] w' := by
  refine Calls.of_ends (vs := [.pointer (some ⟨p, 0, none⟩)]) Tryd.func28 rfl Tryd.ntmps28 rfl ?_
  intro a hA
  replace hA : St 53 [(0, _)] a := hA
  refine Ends.seq (Ends.seq (Ends.region ?_))
  refine S.val hA (R.move rfl) rfl ?_; clear hA a; intro a hA
  refine S.call hA (R.callF Tryd.func37 rfl rfl rfl) rfl (ppriv_own p q m nb ns ob ws bs wr os av Y cap hwr hlen hos hY2 sl 0 tp nx hY _ (hM.hereN 4)) ?_; clear hA a
  rintro e w1 ⟨rfl, hn⟩
  replace hM : Mem _ _ [pt p #[.pointer (some ⟨q, 0, none⟩), .int .i64 wr, .bool false, .int .i64 (Y.getD (Y.length - 1) 0), .int .i64 0, .int .i64 tp, .int .i64 nx] 76, pt q #[.pointer (some ⟨m, 0, none⟩), .int .i64 bs, .slice (some ⟨nb, 0, none⟩) ns ns, .slice (some ⟨ob, 0, none⟩) ws ws] 73, pt ob ((vals (os.set wr.toNat (.slice av (Y.take (Y.length - 1)).length cap)))) 22, own 3 1 (.slice av (((Y.take (Y.length - 1))).length) cap) (((Y.take (Y.length - 1))).length) (((Y.take (Y.length - 1))).map (Value.int .i64)), memO m c l s o] _ := hM.callL 4 hn; clear hn
  refine ⟨.bool true, rfl, fun a hA => ?_⟩
  refine S.done ?_
  refine Ends.condT hA rfl ?_
  refine Ends.seq (Ends.region ?_)
  refine S.val hA (R.move rfl) rfl ?_; clear hA a; intro a hA
  refine S.val hA (R.nilCheck rfl) rfl ?_; clear hA a; intro a hA
  refine S.val hA (R.fieldAddr (q := 4) fi76_4 rfl rfl rfl) rfl ?_; clear hA a; intro a hA
  refine S.store (k := 0) hA hM sz74 rfl rfl rfl rfl rfl ?_; clear hM
  intro w2 hM
  replace hM : Mem _ _ [pt p #[.pointer (some ⟨q, 0, none⟩), .int .i64 wr, .bool false, .int .i64 (Y.getD (Y.length - 1) 0), .int .i64 3, .int .i64 tp, .int .i64 nx] 76, pt q #[.pointer (some ⟨m, 0, none⟩), .int .i64 bs, .slice (some ⟨nb, 0, none⟩) ns ns, .slice (some ⟨ob, 0, none⟩) ws ws] 73, pt ob ((vals (os.set wr.toNat (.slice av (Y.take (Y.length - 1)).length cap)))) 22, own 3 1 (.slice av (((Y.take (Y.length - 1))).length) cap) (((Y.take (Y.length - 1))).length) (((Y.take (Y.length - 1))).map (Value.int .i64)), memO m c l s o] _ := hM
  refine S.done ?_
  replace hA : St 53 [(0, _)] a := hA.sub ((.cons rfl .nil))
  refine Ends.ret0 Tryd.func28 Tryd.results28 hA ?_
  exact ⟨rfl, hM.firstN 5⟩
set_option maxRecDepth 100000 in
set_option maxHeartbeats 400000 in
theorem Spf_own (p q m nb ns ob ws : Nat) (bs wr : Int) (os : List Value) (av : Option Addr) (Y : List Int) (cap : Nat) (hwr : 0 ≤ wr ∧ wr < ws) (hlen : os.length = ws) (hos : os[wr.toNat]? = some (.slice av Y.length cap)) (hY2 : Y.length ≤ 2) (c : Nat) (l : List Int) (s : Int) (o : CellOp) (hmc : m ≠ c) (hl : 0 ≤ bs ∧ bs + 1 ≤ l.length ∧ l.length ≤ 1000000) (hs : 0 ≤ s ∧ s < 9223372036854775806) (sl tp nx : Int) (hY : 0 < Y.length) (w : World) (hM : Mem w (feet [pt p #[.pointer (some ⟨q, 0, none⟩), .int .i64 wr, .bool false, .int .i64 sl, .int .i64 0, .int .i64 tp, .int .i64 nx] 76, pt q #[.pointer (some ⟨m, 0, none⟩), .int .i64 bs, .slice (some ⟨nb, 0, none⟩) ns ns, .slice (some ⟨ob, 0, none⟩) ws ws] 73, pt ob ((vals os)) 22, own 3 1 (.slice av Y.length cap) Y.length (Y.map (Value.int .i64)), memO m c l s o]) [pt p #[.pointer (some ⟨q, 0, none⟩), .int .i64 wr, .bool false, .int .i64 sl, .int .i64 0, .int .i64 tp, .int .i64 nx] 76, pt q #[.pointer (some ⟨m, 0, none⟩), .int .i64 bs, .slice (some ⟨nb, 0, none⟩) ns ns, .slice (some ⟨ob, 0, none⟩) ws ws] 73, pt ob ((vals os)) 22, own 3 1 (.slice av Y.length cap) Y.length (Y.map (Value.int .i64)), memO m c l s o] w) :
  Calls Tryd.prog 18 #[.pointer (some ⟨p, 0, none⟩)] w fun e w' => e = .returned (.bool true) ∧ Mem w (feet [pt p #[.pointer (some ⟨q, 0, none⟩), .int .i64 wr, .bool false, .int .i64 sl, .int .i64 0, .int .i64 tp, .int .i64 nx] 76, pt q #[.pointer (some ⟨m, 0, none⟩), .int .i64 bs, .slice (some ⟨nb, 0, none⟩) ns ns, .slice (some ⟨ob, 0, none⟩) ws ws] 73, pt ob ((vals os)) 22, own 3 1 (.slice av Y.length cap) Y.length (Y.map (Value.int .i64)), memO m c l s o]) [pt p #[.pointer (some ⟨q, 0, none⟩), .int .i64 wr, .bool false, .int .i64 (Y.getD (Y.length - 1) 0), .int .i64 3, .int .i64 tp, .int .i64 nx] 76, pt q #[.pointer (some ⟨m, 0, none⟩), .int .i64 bs, .slice (some ⟨nb, 0, none⟩) ns ns, .slice (some ⟨ob, 0, none⟩) ws ws] 73, pt ob ((vals (os.set wr.toNat (.slice av (Y.take (Y.length - 1)).length cap)))) 22, own 3 1 (.slice av (((Y.take (Y.length - 1))).length) cap) (((Y.take (Y.length - 1))).length) (((Y.take (Y.length - 1))).map (Value.int .i64)), memO m c l s o] w' := by
 refine Calls.of_ends (vs := [.pointer (some ⟨p, 0, none⟩)]) Tryd.func18 rfl Tryd.ntmps18 rfl ?_
 intro a hA
 replace hA : St 26 [(0, _)] a := hA
 refine Ends.seq (Ends.region ?_)
 refine S.val hA (R.assign rfl) rfl ?_; clear hA a; intro a hA
 refine S.done ?_
 refine Ends.seq (Ends.seq (Ends.region ?_))
 refine S.val hA (R.move rfl) rfl ?_; clear hA a; intro a hA
 refine S.val hA (R.eqlNil Tryd.underlying49 rfl rfl) rfl ?_; clear hA a; intro a hA
 refine S.done ?_
 refine Ends.condF hA rfl ?_
 refine Ends.skip (Ends.seq (Ends.seq (Ends.region ?_)))
 refine S.val hA (R.move rfl) rfl ?_; clear hA a; intro a hA
 refine S.val hA (R.nilCheck rfl) rfl ?_; clear hA a; intro a hA
 refine S.val hA (R.fieldAddr (q := 4) fi76_4 rfl rfl rfl) rfl ?_; clear hA a; intro a hA
 refine S.val hA (R.load sz74 rfl (hM.cell (k := 0) rfl rfl)) rfl ?_; clear hA a; intro a hA
 refine S.done ?_
 replace hA : St 26 [(0, _), (8, _)] a := hA.sub ((.cons rfl (.cons rfl .nil)))
 refine Ends.block (Ends.seq (Ends.region ?_))
 refine S.val hA (R.tt (R.eql rfl rfl) (by first | decide | simp | omega)) rfl ?_; clear hA a; intro a hA
 refine S.val hA (R.assign rfl) rfl ?_; clear hA a; intro a hA
 refine S.done ?_
 refine Ends.condT hA rfl ?_
 refine Ends.region ?_
 refine S.val hA (R.move rfl) rfl ?_; clear hA a; intro a hA
 refine S.call hA (R.callF Tryd.func28 rfl rfl rfl) rfl (pf_own p q m nb ns ob ws bs wr os av Y cap hwr hlen hos hY2 c l s o hmc hl hs sl tp nx hY _ (hM.hereN 5)) ?_; clear hA a
 rintro e w1 ⟨rfl, hn⟩
 replace hM : Mem _ _ [pt p #[.pointer (some ⟨q, 0, none⟩), .int .i64 wr, .bool false, .int .i64 (Y.getD (Y.length - 1) 0), .int .i64 3, .int .i64 tp, .int .i64 nx] 76, pt q #[.pointer (some ⟨m, 0, none⟩), .int .i64 bs, .slice (some ⟨nb, 0, none⟩) ns ns, .slice (some ⟨ob, 0, none⟩) ws ws] 73, pt ob ((vals (os.set wr.toNat (.slice av (Y.take (Y.length - 1)).length cap)))) 22, own 3 1 (.slice av (((Y.take (Y.length - 1))).length) cap) (((Y.take (Y.length - 1))).length) (((Y.take (Y.length - 1))).map (Value.int .i64)), memO m c l s o] _ := hM.callL 5 hn; clear hn
 refine ⟨.tuple #[], rfl, fun a hA => ?_⟩
 refine S.done ?_
 replace hA : St 26 [(0, _)] a := hA.sub ((.cons rfl .nil))
 refine Ends.inBlock (Ends.seq (Ends.region ?_))
 refine S.val hA (R.move rfl) rfl ?_; clear hA a; intro a hA
 refine S.val hA (R.nilCheck rfl) rfl ?_; clear hA a; intro a hA
 refine S.val hA (R.fieldAddr (q := 4) fi76_4 rfl rfl rfl) rfl ?_; clear hA a; intro a hA
 refine S.val hA (R.load sz74 rfl (hM.cell (k := 0) rfl rfl)) rfl ?_; clear hA a; intro a hA
 refine S.val hA (R.tt (R.eql rfl rfl) (by first | decide | simp | omega)) rfl ?_; clear hA a; intro a hA
 refine S.val hA (R.assign rfl) rfl ?_; clear hA a; intro a hA
 refine S.done ?_
 replace hA : St 26 [(2, _)] a := hA.sub ((.cons rfl .nil))
 refine Ends.ret1 Tryd.func18 Tryd.results18 hA rfl ?_
 exact ⟨rfl, hM.firstN 5⟩
set_option maxRecDepth 100000 in
set_option maxHeartbeats 400000 in
theorem pf_none (p q m nb ns ob ws : Nat) (bs wr : Int) (os : List Value) (av : Option Addr) (Y : List Int) (cap : Nat) (hwr : 0 ≤ wr ∧ wr < ws) (hlen : os.length = ws) (hos : os[wr.toNat]? = some (.slice av Y.length cap)) (hY2 : Y.length ≤ 2) (c : Nat) (l : List Int) (s : Int) (o : CellOp) (hmc : m ≠ c) (hl : 0 ≤ bs ∧ bs + 1 ≤ l.length ∧ l.length ≤ 1000000) (hs : 0 ≤ s ∧ s < 9223372036854775806) (sl tp nx : Int) (htp : 0 ≤ l.getD bs.toNat 0 ∧ l.getD bs.toNat 0 < 4611686018427387904) (hY : Y.length = 0) (hat : l.getD bs.toNat 0 % 4294967296 - 1 < 0) (w : World) (hM : Mem w (feet [pt p #[.pointer (some ⟨q, 0, none⟩), .int .i64 wr, .bool false, .int .i64 sl, .int .i64 0, .int .i64 tp, .int .i64 nx] 76, pt q #[.pointer (some ⟨m, 0, none⟩), .int .i64 bs, .slice (some ⟨nb, 0, none⟩) ns ns, .slice (some ⟨ob, 0, none⟩) ws ws] 73, pt ob ((vals os)) 22, own 3 1 (.slice av Y.length cap) Y.length (Y.map (Value.int .i64)), memO m c l s o]) [pt p #[.pointer (some ⟨q, 0, none⟩), .int .i64 wr, .bool false, .int .i64 sl, .int .i64 0, .int .i64 tp, .int .i64 nx] 76, pt q #[.pointer (some ⟨m, 0, none⟩), .int .i64 bs, .slice (some ⟨nb, 0, none⟩) ns ns, .slice (some ⟨ob, 0, none⟩) ws ws] 73, pt ob ((vals os)) 22, own 3 1 (.slice av Y.length cap) Y.length (Y.map (Value.int .i64)), memO m c l s o] w) :
  Calls Tryd.prog 28 #[.pointer (some ⟨p, 0, none⟩)] w fun e w' => ∃ op, e = .returned (.tuple #[]) ∧ Mem w (feet [pt p #[.pointer (some ⟨q, 0, none⟩), .int .i64 wr, .bool false, .int .i64 sl, .int .i64 0, .int .i64 tp, .int .i64 nx] 76, pt q #[.pointer (some ⟨m, 0, none⟩), .int .i64 bs, .slice (some ⟨nb, 0, none⟩) ns ns, .slice (some ⟨ob, 0, none⟩) ws ws] 73, pt ob ((vals os)) 22, own 3 1 (.slice av Y.length cap) Y.length (Y.map (Value.int .i64)), memO m c l s o]) [pt p #[.pointer (some ⟨q, 0, none⟩), .int .i64 wr, .bool false, .int .i64 sl, .int .i64 3, .int .i64 (l.getD bs.toNat 0), .int .i64 nx] 76, pt q #[.pointer (some ⟨m, 0, none⟩), .int .i64 bs, .slice (some ⟨nb, 0, none⟩) ns ns, .slice (some ⟨ob, 0, none⟩) ws ws] 73, pt ob ((vals os)) 22, own 3 1 (.slice av Y.length cap) Y.length (Y.map (Value.int .i64)), memO m c l (s + 1) op] w' := by
 refine Calls.of_ends (vs := [.pointer (some ⟨p, 0, none⟩)]) Tryd.func28 rfl Tryd.ntmps28 rfl ?_
 intro a hA
 replace hA : St 53 [(0, _)] a := hA
 refine Ends.seq (Ends.seq (Ends.region ?_))
 refine S.val hA (R.move rfl) rfl ?_; clear hA a; intro a hA
 refine S.call hA (R.callF Tryd.func37 rfl rfl rfl) rfl (ppriv_none p q m nb ns ob ws bs wr os av Y cap hwr hlen hos hY2 sl 0 tp nx hY _ (hM.hereN 4)) ?_; clear hA a
 rintro e w1 ⟨rfl, hn⟩
 replace hM : Mem _ _ [pt p #[.pointer (some ⟨q, 0, none⟩), .int .i64 wr, .bool false, .int .i64 sl, .int .i64 0, .int .i64 tp, .int .i64 nx] 76, pt q #[.pointer (some ⟨m, 0, none⟩), .int .i64 bs, .slice (some ⟨nb, 0, none⟩) ns ns, .slice (some ⟨ob, 0, none⟩) ws ws] 73, pt ob ((vals os)) 22, own 3 1 (.slice av Y.length cap) Y.length (Y.map (Value.int .i64)), memO m c l s o] _ := hM.callL 4 hn; clear hn
 refine ⟨.bool false, rfl, fun a hA => ?_⟩
 refine S.done ?_
 refine Ends.condF hA rfl ?_
 refine Ends.skip (Ends.seq ?_)
 refine Ends.drawn (Mem w (feet [pt p #[.pointer (some ⟨q, 0, none⟩), .int .i64 wr, .bool false, .int .i64 sl, .int .i64 0, .int .i64 tp, .int .i64 nx] 76, pt q #[.pointer (some ⟨m, 0, none⟩), .int .i64 bs, .slice (some ⟨nb, 0, none⟩) ns ns, .slice (some ⟨ob, 0, none⟩) ws ws] 73, pt ob ((vals os)) 22, own 3 1 (.slice av Y.length cap) Y.length (Y.map (Value.int .i64)), memO m c l s o]) [pt p #[.pointer (some ⟨q, 0, none⟩), .int .i64 wr, .bool false, .int .i64 sl, .int .i64 0, .int .i64 tp, .int .i64 nx] 76, pt q #[.pointer (some ⟨m, 0, none⟩), .int .i64 bs, .slice (some ⟨nb, 0, none⟩) ns ns, .slice (some ⟨ob, 0, none⟩) ws ws] 73, pt ob ((vals os)) 22, own 3 1 (.slice av Y.length cap) Y.length (Y.map (Value.int .i64))]) (.cons (0, true) (.cons (1, true) (.cons (2, true) (.cons (3, true) (.cons (4, true) (.cons (5, true) (.cons (6, true) (.cons (7, true) (.cons (8, true) (.cons (9, true) (.cons (10, true) (.cons (11, true) (.cons (12, true) (.cons (13, true) (.cons (14, true) (.cons (15, false) (.cons (16, true) (.cons (17, true) (.cons (18, true) (.cons (19, true) (.cons (20, true) (.cons (21, false) .nil)))))))))))))))))))))) 21 mixed (by kernel_rfl) (by kernel_rfl) (by kernel_rfl) (hM.drop 4).drew ?_
 replace hM := hM.drew
 refine D.valF hA rfl (fun _ => R.move rfl) rfl ?_; clear hA a; intro a hA
 refine D.valF hA rfl (fun _ => R.move rfl) rfl ?_; clear hA a; intro a hA
 refine D.valF hA rfl (fun _ => R.nilCheck rfl) rfl ?_; clear hA a; intro a hA
 refine D.valF hA rfl (fun _ => R.fieldAddr (q := 0) fi76_0 rfl rfl rfl) rfl ?_; clear hA a; intro a hA
 refine D.val hA rfl (by kernel_rfl) (fun _ hM => R.load sz46 rfl (hM.cell (k := 0) rfl rfl)) rfl ?_; clear hA a; intro a hA
 refine D.valF hA rfl (fun _ => R.nilCheck rfl) rfl ?_; clear hA a; intro a hA
 refine D.valF hA rfl (fun _ => R.fieldAddr (q := 0) fi73_0 rfl rfl rfl) rfl ?_; clear hA a; intro a hA
 refine D.val hA rfl (by kernel_rfl) (fun _ hM => R.load sz42 rfl (hM.cell (k := 1) rfl rfl)) rfl ?_; clear hA a; intro a hA
 refine D.valF hA rfl (fun _ => R.move rfl) rfl ?_; clear hA a; intro a hA
 refine D.valF hA rfl (fun _ => R.nilCheck rfl) rfl ?_; clear hA a; intro a hA
 refine D.valF hA rfl (fun _ => R.fieldAddr (q := 0) fi76_0 rfl rfl rfl) rfl ?_; clear hA a; intro a hA
 refine D.val hA rfl (by kernel_rfl) (fun _ hM => R.load sz46 rfl (hM.cell (k := 0) rfl rfl)) rfl ?_; clear hA a; intro a hA
 refine D.valF hA rfl (fun _ => R.nilCheck rfl) rfl ?_; clear hA a; intro a hA
 refine D.valF hA rfl (fun _ => R.fieldAddr (q := 1) fi73_1 rfl rfl rfl) rfl ?_; clear hA a; intro a hA
 refine D.val hA rfl (by kernel_rfl) (fun _ hM => R.load sz3 rfl (hM.cell (k := 1) rfl rfl)) rfl ?_; clear hA a; intro a hA
 refine D.call hA rfl (R.callF Tryd.func38 rfl rfl rfl) rfl (get_ok m c l s o hmc bs (by omega) (by first | omega | (simp; omega)) (by omega) _ (hM.mem (k := 4) rfl)) ?_; clear hA a
 rintro e w2 ⟨rfl, hn⟩
 replace hM : Mem _ _ [memO m c ((l.set bs.toNat (l.getD bs.toNat 0))) (s + 1) ⟨1, bs, l.getD bs.toNat 0, l.getD bs.toNat 0, true⟩, pt p #[.pointer (some ⟨q, 0, none⟩), .int .i64 wr, .bool false, .int .i64 sl, .int .i64 0, .int .i64 tp, .int .i64 nx] 76, pt q #[.pointer (some ⟨m, 0, none⟩), .int .i64 bs, .slice (some ⟨nb, 0, none⟩) ns ns, .slice (some ⟨ob, 0, none⟩) ws ws] 73, pt ob ((vals os)) 22, own 3 1 (.slice av Y.length cap) Y.length (Y.map (Value.int .i64))] _ := hM.callW (k := 4) rfl hn (fun _ h => h); clear hn
 refine ⟨.tuple #[.int .i64 (l.getD bs.toNat 0), .int .i64 0], rfl, (hM.drop 0), fun a hA => ?_⟩
 refine D.valF hA rfl (fun _ => R.move rfl) rfl ?_; clear hA a; intro a hA
 refine D.valF hA rfl (fun _ => R.extract (v := .int .i64 (l.getD bs.toNat 0)) rfl rfl) rfl ?_; clear hA a; intro a hA
 refine D.valF hA rfl (fun _ => R.extract (v := .int .i64 0) rfl rfl) rfl ?_; clear hA a; intro a hA
 refine D.valF hA rfl (fun _ => R.nilCheck rfl) rfl ?_; clear hA a; intro a hA
 refine D.valF hA rfl (fun _ => R.fieldAddr (q := 5) fi76_5 rfl rfl rfl) rfl ?_; clear hA a; intro a hA
 refine D.store (k := 1) hA hM rfl sz3 rfl rfl rfl rfl rfl ?_; clear hM
 intro w3 hM; refine ⟨fun _ hne => absurd rfl hne, ?_⟩
 replace hM : Mem _ _ [memO m c ((l.set bs.toNat (l.getD bs.toNat 0))) (s + 1) ⟨1, bs, l.getD bs.toNat 0, l.getD bs.toNat 0, true⟩, pt p #[.pointer (some ⟨q, 0, none⟩), .int .i64 wr, .bool false, .int .i64 sl, .int .i64 0, .int .i64 (l.getD bs.toNat 0), .int .i64 nx] 76, pt q #[.pointer (some ⟨m, 0, none⟩), .int .i64 bs, .slice (some ⟨nb, 0, none⟩) ns ns, .slice (some ⟨ob, 0, none⟩) ws ws] 73, pt ob ((vals os)) 22, own 3 1 (.slice av Y.length cap) Y.length (Y.map (Value.int .i64))] _ := hM
 refine D.done ?_
 replace hA : St 53 [(0, _)] a := hA.sub ((.cons rfl .nil))
 refine Ends.seq (Ends.region ?_)
 refine S.val hA (R.move rfl) rfl ?_; clear hA a; intro a hA
 refine S.val hA (R.nilCheck rfl) rfl ?_; clear hA a; intro a hA
 refine S.val hA (R.fieldAddr (q := 4) fi76_4 rfl rfl rfl) rfl ?_; clear hA a; intro a hA
 refine S.store (k := 1) hA hM sz74 rfl rfl rfl rfl rfl ?_; clear hM
 intro w4 hM
 replace hM : Mem _ _ [memO m c ((l.set bs.toNat (l.getD bs.toNat 0))) (s + 1) ⟨1, bs, l.getD bs.toNat 0, l.getD bs.toNat 0, true⟩, pt p #[.pointer (some ⟨q, 0, none⟩), .int .i64 wr, .bool false, .int .i64 sl, .int .i64 1, .int .i64 (l.getD bs.toNat 0), .int .i64 nx] 76, pt q #[.pointer (some ⟨m, 0, none⟩), .int .i64 bs, .slice (some ⟨nb, 0, none⟩) ns ns, .slice (some ⟨ob, 0, none⟩) ws ws] 73, pt ob ((vals os)) 22, own 3 1 (.slice av Y.length cap) Y.length (Y.map (Value.int .i64))] _ := hM
 refine S.done ?_
 refine Ends.seq (Ends.region ?_)
 refine S.val hA (R.move rfl) rfl ?_; clear hA a; intro a hA
 refine S.val hA (R.nilCheck rfl) rfl ?_; clear hA a; intro a hA
 refine S.val hA (R.fieldAddr (q := 5) fi76_5 rfl rfl rfl) rfl ?_; clear hA a; intro a hA
 refine S.val hA (R.load sz3 rfl (hM.cell (k := 1) rfl rfl)) rfl ?_; clear hA a; intro a hA
 refine S.call hA (R.callF Tryd.func39 rfl rfl rfl) rfl (unpack_any (l.getD bs.toNat 0) (by omega) (by omega) _) ?_; clear hA a
 rintro e w5 ⟨rfl, rfl⟩
 refine ⟨.tuple #[.int .i64 ((l.getD bs.toNat 0) / 4294967296 % 1073741824), .int .i64 ((l.getD bs.toNat 0) % 4294967296 - 1)], rfl, fun a hA => ?_⟩
 refine S.val hA (R.move rfl) rfl ?_; clear hA a; intro a hA
 refine S.val hA (R.extract (v := .int .i64 ((l.getD bs.toNat 0) / 4294967296 % 1073741824)) rfl rfl) rfl ?_; clear hA a; intro a hA
 refine S.val hA (R.extract (v := .int .i64 ((l.getD bs.toNat 0) % 4294967296 - 1)) rfl rfl) rfl ?_; clear hA a; intro a hA
 refine S.val hA (R.assign rfl) rfl ?_; clear hA a; intro a hA
 refine S.val hA (R.assign rfl) rfl ?_; clear hA a; intro a hA
 refine S.done ?_
 replace hA : St 53 [(0, _), (3, _)] a := hA.sub ((.cons rfl (.cons rfl .nil)))
 refine Ends.seq (Ends.region ?_)
 refine S.val hA (R.move rfl) rfl ?_; clear hA a; intro a hA
 refine S.val hA (R.tt (R.lss rfl rfl) (by omega)) rfl ?_; clear hA a; intro a hA
 refine S.val hA (R.move rfl) rfl ?_; clear hA a; intro a hA
 refine S.valg (dj := 43) hA (by kernel_rfl) rfl (R.move rfl) rfl ?_; clear hA a; intro a hA
 refine S.valg (dj := 43) hA (by kernel_rfl) rfl (R.nilCheck rfl) rfl ?_; clear hA a; intro a hA
 refine S.valg (dj := 43) hA (by kernel_rfl) rfl (R.fieldAddr (q := 2) fi76_2 rfl rfl rfl) rfl ?_; clear hA a; intro a hA
 refine S.valg (dj := 43) hA (by kernel_rfl) rfl (R.load sz4 rfl (hM.cell (k := 1) rfl rfl)) rfl ?_; clear hA a; intro a hA
 refine S.valg (dj := 43) hA (by kernel_rfl) rfl (R.not rfl) rfl ?_; clear hA a; intro a hA
 refine S.val hA (R.pickT rfl rfl) rfl ?_; clear hA a; intro a hA
 refine S.done ?_
 replace hA : St 53 [(0, _), (49, _)] a := hA.sub ((.cons rfl (.cons rfl .nil)))
 refine Ends.condT hA rfl ?_
 refine Ends.region ?_
 refine S.val hA (R.move rfl) rfl ?_; clear hA a; intro a hA
 refine S.val hA (R.nilCheck rfl) rfl ?_; clear hA a; intro a hA
 refine S.val hA (R.fieldAddr (q := 4) fi76_4 rfl rfl rfl) rfl ?_; clear hA a; intro a hA
 refine S.store (k := 1) hA hM sz74 rfl rfl rfl rfl rfl ?_; clear hM
 intro w6 hM
 replace hM : Mem _ _ [memO m c ((l.set bs.toNat (l.getD bs.toNat 0))) (s + 1) ⟨1, bs, l.getD bs.toNat 0, l.getD bs.toNat 0, true⟩, pt p #[.pointer (some ⟨q, 0, none⟩), .int .i64 wr, .bool false, .int .i64 sl, .int .i64 3, .int .i64 (l.getD bs.toNat 0), .int .i64 nx] 76, pt q #[.pointer (some ⟨m, 0, none⟩), .int .i64 bs, .slice (some ⟨nb, 0, none⟩) ns ns, .slice (some ⟨ob, 0, none⟩) ws ws] 73, pt ob ((vals os)) 22, own 3 1 (.slice av Y.length cap) Y.length (Y.map (Value.int .i64))] _ := hM
 refine S.done ?_
 replace hA : St 53 [] a := hA.sub (.nil)
 refine Ends.end0 Tryd.func28 Tryd.results28 hA ?_
 replace hM := hM.front (k := 4) rfl
 replace hM := hM.front (k := 4) rfl
 replace hM := hM.front (k := 4) rfl
 replace hM := hM.front (k := 4) rfl
 replace hM : Mem _ _ [pt p #[.pointer (some ⟨q, 0, none⟩), .int .i64 wr, .bool false, .int .i64 sl, .int .i64 3, .int .i64 (l.getD bs.toNat 0), .int .i64 nx] 76, pt q #[.pointer (some ⟨m, 0, none⟩), .int .i64 bs, .slice (some ⟨nb, 0, none⟩) ns ns, .slice (some ⟨ob, 0, none⟩) ws ws] 73, pt ob ((vals os)) 22, own 3 1 (.slice av Y.length cap) Y.length (Y.map (Value.int .i64)), memO m c ((l.set bs.toNat (l.getD bs.toNat 0))) (s + 1) ⟨1, bs, l.getD bs.toNat 0, l.getD bs.toNat 0, true⟩] _ := hM
 rw [set_getD l bs.toNat (by omega)] at hM
 exact ⟨_, rfl, hM.firstN 5⟩
set_option maxRecDepth 100000 in
set_option maxHeartbeats 400000 in
theorem Spf_none (p q m nb ns ob ws : Nat) (bs wr : Int) (os : List Value) (av : Option Addr) (Y : List Int) (cap : Nat) (hwr : 0 ≤ wr ∧ wr < ws) (hlen : os.length = ws) (hos : os[wr.toNat]? = some (.slice av Y.length cap)) (hY2 : Y.length ≤ 2) (c : Nat) (l : List Int) (s : Int) (o : CellOp) (hmc : m ≠ c) (hl : 0 ≤ bs ∧ bs + 1 ≤ l.length ∧ l.length ≤ 1000000) (hs : 0 ≤ s ∧ s < 9223372036854775806) (sl tp nx : Int) (htp : 0 ≤ l.getD bs.toNat 0 ∧ l.getD bs.toNat 0 < 4611686018427387904) (hY : Y.length = 0) (hat : l.getD bs.toNat 0 % 4294967296 - 1 < 0) (w : World) (hM : Mem w (feet [pt p #[.pointer (some ⟨q, 0, none⟩), .int .i64 wr, .bool false, .int .i64 sl, .int .i64 0, .int .i64 tp, .int .i64 nx] 76, pt q #[.pointer (some ⟨m, 0, none⟩), .int .i64 bs, .slice (some ⟨nb, 0, none⟩) ns ns, .slice (some ⟨ob, 0, none⟩) ws ws] 73, pt ob ((vals os)) 22, own 3 1 (.slice av Y.length cap) Y.length (Y.map (Value.int .i64)), memO m c l s o]) [pt p #[.pointer (some ⟨q, 0, none⟩), .int .i64 wr, .bool false, .int .i64 sl, .int .i64 0, .int .i64 tp, .int .i64 nx] 76, pt q #[.pointer (some ⟨m, 0, none⟩), .int .i64 bs, .slice (some ⟨nb, 0, none⟩) ns ns, .slice (some ⟨ob, 0, none⟩) ws ws] 73, pt ob ((vals os)) 22, own 3 1 (.slice av Y.length cap) Y.length (Y.map (Value.int .i64)), memO m c l s o] w) :
  Calls Tryd.prog 18 #[.pointer (some ⟨p, 0, none⟩)] w fun e w' => ∃ op, e = .returned (.bool true) ∧ Mem w (feet [pt p #[.pointer (some ⟨q, 0, none⟩), .int .i64 wr, .bool false, .int .i64 sl, .int .i64 0, .int .i64 tp, .int .i64 nx] 76, pt q #[.pointer (some ⟨m, 0, none⟩), .int .i64 bs, .slice (some ⟨nb, 0, none⟩) ns ns, .slice (some ⟨ob, 0, none⟩) ws ws] 73, pt ob ((vals os)) 22, own 3 1 (.slice av Y.length cap) Y.length (Y.map (Value.int .i64)), memO m c l s o]) [pt p #[.pointer (some ⟨q, 0, none⟩), .int .i64 wr, .bool false, .int .i64 sl, .int .i64 3, .int .i64 (l.getD bs.toNat 0), .int .i64 nx] 76, pt q #[.pointer (some ⟨m, 0, none⟩), .int .i64 bs, .slice (some ⟨nb, 0, none⟩) ns ns, .slice (some ⟨ob, 0, none⟩) ws ws] 73, pt ob ((vals os)) 22, own 3 1 (.slice av Y.length cap) Y.length (Y.map (Value.int .i64)), memO m c l (s + 1) op] w' := by
 refine Calls.of_ends (vs := [.pointer (some ⟨p, 0, none⟩)]) Tryd.func18 rfl Tryd.ntmps18 rfl ?_
 intro a hA
 replace hA : St 26 [(0, _)] a := hA
 refine Ends.seq (Ends.region ?_)
 refine S.val hA (R.assign rfl) rfl ?_; clear hA a; intro a hA
 refine S.done ?_
 refine Ends.seq (Ends.seq (Ends.region ?_))
 refine S.val hA (R.move rfl) rfl ?_; clear hA a; intro a hA
 refine S.val hA (R.eqlNil Tryd.underlying49 rfl rfl) rfl ?_; clear hA a; intro a hA
 refine S.done ?_
 refine Ends.condF hA rfl ?_
 refine Ends.skip (Ends.seq (Ends.seq (Ends.region ?_)))
 refine S.val hA (R.move rfl) rfl ?_; clear hA a; intro a hA
 refine S.val hA (R.nilCheck rfl) rfl ?_; clear hA a; intro a hA
 refine S.val hA (R.fieldAddr (q := 4) fi76_4 rfl rfl rfl) rfl ?_; clear hA a; intro a hA
 refine S.val hA (R.load sz74 rfl (hM.cell (k := 0) rfl rfl)) rfl ?_; clear hA a; intro a hA
 refine S.done ?_
 replace hA : St 26 [(0, _), (8, _)] a := hA.sub ((.cons rfl (.cons rfl .nil)))
 refine Ends.block (Ends.seq (Ends.region ?_))
 refine S.val hA (R.tt (R.eql rfl rfl) (by first | decide | simp | omega)) rfl ?_; clear hA a; intro a hA
 refine S.val hA (R.assign rfl) rfl ?_; clear hA a; intro a hA
 refine S.done ?_
 refine Ends.condT hA rfl ?_
 refine Ends.region ?_
 refine S.val hA (R.move rfl) rfl ?_; clear hA a; intro a hA
 refine S.call hA (R.callF Tryd.func28 rfl rfl rfl) rfl (pf_none p q m nb ns ob ws bs wr os av Y cap hwr hlen hos hY2 c l s o hmc hl hs sl tp nx htp hY hat _ (hM.hereN 5)) ?_; clear hA a
 rintro e w1 ⟨op, rfl, hn⟩
 replace hM : Mem _ _ [pt p #[.pointer (some ⟨q, 0, none⟩), .int .i64 wr, .bool false, .int .i64 sl, .int .i64 3, .int .i64 (l.getD bs.toNat 0), .int .i64 nx] 76, pt q #[.pointer (some ⟨m, 0, none⟩), .int .i64 bs, .slice (some ⟨nb, 0, none⟩) ns ns, .slice (some ⟨ob, 0, none⟩) ws ws] 73, pt ob ((vals os)) 22, own 3 1 (.slice av Y.length cap) Y.length (Y.map (Value.int .i64)), memO m c l (s + 1) op] _ := hM.callL 5 hn; clear hn
 refine ⟨.tuple #[], rfl, fun a hA => ?_⟩
 refine S.done ?_
 replace hA : St 26 [(0, _)] a := hA.sub ((.cons rfl .nil))
 refine Ends.inBlock (Ends.seq (Ends.region ?_))
 refine S.val hA (R.move rfl) rfl ?_; clear hA a; intro a hA
 refine S.val hA (R.nilCheck rfl) rfl ?_; clear hA a; intro a hA
 refine S.val hA (R.fieldAddr (q := 4) fi76_4 rfl rfl rfl) rfl ?_; clear hA a; intro a hA
 refine S.val hA (R.load sz74 rfl (hM.cell (k := 0) rfl rfl)) rfl ?_; clear hA a; intro a hA
 refine S.val hA (R.tt (R.eql rfl rfl) (by first | decide | simp | omega)) rfl ?_; clear hA a; intro a hA
 refine S.val hA (R.assign rfl) rfl ?_; clear hA a; intro a hA
 refine S.done ?_
 replace hA : St 26 [(2, _)] a := hA.sub ((.cons rfl .nil))
 refine Ends.ret1 Tryd.func18 Tryd.results18 hA rfl ?_
 exact ⟨_, rfl, hM.firstN 5⟩
set_option maxRecDepth 100000 in
set_option maxHeartbeats 400000 in
theorem pf_some (p q m nb ns ob ws : Nat) (bs wr : Int) (os : List Value) (av : Option Addr) (Y : List Int) (cap : Nat) (hwr : 0 ≤ wr ∧ wr < ws) (hlen : os.length = ws) (hos : os[wr.toNat]? = some (.slice av Y.length cap)) (hY2 : Y.length ≤ 2) (c : Nat) (l : List Int) (s : Int) (o : CellOp) (hmc : m ≠ c) (hl : 0 ≤ bs ∧ bs + 1 ≤ l.length ∧ l.length ≤ 1000000) (hs : 0 ≤ s ∧ s < 9223372036854775806) (sl tp nx : Int) (htp : 0 ≤ l.getD bs.toNat 0 ∧ l.getD bs.toNat 0 < 4611686018427387904) (hY : Y.length = 0) (hat : 0 ≤ l.getD bs.toNat 0 % 4294967296 - 1) (w : World) (hM : Mem w (feet [pt p #[.pointer (some ⟨q, 0, none⟩), .int .i64 wr, .bool false, .int .i64 sl, .int .i64 0, .int .i64 tp, .int .i64 nx] 76, pt q #[.pointer (some ⟨m, 0, none⟩), .int .i64 bs, .slice (some ⟨nb, 0, none⟩) ns ns, .slice (some ⟨ob, 0, none⟩) ws ws] 73, pt ob ((vals os)) 22, own 3 1 (.slice av Y.length cap) Y.length (Y.map (Value.int .i64)), memO m c l s o]) [pt p #[.pointer (some ⟨q, 0, none⟩), .int .i64 wr, .bool false, .int .i64 sl, .int .i64 0, .int .i64 tp, .int .i64 nx] 76, pt q #[.pointer (some ⟨m, 0, none⟩), .int .i64 bs, .slice (some ⟨nb, 0, none⟩) ns ns, .slice (some ⟨ob, 0, none⟩) ws ws] 73, pt ob ((vals os)) 22, own 3 1 (.slice av Y.length cap) Y.length (Y.map (Value.int .i64)), memO m c l s o] w) :
  Calls Tryd.prog 28 #[.pointer (some ⟨p, 0, none⟩)] w fun e w' => ∃ op, e = .returned (.tuple #[]) ∧ Mem w (feet [pt p #[.pointer (some ⟨q, 0, none⟩), .int .i64 wr, .bool false, .int .i64 sl, .int .i64 0, .int .i64 tp, .int .i64 nx] 76, pt q #[.pointer (some ⟨m, 0, none⟩), .int .i64 bs, .slice (some ⟨nb, 0, none⟩) ns ns, .slice (some ⟨ob, 0, none⟩) ws ws] 73, pt ob ((vals os)) 22, own 3 1 (.slice av Y.length cap) Y.length (Y.map (Value.int .i64)), memO m c l s o]) [pt p #[.pointer (some ⟨q, 0, none⟩), .int .i64 wr, .bool false, .int .i64 sl, .int .i64 1, .int .i64 (l.getD bs.toNat 0), .int .i64 nx] 76, pt q #[.pointer (some ⟨m, 0, none⟩), .int .i64 bs, .slice (some ⟨nb, 0, none⟩) ns ns, .slice (some ⟨ob, 0, none⟩) ws ws] 73, pt ob ((vals os)) 22, own 3 1 (.slice av Y.length cap) Y.length (Y.map (Value.int .i64)), memO m c l (s + 1) op] w' := by
 refine Calls.of_ends (vs := [.pointer (some ⟨p, 0, none⟩)]) Tryd.func28 rfl Tryd.ntmps28 rfl ?_
 intro a hA
 replace hA : St 53 [(0, _)] a := hA
 refine Ends.seq (Ends.seq (Ends.region ?_))
 refine S.val hA (R.move rfl) rfl ?_; clear hA a; intro a hA
 refine S.call hA (R.callF Tryd.func37 rfl rfl rfl) rfl (ppriv_none p q m nb ns ob ws bs wr os av Y cap hwr hlen hos hY2 sl 0 tp nx hY _ (hM.hereN 4)) ?_; clear hA a
 rintro e w1 ⟨rfl, hn⟩
 replace hM : Mem _ _ [pt p #[.pointer (some ⟨q, 0, none⟩), .int .i64 wr, .bool false, .int .i64 sl, .int .i64 0, .int .i64 tp, .int .i64 nx] 76, pt q #[.pointer (some ⟨m, 0, none⟩), .int .i64 bs, .slice (some ⟨nb, 0, none⟩) ns ns, .slice (some ⟨ob, 0, none⟩) ws ws] 73, pt ob ((vals os)) 22, own 3 1 (.slice av Y.length cap) Y.length (Y.map (Value.int .i64)), memO m c l s o] _ := hM.callL 4 hn; clear hn
 refine ⟨.bool false, rfl, fun a hA => ?_⟩
 refine S.done ?_
 refine Ends.condF hA rfl ?_
 refine Ends.skip (Ends.seq ?_)
 refine Ends.drawn (Mem w (feet [pt p #[.pointer (some ⟨q, 0, none⟩), .int .i64 wr, .bool false, .int .i64 sl, .int .i64 0, .int .i64 tp, .int .i64 nx] 76, pt q #[.pointer (some ⟨m, 0, none⟩), .int .i64 bs, .slice (some ⟨nb, 0, none⟩) ns ns, .slice (some ⟨ob, 0, none⟩) ws ws] 73, pt ob ((vals os)) 22, own 3 1 (.slice av Y.length cap) Y.length (Y.map (Value.int .i64)), memO m c l s o]) [pt p #[.pointer (some ⟨q, 0, none⟩), .int .i64 wr, .bool false, .int .i64 sl, .int .i64 0, .int .i64 tp, .int .i64 nx] 76, pt q #[.pointer (some ⟨m, 0, none⟩), .int .i64 bs, .slice (some ⟨nb, 0, none⟩) ns ns, .slice (some ⟨ob, 0, none⟩) ws ws] 73, pt ob ((vals os)) 22, own 3 1 (.slice av Y.length cap) Y.length (Y.map (Value.int .i64))]) (.cons (0, true) (.cons (1, true) (.cons (2, true) (.cons (3, true) (.cons (4, true) (.cons (5, true) (.cons (6, true) (.cons (7, true) (.cons (8, true) (.cons (9, true) (.cons (10, true) (.cons (11, true) (.cons (12, true) (.cons (13, true) (.cons (14, true) (.cons (15, false) (.cons (16, true) (.cons (17, true) (.cons (18, true) (.cons (19, true) (.cons (20, true) (.cons (21, false) .nil)))))))))))))))))))))) 21 mixed (by kernel_rfl) (by kernel_rfl) (by kernel_rfl) (hM.drop 4).drew ?_
 replace hM := hM.drew
 refine D.valF hA rfl (fun _ => R.move rfl) rfl ?_; clear hA a; intro a hA
 refine D.valF hA rfl (fun _ => R.move rfl) rfl ?_; clear hA a; intro a hA
 refine D.valF hA rfl (fun _ => R.nilCheck rfl) rfl ?_; clear hA a; intro a hA
 refine D.valF hA rfl (fun _ => R.fieldAddr (q := 0) fi76_0 rfl rfl rfl) rfl ?_; clear hA a; intro a hA
 refine D.val hA rfl (by kernel_rfl) (fun _ hM => R.load sz46 rfl (hM.cell (k := 0) rfl rfl)) rfl ?_; clear hA a; intro a hA
 refine D.valF hA rfl (fun _ => R.nilCheck rfl) rfl ?_; clear hA a; intro a hA
 refine D.valF hA rfl (fun _ => R.fieldAddr (q := 0) fi73_0 rfl rfl rfl) rfl ?_; clear hA a; intro a hA
 refine D.val hA rfl (by kernel_rfl) (fun _ hM => R.load sz42 rfl (hM.cell (k := 1) rfl rfl)) rfl ?_; clear hA a; intro a hA
 refine D.valF hA rfl (fun _ => R.move rfl) rfl ?_; clear hA a; intro a hA
 refine D.valF hA rfl (fun _ => R.nilCheck rfl) rfl ?_; clear hA a; intro a hA
 refine D.valF hA rfl (fun _ => R.fieldAddr (q := 0) fi76_0 rfl rfl rfl) rfl ?_; clear hA a; intro a hA
 refine D.val hA rfl (by kernel_rfl) (fun _ hM => R.load sz46 rfl (hM.cell (k := 0) rfl rfl)) rfl ?_; clear hA a; intro a hA
 refine D.valF hA rfl (fun _ => R.nilCheck rfl) rfl ?_; clear hA a; intro a hA
 refine D.valF hA rfl (fun _ => R.fieldAddr (q := 1) fi73_1 rfl rfl rfl) rfl ?_; clear hA a; intro a hA
 refine D.val hA rfl (by kernel_rfl) (fun _ hM => R.load sz3 rfl (hM.cell (k := 1) rfl rfl)) rfl ?_; clear hA a; intro a hA
 refine D.call hA rfl (R.callF Tryd.func38 rfl rfl rfl) rfl (get_ok m c l s o hmc bs (by omega) (by first | omega | (simp; omega)) (by omega) _ (hM.mem (k := 4) rfl)) ?_; clear hA a
 rintro e w2 ⟨rfl, hn⟩
 replace hM : Mem _ _ [memO m c ((l.set bs.toNat (l.getD bs.toNat 0))) (s + 1) ⟨1, bs, l.getD bs.toNat 0, l.getD bs.toNat 0, true⟩, pt p #[.pointer (some ⟨q, 0, none⟩), .int .i64 wr, .bool false, .int .i64 sl, .int .i64 0, .int .i64 tp, .int .i64 nx] 76, pt q #[.pointer (some ⟨m, 0, none⟩), .int .i64 bs, .slice (some ⟨nb, 0, none⟩) ns ns, .slice (some ⟨ob, 0, none⟩) ws ws] 73, pt ob ((vals os)) 22, own 3 1 (.slice av Y.length cap) Y.length (Y.map (Value.int .i64))] _ := hM.callW (k := 4) rfl hn (fun _ h => h); clear hn
 refine ⟨.tuple #[.int .i64 (l.getD bs.toNat 0), .int .i64 0], rfl, (hM.drop 0), fun a hA => ?_⟩
 refine D.valF hA rfl (fun _ => R.move rfl) rfl ?_; clear hA a; intro a hA
 refine D.valF hA rfl (fun _ => R.extract (v := .int .i64 (l.getD bs.toNat 0)) rfl rfl) rfl ?_; clear hA a; intro a hA
 refine D.valF hA rfl (fun _ => R.extract (v := .int .i64 0) rfl rfl) rfl ?_; clear hA a; intro a hA
 refine D.valF hA rfl (fun _ => R.nilCheck rfl) rfl ?_; clear hA a; intro a hA
 refine D.valF hA rfl (fun _ => R.fieldAddr (q := 5) fi76_5 rfl rfl rfl) rfl ?_; clear hA a; intro a hA
 refine D.store (k := 1) hA hM rfl sz3 rfl rfl rfl rfl rfl ?_; clear hM
 intro w3 hM; refine ⟨fun _ hne => absurd rfl hne, ?_⟩
 replace hM : Mem _ _ [memO m c ((l.set bs.toNat (l.getD bs.toNat 0))) (s + 1) ⟨1, bs, l.getD bs.toNat 0, l.getD bs.toNat 0, true⟩, pt p #[.pointer (some ⟨q, 0, none⟩), .int .i64 wr, .bool false, .int .i64 sl, .int .i64 0, .int .i64 (l.getD bs.toNat 0), .int .i64 nx] 76, pt q #[.pointer (some ⟨m, 0, none⟩), .int .i64 bs, .slice (some ⟨nb, 0, none⟩) ns ns, .slice (some ⟨ob, 0, none⟩) ws ws] 73, pt ob ((vals os)) 22, own 3 1 (.slice av Y.length cap) Y.length (Y.map (Value.int .i64))] _ := hM
 refine D.done ?_
 replace hA : St 53 [(0, _)] a := hA.sub ((.cons rfl .nil))
 refine Ends.seq (Ends.region ?_)
 refine S.val hA (R.move rfl) rfl ?_; clear hA a; intro a hA
 refine S.val hA (R.nilCheck rfl) rfl ?_; clear hA a; intro a hA
 refine S.val hA (R.fieldAddr (q := 4) fi76_4 rfl rfl rfl) rfl ?_; clear hA a; intro a hA
 refine S.store (k := 1) hA hM sz74 rfl rfl rfl rfl rfl ?_; clear hM
 intro w4 hM
 replace hM : Mem _ _ [memO m c ((l.set bs.toNat (l.getD bs.toNat 0))) (s + 1) ⟨1, bs, l.getD bs.toNat 0, l.getD bs.toNat 0, true⟩, pt p #[.pointer (some ⟨q, 0, none⟩), .int .i64 wr, .bool false, .int .i64 sl, .int .i64 1, .int .i64 (l.getD bs.toNat 0), .int .i64 nx] 76, pt q #[.pointer (some ⟨m, 0, none⟩), .int .i64 bs, .slice (some ⟨nb, 0, none⟩) ns ns, .slice (some ⟨ob, 0, none⟩) ws ws] 73, pt ob ((vals os)) 22, own 3 1 (.slice av Y.length cap) Y.length (Y.map (Value.int .i64))] _ := hM
 refine S.done ?_
 refine Ends.seq (Ends.region ?_)
 refine S.val hA (R.move rfl) rfl ?_; clear hA a; intro a hA
 refine S.val hA (R.nilCheck rfl) rfl ?_; clear hA a; intro a hA
 refine S.val hA (R.fieldAddr (q := 5) fi76_5 rfl rfl rfl) rfl ?_; clear hA a; intro a hA
 refine S.val hA (R.load sz3 rfl (hM.cell (k := 1) rfl rfl)) rfl ?_; clear hA a; intro a hA
 refine S.call hA (R.callF Tryd.func39 rfl rfl rfl) rfl (unpack_any (l.getD bs.toNat 0) (by omega) (by omega) _) ?_; clear hA a
 rintro e w5 ⟨rfl, rfl⟩
 refine ⟨.tuple #[.int .i64 ((l.getD bs.toNat 0) / 4294967296 % 1073741824), .int .i64 ((l.getD bs.toNat 0) % 4294967296 - 1)], rfl, fun a hA => ?_⟩
 refine S.val hA (R.move rfl) rfl ?_; clear hA a; intro a hA
 refine S.val hA (R.extract (v := .int .i64 ((l.getD bs.toNat 0) / 4294967296 % 1073741824)) rfl rfl) rfl ?_; clear hA a; intro a hA
 refine S.val hA (R.extract (v := .int .i64 ((l.getD bs.toNat 0) % 4294967296 - 1)) rfl rfl) rfl ?_; clear hA a; intro a hA
 refine S.val hA (R.assign rfl) rfl ?_; clear hA a; intro a hA
 refine S.val hA (R.assign rfl) rfl ?_; clear hA a; intro a hA
 refine S.done ?_
 replace hA : St 53 [(0, _), (3, _)] a := hA.sub ((.cons rfl (.cons rfl .nil)))
 refine Ends.seq (Ends.region ?_)
 refine S.val hA (R.move rfl) rfl ?_; clear hA a; intro a hA
 refine S.val hA (R.ff (R.lss rfl rfl) (by omega)) rfl ?_; clear hA a; intro a hA
 refine S.val hA (R.move rfl) rfl ?_; clear hA a; intro a hA
 refine S.no (dj := 43) hA (by kernel_rfl) rfl rfl rfl ?_; clear hA a; intro a hA
 refine S.no (dj := 43) hA (by kernel_rfl) rfl rfl rfl ?_; clear hA a; intro a hA
 refine S.no (dj := 43) hA (by kernel_rfl) rfl rfl rfl ?_; clear hA a; intro a hA
 refine S.no (dj := 43) hA (by kernel_rfl) rfl rfl rfl ?_; clear hA a; intro a hA
 refine S.no (dj := 43) hA (by kernel_rfl) rfl rfl rfl ?_; clear hA a; intro a hA
 refine S.val hA (R.pickF rfl rfl) rfl ?_; clear hA a; intro a hA
 refine S.done ?_
 replace hA : St 53 [(0, _), (49, _)] a := hA.sub ((.cons rfl (.cons rfl .nil)))
 refine Ends.condF hA rfl ?_
 refine Ends.skip ?_
 refine Ends.end0 Tryd.func28 Tryd.results28 hA ?_
 replace hM := hM.front (k := 4) rfl
 replace hM := hM.front (k := 4) rfl
 replace hM := hM.front (k := 4) rfl
 replace hM := hM.front (k := 4) rfl
 replace hM : Mem _ _ [pt p #[.pointer (some ⟨q, 0, none⟩), .int .i64 wr, .bool false, .int .i64 sl, .int .i64 1, .int .i64 (l.getD bs.toNat 0), .int .i64 nx] 76, pt q #[.pointer (some ⟨m, 0, none⟩), .int .i64 bs, .slice (some ⟨nb, 0, none⟩) ns ns, .slice (some ⟨ob, 0, none⟩) ws ws] 73, pt ob ((vals os)) 22, own 3 1 (.slice av Y.length cap) Y.length (Y.map (Value.int .i64)), memO m c ((l.set bs.toNat (l.getD bs.toNat 0))) (s + 1) ⟨1, bs, l.getD bs.toNat 0, l.getD bs.toNat 0, true⟩] _ := hM
 rw [set_getD l bs.toNat (by omega)] at hM
 exact ⟨_, rfl, hM.firstN 5⟩
set_option maxRecDepth 100000 in
set_option maxHeartbeats 400000 in
theorem Spf_some (p q m nb ns ob ws : Nat) (bs wr : Int) (os : List Value) (av : Option Addr) (Y : List Int) (cap : Nat) (hwr : 0 ≤ wr ∧ wr < ws) (hlen : os.length = ws) (hos : os[wr.toNat]? = some (.slice av Y.length cap)) (hY2 : Y.length ≤ 2) (c : Nat) (l : List Int) (s : Int) (o : CellOp) (hmc : m ≠ c) (hl : 0 ≤ bs ∧ bs + 1 ≤ l.length ∧ l.length ≤ 1000000) (hs : 0 ≤ s ∧ s < 9223372036854775806) (sl tp nx : Int) (htp : 0 ≤ l.getD bs.toNat 0 ∧ l.getD bs.toNat 0 < 4611686018427387904) (hY : Y.length = 0) (hat : 0 ≤ l.getD bs.toNat 0 % 4294967296 - 1) (w : World) (hM : Mem w (feet [pt p #[.pointer (some ⟨q, 0, none⟩), .int .i64 wr, .bool false, .int .i64 sl, .int .i64 0, .int .i64 tp, .int .i64 nx] 76, pt q #[.pointer (some ⟨m, 0, none⟩), .int .i64 bs, .slice (some ⟨nb, 0, none⟩) ns ns, .slice (some ⟨ob, 0, none⟩) ws ws] 73, pt ob ((vals os)) 22, own 3 1 (.slice av Y.length cap) Y.length (Y.map (Value.int .i64)), memO m c l s o]) [pt p #[.pointer (some ⟨q, 0, none⟩), .int .i64 wr, .bool false, .int .i64 sl, .int .i64 0, .int .i64 tp, .int .i64 nx] 76, pt q #[.pointer (some ⟨m, 0, none⟩), .int .i64 bs, .slice (some ⟨nb, 0, none⟩) ns ns, .slice (some ⟨ob, 0, none⟩) ws ws] 73, pt ob ((vals os)) 22, own 3 1 (.slice av Y.length cap) Y.length (Y.map (Value.int .i64)), memO m c l s o] w) :
  Calls Tryd.prog 18 #[.pointer (some ⟨p, 0, none⟩)] w fun e w' => ∃ op, e = .returned (.bool false) ∧ Mem w (feet [pt p #[.pointer (some ⟨q, 0, none⟩), .int .i64 wr, .bool false, .int .i64 sl, .int .i64 0, .int .i64 tp, .int .i64 nx] 76, pt q #[.pointer (some ⟨m, 0, none⟩), .int .i64 bs, .slice (some ⟨nb, 0, none⟩) ns ns, .slice (some ⟨ob, 0, none⟩) ws ws] 73, pt ob ((vals os)) 22, own 3 1 (.slice av Y.length cap) Y.length (Y.map (Value.int .i64)), memO m c l s o]) [pt p #[.pointer (some ⟨q, 0, none⟩), .int .i64 wr, .bool false, .int .i64 sl, .int .i64 1, .int .i64 (l.getD bs.toNat 0), .int .i64 nx] 76, pt q #[.pointer (some ⟨m, 0, none⟩), .int .i64 bs, .slice (some ⟨nb, 0, none⟩) ns ns, .slice (some ⟨ob, 0, none⟩) ws ws] 73, pt ob ((vals os)) 22, own 3 1 (.slice av Y.length cap) Y.length (Y.map (Value.int .i64)), memO m c l (s + 1) op] w' := by
 refine Calls.of_ends (vs := [.pointer (some ⟨p, 0, none⟩)]) Tryd.func18 rfl Tryd.ntmps18 rfl ?_
 intro a hA
 replace hA : St 26 [(0, _)] a := hA
 refine Ends.seq (Ends.region ?_)
 refine S.val hA (R.assign rfl) rfl ?_; clear hA a; intro a hA
 refine S.done ?_
 refine Ends.seq (Ends.seq (Ends.region ?_))
 refine S.val hA (R.move rfl) rfl ?_; clear hA a; intro a hA
 refine S.val hA (R.eqlNil Tryd.underlying49 rfl rfl) rfl ?_; clear hA a; intro a hA
 refine S.done ?_
 refine Ends.condF hA rfl ?_
 refine Ends.skip (Ends.seq (Ends.seq (Ends.region ?_)))
 refine S.val hA (R.move rfl) rfl ?_; clear hA a; intro a hA
 refine S.val hA (R.nilCheck rfl) rfl ?_; clear hA a; intro a hA
 refine S.val hA (R.fieldAddr (q := 4) fi76_4 rfl rfl rfl) rfl ?_; clear hA a; intro a hA
 refine S.val hA (R.load sz74 rfl (hM.cell (k := 0) rfl rfl)) rfl ?_; clear hA a; intro a hA
 refine S.done ?_
 replace hA : St 26 [(0, _), (8, _)] a := hA.sub ((.cons rfl (.cons rfl .nil)))
 refine Ends.block (Ends.seq (Ends.region ?_))
 refine S.val hA (R.tt (R.eql rfl rfl) (by first | decide | simp | omega)) rfl ?_; clear hA a; intro a hA
 refine S.val hA (R.assign rfl) rfl ?_; clear hA a; intro a hA
 refine S.done ?_
 refine Ends.condT hA rfl ?_
 refine Ends.region ?_
 refine S.val hA (R.move rfl) rfl ?_; clear hA a; intro a hA
 refine S.call hA (R.callF Tryd.func28 rfl rfl rfl) rfl (pf_some p q m nb ns ob ws bs wr os av Y cap hwr hlen hos hY2 c l s o hmc hl hs sl tp nx htp hY hat _ (hM.hereN 5)) ?_; clear hA a
 rintro e w1 ⟨op, rfl, hn⟩
 replace hM : Mem _ _ [pt p #[.pointer (some ⟨q, 0, none⟩), .int .i64 wr, .bool false, .int .i64 sl, .int .i64 1, .int .i64 (l.getD bs.toNat 0), .int .i64 nx] 76, pt q #[.pointer (some ⟨m, 0, none⟩), .int .i64 bs, .slice (some ⟨nb, 0, none⟩) ns ns, .slice (some ⟨ob, 0, none⟩) ws ws] 73, pt ob ((vals os)) 22, own 3 1 (.slice av Y.length cap) Y.length (Y.map (Value.int .i64)), memO m c l (s + 1) op] _ := hM.callL 5 hn; clear hn
 refine ⟨.tuple #[], rfl, fun a hA => ?_⟩
 refine S.done ?_
 replace hA : St 26 [(0, _)] a := hA.sub ((.cons rfl .nil))
 refine Ends.inBlock (Ends.seq (Ends.region ?_))
 refine S.val hA (R.move rfl) rfl ?_; clear hA a; intro a hA
 refine S.val hA (R.nilCheck rfl) rfl ?_; clear hA a; intro a hA
 refine S.val hA (R.fieldAddr (q := 4) fi76_4 rfl rfl rfl) rfl ?_; clear hA a; intro a hA
 refine S.val hA (R.load sz74 rfl (hM.cell (k := 0) rfl rfl)) rfl ?_; clear hA a; intro a hA
 refine S.val hA (R.ff (R.eql rfl rfl) (by first | decide | simp | omega)) rfl ?_; clear hA a; intro a hA
 refine S.val hA (R.assign rfl) rfl ?_; clear hA a; intro a hA
 refine S.done ?_
 replace hA : St 26 [(2, _)] a := hA.sub ((.cons rfl .nil))
 refine Ends.ret1 Tryd.func18 Tryd.results18 hA rfl ?_
 exact ⟨_, rfl, hM.firstN 5⟩
set_option maxRecDepth 100000 in
set_option maxHeartbeats 400000 in
theorem pf_full (p q m nb ns ob ws : Nat) (bs wr : Int) (os : List Value) (av : Option Addr) (Y : List Int) (cap : Nat) (hwr : 0 ≤ wr ∧ wr < ws) (hlen : os.length = ws) (hos : os[wr.toNat]? = some (.slice av Y.length cap)) (hY2 : Y.length ≤ 2) (c : Nat) (l : List Int) (s : Int) (o : CellOp) (hmc : m ≠ c) (hl : 0 ≤ bs ∧ bs + 1 ≤ l.length ∧ l.length ≤ 1000000) (hs : 0 ≤ s ∧ s < 9223372036854775806) (sl tp nx : Int) (htp : 0 ≤ l.getD bs.toNat 0 ∧ l.getD bs.toNat 0 < 4611686018427387904) (hY : 2 ≤ Y.length) (w : World) (hM : Mem w (feet [pt p #[.pointer (some ⟨q, 0, none⟩), .int .i64 wr, .bool true, .int .i64 sl, .int .i64 0, .int .i64 tp, .int .i64 nx] 76, pt q #[.pointer (some ⟨m, 0, none⟩), .int .i64 bs, .slice (some ⟨nb, 0, none⟩) ns ns, .slice (some ⟨ob, 0, none⟩) ws ws] 73, pt ob ((vals os)) 22, own 3 1 (.slice av Y.length cap) Y.length (Y.map (Value.int .i64)), memO m c l s o]) [pt p #[.pointer (some ⟨q, 0, none⟩), .int .i64 wr, .bool true, .int .i64 sl, .int .i64 0, .int .i64 tp, .int .i64 nx] 76, pt q #[.pointer (some ⟨m, 0, none⟩), .int .i64 bs, .slice (some ⟨nb, 0, none⟩) ns ns, .slice (some ⟨ob, 0, none⟩) ws ws] 73, pt ob ((vals os)) 22, own 3 1 (.slice av Y.length cap) Y.length (Y.map (Value.int .i64)), memO m c l s o] w) :
  Calls Tryd.prog 28 #[.pointer (some ⟨p, 0, none⟩)] w fun e w' => ∃ op, e = .returned (.tuple #[]) ∧ Mem w (feet [pt p #[.pointer (some ⟨q, 0, none⟩), .int .i64 wr, .bool true, .int .i64 sl, .int .i64 0, .int .i64 tp, .int .i64 nx] 76, pt q #[.pointer (some ⟨m, 0, none⟩), .int .i64 bs, .slice (some ⟨nb, 0, none⟩) ns ns, .slice (some ⟨ob, 0, none⟩) ws ws] 73, pt ob ((vals os)) 22, own 3 1 (.slice av Y.length cap) Y.length (Y.map (Value.int .i64)), memO m c l s o]) [pt p #[.pointer (some ⟨q, 0, none⟩), .int .i64 wr, .bool true, .int .i64 sl, .int .i64 1, .int .i64 (l.getD bs.toNat 0), .int .i64 nx] 76, pt q #[.pointer (some ⟨m, 0, none⟩), .int .i64 bs, .slice (some ⟨nb, 0, none⟩) ns ns, .slice (some ⟨ob, 0, none⟩) ws ws] 73, pt ob ((vals os)) 22, own 3 1 (.slice av Y.length cap) Y.length (Y.map (Value.int .i64)), memO m c l (s + 1) op] w' := by
 refine Calls.of_ends (vs := [.pointer (some ⟨p, 0, none⟩)]) Tryd.func28 rfl Tryd.ntmps28 rfl ?_
 intro a hA
 replace hA : St 53 [(0, _)] a := hA
 refine Ends.seq (Ends.seq (Ends.region ?_))
 refine S.val hA (R.move rfl) rfl ?_; clear hA a; intro a hA
 refine S.call hA (R.callF Tryd.func37 rfl rfl rfl) rfl (ppriv_full p q m nb ns ob ws bs wr os av Y cap hwr hlen hos hY2 sl 0 tp nx hY _ (hM.hereN 4)) ?_; clear hA a
 rintro e w1 ⟨rfl, hn⟩
 replace hM : Mem _ _ [pt p #[.pointer (some ⟨q, 0, none⟩), .int .i64 wr, .bool true, .int .i64 sl, .int .i64 0, .int .i64 tp, .int .i64 nx] 76, pt q #[.pointer (some ⟨m, 0, none⟩), .int .i64 bs, .slice (some ⟨nb, 0, none⟩) ns ns, .slice (some ⟨ob, 0, none⟩) ws ws] 73, pt ob ((vals os)) 22, own 3 1 (.slice av Y.length cap) Y.length (Y.map (Value.int .i64)), memO m c l s o] _ := hM.callL 4 hn; clear hn
 refine ⟨.bool false, rfl, fun a hA => ?_⟩
 refine S.done ?_
 refine Ends.condF hA rfl ?_
 refine Ends.skip (Ends.seq ?_)
 refine Ends.drawn (Mem w (feet [pt p #[.pointer (some ⟨q, 0, none⟩), .int .i64 wr, .bool true, .int .i64 sl, .int .i64 0, .int .i64 tp, .int .i64 nx] 76, pt q #[.pointer (some ⟨m, 0, none⟩), .int .i64 bs, .slice (some ⟨nb, 0, none⟩) ns ns, .slice (some ⟨ob, 0, none⟩) ws ws] 73, pt ob ((vals os)) 22, own 3 1 (.slice av Y.length cap) Y.length (Y.map (Value.int .i64)), memO m c l s o]) [pt p #[.pointer (some ⟨q, 0, none⟩), .int .i64 wr, .bool true, .int .i64 sl, .int .i64 0, .int .i64 tp, .int .i64 nx] 76, pt q #[.pointer (some ⟨m, 0, none⟩), .int .i64 bs, .slice (some ⟨nb, 0, none⟩) ns ns, .slice (some ⟨ob, 0, none⟩) ws ws] 73, pt ob ((vals os)) 22, own 3 1 (.slice av Y.length cap) Y.length (Y.map (Value.int .i64))]) (.cons (0, true) (.cons (1, true) (.cons (2, true) (.cons (3, true) (.cons (4, true) (.cons (5, true) (.cons (6, true) (.cons (7, true) (.cons (8, true) (.cons (9, true) (.cons (10, true) (.cons (11, true) (.cons (12, true) (.cons (13, true) (.cons (14, true) (.cons (15, false) (.cons (16, true) (.cons (17, true) (.cons (18, true) (.cons (19, true) (.cons (20, true) (.cons (21, false) .nil)))))))))))))))))))))) 21 mixed (by kernel_rfl) (by kernel_rfl) (by kernel_rfl) (hM.drop 4).drew ?_
 replace hM := hM.drew
 refine D.valF hA rfl (fun _ => R.move rfl) rfl ?_; clear hA a; intro a hA
 refine D.valF hA rfl (fun _ => R.move rfl) rfl ?_; clear hA a; intro a hA
 refine D.valF hA rfl (fun _ => R.nilCheck rfl) rfl ?_; clear hA a; intro a hA
 refine D.valF hA rfl (fun _ => R.fieldAddr (q := 0) fi76_0 rfl rfl rfl) rfl ?_; clear hA a; intro a hA
 refine D.val hA rfl (by kernel_rfl) (fun _ hM => R.load sz46 rfl (hM.cell (k := 0) rfl rfl)) rfl ?_; clear hA a; intro a hA
 refine D.valF hA rfl (fun _ => R.nilCheck rfl) rfl ?_; clear hA a; intro a hA
 refine D.valF hA rfl (fun _ => R.fieldAddr (q := 0) fi73_0 rfl rfl rfl) rfl ?_; clear hA a; intro a hA
 refine D.val hA rfl (by kernel_rfl) (fun _ hM => R.load sz42 rfl (hM.cell (k := 1) rfl rfl)) rfl ?_; clear hA a; intro a hA
 refine D.valF hA rfl (fun _ => R.move rfl) rfl ?_; clear hA a; intro a hA
 refine D.valF hA rfl (fun _ => R.nilCheck rfl) rfl ?_; clear hA a; intro a hA
 refine D.valF hA rfl (fun _ => R.fieldAddr (q := 0) fi76_0 rfl rfl rfl) rfl ?_; clear hA a; intro a hA
 refine D.val hA rfl (by kernel_rfl) (fun _ hM => R.load sz46 rfl (hM.cell (k := 0) rfl rfl)) rfl ?_; clear hA a; intro a hA
 refine D.valF hA rfl (fun _ => R.nilCheck rfl) rfl ?_; clear hA a; intro a hA
 refine D.valF hA rfl (fun _ => R.fieldAddr (q := 1) fi73_1 rfl rfl rfl) rfl ?_; clear hA a; intro a hA
 refine D.val hA rfl (by kernel_rfl) (fun _ hM => R.load sz3 rfl (hM.cell (k := 1) rfl rfl)) rfl ?_; clear hA a; intro a hA
 refine D.call hA rfl (R.callF Tryd.func38 rfl rfl rfl) rfl (get_ok m c l s o hmc bs (by omega) (by first | omega | (simp; omega)) (by omega) _ (hM.mem (k := 4) rfl)) ?_; clear hA a
 rintro e w2 ⟨rfl, hn⟩
 replace hM : Mem _ _ [memO m c ((l.set bs.toNat (l.getD bs.toNat 0))) (s + 1) ⟨1, bs, l.getD bs.toNat 0, l.getD bs.toNat 0, true⟩, pt p #[.pointer (some ⟨q, 0, none⟩), .int .i64 wr, .bool true, .int .i64 sl, .int .i64 0, .int .i64 tp, .int .i64 nx] 76, pt q #[.pointer (some ⟨m, 0, none⟩), .int .i64 bs, .slice (some ⟨nb, 0, none⟩) ns ns, .slice (some ⟨ob, 0, none⟩) ws ws] 73, pt ob ((vals os)) 22, own 3 1 (.slice av Y.length cap) Y.length (Y.map (Value.int .i64))] _ := hM.callW (k := 4) rfl hn (fun _ h => h); clear hn
 refine ⟨.tuple #[.int .i64 (l.getD bs.toNat 0), .int .i64 0], rfl, (hM.drop 0), fun a hA => ?_⟩
 refine D.valF hA rfl (fun _ => R.move rfl) rfl ?_; clear hA a; intro a hA
 refine D.valF hA rfl (fun _ => R.extract (v := .int .i64 (l.getD bs.toNat 0)) rfl rfl) rfl ?_; clear hA a; intro a hA
 refine D.valF hA rfl (fun _ => R.extract (v := .int .i64 0) rfl rfl) rfl ?_; clear hA a; intro a hA
 refine D.valF hA rfl (fun _ => R.nilCheck rfl) rfl ?_; clear hA a; intro a hA
 refine D.valF hA rfl (fun _ => R.fieldAddr (q := 5) fi76_5 rfl rfl rfl) rfl ?_; clear hA a; intro a hA
 refine D.store (k := 1) hA hM rfl sz3 rfl rfl rfl rfl rfl ?_; clear hM
 intro w3 hM; refine ⟨fun _ hne => absurd rfl hne, ?_⟩
 replace hM : Mem _ _ [memO m c ((l.set bs.toNat (l.getD bs.toNat 0))) (s + 1) ⟨1, bs, l.getD bs.toNat 0, l.getD bs.toNat 0, true⟩, pt p #[.pointer (some ⟨q, 0, none⟩), .int .i64 wr, .bool true, .int .i64 sl, .int .i64 0, .int .i64 (l.getD bs.toNat 0), .int .i64 nx] 76, pt q #[.pointer (some ⟨m, 0, none⟩), .int .i64 bs, .slice (some ⟨nb, 0, none⟩) ns ns, .slice (some ⟨ob, 0, none⟩) ws ws] 73, pt ob ((vals os)) 22, own 3 1 (.slice av Y.length cap) Y.length (Y.map (Value.int .i64))] _ := hM
 refine D.done ?_
 replace hA : St 53 [(0, _)] a := hA.sub ((.cons rfl .nil))
 refine Ends.seq (Ends.region ?_)
 refine S.val hA (R.move rfl) rfl ?_; clear hA a; intro a hA
 refine S.val hA (R.nilCheck rfl) rfl ?_; clear hA a; intro a hA
 refine S.val hA (R.fieldAddr (q := 4) fi76_4 rfl rfl rfl) rfl ?_; clear hA a; intro a hA
 refine S.store (k := 1) hA hM sz74 rfl rfl rfl rfl rfl ?_; clear hM
 intro w4 hM
 replace hM : Mem _ _ [memO m c ((l.set bs.toNat (l.getD bs.toNat 0))) (s + 1) ⟨1, bs, l.getD bs.toNat 0, l.getD bs.toNat 0, true⟩, pt p #[.pointer (some ⟨q, 0, none⟩), .int .i64 wr, .bool true, .int .i64 sl, .int .i64 1, .int .i64 (l.getD bs.toNat 0), .int .i64 nx] 76, pt q #[.pointer (some ⟨m, 0, none⟩), .int .i64 bs, .slice (some ⟨nb, 0, none⟩) ns ns, .slice (some ⟨ob, 0, none⟩) ws ws] 73, pt ob ((vals os)) 22, own 3 1 (.slice av Y.length cap) Y.length (Y.map (Value.int .i64))] _ := hM
 refine S.done ?_
 refine Ends.seq (Ends.region ?_)
 refine S.val hA (R.move rfl) rfl ?_; clear hA a; intro a hA
 refine S.val hA (R.nilCheck rfl) rfl ?_; clear hA a; intro a hA
 refine S.val hA (R.fieldAddr (q := 5) fi76_5 rfl rfl rfl) rfl ?_; clear hA a; intro a hA
 refine S.val hA (R.load sz3 rfl (hM.cell (k := 1) rfl rfl)) rfl ?_; clear hA a; intro a hA
 refine S.call hA (R.callF Tryd.func39 rfl rfl rfl) rfl (unpack_any (l.getD bs.toNat 0) (by omega) (by omega) _) ?_; clear hA a
 rintro e w5 ⟨rfl, rfl⟩
 refine ⟨.tuple #[.int .i64 ((l.getD bs.toNat 0) / 4294967296 % 1073741824), .int .i64 ((l.getD bs.toNat 0) % 4294967296 - 1)], rfl, fun a hA => ?_⟩
 refine S.val hA (R.move rfl) rfl ?_; clear hA a; intro a hA
 refine S.val hA (R.extract (v := .int .i64 ((l.getD bs.toNat 0) / 4294967296 % 1073741824)) rfl rfl) rfl ?_; clear hA a; intro a hA
 refine S.val hA (R.extract (v := .int .i64 ((l.getD bs.toNat 0) % 4294967296 - 1)) rfl rfl) rfl ?_; clear hA a; intro a hA
 refine S.val hA (R.assign rfl) rfl ?_; clear hA a; intro a hA
 refine S.val hA (R.assign rfl) rfl ?_; clear hA a; intro a hA
 refine S.done ?_
 replace hA : St 53 [(0, _), (3, _)] a := hA.sub ((.cons rfl (.cons rfl .nil)))
 refine Ends.seq ?_
 refine Ends.cut (fun (a : Act) (wv : World) => St 53 [(0, .pointer (some ⟨p, 0, none⟩)), (49, .bool (decide ((((l.getD bs.toNat 0) % 4294967296 - 1) < 0 ∧ False))))] a ∧ Mem w (feet [pt p #[.pointer (some ⟨q, 0, none⟩), .int .i64 wr, .bool true, .int .i64 sl, .int .i64 0, .int .i64 tp, .int .i64 nx] 76, pt q #[.pointer (some ⟨m, 0, none⟩), .int .i64 bs, .slice (some ⟨nb, 0, none⟩) ns ns, .slice (some ⟨ob, 0, none⟩) ws ws] 73, pt ob ((vals os)) 22, own 3 1 (.slice av Y.length cap) Y.length (Y.map (Value.int .i64)), memO m c l s o]) [memO m c ((l.set bs.toNat (l.getD bs.toNat 0))) (s + 1) ⟨1, bs, l.getD bs.toNat 0, l.getD bs.toNat 0, true⟩, pt p #[.pointer (some ⟨q, 0, none⟩), .int .i64 wr, .bool true, .int .i64 sl, .int .i64 1, .int .i64 (l.getD bs.toNat 0), .int .i64 nx] 76, pt q #[.pointer (some ⟨m, 0, none⟩), .int .i64 bs, .slice (some ⟨nb, 0, none⟩) ns ns, .slice (some ⟨ob, 0, none⟩) ws ws] 73, pt ob ((vals os)) 22, own 3 1 (.slice av Y.length cap) Y.length (Y.map (Value.int .i64))] wv) ?_ (fun k2 hJ => ?_)
 ·
  clear hA hM a; rintro a w6 ⟨hA, hM⟩
  refine Ends.ite hA rfl (fun hc1 => ?_) (fun hc1 => ?_)
  · exact (hc1.2).elim
  ·
   refine Ends.skip ?_
   refine Ends.end0 Tryd.func28 Tryd.results28 hA ?_
   replace hM := hM.front (k := 4) rfl
   replace hM := hM.front (k := 4) rfl
   replace hM := hM.front (k := 4) rfl
   replace hM := hM.front (k := 4) rfl
   replace hM : Mem _ _ [pt p #[.pointer (some ⟨q, 0, none⟩), .int .i64 wr, .bool true, .int .i64 sl, .int .i64 1, .int .i64 (l.getD bs.toNat 0), .int .i64 nx] 76, pt q #[.pointer (some ⟨m, 0, none⟩), .int .i64 bs, .slice (some ⟨nb, 0, none⟩) ns ns, .slice (some ⟨ob, 0, none⟩) ws ws] 73, pt ob ((vals os)) 22, own 3 1 (.slice av Y.length cap) Y.length (Y.map (Value.int .i64)), memO m c ((l.set bs.toNat (l.getD bs.toNat 0))) (s + 1) ⟨1, bs, l.getD bs.toNat 0, l.getD bs.toNat 0, true⟩] _ := hM
   rw [set_getD l bs.toNat (by omega)] at hM
   exact ⟨_, rfl, hM.firstN 5⟩
 ·
  refine Ends.region ?_
  refine S.val hA (R.move rfl) rfl ?_; clear hA a; intro a hA
  refine S.val hA (R.lss rfl rfl) rfl ?_; clear hA a; intro a hA
  refine S.val hA (R.move rfl) rfl ?_; clear hA a; intro a hA
  refine hA.split (d := 43) rfl ?_ ?_
  ·
   clear hA; intro hg2 hA
   refine S.valg (dj := 43) hA (by kernel_rfl) rfl (R.move rfl) rfl ?_; clear hA a; intro a hA
   refine S.valg (dj := 43) hA (by kernel_rfl) rfl (R.nilCheck rfl) rfl ?_; clear hA a; intro a hA
   refine S.valg (dj := 43) hA (by kernel_rfl) rfl (R.fieldAddr (q := 2) fi76_2 rfl rfl rfl) rfl ?_; clear hA a; intro a hA
   refine S.valg (dj := 43) hA (by kernel_rfl) rfl (R.load sz4 rfl (hM.cell (k := 1) rfl rfl)) rfl ?_; clear hA a; intro a hA
   refine S.valg (dj := 43) hA (by kernel_rfl) rfl (R.not rfl) rfl ?_; clear hA a; intro a hA
   refine S.val hA (R.pickT rfl rfl) rfl ?_; clear hA a; intro a hA
   refine S.done ?_
   replace hA : St 53 [(0, _), (49, _)] a := hA.sub ((.cons rfl (.cons rfl .nil)))
   exact hJ _ _ ⟨hA.sub (.cons rfl (.cons (by first | rfl | exact congrArg (fun b => some (Value.bool b)) (by first | exact decide_eq_decide.2 (by omega) | exact or_bool (by omega) | exact and_bool (by omega) | (simp; done) | (simp [hg2]; done) | (have h80 := hg2; (try simp at h80); simp [h80]; done) | exact (decide_eq_false (fun h9 => hg2 h9.1)).symm)) .nil)), hM⟩
  ·
   clear hA; intro hg2 hA
   refine S.no (dj := 43) hA (by kernel_rfl) rfl rfl rfl ?_; clear hA a; intro a hA
   refine S.no (dj := 43) hA (by kernel_rfl) rfl rfl rfl ?_; clear hA a; intro a hA
   refine S.no (dj := 43) hA (by kernel_rfl) rfl rfl rfl ?_; clear hA a; intro a hA
   refine S.no (dj := 43) hA (by kernel_rfl) rfl rfl rfl ?_; clear hA a; intro a hA
   refine S.no (dj := 43) hA (by kernel_rfl) rfl rfl rfl ?_; clear hA a; intro a hA
   refine S.val hA (R.pickF rfl rfl) rfl ?_; clear hA a; intro a hA
   refine S.done ?_
   replace hA : St 53 [(0, _), (49, _)] a := hA.sub ((.cons rfl (.cons rfl .nil)))
   exact hJ _ _ ⟨hA.sub (.cons rfl (.cons (by first | rfl | exact congrArg (fun b => some (Value.bool b)) (by first | exact decide_eq_decide.2 (by omega) | exact or_bool (by omega) | exact and_bool (by omega) | (simp; done) | (simp [hg2]; done) | (have h80 := hg2; (try simp at h80); simp [h80]; done) | exact (decide_eq_false (fun h9 => hg2 h9.1)).symm)) .nil)), hM⟩
set_option maxRecDepth 100000 in
set_option maxHeartbeats 400000 in
theorem Spf_full (p q m nb ns ob ws : Nat) (bs wr : Int) (os : List Value) (av : Option Addr) (Y : List Int) (cap : Nat) (hwr : 0 ≤ wr ∧ wr < ws) (hlen : os.length = ws) (hos : os[wr.toNat]? = some (.slice av Y.length cap)) (hY2 : Y.length ≤ 2) (c : Nat) (l : List Int) (s : Int) (o : CellOp) (hmc : m ≠ c) (hl : 0 ≤ bs ∧ bs + 1 ≤ l.length ∧ l.length ≤ 1000000) (hs : 0 ≤ s ∧ s < 9223372036854775806) (sl tp nx : Int) (htp : 0 ≤ l.getD bs.toNat 0 ∧ l.getD bs.toNat 0 < 4611686018427387904) (hY : 2 ≤ Y.length) (w : World) (hM : Mem w (feet [pt p #[.pointer (some ⟨q, 0, none⟩), .int .i64 wr, .bool true, .int .i64 sl, .int .i64 0, .int .i64 tp, .int .i64 nx] 76, pt q #[.pointer (some ⟨m, 0, none⟩), .int .i64 bs, .slice (some ⟨nb, 0, none⟩) ns ns, .slice (some ⟨ob, 0, none⟩) ws ws] 73, pt ob ((vals os)) 22, own 3 1 (.slice av Y.length cap) Y.length (Y.map (Value.int .i64)), memO m c l s o]) [pt p #[.pointer (some ⟨q, 0, none⟩), .int .i64 wr, .bool true, .int .i64 sl, .int .i64 0, .int .i64 tp, .int .i64 nx] 76, pt q #[.pointer (some ⟨m, 0, none⟩), .int .i64 bs, .slice (some ⟨nb, 0, none⟩) ns ns, .slice (some ⟨ob, 0, none⟩) ws ws] 73, pt ob ((vals os)) 22, own 3 1 (.slice av Y.length cap) Y.length (Y.map (Value.int .i64)), memO m c l s o] w) :
  Calls Tryd.prog 18 #[.pointer (some ⟨p, 0, none⟩)] w fun e w' => ∃ op, e = .returned (.bool false) ∧ Mem w (feet [pt p #[.pointer (some ⟨q, 0, none⟩), .int .i64 wr, .bool true, .int .i64 sl, .int .i64 0, .int .i64 tp, .int .i64 nx] 76, pt q #[.pointer (some ⟨m, 0, none⟩), .int .i64 bs, .slice (some ⟨nb, 0, none⟩) ns ns, .slice (some ⟨ob, 0, none⟩) ws ws] 73, pt ob ((vals os)) 22, own 3 1 (.slice av Y.length cap) Y.length (Y.map (Value.int .i64)), memO m c l s o]) [pt p #[.pointer (some ⟨q, 0, none⟩), .int .i64 wr, .bool true, .int .i64 sl, .int .i64 1, .int .i64 (l.getD bs.toNat 0), .int .i64 nx] 76, pt q #[.pointer (some ⟨m, 0, none⟩), .int .i64 bs, .slice (some ⟨nb, 0, none⟩) ns ns, .slice (some ⟨ob, 0, none⟩) ws ws] 73, pt ob ((vals os)) 22, own 3 1 (.slice av Y.length cap) Y.length (Y.map (Value.int .i64)), memO m c l (s + 1) op] w' := by
 refine Calls.of_ends (vs := [.pointer (some ⟨p, 0, none⟩)]) Tryd.func18 rfl Tryd.ntmps18 rfl ?_
 intro a hA
 replace hA : St 26 [(0, _)] a := hA
 refine Ends.seq (Ends.region ?_)
 refine S.val hA (R.assign rfl) rfl ?_; clear hA a; intro a hA
 refine S.done ?_
 refine Ends.seq (Ends.seq (Ends.region ?_))
 refine S.val hA (R.move rfl) rfl ?_; clear hA a; intro a hA
 refine S.val hA (R.eqlNil Tryd.underlying49 rfl rfl) rfl ?_; clear hA a; intro a hA
 refine S.done ?_
 refine Ends.condF hA rfl ?_
 refine Ends.skip (Ends.seq (Ends.seq (Ends.region ?_)))
 refine S.val hA (R.move rfl) rfl ?_; clear hA a; intro a hA
 refine S.val hA (R.nilCheck rfl) rfl ?_; clear hA a; intro a hA
 refine S.val hA (R.fieldAddr (q := 4) fi76_4 rfl rfl rfl) rfl ?_; clear hA a; intro a hA
 refine S.val hA (R.load sz74 rfl (hM.cell (k := 0) rfl rfl)) rfl ?_; clear hA a; intro a hA
 refine S.done ?_
 replace hA : St 26 [(0, _), (8, _)] a := hA.sub ((.cons rfl (.cons rfl .nil)))
 refine Ends.block (Ends.seq (Ends.region ?_))
 refine S.val hA (R.tt (R.eql rfl rfl) (by first | decide | simp | omega)) rfl ?_; clear hA a; intro a hA
 refine S.val hA (R.assign rfl) rfl ?_; clear hA a; intro a hA
 refine S.done ?_
 refine Ends.condT hA rfl ?_
 refine Ends.region ?_
 refine S.val hA (R.move rfl) rfl ?_; clear hA a; intro a hA
 refine S.call hA (R.callF Tryd.func28 rfl rfl rfl) rfl (pf_full p q m nb ns ob ws bs wr os av Y cap hwr hlen hos hY2 c l s o hmc hl hs sl tp nx htp hY _ (hM.hereN 5)) ?_; clear hA a
 rintro e w1 ⟨op, rfl, hn⟩
 replace hM : Mem _ _ [pt p #[.pointer (some ⟨q, 0, none⟩), .int .i64 wr, .bool true, .int .i64 sl, .int .i64 1, .int .i64 (l.getD bs.toNat 0), .int .i64 nx] 76, pt q #[.pointer (some ⟨m, 0, none⟩), .int .i64 bs, .slice (some ⟨nb, 0, none⟩) ns ns, .slice (some ⟨ob, 0, none⟩) ws ws] 73, pt ob ((vals os)) 22, own 3 1 (.slice av Y.length cap) Y.length (Y.map (Value.int .i64)), memO m c l (s + 1) op] _ := hM.callL 5 hn; clear hn
 refine ⟨.tuple #[], rfl, fun a hA => ?_⟩
 refine S.done ?_
 replace hA : St 26 [(0, _)] a := hA.sub ((.cons rfl .nil))
 refine Ends.inBlock (Ends.seq (Ends.region ?_))
 refine S.val hA (R.move rfl) rfl ?_; clear hA a; intro a hA
 refine S.val hA (R.nilCheck rfl) rfl ?_; clear hA a; intro a hA
 refine S.val hA (R.fieldAddr (q := 4) fi76_4 rfl rfl rfl) rfl ?_; clear hA a; intro a hA
 refine S.val hA (R.load sz74 rfl (hM.cell (k := 0) rfl rfl)) rfl ?_; clear hA a; intro a hA
 refine S.val hA (R.ff (R.eql rfl rfl) (by first | decide | simp | omega)) rfl ?_; clear hA a; intro a hA
 refine S.val hA (R.assign rfl) rfl ?_; clear hA a; intro a hA
 refine S.done ?_
 replace hA : St 26 [(2, _)] a := hA.sub ((.cons rfl .nil))
 refine Ends.ret1 Tryd.func18 Tryd.results18 hA rfl ?_
 exact ⟨_, rfl, hM.firstN 5⟩
set_option maxRecDepth 100000 in
set_option maxHeartbeats 400000 in
theorem pf_link (p q m nb ns ob ws : Nat) (bs wr : Int) (os : List Value) (av : Option Addr) (Y : List Int) (cap : Nat) (hwr : 0 ≤ wr ∧ wr < ws) (hlen : os.length = ws) (hos : os[wr.toNat]? = some (.slice av Y.length cap)) (hY2 : Y.length ≤ 2) (c : Nat) (l : List Int) (s : Int) (o : CellOp) (hmc : m ≠ c) (hl : 0 ≤ bs ∧ bs + 1 ≤ l.length ∧ l.length ≤ 1000000) (hs : 0 ≤ s ∧ s < 9223372036854775806) (sl tp nx : Int) (htp : 0 ≤ tp ∧ tp < 4611686018427387904) (hsl : 0 ≤ sl ∧ bs + 1 + sl < l.length) (w : World) (hM : Mem w (feet [pt p #[.pointer (some ⟨q, 0, none⟩), .int .i64 wr, .bool true, .int .i64 sl, .int .i64 1, .int .i64 tp, .int .i64 nx] 76, pt q #[.pointer (some ⟨m, 0, none⟩), .int .i64 bs, .slice (some ⟨nb, 0, none⟩) ns ns, .slice (some ⟨ob, 0, none⟩) ws ws] 73, pt ob ((vals os)) 22, own 3 1 (.slice av Y.length cap) Y.length (Y.map (Value.int .i64)), memO m c l s o]) [pt p #[.pointer (some ⟨q, 0, none⟩), .int .i64 wr, .bool true, .int .i64 sl, .int .i64 1, .int .i64 tp, .int .i64 nx] 76, pt q #[.pointer (some ⟨m, 0, none⟩), .int .i64 bs, .slice (some ⟨nb, 0, none⟩) ns ns, .slice (some ⟨ob, 0, none⟩) ws ws] 73, pt ob ((vals os)) 22, own 3 1 (.slice av Y.length cap) Y.length (Y.map (Value.int .i64)), memO m c l s o] w) :
  Calls Tryd.prog 29 #[.pointer (some ⟨p, 0, none⟩)] w fun e w' => ∃ op, e = .returned (.tuple #[]) ∧ Mem w (feet [pt p #[.pointer (some ⟨q, 0, none⟩), .int .i64 wr, .bool true, .int .i64 sl, .int .i64 1, .int .i64 tp, .int .i64 nx] 76, pt q #[.pointer (some ⟨m, 0, none⟩), .int .i64 bs, .slice (some ⟨nb, 0, none⟩) ns ns, .slice (some ⟨ob, 0, none⟩) ws ws] 73, pt ob ((vals os)) 22, own 3 1 (.slice av Y.length cap) Y.length (Y.map (Value.int .i64)), memO m c l s o]) [pt p #[.pointer (some ⟨q, 0, none⟩), .int .i64 wr, .bool true, .int .i64 sl, .int .i64 2, .int .i64 tp, .int .i64 nx] 76, pt q #[.pointer (some ⟨m, 0, none⟩), .int .i64 bs, .slice (some ⟨nb, 0, none⟩) ns ns, .slice (some ⟨ob, 0, none⟩) ws ws] 73, pt ob ((vals os)) 22, own 3 1 (.slice av Y.length cap) Y.length (Y.map (Value.int .i64)), memO m c ((l.set (bs + 1 + sl).toNat (tp % 4294967296 - 1))) (s + 1) op] w' := by
 refine Calls.of_ends (vs := [.pointer (some ⟨p, 0, none⟩)]) Tryd.func29 rfl Tryd.ntmps29 rfl ?_
 intro a hA
 replace hA : St 57 [(0, _)] a := hA
 refine Ends.seq (Ends.region ?_)
 refine S.val hA (R.move rfl) rfl ?_; clear hA a; intro a hA
 refine S.val hA (R.nilCheck rfl) rfl ?_; clear hA a; intro a hA
 refine S.val hA (R.fieldAddr (q := 5) fi76_5 rfl rfl rfl) rfl ?_; clear hA a; intro a hA
 refine S.val hA (R.load sz3 rfl (hM.cell (k := 0) rfl rfl)) rfl ?_; clear hA a; intro a hA
 refine S.call hA (R.callF Tryd.func39 rfl rfl rfl) rfl (unpack_any tp (by omega) (by omega) _) ?_; clear hA a
 rintro e w1 ⟨rfl, rfl⟩
 refine ⟨.tuple #[.int .i64 (tp / 4294967296 % 1073741824), .int .i64 (tp % 4294967296 - 1)], rfl, fun a hA => ?_⟩
 refine S.val hA (R.move rfl) rfl ?_; clear hA a; intro a hA
 refine S.val hA (R.extract (v := .int .i64 (tp / 4294967296 % 1073741824)) rfl rfl) rfl ?_; clear hA a; intro a hA
 refine S.val hA (R.extract (v := .int .i64 (tp % 4294967296 - 1)) rfl rfl) rfl ?_; clear hA a; intro a hA
 refine S.val hA (R.assign rfl) rfl ?_; clear hA a; intro a hA
 refine S.val hA (R.assign rfl) rfl ?_; clear hA a; intro a hA
 refine S.done ?_
 replace hA : St 57 [(0, _), (3, _)] a := hA.sub ((.cons rfl (.cons rfl .nil)))
 refine Ends.seq (Ends.seq (Ends.region ?_))
 refine S.val hA (R.move rfl) rfl ?_; clear hA a; intro a hA
 refine S.val hA (R.nilCheck rfl) rfl ?_; clear hA a; intro a hA
 refine S.val hA (R.fieldAddr (q := 2) fi76_2 rfl rfl rfl) rfl ?_; clear hA a; intro a hA
 refine S.val hA (R.load sz4 rfl (hM.cell (k := 0) rfl rfl)) rfl ?_; clear hA a; intro a hA
 refine S.done ?_
 refine Ends.condT hA rfl ?_
 refine Ends.drawn (Mem w (feet [pt p #[.pointer (some ⟨q, 0, none⟩), .int .i64 wr, .bool true, .int .i64 sl, .int .i64 1, .int .i64 tp, .int .i64 nx] 76, pt q #[.pointer (some ⟨m, 0, none⟩), .int .i64 bs, .slice (some ⟨nb, 0, none⟩) ns ns, .slice (some ⟨ob, 0, none⟩) ws ws] 73, pt ob ((vals os)) 22, own 3 1 (.slice av Y.length cap) Y.length (Y.map (Value.int .i64)), memO m c l s o]) [pt p #[.pointer (some ⟨q, 0, none⟩), .int .i64 wr, .bool true, .int .i64 sl, .int .i64 1, .int .i64 tp, .int .i64 nx] 76, pt q #[.pointer (some ⟨m, 0, none⟩), .int .i64 bs, .slice (some ⟨nb, 0, none⟩) ns ns, .slice (some ⟨ob, 0, none⟩) ws ws] 73, pt ob ((vals os)) 22, own 3 1 (.slice av Y.length cap) Y.length (Y.map (Value.int .i64))]) (.cons (0, true) (.cons (1, true) (.cons (2, true) (.cons (3, true) (.cons (4, true) (.cons (5, true) (.cons (6, true) (.cons (7, true) (.cons (8, true) (.cons (9, true) (.cons (10, true) (.cons (11, true) (.cons (12, true) (.cons (13, true) (.cons (14, true) (.cons (16, true) (.cons (15, false) (.cons (17, false) .nil)))))))))))))))))) 18 mixed (by kernel_rfl) (by kernel_rfl) (by kernel_rfl) (hM.drop 4).drew ?_
 replace hM := hM.drew
 refine D.valF hA rfl (fun _ => R.move rfl) rfl ?_; clear hA a; intro a hA
 refine D.valF hA rfl (fun _ => R.nilCheck rfl) rfl ?_; clear hA a; intro a hA
 refine D.valF hA rfl (fun _ => R.fieldAddr (q := 0) fi76_0 rfl rfl rfl) rfl ?_; clear hA a; intro a hA
 refine D.val hA rfl (by kernel_rfl) (fun _ hM => R.load sz46 rfl (hM.cell (k := 0) rfl rfl)) rfl ?_; clear hA a; intro a hA
 refine D.valF hA rfl (fun _ => R.nilCheck rfl) rfl ?_; clear hA a; intro a hA
 refine D.valF hA rfl (fun _ => R.fieldAddr (q := 0) fi73_0 rfl rfl rfl) rfl ?_; clear hA a; intro a hA
 refine D.val hA rfl (by kernel_rfl) (fun _ hM => R.load sz42 rfl (hM.cell (k := 1) rfl rfl)) rfl ?_; clear hA a; intro a hA
 refine D.valF hA rfl (fun _ => R.move rfl) rfl ?_; clear hA a; intro a hA
 refine D.valF hA rfl (fun _ => R.nilCheck rfl) rfl ?_; clear hA a; intro a hA
 refine D.valF hA rfl (fun _ => R.fieldAddr (q := 0) fi76_0 rfl rfl rfl) rfl ?_; clear hA a; intro a hA
 refine D.val hA rfl (by kernel_rfl) (fun _ hM => R.load sz46 rfl (hM.cell (k := 0) rfl rfl)) rfl ?_; clear hA a; intro a hA
 refine D.valF hA rfl (fun _ => R.move rfl) rfl ?_; clear hA a; intro a hA
 refine D.valF hA rfl (fun _ => R.nilCheck rfl) rfl ?_; clear hA a; intro a hA
 refine D.valF hA rfl (fun _ => R.fieldAddr (q := 3) fi76_3 rfl rfl rfl) rfl ?_; clear hA a; intro a hA
 refine D.val hA rfl (by kernel_rfl) (fun _ hM => R.load sz3 rfl (hM.cell (k := 0) rfl rfl)) rfl ?_; clear hA a; intro a hA
 refine D.valF hA rfl (fun _ => R.move rfl) rfl ?_; clear hA a; intro a hA
 refine D.call hA rfl (R.callF Tryd.func27 rfl rfl rfl) rfl (plink q m nb ob ns ws bs sl (by omega) (by omega) _ (hM.block (k := 1) rfl)) ?_; clear hA a
 rintro e w2 ⟨rfl, rfl⟩
 refine ⟨.int .i64 (bs + 1 + sl), rfl, (hM.drop 4), fun a hA => ?_⟩
 refine D.call hA rfl (R.callF Tryd.func25 rfl rfl rfl) rfl (set_ok m c l s o hmc (bs + 1 + sl) (tp % 4294967296 - 1) (by omega) (by first | omega | (simp; omega)) (by omega) _ (hM.mem (k := 4) rfl)) ?_; clear hA a
 rintro e w3 ⟨rfl, hn⟩
 replace hM : Mem _ _ [memO m c ((l.set (bs + 1 + sl).toNat (tp % 4294967296 - 1))) (s + 1) ⟨2, bs + 1 + sl, l.getD (bs + 1 + sl).toNat 0, tp % 4294967296 - 1, true⟩, pt p #[.pointer (some ⟨q, 0, none⟩), .int .i64 wr, .bool true, .int .i64 sl, .int .i64 1, .int .i64 tp, .int .i64 nx] 76, pt q #[.pointer (some ⟨m, 0, none⟩), .int .i64 bs, .slice (some ⟨nb, 0, none⟩) ns ns, .slice (some ⟨ob, 0, none⟩) ws ws] 73, pt ob ((vals os)) 22, own 3 1 (.slice av Y.length cap) Y.length (Y.map (Value.int .i64))] _ := hM.callW (k := 4) rfl hn (fun _ h => h); clear hn
 refine ⟨.int .i64 0, rfl, (hM.drop 0), fun a hA => ?_⟩
 refine D.done ?_
 replace hA : St 57 [(0, _)] a := hA.sub ((.cons rfl .nil))
 refine Ends.region ?_
 refine S.val hA (R.move rfl) rfl ?_; clear hA a; intro a hA
 refine S.val hA (R.nilCheck rfl) rfl ?_; clear hA a; intro a hA
 refine S.val hA (R.fieldAddr (q := 4) fi76_4 rfl rfl rfl) rfl ?_; clear hA a; intro a hA
 refine S.store (k := 1) hA hM sz74 rfl rfl rfl rfl rfl ?_; clear hM
 intro w4 hM
 replace hM : Mem _ _ [memO m c ((l.set (bs + 1 + sl).toNat (tp % 4294967296 - 1))) (s + 1) ⟨2, bs + 1 + sl, l.getD (bs + 1 + sl).toNat 0, tp % 4294967296 - 1, true⟩, pt p #[.pointer (some ⟨q, 0, none⟩), .int .i64 wr, .bool true, .int .i64 sl, .int .i64 2, .int .i64 tp, .int .i64 nx] 76, pt q #[.pointer (some ⟨m, 0, none⟩), .int .i64 bs, .slice (some ⟨nb, 0, none⟩) ns ns, .slice (some ⟨ob, 0, none⟩) ws ws] 73, pt ob ((vals os)) 22, own 3 1 (.slice av Y.length cap) Y.length (Y.map (Value.int .i64))] _ := hM
 refine S.done ?_
 replace hA : St 57 [] a := hA.sub (.nil)
 refine Ends.end0 Tryd.func29 Tryd.results29 hA ?_
 replace hM := hM.front (k := 4) rfl
 replace hM := hM.front (k := 4) rfl
 replace hM := hM.front (k := 4) rfl
 replace hM := hM.front (k := 4) rfl
 replace hM : Mem _ _ [pt p #[.pointer (some ⟨q, 0, none⟩), .int .i64 wr, .bool true, .int .i64 sl, .int .i64 2, .int .i64 tp, .int .i64 nx] 76, pt q #[.pointer (some ⟨m, 0, none⟩), .int .i64 bs, .slice (some ⟨nb, 0, none⟩) ns ns, .slice (some ⟨ob, 0, none⟩) ws ws] 73, pt ob ((vals os)) 22, own 3 1 (.slice av Y.length cap) Y.length (Y.map (Value.int .i64)), memO m c ((l.set (bs + 1 + sl).toNat (tp % 4294967296 - 1))) (s + 1) ⟨2, bs + 1 + sl, l.getD (bs + 1 + sl).toNat 0, tp % 4294967296 - 1, true⟩] _ := hM
 exact ⟨_, rfl, hM.firstN 5⟩
set_option maxRecDepth 100000 in
set_option maxHeartbeats 400000 in
theorem Spf_link (p q m nb ns ob ws : Nat) (bs wr : Int) (os : List Value) (av : Option Addr) (Y : List Int) (cap : Nat) (hwr : 0 ≤ wr ∧ wr < ws) (hlen : os.length = ws) (hos : os[wr.toNat]? = some (.slice av Y.length cap)) (hY2 : Y.length ≤ 2) (c : Nat) (l : List Int) (s : Int) (o : CellOp) (hmc : m ≠ c) (hl : 0 ≤ bs ∧ bs + 1 ≤ l.length ∧ l.length ≤ 1000000) (hs : 0 ≤ s ∧ s < 9223372036854775806) (sl tp nx : Int) (htp : 0 ≤ tp ∧ tp < 4611686018427387904) (hsl : 0 ≤ sl ∧ bs + 1 + sl < l.length) (w : World) (hM : Mem w (feet [pt p #[.pointer (some ⟨q, 0, none⟩), .int .i64 wr, .bool true, .int .i64 sl, .int .i64 1, .int .i64 tp, .int .i64 nx] 76, pt q #[.pointer (some ⟨m, 0, none⟩), .int .i64 bs, .slice (some ⟨nb, 0, none⟩) ns ns, .slice (some ⟨ob, 0, none⟩) ws ws] 73, pt ob ((vals os)) 22, own 3 1 (.slice av Y.length cap) Y.length (Y.map (Value.int .i64)), memO m c l s o]) [pt p #[.pointer (some ⟨q, 0, none⟩), .int .i64 wr, .bool true, .int .i64 sl, .int .i64 1, .int .i64 tp, .int .i64 nx] 76, pt q #[.pointer (some ⟨m, 0, none⟩), .int .i64 bs, .slice (some ⟨nb, 0, none⟩) ns ns, .slice (some ⟨ob, 0, none⟩) ws ws] 73, pt ob ((vals os)) 22, own 3 1 (.slice av Y.length cap) Y.length (Y.map (Value.int .i64)), memO m c l s o] w) :
  Calls Tryd.prog 18 #[.pointer (some ⟨p, 0, none⟩)] w fun e w' => ∃ op, e = .returned (.bool false) ∧ Mem w (feet [pt p #[.pointer (some ⟨q, 0, none⟩), .int .i64 wr, .bool true, .int .i64 sl, .int .i64 1, .int .i64 tp, .int .i64 nx] 76, pt q #[.pointer (some ⟨m, 0, none⟩), .int .i64 bs, .slice (some ⟨nb, 0, none⟩) ns ns, .slice (some ⟨ob, 0, none⟩) ws ws] 73, pt ob ((vals os)) 22, own 3 1 (.slice av Y.length cap) Y.length (Y.map (Value.int .i64)), memO m c l s o]) [pt p #[.pointer (some ⟨q, 0, none⟩), .int .i64 wr, .bool true, .int .i64 sl, .int .i64 2, .int .i64 tp, .int .i64 nx] 76, pt q #[.pointer (some ⟨m, 0, none⟩), .int .i64 bs, .slice (some ⟨nb, 0, none⟩) ns ns, .slice (some ⟨ob, 0, none⟩) ws ws] 73, pt ob ((vals os)) 22, own 3 1 (.slice av Y.length cap) Y.length (Y.map (Value.int .i64)), memO m c ((l.set (bs + 1 + sl).toNat (tp % 4294967296 - 1))) (s + 1) op] w' := by
 refine Calls.of_ends (vs := [.pointer (some ⟨p, 0, none⟩)]) Tryd.func18 rfl Tryd.ntmps18 rfl ?_
 intro a hA
 replace hA : St 26 [(0, _)] a := hA
 refine Ends.seq (Ends.region ?_)
 refine S.val hA (R.assign rfl) rfl ?_; clear hA a; intro a hA
 refine S.done ?_
 refine Ends.seq (Ends.seq (Ends.region ?_))
 refine S.val hA (R.move rfl) rfl ?_; clear hA a; intro a hA
 refine S.val hA (R.eqlNil Tryd.underlying49 rfl rfl) rfl ?_; clear hA a; intro a hA
 refine S.done ?_
 refine Ends.condF hA rfl ?_
 refine Ends.skip (Ends.seq (Ends.seq (Ends.region ?_)))
 refine S.val hA (R.move rfl) rfl ?_; clear hA a; intro a hA
 refine S.val hA (R.nilCheck rfl) rfl ?_; clear hA a; intro a hA
 refine S.val hA (R.fieldAddr (q := 4) fi76_4 rfl rfl rfl) rfl ?_; clear hA a; intro a hA
 refine S.val hA (R.load sz74 rfl (hM.cell (k := 0) rfl rfl)) rfl ?_; clear hA a; intro a hA
 refine S.done ?_
 replace hA : St 26 [(0, _), (8, _)] a := hA.sub ((.cons rfl (.cons rfl .nil)))
 refine Ends.block (Ends.seq (Ends.region ?_))
 refine S.val hA (R.ff (R.eql rfl rfl) (by first | decide | simp | omega)) rfl ?_; clear hA a; intro a hA
 refine S.val hA (R.assign rfl) rfl ?_; clear hA a; intro a hA
 refine S.done ?_
 refine Ends.condF hA rfl ?_
 refine Ends.seq (Ends.region ?_)
 refine S.val hA (R.tt (R.eql rfl rfl) (by first | decide | simp | omega)) rfl ?_; clear hA a; intro a hA
 refine S.val hA (R.assign rfl) rfl ?_; clear hA a; intro a hA
 refine S.done ?_
 refine Ends.condT hA rfl ?_
 refine Ends.region ?_
 refine S.val hA (R.move rfl) rfl ?_; clear hA a; intro a hA
 refine S.call hA (R.callF Tryd.func29 rfl rfl rfl) rfl (pf_link p q m nb ns ob ws bs wr os av Y cap hwr hlen hos hY2 c l s o hmc hl hs sl tp nx htp hsl _ (hM.hereN 5)) ?_; clear hA a
 rintro e w1 ⟨op, rfl, hn⟩
 replace hM : Mem _ _ [pt p #[.pointer (some ⟨q, 0, none⟩), .int .i64 wr, .bool true, .int .i64 sl, .int .i64 2, .int .i64 tp, .int .i64 nx] 76, pt q #[.pointer (some ⟨m, 0, none⟩), .int .i64 bs, .slice (some ⟨nb, 0, none⟩) ns ns, .slice (some ⟨ob, 0, none⟩) ws ws] 73, pt ob ((vals os)) 22, own 3 1 (.slice av Y.length cap) Y.length (Y.map (Value.int .i64)), memO m c ((l.set (bs + 1 + sl).toNat (tp % 4294967296 - 1))) (s + 1) op] _ := hM.callL 5 hn; clear hn
 refine ⟨.tuple #[], rfl, fun a hA => ?_⟩
 refine S.done ?_
 replace hA : St 26 [(0, _)] a := hA.sub ((.cons rfl .nil))
 refine Ends.inBlock (Ends.seq (Ends.region ?_))
 refine S.val hA (R.move rfl) rfl ?_; clear hA a; intro a hA
 refine S.val hA (R.nilCheck rfl) rfl ?_; clear hA a; intro a hA
 refine S.val hA (R.fieldAddr (q := 4) fi76_4 rfl rfl rfl) rfl ?_; clear hA a; intro a hA
 refine S.val hA (R.load sz74 rfl (hM.cell (k := 0) rfl rfl)) rfl ?_; clear hA a; intro a hA
 refine S.val hA (R.ff (R.eql rfl rfl) (by first | decide | simp | omega)) rfl ?_; clear hA a; intro a hA
 refine S.val hA (R.assign rfl) rfl ?_; clear hA a; intro a hA
 refine S.done ?_
 replace hA : St 26 [(2, _)] a := hA.sub ((.cons rfl .nil))
 refine Ends.ret1 Tryd.func18 Tryd.results18 hA rfl ?_
 exact ⟨_, rfl, hM.firstN 5⟩
set_option maxRecDepth 100000 in
set_option maxHeartbeats 400000 in
theorem pf_next (p q m nb ns ob ws : Nat) (bs wr : Int) (os : List Value) (av : Option Addr) (Y : List Int) (cap : Nat) (hwr : 0 ≤ wr ∧ wr < ws) (hlen : os.length = ws) (hos : os[wr.toNat]? = some (.slice av Y.length cap)) (hY2 : Y.length ≤ 2) (c : Nat) (l : List Int) (s : Int) (o : CellOp) (hmc : m ≠ c) (hl : 0 ≤ bs ∧ bs + 1 ≤ l.length ∧ l.length ≤ 1000000) (hs : 0 ≤ s ∧ s < 9223372036854775806) (sl tp nx : Int) (htp : 0 ≤ tp ∧ tp < 4611686018427387904) (hsl : 0 ≤ tp % 4294967296 - 1 ∧ bs + 1 + (tp % 4294967296 - 1) < l.length) (w : World) (hM : Mem w (feet [pt p #[.pointer (some ⟨q, 0, none⟩), .int .i64 wr, .bool false, .int .i64 sl, .int .i64 1, .int .i64 tp, .int .i64 nx] 76, pt q #[.pointer (some ⟨m, 0, none⟩), .int .i64 bs, .slice (some ⟨nb, 0, none⟩) ns ns, .slice (some ⟨ob, 0, none⟩) ws ws] 73, pt ob ((vals os)) 22, own 3 1 (.slice av Y.length cap) Y.length (Y.map (Value.int .i64)), memO m c l s o]) [pt p #[.pointer (some ⟨q, 0, none⟩), .int .i64 wr, .bool false, .int .i64 sl, .int .i64 1, .int .i64 tp, .int .i64 nx] 76, pt q #[.pointer (some ⟨m, 0, none⟩), .int .i64 bs, .slice (some ⟨nb, 0, none⟩) ns ns, .slice (some ⟨ob, 0, none⟩) ws ws] 73, pt ob ((vals os)) 22, own 3 1 (.slice av Y.length cap) Y.length (Y.map (Value.int .i64)), memO m c l s o] w) :
  Calls Tryd.prog 29 #[.pointer (some ⟨p, 0, none⟩)] w fun e w' => ∃ op, e = .returned (.tuple #[]) ∧ Mem w (feet [pt p #[.pointer (some ⟨q, 0, none⟩), .int .i64 wr, .bool false, .int .i64 sl, .int .i64 1, .int .i64 tp, .int .i64 nx] 76, pt q #[.pointer (some ⟨m, 0, none⟩), .int .i64 bs, .slice (some ⟨nb, 0, none⟩) ns ns, .slice (some ⟨ob, 0, none⟩) ws ws] 73, pt ob ((vals os)) 22, own 3 1 (.slice av Y.length cap) Y.length (Y.map (Value.int .i64)), memO m c l s o]) [pt p #[.pointer (some ⟨q, 0, none⟩), .int .i64 wr, .bool false, .int .i64 sl, .int .i64 2, .int .i64 tp, .int .i64 (l.getD (bs + 1 + (tp % 4294967296 - 1)).toNat 0)] 76, pt q #[.pointer (some ⟨m, 0, none⟩), .int .i64 bs, .slice (some ⟨nb, 0, none⟩) ns ns, .slice (some ⟨ob, 0, none⟩) ws ws] 73, pt ob ((vals os)) 22, own 3 1 (.slice av Y.length cap) Y.length (Y.map (Value.int .i64)), memO m c l (s + 1) op] w' := by
 refine Calls.of_ends (vs := [.pointer (some ⟨p, 0, none⟩)]) Tryd.func29 rfl Tryd.ntmps29 rfl ?_
 intro a hA
 replace hA : St 57 [(0, _)] a := hA
 refine Ends.seq (Ends.region ?_)
 refine S.val hA (R.move rfl) rfl ?_; clear hA a; intro a hA
 refine S.val hA (R.nilCheck rfl) rfl ?_; clear hA a; intro a hA
 refine S.val hA (R.fieldAddr (q := 5) fi76_5 rfl rfl rfl) rfl ?_; clear hA a; intro a hA
 refine S.val hA (R.load sz3 rfl (hM.cell (k := 0) rfl rfl)) rfl ?_; clear hA a; intro a hA
 refine S.call hA (R.callF Tryd.func39 rfl rfl rfl) rfl (unpack_any tp (by omega) (by omega) _) ?_; clear hA a
 rintro e w1 ⟨rfl, rfl⟩
 refine ⟨.tuple #[.int .i64 (tp / 4294967296 % 1073741824), .int .i64 (tp % 4294967296 - 1)], rfl, fun a hA => ?_⟩
 refine S.val hA (R.move rfl) rfl ?_; clear hA a; intro a hA
 refine S.val hA (R.extract (v := .int .i64 (tp / 4294967296 % 1073741824)) rfl rfl) rfl ?_; clear hA a; intro a hA
 refine S.val hA (R.extract (v := .int .i64 (tp % 4294967296 - 1)) rfl rfl) rfl ?_; clear hA a; intro a hA
 refine S.val hA (R.assign rfl) rfl ?_; clear hA a; intro a hA
 refine S.val hA (R.assign rfl) rfl ?_; clear hA a; intro a hA
 refine S.done ?_
 replace hA : St 57 [(0, _), (3, _)] a := hA.sub ((.cons rfl (.cons rfl .nil)))
 refine Ends.seq (Ends.seq (Ends.region ?_))
 refine S.val hA (R.move rfl) rfl ?_; clear hA a; intro a hA
 refine S.val hA (R.nilCheck rfl) rfl ?_; clear hA a; intro a hA
 refine S.val hA (R.fieldAddr (q := 2) fi76_2 rfl rfl rfl) rfl ?_; clear hA a; intro a hA
 refine S.val hA (R.load sz4 rfl (hM.cell (k := 0) rfl rfl)) rfl ?_; clear hA a; intro a hA
 refine S.done ?_
 refine Ends.condF hA rfl ?_
 refine Ends.drawn (Mem w (feet [pt p #[.pointer (some ⟨q, 0, none⟩), .int .i64 wr, .bool false, .int .i64 sl, .int .i64 1, .int .i64 tp, .int .i64 nx] 76, pt q #[.pointer (some ⟨m, 0, none⟩), .int .i64 bs, .slice (some ⟨nb, 0, none⟩) ns ns, .slice (some ⟨ob, 0, none⟩) ws ws] 73, pt ob ((vals os)) 22, own 3 1 (.slice av Y.length cap) Y.length (Y.map (Value.int .i64)), memO m c l s o]) [pt p #[.pointer (some ⟨q, 0, none⟩), .int .i64 wr, .bool false, .int .i64 sl, .int .i64 1, .int .i64 tp, .int .i64 nx] 76, pt q #[.pointer (some ⟨m, 0, none⟩), .int .i64 bs, .slice (some ⟨nb, 0, none⟩) ns ns, .slice (some ⟨ob, 0, none⟩) ws ws] 73, pt ob ((vals os)) 22, own 3 1 (.slice av Y.length cap) Y.length (Y.map (Value.int .i64))]) (.cons (0, true) (.cons (1, true) (.cons (2, true) (.cons (3, true) (.cons (4, true) (.cons (5, true) (.cons (6, true) (.cons (7, true) (.cons (8, true) (.cons (9, true) (.cons (10, true) (.cons (11, true) (.cons (12, true) (.cons (13, false) (.cons (14, false) (.cons (15, true) (.cons (16, true) (.cons (17, true) (.cons (18, true) (.cons (19, true) (.cons (20, false) .nil))))))))))))))))))))) 20 mixed (by kernel_rfl) (by kernel_rfl) (by kernel_rfl) (hM.drop 4).drew ?_
 replace hM := hM.drew
 refine D.valF hA rfl (fun _ => R.move rfl) rfl ?_; clear hA a; intro a hA
 refine D.valF hA rfl (fun _ => R.move rfl) rfl ?_; clear hA a; intro a hA
 refine D.valF hA rfl (fun _ => R.nilCheck rfl) rfl ?_; clear hA a; intro a hA
 refine D.valF hA rfl (fun _ => R.fieldAddr (q := 0) fi76_0 rfl rfl rfl) rfl ?_; clear hA a; intro a hA
 refine D.val hA rfl (by kernel_rfl) (fun _ hM => R.load sz46 rfl (hM.cell (k := 0) rfl rfl)) rfl ?_; clear hA a; intro a hA
 refine D.valF hA rfl (fun _ => R.nilCheck rfl) rfl ?_; clear hA a; intro a hA
 refine D.valF hA rfl (fun _ => R.fieldAddr (q := 0) fi73_0 rfl rfl rfl) rfl ?_; clear hA a; intro a hA
 refine D.val hA rfl (by kernel_rfl) (fun _ hM => R.load sz42 rfl (hM.cell (k := 1) rfl rfl)) rfl ?_; clear hA a; intro a hA
 refine D.valF hA rfl (fun _ => R.move rfl) rfl ?_; clear hA a; intro a hA
 refine D.valF hA rfl (fun _ => R.nilCheck rfl) rfl ?_; clear hA a; intro a hA
 refine D.valF hA rfl (fun _ => R.fieldAddr (q := 0) fi76_0 rfl rfl rfl) rfl ?_; clear hA a; intro a hA
 refine D.val hA rfl (by kernel_rfl) (fun _ hM => R.load sz46 rfl (hM.cell (k := 0) rfl rfl)) rfl ?_; clear hA a; intro a hA
 refine D.valF hA rfl (fun _ => R.move rfl) rfl ?_; clear hA a; intro a hA
 refine D.call hA rfl (R.callF Tryd.func27 rfl rfl rfl) rfl (plink q m nb ob ns ws bs (tp % 4294967296 - 1) (by omega) (by omega) _ (hM.block (k := 1) rfl)) ?_; clear hA a
 rintro e w2 ⟨rfl, rfl⟩
 refine ⟨.int .i64 (bs + 1 + (tp % 4294967296 - 1)), rfl, (hM.drop 4), fun a hA => ?_⟩
 refine D.call hA rfl (R.callF Tryd.func38 rfl rfl rfl) rfl (get_ok m c l s o hmc (bs + 1 + (tp % 4294967296 - 1)) (by omega) (by first | omega | (simp; omega)) (by omega) _ (hM.mem (k := 4) rfl)) ?_; clear hA a
 rintro e w3 ⟨rfl, hn⟩
 replace hM : Mem _ _ [memO m c ((l.set (bs + 1 + (tp % 4294967296 - 1)).toNat (l.getD (bs + 1 + (tp % 4294967296 - 1)).toNat 0))) (s + 1) ⟨1, bs + 1 + (tp % 4294967296 - 1), l.getD (bs + 1 + (tp % 4294967296 - 1)).toNat 0, l.getD (bs + 1 + (tp % 4294967296 - 1)).toNat 0, true⟩, pt p #[.pointer (some ⟨q, 0, none⟩), .int .i64 wr, .bool false, .int .i64 sl, .int .i64 1, .int .i64 tp, .int .i64 nx] 76, pt q #[.pointer (some ⟨m, 0, none⟩), .int .i64 bs, .slice (some ⟨nb, 0, none⟩) ns ns, .slice (some ⟨ob, 0, none⟩) ws ws] 73, pt ob ((vals os)) 22, own 3 1 (.slice av Y.length cap) Y.length (Y.map (Value.int .i64))] _ := hM.callW (k := 4) rfl hn (fun _ h => h); clear hn
 refine ⟨.tuple #[.int .i64 (l.getD (bs + 1 + (tp % 4294967296 - 1)).toNat 0), .int .i64 0], rfl, (hM.drop 0), fun a hA => ?_⟩
 refine D.valF hA rfl (fun _ => R.move rfl) rfl ?_; clear hA a; intro a hA
 refine D.valF hA rfl (fun _ => R.extract (v := .int .i64 (l.getD (bs + 1 + (tp % 4294967296 - 1)).toNat 0)) rfl rfl) rfl ?_; clear hA a; intro a hA
 refine D.valF hA rfl (fun _ => R.extract (v := .int .i64 0) rfl rfl) rfl ?_; clear hA a; intro a hA
 refine D.valF hA rfl (fun _ => R.nilCheck rfl) rfl ?_; clear hA a; intro a hA
 refine D.valF hA rfl (fun _ => R.fieldAddr (q := 6) fi76_6 rfl rfl rfl) rfl ?_; clear hA a; intro a hA
 refine D.store (k := 1) hA hM rfl sz3 rfl rfl rfl rfl rfl ?_; clear hM
 intro w4 hM; refine ⟨fun _ hne => absurd rfl hne, ?_⟩
 replace hM : Mem _ _ [memO m c ((l.set (bs + 1 + (tp % 4294967296 - 1)).toNat (l.getD (bs + 1 + (tp % 4294967296 - 1)).toNat 0))) (s + 1) ⟨1, bs + 1 + (tp % 4294967296 - 1), l.getD (bs + 1 + (tp % 4294967296 - 1)).toNat 0, l.getD (bs + 1 + (tp % 4294967296 - 1)).toNat 0, true⟩, pt p #[.pointer (some ⟨q, 0, none⟩), .int .i64 wr, .bool false, .int .i64 sl, .int .i64 1, .int .i64 tp, .int .i64 (l.getD (bs + 1 + (tp % 4294967296 - 1)).toNat 0)] 76, pt q #[.pointer (some ⟨m, 0, none⟩), .int .i64 bs, .slice (some ⟨nb, 0, none⟩) ns ns, .slice (some ⟨ob, 0, none⟩) ws ws] 73, pt ob ((vals os)) 22, own 3 1 (.slice av Y.length cap) Y.length (Y.map (Value.int .i64))] _ := hM
 refine D.done ?_
 replace hA : St 57 [(0, _)] a := hA.sub ((.cons rfl .nil))
 refine Ends.region ?_
 refine S.val hA (R.move rfl) rfl ?_; clear hA a; intro a hA
 refine S.val hA (R.nilCheck rfl) rfl ?_; clear hA a; intro a hA
 refine S.val hA (R.fieldAddr (q := 4) fi76_4 rfl rfl rfl) rfl ?_; clear hA a; intro a hA
 refine S.store (k := 1) hA hM sz74 rfl rfl rfl rfl rfl ?_; clear hM
 intro w5 hM
 replace hM : Mem _ _ [memO m c ((l.set (bs + 1 + (tp % 4294967296 - 1)).toNat (l.getD (bs + 1 + (tp % 4294967296 - 1)).toNat 0))) (s + 1) ⟨1, bs + 1 + (tp % 4294967296 - 1), l.getD (bs + 1 + (tp % 4294967296 - 1)).toNat 0, l.getD (bs + 1 + (tp % 4294967296 - 1)).toNat 0, true⟩, pt p #[.pointer (some ⟨q, 0, none⟩), .int .i64 wr, .bool false, .int .i64 sl, .int .i64 2, .int .i64 tp, .int .i64 (l.getD (bs + 1 + (tp % 4294967296 - 1)).toNat 0)] 76, pt q #[.pointer (some ⟨m, 0, none⟩), .int .i64 bs, .slice (some ⟨nb, 0, none⟩) ns ns, .slice (some ⟨ob, 0, none⟩) ws ws] 73, pt ob ((vals os)) 22, own 3 1 (.slice av Y.length cap) Y.length (Y.map (Value.int .i64))] _ := hM
 refine S.done ?_
 replace hA : St 57 [] a := hA.sub (.nil)
 refine Ends.end0 Tryd.func29 Tryd.results29 hA ?_
 replace hM := hM.front (k := 4) rfl
 replace hM := hM.front (k := 4) rfl
 replace hM := hM.front (k := 4) rfl
 replace hM := hM.front (k := 4) rfl
 replace hM : Mem _ _ [pt p #[.pointer (some ⟨q, 0, none⟩), .int .i64 wr, .bool false, .int .i64 sl, .int .i64 2, .int .i64 tp, .int .i64 (l.getD (bs + 1 + (tp % 4294967296 - 1)).toNat 0)] 76, pt q #[.pointer (some ⟨m, 0, none⟩), .int .i64 bs, .slice (some ⟨nb, 0, none⟩) ns ns, .slice (some ⟨ob, 0, none⟩) ws ws] 73, pt ob ((vals os)) 22, own 3 1 (.slice av Y.length cap) Y.length (Y.map (Value.int .i64)), memO m c ((l.set (bs + 1 + (tp % 4294967296 - 1)).toNat (l.getD (bs + 1 + (tp % 4294967296 - 1)).toNat 0))) (s + 1) ⟨1, bs + 1 + (tp % 4294967296 - 1), l.getD (bs + 1 + (tp % 4294967296 - 1)).toNat 0, l.getD (bs + 1 + (tp % 4294967296 - 1)).toNat 0, true⟩] _ := hM
 rw [set_getD l ((bs + 1 + (tp % 4294967296 - 1))).toNat (by omega)] at hM
 exact ⟨_, rfl, hM.firstN 5⟩
set_option maxRecDepth 100000 in
set_option maxHeartbeats 400000 in
theorem Spf_next (p q m nb ns ob ws : Nat) (bs wr : Int) (os : List Value) (av : Option Addr) (Y : List Int) (cap : Nat) (hwr : 0 ≤ wr ∧ wr < ws) (hlen : os.length = ws) (hos : os[wr.toNat]? = some (.slice av Y.length cap)) (hY2 : Y.length ≤ 2) (c : Nat) (l : List Int) (s : Int) (o : CellOp) (hmc : m ≠ c) (hl : 0 ≤ bs ∧ bs + 1 ≤ l.length ∧ l.length ≤ 1000000) (hs : 0 ≤ s ∧ s < 9223372036854775806) (sl tp nx : Int) (htp : 0 ≤ tp ∧ tp < 4611686018427387904) (hsl : 0 ≤ tp % 4294967296 - 1 ∧ bs + 1 + (tp % 4294967296 - 1) < l.length) (w : World) (hM : Mem w (feet [pt p #[.pointer (some ⟨q, 0, none⟩), .int .i64 wr, .bool false, .int .i64 sl, .int .i64 1, .int .i64 tp, .int .i64 nx] 76, pt q #[.pointer (some ⟨m, 0, none⟩), .int .i64 bs, .slice (some ⟨nb, 0, none⟩) ns ns, .slice (some ⟨ob, 0, none⟩) ws ws] 73, pt ob ((vals os)) 22, own 3 1 (.slice av Y.length cap) Y.length (Y.map (Value.int .i64)), memO m c l s o]) [pt p #[.pointer (some ⟨q, 0, none⟩), .int .i64 wr, .bool false, .int .i64 sl, .int .i64 1, .int .i64 tp, .int .i64 nx] 76, pt q #[.pointer (some ⟨m, 0, none⟩), .int .i64 bs, .slice (some ⟨nb, 0, none⟩) ns ns, .slice (some ⟨ob, 0, none⟩) ws ws] 73, pt ob ((vals os)) 22, own 3 1 (.slice av Y.length cap) Y.length (Y.map (Value.int .i64)), memO m c l s o] w) :
  Calls Tryd.prog 18 #[.pointer (some ⟨p, 0, none⟩)] w fun e w' => ∃ op, e = .returned (.bool false) ∧ Mem w (feet [pt p #[.pointer (some ⟨q, 0, none⟩), .int .i64 wr, .bool false, .int .i64 sl, .int .i64 1, .int .i64 tp, .int .i64 nx] 76, pt q #[.pointer (some ⟨m, 0, none⟩), .int .i64 bs, .slice (some ⟨nb, 0, none⟩) ns ns, .slice (some ⟨ob, 0, none⟩) ws ws] 73, pt ob ((vals os)) 22, own 3 1 (.slice av Y.length cap) Y.length (Y.map (Value.int .i64)), memO m c l s o]) [pt p #[.pointer (some ⟨q, 0, none⟩), .int .i64 wr, .bool false, .int .i64 sl, .int .i64 2, .int .i64 tp, .int .i64 (l.getD (bs + 1 + (tp % 4294967296 - 1)).toNat 0)] 76, pt q #[.pointer (some ⟨m, 0, none⟩), .int .i64 bs, .slice (some ⟨nb, 0, none⟩) ns ns, .slice (some ⟨ob, 0, none⟩) ws ws] 73, pt ob ((vals os)) 22, own 3 1 (.slice av Y.length cap) Y.length (Y.map (Value.int .i64)), memO m c l (s + 1) op] w' := by
 refine Calls.of_ends (vs := [.pointer (some ⟨p, 0, none⟩)]) Tryd.func18 rfl Tryd.ntmps18 rfl ?_
 intro a hA
 replace hA : St 26 [(0, _)] a := hA
 refine Ends.seq (Ends.region ?_)
 refine S.val hA (R.assign rfl) rfl ?_; clear hA a; intro a hA
 refine S.done ?_
 refine Ends.seq (Ends.seq (Ends.region ?_))
 refine S.val hA (R.move rfl) rfl ?_; clear hA a; intro a hA
 refine S.val hA (R.eqlNil Tryd.underlying49 rfl rfl) rfl ?_; clear hA a; intro a hA
 refine S.done ?_
 refine Ends.condF hA rfl ?_
 refine Ends.skip (Ends.seq (Ends.seq (Ends.region ?_)))
 refine S.val hA (R.move rfl) rfl ?_; clear hA a; intro a hA
 refine S.val hA (R.nilCheck rfl) rfl ?_; clear hA a; intro a hA
 refine S.val hA (R.fieldAddr (q := 4) fi76_4 rfl rfl rfl) rfl ?_; clear hA a; intro a hA
 refine S.val hA (R.load sz74 rfl (hM.cell (k := 0) rfl rfl)) rfl ?_; clear hA a; intro a hA
 refine S.done ?_
 replace hA : St 26 [(0, _), (8, _)] a := hA.sub ((.cons rfl (.cons rfl .nil)))
 refine Ends.block (Ends.seq (Ends.region ?_))
 refine S.val hA (R.ff (R.eql rfl rfl) (by first | decide | simp | omega)) rfl ?_; clear hA a; intro a hA
 refine S.val hA (R.assign rfl) rfl ?_; clear hA a; intro a hA
 refine S.done ?_
 refine Ends.condF hA rfl ?_
 refine Ends.seq (Ends.region ?_)
 refine S.val hA (R.tt (R.eql rfl rfl) (by first | decide | simp | omega)) rfl ?_; clear hA a; intro a hA
 refine S.val hA (R.assign rfl) rfl ?_; clear hA a; intro a hA
 refine S.done ?_
 refine Ends.condT hA rfl ?_
 refine Ends.region ?_
 refine S.val hA (R.move rfl) rfl ?_; clear hA a; intro a hA
 refine S.call hA (R.callF Tryd.func29 rfl rfl rfl) rfl (pf_next p q m nb ns ob ws bs wr os av Y cap hwr hlen hos hY2 c l s o hmc hl hs sl tp nx htp hsl _ (hM.hereN 5)) ?_; clear hA a
 rintro e w1 ⟨op, rfl, hn⟩
 replace hM : Mem _ _ [pt p #[.pointer (some ⟨q, 0, none⟩), .int .i64 wr, .bool false, .int .i64 sl, .int .i64 2, .int .i64 tp, .int .i64 (l.getD (bs + 1 + (tp % 4294967296 - 1)).toNat 0)] 76, pt q #[.pointer (some ⟨m, 0, none⟩), .int .i64 bs, .slice (some ⟨nb, 0, none⟩) ns ns, .slice (some ⟨ob, 0, none⟩) ws ws] 73, pt ob ((vals os)) 22, own 3 1 (.slice av Y.length cap) Y.length (Y.map (Value.int .i64)), memO m c l (s + 1) op] _ := hM.callL 5 hn; clear hn
 refine ⟨.tuple #[], rfl, fun a hA => ?_⟩
 refine S.done ?_
 replace hA : St 26 [(0, _)] a := hA.sub ((.cons rfl .nil))
 refine Ends.inBlock (Ends.seq (Ends.region ?_))
 refine S.val hA (R.move rfl) rfl ?_; clear hA a; intro a hA
 refine S.val hA (R.nilCheck rfl) rfl ?_; clear hA a; intro a hA
 refine S.val hA (R.fieldAddr (q := 4) fi76_4 rfl rfl rfl) rfl ?_; clear hA a; intro a hA
 refine S.val hA (R.load sz74 rfl (hM.cell (k := 0) rfl rfl)) rfl ?_; clear hA a; intro a hA
 refine S.val hA (R.ff (R.eql rfl rfl) (by first | decide | simp | omega)) rfl ?_; clear hA a; intro a hA
 refine S.val hA (R.assign rfl) rfl ?_; clear hA a; intro a hA
 refine S.done ?_
 replace hA : St 26 [(2, _)] a := hA.sub ((.cons rfl .nil))
 refine Ends.ret1 Tryd.func18 Tryd.results18 hA rfl ?_
 exact ⟨_, rfl, hM.firstN 5⟩
set_option maxRecDepth 100000 in
set_option maxHeartbeats 400000 in
theorem pf_push (p q m nb ns ob ws : Nat) (bs wr : Int) (os : List Value) (av : Option Addr) (Y : List Int) (cap : Nat) (hwr : 0 ≤ wr ∧ wr < ws) (hlen : os.length = ws) (hos : os[wr.toNat]? = some (.slice av Y.length cap)) (hY2 : Y.length ≤ 2) (c : Nat) (l : List Int) (s : Int) (o : CellOp) (hmc : m ≠ c) (hl : 0 ≤ bs ∧ bs + 1 ≤ l.length ∧ l.length ≤ 1000000) (hs : 0 ≤ s ∧ s < 9223372036854775806) (sl tp nx : Int) (htp : 0 ≤ tp ∧ tp < 4611686018427387904) (hh : l.getD bs.toNat 0 = tp) (w : World) (hM : Mem w (feet [pt p #[.pointer (some ⟨q, 0, none⟩), .int .i64 wr, .bool true, .int .i64 sl, .int .i64 2, .int .i64 tp, .int .i64 nx] 76, pt q #[.pointer (some ⟨m, 0, none⟩), .int .i64 bs, .slice (some ⟨nb, 0, none⟩) ns ns, .slice (some ⟨ob, 0, none⟩) ws ws] 73, pt ob ((vals os)) 22, own 3 1 (.slice av Y.length cap) Y.length (Y.map (Value.int .i64)), memO m c l s o]) [pt p #[.pointer (some ⟨q, 0, none⟩), .int .i64 wr, .bool true, .int .i64 sl, .int .i64 2, .int .i64 tp, .int .i64 nx] 76, pt q #[.pointer (some ⟨m, 0, none⟩), .int .i64 bs, .slice (some ⟨nb, 0, none⟩) ns ns, .slice (some ⟨ob, 0, none⟩) ws ws] 73, pt ob ((vals os)) 22, own 3 1 (.slice av Y.length cap) Y.length (Y.map (Value.int .i64)), memO m c l s o] w) :
  Calls Tryd.prog 30 #[.pointer (some ⟨p, 0, none⟩)] w fun e w' => ∃ op, e = .returned (.tuple #[]) ∧ Mem w (feet [pt p #[.pointer (some ⟨q, 0, none⟩), .int .i64 wr, .bool true, .int .i64 sl, .int .i64 2, .int .i64 tp, .int .i64 nx] 76, pt q #[.pointer (some ⟨m, 0, none⟩), .int .i64 bs, .slice (some ⟨nb, 0, none⟩) ns ns, .slice (some ⟨ob, 0, none⟩) ws ws] 73, pt ob ((vals os)) 22, own 3 1 (.slice av Y.length cap) Y.length (Y.map (Value.int .i64)), memO m c l s o]) [pt p #[.pointer (some ⟨q, 0, none⟩), .int .i64 wr, .bool true, .int .i64 sl, .int .i64 3, .int .i64 tp, .int .i64 nx] 76, pt q #[.pointer (some ⟨m, 0, none⟩), .int .i64 bs, .slice (some ⟨nb, 0, none⟩) ns ns, .slice (some ⟨ob, 0, none⟩) ws ws] 73, pt ob ((vals os)) 22, own 3 1 (.slice av Y.length cap) Y.length (Y.map (Value.int .i64)), memO m c ((l.set bs.toNat (packI (tp / 4294967296 % 1073741824 + 1) sl))) (s + 1) op] w' := by
 refine Calls.of_ends (vs := [.pointer (some ⟨p, 0, none⟩)]) Tryd.func30 rfl Tryd.ntmps30 rfl ?_
 intro a hA
 replace hA : St 68 [(0, _)] a := hA
 refine Ends.seq (Ends.region ?_)
 refine S.val hA (R.move rfl) rfl ?_; clear hA a; intro a hA
 refine S.val hA (R.nilCheck rfl) rfl ?_; clear hA a; intro a hA
 refine S.val hA (R.fieldAddr (q := 6) fi76_6 rfl rfl rfl) rfl ?_; clear hA a; intro a hA
 refine S.val hA (R.load sz3 rfl (hM.cell (k := 0) rfl rfl)) rfl ?_; clear hA a; intro a hA
 refine S.val hA (R.assign rfl) rfl ?_; clear hA a; intro a hA
 refine S.done ?_
 replace hA : St 68 [(0, _), (2, _)] a := hA.sub ((.cons rfl (.cons rfl .nil)))
 refine Ends.seq (Ends.seq (Ends.region ?_))
 refine S.val hA (R.move rfl) rfl ?_; clear hA a; intro a hA
 refine S.val hA (R.nilCheck rfl) rfl ?_; clear hA a; intro a hA
 refine S.val hA (R.fieldAddr (q := 2) fi76_2 rfl rfl rfl) rfl ?_; clear hA a; intro a hA
 refine S.val hA (R.load sz4 rfl (hM.cell (k := 0) rfl rfl)) rfl ?_; clear hA a; intro a hA
 refine S.done ?_
 refine Ends.condT hA rfl ?_
 refine Ends.region ?_
 refine S.val hA (R.move rfl) rfl ?_; clear hA a; intro a hA
 refine S.val hA (R.nilCheck rfl) rfl ?_; clear hA a; intro a hA
 refine S.val hA (R.fieldAddr (q := 3) fi76_3 rfl rfl rfl) rfl ?_; clear hA a; intro a hA
 refine S.val hA (R.load sz3 rfl (hM.cell (k := 0) rfl rfl)) rfl ?_; clear hA a; intro a hA
 refine S.val hA (R.assign rfl) rfl ?_; clear hA a; intro a hA
 refine S.done ?_
 replace hA : St 68 [(0, _), (2, _)] a := hA.sub ((.cons rfl (.cons rfl .nil)))
 refine Ends.seq ?_
 refine Ends.drawn (Mem w (feet [pt p #[.pointer (some ⟨q, 0, none⟩), .int .i64 wr, .bool true, .int .i64 sl, .int .i64 2, .int .i64 tp, .int .i64 nx] 76, pt q #[.pointer (some ⟨m, 0, none⟩), .int .i64 bs, .slice (some ⟨nb, 0, none⟩) ns ns, .slice (some ⟨ob, 0, none⟩) ws ws] 73, pt ob ((vals os)) 22, own 3 1 (.slice av Y.length cap) Y.length (Y.map (Value.int .i64)), memO m c l s o]) [pt p #[.pointer (some ⟨q, 0, none⟩), .int .i64 wr, .bool true, .int .i64 sl, .int .i64 2, .int .i64 tp, .int .i64 nx] 76, pt q #[.pointer (some ⟨m, 0, none⟩), .int .i64 bs, .slice (some ⟨nb, 0, none⟩) ns ns, .slice (some ⟨ob, 0, none⟩) ws ws] 73, pt ob ((vals os)) 22, own 3 1 (.slice av Y.length cap) Y.length (Y.map (Value.int .i64))]) (.cons (0, true) (.cons (1, true) (.cons (2, true) (.cons (3, true) (.cons (4, true) (.cons (5, true) (.cons (6, true) (.cons (7, true) (.cons (8, true) (.cons (9, true) (.cons (10, true) (.cons (11, true) (.cons (12, true) (.cons (13, true) (.cons (14, true) (.cons (15, true) (.cons (16, true) (.cons (17, true) (.cons (18, true) (.cons (19, true) (.cons (20, true) (.cons (21, true) (.cons (22, true) (.cons (23, false) (.cons (24, false) (.cons (25, true) (.cons (26, true) (.cons (27, true) (.cons (28, true) (.cons (29, true) .nil)))))))))))))))))))))))))))))) 30 mixed (by kernel_rfl) (by kernel_rfl) (by kernel_rfl) (hM.drop 4).drew ?_
 replace hM := hM.drew
 refine D.valF hA rfl (fun _ => R.move rfl) rfl ?_; clear hA a; intro a hA
 refine D.valF hA rfl (fun _ => R.nilCheck rfl) rfl ?_; clear hA a; intro a hA
 refine D.valF hA rfl (fun _ => R.fieldAddr (q := 0) fi76_0 rfl rfl rfl) rfl ?_; clear hA a; intro a hA
 refine D.val hA rfl (by kernel_rfl) (fun _ hM => R.load sz46 rfl (hM.cell (k := 0) rfl rfl)) rfl ?_; clear hA a; intro a hA
 refine D.valF hA rfl (fun _ => R.nilCheck rfl) rfl ?_; clear hA a; intro a hA
 refine D.valF hA rfl (fun _ => R.fieldAddr (q := 0) fi73_0 rfl rfl rfl) rfl ?_; clear hA a; intro a hA
 refine D.val hA rfl (by kernel_rfl) (fun _ hM => R.load sz42 rfl (hM.cell (k := 1) rfl rfl)) rfl ?_; clear hA a; intro a hA
 refine D.valF hA rfl (fun _ => R.move rfl) rfl ?_; clear hA a; intro a hA
 refine D.valF hA rfl (fun _ => R.nilCheck rfl) rfl ?_; clear hA a; intro a hA
 refine D.valF hA rfl (fun _ => R.fieldAddr (q := 0) fi76_0 rfl rfl rfl) rfl ?_; clear hA a; intro a hA
 refine D.val hA rfl (by kernel_rfl) (fun _ hM => R.load sz46 rfl (hM.cell (k := 0) rfl rfl)) rfl ?_; clear hA a; intro a hA
 refine D.valF hA rfl (fun _ => R.nilCheck rfl) rfl ?_; clear hA a; intro a hA
 refine D.valF hA rfl (fun _ => R.fieldAddr (q := 1) fi73_1 rfl rfl rfl) rfl ?_; clear hA a; intro a hA
 refine D.val hA rfl (by kernel_rfl) (fun _ hM => R.load sz3 rfl (hM.cell (k := 1) rfl rfl)) rfl ?_; clear hA a; intro a hA
 refine D.valF hA rfl (fun _ => R.move rfl) rfl ?_; clear hA a; intro a hA
 refine D.valF hA rfl (fun _ => R.nilCheck rfl) rfl ?_; clear hA a; intro a hA
 refine D.valF hA rfl (fun _ => R.fieldAddr (q := 5) fi76_5 rfl rfl rfl) rfl ?_; clear hA a; intro a hA
 refine D.val hA rfl (by kernel_rfl) (fun _ hM => R.load sz3 rfl (hM.cell (k := 0) rfl rfl)) rfl ?_; clear hA a; intro a hA
 refine D.valF hA rfl (fun _ => R.move rfl) rfl ?_; clear hA a; intro a hA
 refine D.valF hA rfl (fun _ => R.nilCheck rfl) rfl ?_; clear hA a; intro a hA
 refine D.valF hA rfl (fun _ => R.fieldAddr (q := 5) fi76_5 rfl rfl rfl) rfl ?_; clear hA a; intro a hA
 refine D.val hA rfl (by kernel_rfl) (fun _ hM => R.load sz3 rfl (hM.cell (k := 0) rfl rfl)) rfl ?_; clear hA a; intro a hA
 refine D.valF hA rfl (fun _ => R.move rfl) rfl ?_; clear hA a; intro a hA
 refine D.call hA rfl (R.callF Tryd.func41 rfl rfl rfl) rfl (up_any tp sl (by omega) (by omega) _) ?_; clear hA a
 rintro e w1 ⟨rfl, rfl⟩
 refine ⟨.int .i64 (packI (tp / 4294967296 % 1073741824 + 1) sl), rfl, (hM.drop 4), fun a hA => ?_⟩
 refine D.call hA rfl (R.callF Tryd.func40 rfl rfl rfl) rfl (cas_hit m c l s o hmc bs tp (packI (tp / 4294967296 % 1073741824 + 1) sl) (by omega) (by first | omega | (simp; omega)) (by omega) hh _ (hM.mem (k := 4) rfl)) ?_; clear hA a
 rintro e w2 ⟨rfl, hn⟩
 replace hM : Mem _ _ [memO m c ((l.set bs.toNat (packI (tp / 4294967296 % 1073741824 + 1) sl))) (s + 1) ⟨3, bs, l.getD bs.toNat 0, packI (tp / 4294967296 % 1073741824 + 1) sl, true⟩, pt p #[.pointer (some ⟨q, 0, none⟩), .int .i64 wr, .bool true, .int .i64 sl, .int .i64 2, .int .i64 tp, .int .i64 nx] 76, pt q #[.pointer (some ⟨m, 0, none⟩), .int .i64 bs, .slice (some ⟨nb, 0, none⟩) ns ns, .slice (some ⟨ob, 0, none⟩) ws ws] 73, pt ob ((vals os)) 22, own 3 1 (.slice av Y.length cap) Y.length (Y.map (Value.int .i64))] _ := hM.callW (k := 4) rfl hn (fun _ h => h); clear hn
 refine ⟨.tuple #[.bool true, .int .i64 0], rfl, (hM.drop 0), fun a hA => ?_⟩
 refine D.valF hA rfl (fun _ => R.move rfl) rfl ?_; clear hA a; intro a hA
 refine D.valF hA rfl (fun _ => R.extract (v := .bool true) rfl rfl) rfl ?_; clear hA a; intro a hA
 refine D.valF hA rfl (fun _ => R.extract (v := .int .i64 0) rfl rfl) rfl ?_; clear hA a; intro a hA
 refine D.valF hA rfl (fun _ => R.assign rfl) rfl ?_; clear hA a; intro a hA
 refine D.valF hA rfl (fun _ => R.assign rfl) rfl ?_; clear hA a; intro a hA
 refine D.done ?_
 replace hA : St 68 [(0, _), (3, _)] a := hA.sub ((.cons rfl (.cons rfl .nil)))
 refine Ends.seq (Ends.region ?_)
 refine S.val hA (R.move rfl) rfl ?_; clear hA a; intro a hA
 refine S.val hA (R.nilCheck rfl) rfl ?_; clear hA a; intro a hA
 refine S.val hA (R.fieldAddr (q := 4) fi76_4 rfl rfl rfl) rfl ?_; clear hA a; intro a hA
 refine S.store (k := 1) hA hM sz74 rfl rfl rfl rfl rfl ?_; clear hM
 intro w3 hM
 replace hM : Mem _ _ [memO m c ((l.set bs.toNat (packI (tp / 4294967296 % 1073741824 + 1) sl))) (s + 1) ⟨3, bs, l.getD bs.toNat 0, packI (tp / 4294967296 % 1073741824 + 1) sl, true⟩, pt p #[.pointer (some ⟨q, 0, none⟩), .int .i64 wr, .bool true, .int .i64 sl, .int .i64 0, .int .i64 tp, .int .i64 nx] 76, pt q #[.pointer (some ⟨m, 0, none⟩), .int .i64 bs, .slice (some ⟨nb, 0, none⟩) ns ns, .slice (some ⟨ob, 0, none⟩) ws ws] 73, pt ob ((vals os)) 22, own 3 1 (.slice av Y.length cap) Y.length (Y.map (Value.int .i64))] _ := hM
 refine S.done ?_
 refine Ends.seq (Ends.region ?_)
 refine S.val hA (R.move rfl) rfl ?_; clear hA a; intro a hA
 refine S.done ?_
 replace hA : St 68 [(0, _), (48, _)] a := hA.sub ((.cons rfl (.cons rfl .nil)))
 refine Ends.condT hA rfl ?_
 refine Ends.seq (Ends.region ?_)
 refine S.val hA (R.move rfl) rfl ?_; clear hA a; intro a hA
 refine S.val hA (R.nilCheck rfl) rfl ?_; clear hA a; intro a hA
 refine S.val hA (R.fieldAddr (q := 4) fi76_4 rfl rfl rfl) rfl ?_; clear hA a; intro a hA
 refine S.store (k := 1) hA hM sz74 rfl rfl rfl rfl rfl ?_; clear hM
 intro w4 hM
 replace hM : Mem _ _ [memO m c ((l.set bs.toNat (packI (tp / 4294967296 % 1073741824 + 1) sl))) (s + 1) ⟨3, bs, l.getD bs.toNat 0, packI (tp / 4294967296 % 1073741824 + 1) sl, true⟩, pt p #[.pointer (some ⟨q, 0, none⟩), .int .i64 wr, .bool true, .int .i64 sl, .int .i64 3, .int .i64 tp, .int .i64 nx] 76, pt q #[.pointer (some ⟨m, 0, none⟩), .int .i64 bs, .slice (some ⟨nb, 0, none⟩) ns ns, .slice (some ⟨ob, 0, none⟩) ws ws] 73, pt ob ((vals os)) 22, own 3 1 (.slice av Y.length cap) Y.length (Y.map (Value.int .i64))] _ := hM
 refine S.done ?_
 replace hA : St 68 [(0, _)] a := hA.sub ((.cons rfl .nil))
 refine Ends.seq (Ends.region ?_)
 refine S.val hA (R.move rfl) rfl ?_; clear hA a; intro a hA
 refine S.val hA (R.nilCheck rfl) rfl ?_; clear hA a; intro a hA
 refine S.val hA (R.fieldAddr (q := 2) fi76_2 rfl rfl rfl) rfl ?_; clear hA a; intro a hA
 refine S.val hA (R.load sz4 rfl (hM.cell (k := 1) rfl rfl)) rfl ?_; clear hA a; intro a hA
 refine S.val hA (R.not rfl) rfl ?_; clear hA a; intro a hA
 refine S.done ?_
 replace hA : St 68 [(0, _), (56, _)] a := hA.sub ((.cons rfl (.cons rfl .nil)))
 refine Ends.condF hA rfl ?_
 refine Ends.skip ?_
 refine Ends.end0 Tryd.func30 Tryd.results30 hA ?_
 replace hM := hM.front (k := 4) rfl
 replace hM := hM.front (k := 4) rfl
 replace hM := hM.front (k := 4) rfl
 replace hM := hM.front (k := 4) rfl
 replace hM : Mem _ _ [pt p #[.pointer (some ⟨q, 0, none⟩), .int .i64 wr, .bool true, .int .i64 sl, .int .i64 3, .int .i64 tp, .int .i64 nx] 76, pt q #[.pointer (some ⟨m, 0, none⟩), .int .i64 bs, .slice (some ⟨nb, 0, none⟩) ns ns, .slice (some ⟨ob, 0, none⟩) ws ws] 73, pt ob ((vals os)) 22, own 3 1 (.slice av Y.length cap) Y.length (Y.map (Value.int .i64)), memO m c ((l.set bs.toNat (packI (tp / 4294967296 % 1073741824 + 1) sl))) (s + 1) ⟨3, bs, l.getD bs.toNat 0, packI (tp / 4294967296 % 1073741824 + 1) sl, true⟩] _ := hM
 exact ⟨_, rfl, hM.firstN 5⟩
set_option maxRecDepth 100000 in
set_option maxHeartbeats 400000 in
theorem Spf_push (p q m nb ns ob ws : Nat) (bs wr : Int) (os : List Value) (av : Option Addr) (Y : List Int) (cap : Nat) (hwr : 0 ≤ wr ∧ wr < ws) (hlen : os.length = ws) (hos : os[wr.toNat]? = some (.slice av Y.length cap)) (hY2 : Y.length ≤ 2) (c : Nat) (l : List Int) (s : Int) (o : CellOp) (hmc : m ≠ c) (hl : 0 ≤ bs ∧ bs + 1 ≤ l.length ∧ l.length ≤ 1000000) (hs : 0 ≤ s ∧ s < 9223372036854775806) (sl tp nx : Int) (htp : 0 ≤ tp ∧ tp < 4611686018427387904) (hh : l.getD bs.toNat 0 = tp) (w : World) (hM : Mem w (feet [pt p #[.pointer (some ⟨q, 0, none⟩), .int .i64 wr, .bool true, .int .i64 sl, .int .i64 2, .int .i64 tp, .int .i64 nx] 76, pt q #[.pointer (some ⟨m, 0, none⟩), .int .i64 bs, .slice (some ⟨nb, 0, none⟩) ns ns, .slice (some ⟨ob, 0, none⟩) ws ws] 73, pt ob ((vals os)) 22, own 3 1 (.slice av Y.length cap) Y.length (Y.map (Value.int .i64)), memO m c l s o]) [pt p #[.pointer (some ⟨q, 0, none⟩), .int .i64 wr, .bool true, .int .i64 sl, .int .i64 2, .int .i64 tp, .int .i64 nx] 76, pt q #[.pointer (some ⟨m, 0, none⟩), .int .i64 bs, .slice (some ⟨nb, 0, none⟩) ns ns, .slice (some ⟨ob, 0, none⟩) ws ws] 73, pt ob ((vals os)) 22, own 3 1 (.slice av Y.length cap) Y.length (Y.map (Value.int .i64)), memO m c l s o] w) :
  Calls Tryd.prog 18 #[.pointer (some ⟨p, 0, none⟩)] w fun e w' => ∃ op, e = .returned (.bool true) ∧ Mem w (feet [pt p #[.pointer (some ⟨q, 0, none⟩), .int .i64 wr, .bool true, .int .i64 sl, .int .i64 2, .int .i64 tp, .int .i64 nx] 76, pt q #[.pointer (some ⟨m, 0, none⟩), .int .i64 bs, .slice (some ⟨nb, 0, none⟩) ns ns, .slice (some ⟨ob, 0, none⟩) ws ws] 73, pt ob ((vals os)) 22, own 3 1 (.slice av Y.length cap) Y.length (Y.map (Value.int .i64)), memO m c l s o]) [pt p #[.pointer (some ⟨q, 0, none⟩), .int .i64 wr, .bool true, .int .i64 sl, .int .i64 3, .int .i64 tp, .int .i64 nx] 76, pt q #[.pointer (some ⟨m, 0, none⟩), .int .i64 bs, .slice (some ⟨nb, 0, none⟩) ns ns, .slice (some ⟨ob, 0, none⟩) ws ws] 73, pt ob ((vals os)) 22, own 3 1 (.slice av Y.length cap) Y.length (Y.map (Value.int .i64)), memO m c ((l.set bs.toNat (packI (tp / 4294967296 % 1073741824 + 1) sl))) (s + 1) op] w' := by
 refine Calls.of_ends (vs := [.pointer (some ⟨p, 0, none⟩)]) Tryd.func18 rfl Tryd.ntmps18 rfl ?_
 intro a hA
 replace hA : St 26 [(0, _)] a := hA
 refine Ends.seq (Ends.region ?_)
 refine S.val hA (R.assign rfl) rfl ?_; clear hA a; intro a hA
 refine S.done ?_
 refine Ends.seq (Ends.seq (Ends.region ?_))
 refine S.val hA (R.move rfl) rfl ?_; clear hA a; intro a hA
 refine S.val hA (R.eqlNil Tryd.underlying49 rfl rfl) rfl ?_; clear hA a; intro a hA
 refine S.done ?_
 refine Ends.condF hA rfl ?_
 refine Ends.skip (Ends.seq (Ends.seq (Ends.region ?_)))
 refine S.val hA (R.move rfl) rfl ?_; clear hA a; intro a hA
 refine S.val hA (R.nilCheck rfl) rfl ?_; clear hA a; intro a hA
 refine S.val hA (R.fieldAddr (q := 4) fi76_4 rfl rfl rfl) rfl ?_; clear hA a; intro a hA
 refine S.val hA (R.load sz74 rfl (hM.cell (k := 0) rfl rfl)) rfl ?_; clear hA a; intro a hA
 refine S.done ?_
 replace hA : St 26 [(0, _), (8, _)] a := hA.sub ((.cons rfl (.cons rfl .nil)))
 refine Ends.block (Ends.seq (Ends.region ?_))
 refine S.val hA (R.ff (R.eql rfl rfl) (by first | decide | simp | omega)) rfl ?_; clear hA a; intro a hA
 refine S.val hA (R.assign rfl) rfl ?_; clear hA a; intro a hA
 refine S.done ?_
 refine Ends.condF hA rfl ?_
 refine Ends.seq (Ends.region ?_)
 refine S.val hA (R.ff (R.eql rfl rfl) (by first | decide | simp | omega)) rfl ?_; clear hA a; intro a hA
 refine S.val hA (R.assign rfl) rfl ?_; clear hA a; intro a hA
 refine S.done ?_
 refine Ends.condF hA rfl ?_
 refine Ends.seq (Ends.region ?_)
 refine S.val hA (R.tt (R.eql rfl rfl) (by first | decide | simp | omega)) rfl ?_; clear hA a; intro a hA
 refine S.val hA (R.assign rfl) rfl ?_; clear hA a; intro a hA
 refine S.done ?_
 replace hA : St 26 [(0, _), (17, _)] a := hA.sub ((.cons rfl (.cons rfl .nil)))
 refine Ends.condT hA rfl ?_
 refine Ends.region ?_
 refine S.val hA (R.move rfl) rfl ?_; clear hA a; intro a hA
 refine S.call hA (R.callF Tryd.func30 rfl rfl rfl) rfl (pf_push p q m nb ns ob ws bs wr os av Y cap hwr hlen hos hY2 c l s o hmc hl hs sl tp nx htp hh _ (hM.hereN 5)) ?_; clear hA a
 rintro e w1 ⟨op, rfl, hn⟩
 replace hM : Mem _ _ [pt p #[.pointer (some ⟨q, 0, none⟩), .int .i64 wr, .bool true, .int .i64 sl, .int .i64 3, .int .i64 tp, .int .i64 nx] 76, pt q #[.pointer (some ⟨m, 0, none⟩), .int .i64 bs, .slice (some ⟨nb, 0, none⟩) ns ns, .slice (some ⟨ob, 0, none⟩) ws ws] 73, pt ob ((vals os)) 22, own 3 1 (.slice av Y.length cap) Y.length (Y.map (Value.int .i64)), memO m c ((l.set bs.toNat (packI (tp / 4294967296 % 1073741824 + 1) sl))) (s + 1) op] _ := hM.callL 5 hn; clear hn
 refine ⟨.tuple #[], rfl, fun a hA => ?_⟩
 refine S.done ?_
 refine Ends.inBlock (Ends.seq (Ends.region ?_))
 refine S.val hA (R.move rfl) rfl ?_; clear hA a; intro a hA
 refine S.val hA (R.nilCheck rfl) rfl ?_; clear hA a; intro a hA
 refine S.val hA (R.fieldAddr (q := 4) fi76_4 rfl rfl rfl) rfl ?_; clear hA a; intro a hA
 refine S.val hA (R.load sz74 rfl (hM.cell (k := 0) rfl rfl)) rfl ?_; clear hA a; intro a hA
 refine S.val hA (R.tt (R.eql rfl rfl) (by first | decide | simp | omega)) rfl ?_; clear hA a; intro a hA
 refine S.val hA (R.assign rfl) rfl ?_; clear hA a; intro a hA
 refine S.done ?_
 replace hA : St 26 [(2, _)] a := hA.sub ((.cons rfl .nil))
 refine Ends.ret1 Tryd.func18 Tryd.results18 hA rfl ?_
 exact ⟨_, rfl, hM.firstN 5⟩
set_option maxRecDepth 100000 in
set_option maxHeartbeats 400000 in
theorem pf_pop (p q m nb ns ob ws : Nat) (bs wr : Int) (os : List Value) (av : Option Addr) (Y : List Int) (cap : Nat) (hwr : 0 ≤ wr ∧ wr < ws) (hlen : os.length = ws) (hos : os[wr.toNat]? = some (.slice av Y.length cap)) (hY2 : Y.length ≤ 2) (c : Nat) (l : List Int) (s : Int) (o : CellOp) (hmc : m ≠ c) (hl : 0 ≤ bs ∧ bs + 1 ≤ l.length ∧ l.length ≤ 1000000) (hs : 0 ≤ s ∧ s < 9223372036854775806) (sl tp nx : Int) (htp : 0 ≤ tp ∧ tp < 4611686018427387904) (hh : l.getD bs.toNat 0 = tp) (w : World) (hM : Mem w (feet [pt p #[.pointer (some ⟨q, 0, none⟩), .int .i64 wr, .bool false, .int .i64 sl, .int .i64 2, .int .i64 tp, .int .i64 nx] 76, pt q #[.pointer (some ⟨m, 0, none⟩), .int .i64 bs, .slice (some ⟨nb, 0, none⟩) ns ns, .slice (some ⟨ob, 0, none⟩) ws ws] 73, pt ob ((vals os)) 22, own 3 1 (.slice av Y.length cap) Y.length (Y.map (Value.int .i64)), memO m c l s o]) [pt p #[.pointer (some ⟨q, 0, none⟩), .int .i64 wr, .bool false, .int .i64 sl, .int .i64 2, .int .i64 tp, .int .i64 nx] 76, pt q #[.pointer (some ⟨m, 0, none⟩), .int .i64 bs, .slice (some ⟨nb, 0, none⟩) ns ns, .slice (some ⟨ob, 0, none⟩) ws ws] 73, pt ob ((vals os)) 22, own 3 1 (.slice av Y.length cap) Y.length (Y.map (Value.int .i64)), memO m c l s o] w) :
  Calls Tryd.prog 30 #[.pointer (some ⟨p, 0, none⟩)] w fun e w' => ∃ op, e = .returned (.tuple #[]) ∧ Mem w (feet [pt p #[.pointer (some ⟨q, 0, none⟩), .int .i64 wr, .bool false, .int .i64 sl, .int .i64 2, .int .i64 tp, .int .i64 nx] 76, pt q #[.pointer (some ⟨m, 0, none⟩), .int .i64 bs, .slice (some ⟨nb, 0, none⟩) ns ns, .slice (some ⟨ob, 0, none⟩) ws ws] 73, pt ob ((vals os)) 22, own 3 1 (.slice av Y.length cap) Y.length (Y.map (Value.int .i64)), memO m c l s o]) [pt p #[.pointer (some ⟨q, 0, none⟩), .int .i64 wr, .bool false, .int .i64 (tp % 4294967296 - 1), .int .i64 3, .int .i64 tp, .int .i64 nx] 76, pt q #[.pointer (some ⟨m, 0, none⟩), .int .i64 bs, .slice (some ⟨nb, 0, none⟩) ns ns, .slice (some ⟨ob, 0, none⟩) ws ws] 73, pt ob ((vals os)) 22, own 3 1 (.slice av Y.length cap) Y.length (Y.map (Value.int .i64)), memO m c ((l.set bs.toNat (packI (tp / 4294967296 % 1073741824 + 1) nx))) (s + 1) op] w' := by
 refine Calls.of_ends (vs := [.pointer (some ⟨p, 0, none⟩)]) Tryd.func30 rfl Tryd.ntmps30 rfl ?_
 intro a hA
 replace hA : St 68 [(0, _)] a := hA
 refine Ends.seq (Ends.region ?_)
 refine S.val hA (R.move rfl) rfl ?_; clear hA a; intro a hA
 refine S.val hA (R.nilCheck rfl) rfl ?_; clear hA a; intro a hA
 refine S.val hA (R.fieldAddr (q := 6) fi76_6 rfl rfl rfl) rfl ?_; clear hA a; intro a hA
 refine S.val hA (R.load sz3 rfl (hM.cell (k := 0) rfl rfl)) rfl ?_; clear hA a; intro a hA
 refine S.val hA (R.assign rfl) rfl ?_; clear hA a; intro a hA
 refine S.done ?_
 replace hA : St 68 [(0, _), (2, _)] a := hA.sub ((.cons rfl (.cons rfl .nil)))
 refine Ends.seq (Ends.seq (Ends.region ?_))
 refine S.val hA (R.move rfl) rfl ?_; clear hA a; intro a hA
 refine S.val hA (R.nilCheck rfl) rfl ?_; clear hA a; intro a hA
 refine S.val hA (R.fieldAddr (q := 2) fi76_2 rfl rfl rfl) rfl ?_; clear hA a; intro a hA
 refine S.val hA (R.load sz4 rfl (hM.cell (k := 0) rfl rfl)) rfl ?_; clear hA a; intro a hA
 refine S.done ?_
 refine Ends.condF hA rfl ?_
 refine Ends.skip (Ends.seq ?_)
 refine Ends.drawn (Mem w (feet [pt p #[.pointer (some ⟨q, 0, none⟩), .int .i64 wr, .bool false, .int .i64 sl, .int .i64 2, .int .i64 tp, .int .i64 nx] 76, pt q #[.pointer (some ⟨m, 0, none⟩), .int .i64 bs, .slice (some ⟨nb, 0, none⟩) ns ns, .slice (some ⟨ob, 0, none⟩) ws ws] 73, pt ob ((vals os)) 22, own 3 1 (.slice av Y.length cap) Y.length (Y.map (Value.int .i64)), memO m c l s o]) [pt p #[.pointer (some ⟨q, 0, none⟩), .int .i64 wr, .bool false, .int .i64 sl, .int .i64 2, .int .i64 tp, .int .i64 nx] 76, pt q #[.pointer (some ⟨m, 0, none⟩), .int .i64 bs, .slice (some ⟨nb, 0, none⟩) ns ns, .slice (some ⟨ob, 0, none⟩) ws ws] 73, pt ob ((vals os)) 22, own 3 1 (.slice av Y.length cap) Y.length (Y.map (Value.int .i64))]) (.cons (0, true) (.cons (1, true) (.cons (2, true) (.cons (3, true) (.cons (4, true) (.cons (5, true) (.cons (6, true) (.cons (7, true) (.cons (8, true) (.cons (9, true) (.cons (10, true) (.cons (11, true) (.cons (12, true) (.cons (13, true) (.cons (14, true) (.cons (15, true) (.cons (16, true) (.cons (17, true) (.cons (18, true) (.cons (19, true) (.cons (20, true) (.cons (21, true) (.cons (22, true) (.cons (23, false) (.cons (24, false) (.cons (25, true) (.cons (26, true) (.cons (27, true) (.cons (28, true) (.cons (29, true) .nil)))))))))))))))))))))))))))))) 30 mixed (by kernel_rfl) (by kernel_rfl) (by kernel_rfl) (hM.drop 4).drew ?_
 replace hM := hM.drew
 refine D.valF hA rfl (fun _ => R.move rfl) rfl ?_; clear hA a; intro a hA
 refine D.valF hA rfl (fun _ => R.nilCheck rfl) rfl ?_; clear hA a; intro a hA
 refine D.valF hA rfl (fun _ => R.fieldAddr (q := 0) fi76_0 rfl rfl rfl) rfl ?_; clear hA a; intro a hA
 refine D.val hA rfl (by kernel_rfl) (fun _ hM => R.load sz46 rfl (hM.cell (k := 0) rfl rfl)) rfl ?_; clear hA a; intro a hA
 refine D.valF hA rfl (fun _ => R.nilCheck rfl) rfl ?_; clear hA a; intro a hA
 refine D.valF hA rfl (fun _ => R.fieldAddr (q := 0) fi73_0 rfl rfl rfl) rfl ?_; clear hA a; intro a hA
 refine D.val hA rfl (by kernel_rfl) (fun _ hM => R.load sz42 rfl (hM.cell (k := 1) rfl rfl)) rfl ?_; clear hA a; intro a hA
 refine D.valF hA rfl (fun _ => R.move rfl) rfl ?_; clear hA a; intro a hA
 refine D.valF hA rfl (fun _ => R.nilCheck rfl) rfl ?_; clear hA a; intro a hA
 refine D.valF hA rfl (fun _ => R.fieldAddr (q := 0) fi76_0 rfl rfl rfl) rfl ?_; clear hA a; intro a hA
 refine D.val hA rfl (by kernel_rfl) (fun _ hM => R.load sz46 rfl (hM.cell (k := 0) rfl rfl)) rfl ?_; clear hA a; intro a hA
 refine D.valF hA rfl (fun _ => R.nilCheck rfl) rfl ?_; clear hA a; intro a hA
 refine D.valF hA rfl (fun _ => R.fieldAddr (q := 1) fi73_1 rfl rfl rfl) rfl ?_; clear hA a; intro a hA
 refine D.val hA rfl (by kernel_rfl) (fun _ hM => R.load sz3 rfl (hM.cell (k := 1) rfl rfl)) rfl ?_; clear hA a; intro a hA
 refine D.valF hA rfl (fun _ => R.move rfl) rfl ?_; clear hA a; intro a hA
 refine D.valF hA rfl (fun _ => R.nilCheck rfl) rfl ?_; clear hA a; intro a hA
 refine D.valF hA rfl (fun _ => R.fieldAddr (q := 5) fi76_5 rfl rfl rfl) rfl ?_; clear hA a; intro a hA
 refine D.val hA rfl (by kernel_rfl) (fun _ hM => R.load sz3 rfl (hM.cell (k := 0) rfl rfl)) rfl ?_; clear hA a; intro a hA
 refine D.valF hA rfl (fun _ => R.move rfl) rfl ?_; clear hA a; intro a hA
 refine D.valF hA rfl (fun _ => R.nilCheck rfl) rfl ?_; clear hA a; intro a hA
 refine D.valF hA rfl (fun _ => R.fieldAddr (q := 5) fi76_5 rfl rfl rfl) rfl ?_; clear hA a; intro a hA
 refine D.val hA rfl (by kernel_rfl) (fun _ hM => R.load sz3 rfl (hM.cell (k := 0) rfl rfl)) rfl ?_; clear hA a; intro a hA
 refine D.valF hA rfl (fun _ => R.move rfl) rfl ?_; clear hA a; intro a hA
 refine D.call hA rfl (R.callF Tryd.func41 rfl rfl rfl) rfl (up_any tp nx (by omega) (by omega) _) ?_; clear hA a
 rintro e w1 ⟨rfl, rfl⟩
 refine ⟨.int .i64 (packI (tp / 4294967296 % 1073741824 + 1) nx), rfl, (hM.drop 4), fun a hA => ?_⟩
 refine D.call hA rfl (R.callF Tryd.func40 rfl rfl rfl) rfl (cas_hit m c l s o hmc bs tp (packI (tp / 4294967296 % 1073741824 + 1) nx) (by omega) (by first | omega | (simp; omega)) (by omega) hh _ (hM.mem (k := 4) rfl)) ?_; clear hA a
 rintro e w2 ⟨rfl, hn⟩
 replace hM : Mem _ _ [memO m c ((l.set bs.toNat (packI (tp / 4294967296 % 1073741824 + 1) nx))) (s + 1) ⟨3, bs, l.getD bs.toNat 0, packI (tp / 4294967296 % 1073741824 + 1) nx, true⟩, pt p #[.pointer (some ⟨q, 0, none⟩), .int .i64 wr, .bool false, .int .i64 sl, .int .i64 2, .int .i64 tp, .int .i64 nx] 76, pt q #[.pointer (some ⟨m, 0, none⟩), .int .i64 bs, .slice (some ⟨nb, 0, none⟩) ns ns, .slice (some ⟨ob, 0, none⟩) ws ws] 73, pt ob ((vals os)) 22, own 3 1 (.slice av Y.length cap) Y.length (Y.map (Value.int .i64))] _ := hM.callW (k := 4) rfl hn (fun _ h => h); clear hn
 refine ⟨.tuple #[.bool true, .int .i64 0], rfl, (hM.drop 0), fun a hA => ?_⟩
 refine D.valF hA rfl (fun _ => R.move rfl) rfl ?_; clear hA a; intro a hA
 refine D.valF hA rfl (fun _ => R.extract (v := .bool true) rfl rfl) rfl ?_; clear hA a; intro a hA
 refine D.valF hA rfl (fun _ => R.extract (v := .int .i64 0) rfl rfl) rfl ?_; clear hA a; intro a hA
 refine D.valF hA rfl (fun _ => R.assign rfl) rfl ?_; clear hA a; intro a hA
 refine D.valF hA rfl (fun _ => R.assign rfl) rfl ?_; clear hA a; intro a hA
 refine D.done ?_
 replace hA : St 68 [(0, _), (3, _)] a := hA.sub ((.cons rfl (.cons rfl .nil)))
 refine Ends.seq (Ends.region ?_)
 refine S.val hA (R.move rfl) rfl ?_; clear hA a; intro a hA
 refine S.val hA (R.nilCheck rfl) rfl ?_; clear hA a; intro a hA
 refine S.val hA (R.fieldAddr (q := 4) fi76_4 rfl rfl rfl) rfl ?_; clear hA a; intro a hA
 refine S.store (k := 1) hA hM sz74 rfl rfl rfl rfl rfl ?_; clear hM
 intro w3 hM
 replace hM : Mem _ _ [memO m c ((l.set bs.toNat (packI (tp / 4294967296 % 1073741824 + 1) nx))) (s + 1) ⟨3, bs, l.getD bs.toNat 0, packI (tp / 4294967296 % 1073741824 + 1) nx, true⟩, pt p #[.pointer (some ⟨q, 0, none⟩), .int .i64 wr, .bool false, .int .i64 sl, .int .i64 0, .int .i64 tp, .int .i64 nx] 76, pt q #[.pointer (some ⟨m, 0, none⟩), .int .i64 bs, .slice (some ⟨nb, 0, none⟩) ns ns, .slice (some ⟨ob, 0, none⟩) ws ws] 73, pt ob ((vals os)) 22, own 3 1 (.slice av Y.length cap) Y.length (Y.map (Value.int .i64))] _ := hM
 refine S.done ?_
 refine Ends.seq (Ends.region ?_)
 refine S.val hA (R.move rfl) rfl ?_; clear hA a; intro a hA
 refine S.done ?_
 replace hA : St 68 [(0, _), (48, _)] a := hA.sub ((.cons rfl (.cons rfl .nil)))
 refine Ends.condT hA rfl ?_
 refine Ends.seq (Ends.region ?_)
 refine S.val hA (R.move rfl) rfl ?_; clear hA a; intro a hA
 refine S.val hA (R.nilCheck rfl) rfl ?_; clear hA a; intro a hA
 refine S.val hA (R.fieldAddr (q := 4) fi76_4 rfl rfl rfl) rfl ?_; clear hA a; intro a hA
 refine S.store (k := 1) hA hM sz74 rfl rfl rfl rfl rfl ?_; clear hM
 intro w4 hM
 replace hM : Mem _ _ [memO m c ((l.set bs.toNat (packI (tp / 4294967296 % 1073741824 + 1) nx))) (s + 1) ⟨3, bs, l.getD bs.toNat 0, packI (tp / 4294967296 % 1073741824 + 1) nx, true⟩, pt p #[.pointer (some ⟨q, 0, none⟩), .int .i64 wr, .bool false, .int .i64 sl, .int .i64 3, .int .i64 tp, .int .i64 nx] 76, pt q #[.pointer (some ⟨m, 0, none⟩), .int .i64 bs, .slice (some ⟨nb, 0, none⟩) ns ns, .slice (some ⟨ob, 0, none⟩) ws ws] 73, pt ob ((vals os)) 22, own 3 1 (.slice av Y.length cap) Y.length (Y.map (Value.int .i64))] _ := hM
 refine S.done ?_
 replace hA : St 68 [(0, _)] a := hA.sub ((.cons rfl .nil))
 refine Ends.seq (Ends.region ?_)
 refine S.val hA (R.move rfl) rfl ?_; clear hA a; intro a hA
 refine S.val hA (R.nilCheck rfl) rfl ?_; clear hA a; intro a hA
 refine S.val hA (R.fieldAddr (q := 2) fi76_2 rfl rfl rfl) rfl ?_; clear hA a; intro a hA
 refine S.val hA (R.load sz4 rfl (hM.cell (k := 1) rfl rfl)) rfl ?_; clear hA a; intro a hA
 refine S.val hA (R.not rfl) rfl ?_; clear hA a; intro a hA
 refine S.done ?_
 replace hA : St 68 [(0, _), (56, _)] a := hA.sub ((.cons rfl (.cons rfl .nil)))
 refine Ends.condT hA rfl ?_
 refine Ends.region ?_
 refine S.val hA (R.move rfl) rfl ?_; clear hA a; intro a hA
 refine S.val hA (R.move rfl) rfl ?_; clear hA a; intro a hA
 refine S.val hA (R.nilCheck rfl) rfl ?_; clear hA a; intro a hA
 refine S.val hA (R.fieldAddr (q := 5) fi76_5 rfl rfl rfl) rfl ?_; clear hA a; intro a hA
 refine S.val hA (R.load sz3 rfl (hM.cell (k := 1) rfl rfl)) rfl ?_; clear hA a; intro a hA
 refine S.call hA (R.callF Tryd.func39 rfl rfl rfl) rfl (unpack_any tp (by omega) (by omega) _) ?_; clear hA a
 rintro e w5 ⟨rfl, rfl⟩
 refine ⟨.tuple #[.int .i64 (tp / 4294967296 % 1073741824), .int .i64 (tp % 4294967296 - 1)], rfl, fun a hA => ?_⟩
 refine S.val hA (R.move rfl) rfl ?_; clear hA a; intro a hA
 refine S.val hA (R.extract (v := .int .i64 (tp / 4294967296 % 1073741824)) rfl rfl) rfl ?_; clear hA a; intro a hA
 refine S.val hA (R.extract (v := .int .i64 (tp % 4294967296 - 1)) rfl rfl) rfl ?_; clear hA a; intro a hA
 refine S.val hA (R.nilCheck rfl) rfl ?_; clear hA a; intro a hA
 refine S.val hA (R.fieldAddr (q := 3) fi76_3 rfl rfl rfl) rfl ?_; clear hA a; intro a hA
 refine S.store (k := 1) hA hM sz3 rfl rfl rfl rfl rfl ?_; clear hM
 intro w6 hM
 replace hM : Mem _ _ [memO m c ((l.set bs.toNat (packI (tp / 4294967296 % 1073741824 + 1) nx))) (s + 1) ⟨3, bs, l.getD bs.toNat 0, packI (tp / 4294967296 % 1073741824 + 1) nx, true⟩, pt p #[.pointer (some ⟨q, 0, none⟩), .int .i64 wr, .bool false, .int .i64 (tp % 4294967296 - 1), .int .i64 3, .int .i64 tp, .int .i64 nx] 76, pt q #[.pointer (some ⟨m, 0, none⟩), .int .i64 bs, .slice (some ⟨nb, 0, none⟩) ns ns, .slice (some ⟨ob, 0, none⟩) ws ws] 73, pt ob ((vals os)) 22, own 3 1 (.slice av Y.length cap) Y.length (Y.map (Value.int .i64))] _ := hM
 refine S.done ?_
 replace hA : St 68 [] a := hA.sub (.nil)
 refine Ends.end0 Tryd.func30 Tryd.results30 hA ?_
 replace hM := hM.front (k := 4) rfl
 replace hM := hM.front (k := 4) rfl
 replace hM := hM.front (k := 4) rfl
 replace hM := hM.front (k := 4) rfl
 replace hM : Mem _ _ [pt p #[.pointer (some ⟨q, 0, none⟩), .int .i64 wr, .bool false, .int .i64 (tp % 4294967296 - 1), .int .i64 3, .int .i64 tp, .int .i64 nx] 76, pt q #[.pointer (some ⟨m, 0, none⟩), .int .i64 bs, .slice (some ⟨nb, 0, none⟩) ns ns, .slice (some ⟨ob, 0, none⟩) ws ws] 73, pt ob ((vals os)) 22, own 3 1 (.slice av Y.length cap) Y.length (Y.map (Value.int .i64)), memO m c ((l.set bs.toNat (packI (tp / 4294967296 % 1073741824 + 1) nx))) (s + 1) ⟨3, bs, l.getD bs.toNat 0, packI (tp / 4294967296 % 1073741824 + 1) nx, true⟩] _ := hM
 exact ⟨_, rfl, hM.firstN 5⟩
set_option maxRecDepth 100000 in
set_option maxHeartbeats 400000 in
theorem Spf_pop (p q m nb ns ob ws : Nat) (bs wr : Int) (os : List Value) (av : Option Addr) (Y : List Int) (cap : Nat) (hwr : 0 ≤ wr ∧ wr < ws) (hlen : os.length = ws) (hos : os[wr.toNat]? = some (.slice av Y.length cap)) (hY2 : Y.length ≤ 2) (c : Nat) (l : List Int) (s : Int) (o : CellOp) (hmc : m ≠ c) (hl : 0 ≤ bs ∧ bs + 1 ≤ l.length ∧ l.length ≤ 1000000) (hs : 0 ≤ s ∧ s < 9223372036854775806) (sl tp nx : Int) (htp : 0 ≤ tp ∧ tp < 4611686018427387904) (hh : l.getD bs.toNat 0 = tp) (w : World) (hM : Mem w (feet [pt p #[.pointer (some ⟨q, 0, none⟩), .int .i64 wr, .bool false, .int .i64 sl, .int .i64 2, .int .i64 tp, .int .i64 nx] 76, pt q #[.pointer (some ⟨m, 0, none⟩), .int .i64 bs, .slice (some ⟨nb, 0, none⟩) ns ns, .slice (some ⟨ob, 0, none⟩) ws ws] 73, pt ob ((vals os)) 22, own 3 1 (.slice av Y.length cap) Y.length (Y.map (Value.int .i64)), memO m c l s o]) [pt p #[.pointer (some ⟨q, 0, none⟩), .int .i64 wr, .bool false, .int .i64 sl, .int .i64 2, .int .i64 tp, .int .i64 nx] 76, pt q #[.pointer (some ⟨m, 0, none⟩), .int .i64 bs, .slice (some ⟨nb, 0, none⟩) ns ns, .slice (some ⟨ob, 0, none⟩) ws ws] 73, pt ob ((vals os)) 22, own 3 1 (.slice av Y.length cap) Y.length (Y.map (Value.int .i64)), memO m c l s o] w) :
  Calls Tryd.prog 18 #[.pointer (some ⟨p, 0, none⟩)] w fun e w' => ∃ op, e = .returned (.bool true) ∧ Mem w (feet [pt p #[.pointer (some ⟨q, 0, none⟩), .int .i64 wr, .bool false, .int .i64 sl, .int .i64 2, .int .i64 tp, .int .i64 nx] 76, pt q #[.pointer (some ⟨m, 0, none⟩), .int .i64 bs, .slice (some ⟨nb, 0, none⟩) ns ns, .slice (some ⟨ob, 0, none⟩) ws ws] 73, pt ob ((vals os)) 22, own 3 1 (.slice av Y.length cap) Y.length (Y.map (Value.int .i64)), memO m c l s o]) [pt p #[.pointer (some ⟨q, 0, none⟩), .int .i64 wr, .bool false, .int .i64 (tp % 4294967296 - 1), .int .i64 3, .int .i64 tp, .int .i64 nx] 76, pt q #[.pointer (some ⟨m, 0, none⟩), .int .i64 bs, .slice (some ⟨nb, 0, none⟩) ns ns, .slice (some ⟨ob, 0, none⟩) ws ws] 73, pt ob ((vals os)) 22, own 3 1 (.slice av Y.length cap) Y.length (Y.map (Value.int .i64)), memO m c ((l.set bs.toNat (packI (tp / 4294967296 % 1073741824 + 1) nx))) (s + 1) op] w' := by
 refine Calls.of_ends (vs := [.pointer (some ⟨p, 0, none⟩)]) Tryd.func18 rfl Tryd.ntmps18 rfl ?_
 intro a hA
 replace hA : St 26 [(0, _)] a := hA
 refine Ends.seq (Ends.region ?_)
 refine S.val hA (R.assign rfl) rfl ?_; clear hA a; intro a hA
 refine S.done ?_
 refine Ends.seq (Ends.seq (Ends.region ?_))
 refine S.val hA (R.move rfl) rfl ?_; clear hA a; intro a hA
 refine S.val hA (R.eqlNil Tryd.underlying49 rfl rfl) rfl ?_; clear hA a; intro a hA
 refine S.done ?_
 refine Ends.condF hA rfl ?_
 refine Ends.skip (Ends.seq (Ends.seq (Ends.region ?_)))
 refine S.val hA (R.move rfl) rfl ?_; clear hA a; intro a hA
 refine S.val hA (R.nilCheck rfl) rfl ?_; clear hA a; intro a hA
 refine S.val hA (R.fieldAddr (q := 4) fi76_4 rfl rfl rfl) rfl ?_; clear hA a; intro a hA
 refine S.val hA (R.load sz74 rfl (hM.cell (k := 0) rfl rfl)) rfl ?_; clear hA a; intro a hA
 refine S.done ?_
 replace hA : St 26 [(0, _), (8, _)] a := hA.sub ((.cons rfl (.cons rfl .nil)))
 refine Ends.block (Ends.seq (Ends.region ?_))
 refine S.val hA (R.ff (R.eql rfl rfl) (by first | decide | simp | omega)) rfl ?_; clear hA a; intro a hA
 refine S.val hA (R.assign rfl) rfl ?_; clear hA a; intro a hA
 refine S.done ?_
 refine Ends.condF hA rfl ?_
 refine Ends.seq (Ends.region ?_)
 refine S.val hA (R.ff (R.eql rfl rfl) (by first | decide | simp | omega)) rfl ?_; clear hA a; intro a hA
 refine S.val hA (R.assign rfl) rfl ?_; clear hA a; intro a hA
 refine S.done ?_
 refine Ends.condF hA rfl ?_
 refine Ends.seq (Ends.region ?_)
 refine S.val hA (R.tt (R.eql rfl rfl) (by first | decide | simp | omega)) rfl ?_; clear hA a; intro a hA
 refine S.val hA (R.assign rfl) rfl ?_; clear hA a; intro a hA
 refine S.done ?_
 replace hA : St 26 [(0, _), (17, _)] a := hA.sub ((.cons rfl (.cons rfl .nil)))
 refine Ends.condT hA rfl ?_
 refine Ends.region ?_
 refine S.val hA (R.move rfl) rfl ?_; clear hA a; intro a hA
 refine S.call hA (R.callF Tryd.func30 rfl rfl rfl) rfl (pf_pop p q m nb ns ob ws bs wr os av Y cap hwr hlen hos hY2 c l s o hmc hl hs sl tp nx htp hh _ (hM.hereN 5)) ?_; clear hA a
 rintro e w1 ⟨op, rfl, hn⟩
 replace hM : Mem _ _ [pt p #[.pointer (some ⟨q, 0, none⟩), .int .i64 wr, .bool false, .int .i64 (tp % 4294967296 - 1), .int .i64 3, .int .i64 tp, .int .i64 nx] 76, pt q #[.pointer (some ⟨m, 0, none⟩), .int .i64 bs, .slice (some ⟨nb, 0, none⟩) ns ns, .slice (some ⟨ob, 0, none⟩) ws ws] 73, pt ob ((vals os)) 22, own 3 1 (.slice av Y.length cap) Y.length (Y.map (Value.int .i64)), memO m c ((l.set bs.toNat (packI (tp / 4294967296 % 1073741824 + 1) nx))) (s + 1) op] _ := hM.callL 5 hn; clear hn
 refine ⟨.tuple #[], rfl, fun a hA => ?_⟩
 refine S.done ?_
 refine Ends.inBlock (Ends.seq (Ends.region ?_))
 refine S.val hA (R.move rfl) rfl ?_; clear hA a; intro a hA
 refine S.val hA (R.nilCheck rfl) rfl ?_; clear hA a; intro a hA
 refine S.val hA (R.fieldAddr (q := 4) fi76_4 rfl rfl rfl) rfl ?_; clear hA a; intro a hA
 refine S.val hA (R.load sz74 rfl (hM.cell (k := 0) rfl rfl)) rfl ?_; clear hA a; intro a hA
 refine S.val hA (R.tt (R.eql rfl rfl) (by first | decide | simp | omega)) rfl ?_; clear hA a; intro a hA
 refine S.val hA (R.assign rfl) rfl ?_; clear hA a; intro a hA
 refine S.done ?_
 replace hA : St 26 [(2, _)] a := hA.sub ((.cons rfl .nil))
 refine Ends.ret1 Tryd.func18 Tryd.results18 hA rfl ?_
 exact ⟨_, rfl, hM.firstN 5⟩
set_option maxRecDepth 100000 in
set_option maxHeartbeats 400000 in
theorem pf_misst (p q m nb ns ob ws : Nat) (bs wr : Int) (os : List Value) (av : Option Addr) (Y : List Int) (cap : Nat) (hwr : 0 ≤ wr ∧ wr < ws) (hlen : os.length = ws) (hos : os[wr.toNat]? = some (.slice av Y.length cap)) (hY2 : Y.length ≤ 2) (c : Nat) (l : List Int) (s : Int) (o : CellOp) (hmc : m ≠ c) (hl : 0 ≤ bs ∧ bs + 1 ≤ l.length ∧ l.length ≤ 1000000) (hs : 0 ≤ s ∧ s < 9223372036854775806) (sl tp nx : Int) (htp : 0 ≤ tp ∧ tp < 4611686018427387904) (hh : l.getD bs.toNat 0 ≠ tp) (w : World) (hM : Mem w (feet [pt p #[.pointer (some ⟨q, 0, none⟩), .int .i64 wr, .bool true, .int .i64 sl, .int .i64 2, .int .i64 tp, .int .i64 nx] 76, pt q #[.pointer (some ⟨m, 0, none⟩), .int .i64 bs, .slice (some ⟨nb, 0, none⟩) ns ns, .slice (some ⟨ob, 0, none⟩) ws ws] 73, pt ob ((vals os)) 22, own 3 1 (.slice av Y.length cap) Y.length (Y.map (Value.int .i64)), memO m c l s o]) [pt p #[.pointer (some ⟨q, 0, none⟩), .int .i64 wr, .bool true, .int .i64 sl, .int .i64 2, .int .i64 tp, .int .i64 nx] 76, pt q #[.pointer (some ⟨m, 0, none⟩), .int .i64 bs, .slice (some ⟨nb, 0, none⟩) ns ns, .slice (some ⟨ob, 0, none⟩) ws ws] 73, pt ob ((vals os)) 22, own 3 1 (.slice av Y.length cap) Y.length (Y.map (Value.int .i64)), memO m c l s o] w) :
  Calls Tryd.prog 30 #[.pointer (some ⟨p, 0, none⟩)] w fun e w' => ∃ op, e = .returned (.tuple #[]) ∧ Mem w (feet [pt p #[.pointer (some ⟨q, 0, none⟩), .int .i64 wr, .bool true, .int .i64 sl, .int .i64 2, .int .i64 tp, .int .i64 nx] 76, pt q #[.pointer (some ⟨m, 0, none⟩), .int .i64 bs, .slice (some ⟨nb, 0, none⟩) ns ns, .slice (some ⟨ob, 0, none⟩) ws ws] 73, pt ob ((vals os)) 22, own 3 1 (.slice av Y.length cap) Y.length (Y.map (Value.int .i64)), memO m c l s o]) [pt p #[.pointer (some ⟨q, 0, none⟩), .int .i64 wr, .bool true, .int .i64 sl, .int .i64 0, .int .i64 tp, .int .i64 nx] 76, pt q #[.pointer (some ⟨m, 0, none⟩), .int .i64 bs, .slice (some ⟨nb, 0, none⟩) ns ns, .slice (some ⟨ob, 0, none⟩) ws ws] 73, pt ob ((vals os)) 22, own 3 1 (.slice av Y.length cap) Y.length (Y.map (Value.int .i64)), memO m c l (s + 1) op] w' := by
 refine Calls.of_ends (vs := [.pointer (some ⟨p, 0, none⟩)]) Tryd.func30 rfl Tryd.ntmps30 rfl ?_
 intro a hA
 replace hA : St 68 [(0, _)] a := hA
 refine Ends.seq (Ends.region ?_)
 refine S.val hA (R.move rfl) rfl ?_; clear hA a; intro a hA
 refine S.val hA (R.nilCheck rfl) rfl ?_; clear hA a; intro a hA
 refine S.val hA (R.fieldAddr (q := 6) fi76_6 rfl rfl rfl) rfl ?_; clear hA a; intro a hA
 refine S.val hA (R.load sz3 rfl (hM.cell (k := 0) rfl rfl)) rfl ?_; clear hA a; intro a hA
 refine S.val hA (R.assign rfl) rfl ?_; clear hA a; intro a hA
 refine S.done ?_
 replace hA : St 68 [(0, _), (2, _)] a := hA.sub ((.cons rfl (.cons rfl .nil)))
 refine Ends.seq (Ends.seq (Ends.region ?_))
 refine S.val hA (R.move rfl) rfl ?_; clear hA a; intro a hA
 refine S.val hA (R.nilCheck rfl) rfl ?_; clear hA a; intro a hA
 refine S.val hA (R.fieldAddr (q := 2) fi76_2 rfl rfl rfl) rfl ?_; clear hA a; intro a hA
 refine S.val hA (R.load sz4 rfl (hM.cell (k := 0) rfl rfl)) rfl ?_; clear hA a; intro a hA
 refine S.done ?_
 refine Ends.condT hA rfl ?_
 refine Ends.region ?_
 refine S.val hA (R.move rfl) rfl ?_; clear hA a; intro a hA
 refine S.val hA (R.nilCheck rfl) rfl ?_; clear hA a; intro a hA
 refine S.val hA (R.fieldAddr (q := 3) fi76_3 rfl rfl rfl) rfl ?_; clear hA a; intro a hA
 refine S.val hA (R.load sz3 rfl (hM.cell (k := 0) rfl rfl)) rfl ?_; clear hA a; intro a hA
 refine S.val hA (R.assign rfl) rfl ?_; clear hA a; intro a hA
 refine S.done ?_
 replace hA : St 68 [(0, _), (2, _)] a := hA.sub ((.cons rfl (.cons rfl .nil)))
 refine Ends.seq ?_
 refine Ends.drawn (Mem w (feet [pt p #[.pointer (some ⟨q, 0, none⟩), .int .i64 wr, .bool true, .int .i64 sl, .int .i64 2, .int .i64 tp, .int .i64 nx] 76, pt q #[.pointer (some ⟨m, 0, none⟩), .int .i64 bs, .slice (some ⟨nb, 0, none⟩) ns ns, .slice (some ⟨ob, 0, none⟩) ws ws] 73, pt ob ((vals os)) 22, own 3 1 (.slice av Y.length cap) Y.length (Y.map (Value.int .i64)), memO m c l s o]) [pt p #[.pointer (some ⟨q, 0, none⟩), .int .i64 wr, .bool true, .int .i64 sl, .int .i64 2, .int .i64 tp, .int .i64 nx] 76, pt q #[.pointer (some ⟨m, 0, none⟩), .int .i64 bs, .slice (some ⟨nb, 0, none⟩) ns ns, .slice (some ⟨ob, 0, none⟩) ws ws] 73, pt ob ((vals os)) 22, own 3 1 (.slice av Y.length cap) Y.length (Y.map (Value.int .i64))]) (.cons (0, true) (.cons (1, true) (.cons (2, true) (.cons (3, true) (.cons (4, true) (.cons (5, true) (.cons (6, true) (.cons (7, true) (.cons (8, true) (.cons (9, true) (.cons (10, true) (.cons (11, true) (.cons (12, true) (.cons (13, true) (.cons (14, true) (.cons (15, true) (.cons (16, true) (.cons (17, true) (.cons (18, true) (.cons (19, true) (.cons (20, true) (.cons (21, true) (.cons (22, true) (.cons (23, false) (.cons (24, false) (.cons (25, true) (.cons (26, true) (.cons (27, true) (.cons (28, true) (.cons (29, true) .nil)))))))))))))))))))))))))))))) 30 mixed (by kernel_rfl) (by kernel_rfl) (by kernel_rfl) (hM.drop 4).drew ?_
 replace hM := hM.drew
 refine D.valF hA rfl (fun _ => R.move rfl) rfl ?_; clear hA a; intro a hA
 refine D.valF hA rfl (fun _ => R.nilCheck rfl) rfl ?_; clear hA a; intro a hA
 refine D.valF hA rfl (fun _ => R.fieldAddr (q := 0) fi76_0 rfl rfl rfl) rfl ?_; clear hA a; intro a hA
 refine D.val hA rfl (by kernel_rfl) (fun _ hM => R.load sz46 rfl (hM.cell (k := 0) rfl rfl)) rfl ?_; clear hA a; intro a hA
 refine D.valF hA rfl (fun _ => R.nilCheck rfl) rfl ?_; clear hA a; intro a hA
 refine D.valF hA rfl (fun _ => R.fieldAddr (q := 0) fi73_0 rfl rfl rfl) rfl ?_; clear hA a; intro a hA
 refine D.val hA rfl (by kernel_rfl) (fun _ hM => R.load sz42 rfl (hM.cell (k := 1) rfl rfl)) rfl ?_; clear hA a; intro a hA
 refine D.valF hA rfl (fun _ => R.move rfl) rfl ?_; clear hA a; intro a hA
 refine D.valF hA rfl (fun _ => R.nilCheck rfl) rfl ?_; clear hA a; intro a hA
 refine D.valF hA rfl (fun _ => R.fieldAddr (q := 0) fi76_0 rfl rfl rfl) rfl ?_; clear hA a; intro a hA
 refine D.val hA rfl (by kernel_rfl) (fun _ hM => R.load sz46 rfl (hM.cell (k := 0) rfl rfl)) rfl ?_; clear hA a; intro a hA
 refine D.valF hA rfl (fun _ => R.nilCheck rfl) rfl ?_; clear hA a; intro a hA
 refine D.valF hA rfl (fun _ => R.fieldAddr (q := 1) fi73_1 rfl rfl rfl) rfl ?_; clear hA a; intro a hA
 refine D.val hA rfl (by kernel_rfl) (fun _ hM => R.load sz3 rfl (hM.cell (k := 1) rfl rfl)) rfl ?_; clear hA a; intro a hA
 refine D.valF hA rfl (fun _ => R.move rfl) rfl ?_; clear hA a; intro a hA
 refine D.valF hA rfl (fun _ => R.nilCheck rfl) rfl ?_; clear hA a; intro a hA
 refine D.valF hA rfl (fun _ => R.fieldAddr (q := 5) fi76_5 rfl rfl rfl) rfl ?_; clear hA a; intro a hA
 refine D.val hA rfl (by kernel_rfl) (fun _ hM => R.load sz3 rfl (hM.cell (k := 0) rfl rfl)) rfl ?_; clear hA a; intro a hA
 refine D.valF hA rfl (fun _ => R.move rfl) rfl ?_; clear hA a; intro a hA
 refine D.valF hA rfl (fun _ => R.nilCheck rfl) rfl ?_; clear hA a; intro a hA
 refine D.valF hA rfl (fun _ => R.fieldAddr (q := 5) fi76_5 rfl rfl rfl) rfl ?_; clear hA a; intro a hA
 refine D.val hA rfl (by kernel_rfl) (fun _ hM => R.load sz3 rfl (hM.cell (k := 0) rfl rfl)) rfl ?_; clear hA a; intro a hA
 refine D.valF hA rfl (fun _ => R.move rfl) rfl ?_; clear hA a; intro a hA
 refine D.call hA rfl (R.callF Tryd.func41 rfl rfl rfl) rfl (up_any tp sl (by omega) (by omega) _) ?_; clear hA a
 rintro e w1 ⟨rfl, rfl⟩
 refine ⟨.int .i64 (packI (tp / 4294967296 % 1073741824 + 1) sl), rfl, (hM.drop 4), fun a hA => ?_⟩
 refine D.call hA rfl (R.callF Tryd.func40 rfl rfl rfl) rfl (cas_not m c l s o hmc bs tp (packI (tp / 4294967296 % 1073741824 + 1) sl) (by omega) (by first | omega | (simp; omega)) (by omega) hh _ (hM.mem (k := 4) rfl)) ?_; clear hA a
 rintro e w2 ⟨rfl, hn⟩
 replace hM : Mem _ _ [memO m c ((l.set bs.toNat (l.getD bs.toNat 0))) (s + 1) ⟨3, bs, l.getD bs.toNat 0, l.getD bs.toNat 0, false⟩, pt p #[.pointer (some ⟨q, 0, none⟩), .int .i64 wr, .bool true, .int .i64 sl, .int .i64 2, .int .i64 tp, .int .i64 nx] 76, pt q #[.pointer (some ⟨m, 0, none⟩), .int .i64 bs, .slice (some ⟨nb, 0, none⟩) ns ns, .slice (some ⟨ob, 0, none⟩) ws ws] 73, pt ob ((vals os)) 22, own 3 1 (.slice av Y.length cap) Y.length (Y.map (Value.int .i64))] _ := hM.callW (k := 4) rfl hn (fun _ h => h); clear hn
 refine ⟨.tuple #[.bool false, .int .i64 0], rfl, (hM.drop 0), fun a hA => ?_⟩
 refine D.valF hA rfl (fun _ => R.move rfl) rfl ?_; clear hA a; intro a hA
 refine D.valF hA rfl (fun _ => R.extract (v := .bool false) rfl rfl) rfl ?_; clear hA a; intro a hA
 refine D.valF hA rfl (fun _ => R.extract (v := .int .i64 0) rfl rfl) rfl ?_; clear hA a; intro a hA
 refine D.valF hA rfl (fun _ => R.assign rfl) rfl ?_; clear hA a; intro a hA
 refine D.valF hA rfl (fun _ => R.assign rfl) rfl ?_; clear hA a; intro a hA
 refine D.done ?_
 replace hA : St 68 [(0, _), (3, _)] a := hA.sub ((.cons rfl (.cons rfl .nil)))
 refine Ends.seq (Ends.region ?_)
 refine S.val hA (R.move rfl) rfl ?_; clear hA a; intro a hA
 refine S.val hA (R.nilCheck rfl) rfl ?_; clear hA a; intro a hA
 refine S.val hA (R.fieldAddr (q := 4) fi76_4 rfl rfl rfl) rfl ?_; clear hA a; intro a hA
 refine S.store (k := 1) hA hM sz74 rfl rfl rfl rfl rfl ?_; clear hM
 intro w3 hM
 replace hM : Mem _ _ [memO m c ((l.set bs.toNat (l.getD bs.toNat 0))) (s + 1) ⟨3, bs, l.getD bs.toNat 0, l.getD bs.toNat 0, false⟩, pt p #[.pointer (some ⟨q, 0, none⟩), .int .i64 wr, .bool true, .int .i64 sl, .int .i64 0, .int .i64 tp, .int .i64 nx] 76, pt q #[.pointer (some ⟨m, 0, none⟩), .int .i64 bs, .slice (some ⟨nb, 0, none⟩) ns ns, .slice (some ⟨ob, 0, none⟩) ws ws] 73, pt ob ((vals os)) 22, own 3 1 (.slice av Y.length cap) Y.length (Y.map (Value.int .i64))] _ := hM
 refine S.done ?_
 refine Ends.seq (Ends.region ?_)
 refine S.val hA (R.move rfl) rfl ?_; clear hA a; intro a hA
 refine S.done ?_
 replace hA : St 68 [(0, _), (48, _)] a := hA.sub ((.cons rfl (.cons rfl .nil)))
 refine Ends.condF hA rfl ?_
 refine Ends.skip ?_
 refine Ends.end0 Tryd.func30 Tryd.results30 hA ?_
 replace hM := hM.front (k := 4) rfl
 replace hM := hM.front (k := 4) rfl
 replace hM := hM.front (k := 4) rfl
 replace hM := hM.front (k := 4) rfl
 replace hM : Mem _ _ [pt p #[.pointer (some ⟨q, 0, none⟩), .int .i64 wr, .bool true, .int .i64 sl, .int .i64 0, .int .i64 tp, .int .i64 nx] 76, pt q #[.pointer (some ⟨m, 0, none⟩), .int .i64 bs, .slice (some ⟨nb, 0, none⟩) ns ns, .slice (some ⟨ob, 0, none⟩) ws ws] 73, pt ob ((vals os)) 22, own 3 1 (.slice av Y.length cap) Y.length (Y.map (Value.int .i64)), memO m c ((l.set bs.toNat (l.getD bs.toNat 0))) (s + 1) ⟨3, bs, l.getD bs.toNat 0, l.getD bs.toNat 0, false⟩] _ := hM
 rw [set_getD l bs.toNat (by omega)] at hM
 exact ⟨_, rfl, hM.firstN 5⟩
set_option maxRecDepth 100000 in
set_option maxHeartbeats 400000 in
theorem Spf_misst (p q m nb ns ob ws : Nat) (bs wr : Int) (os : List Value) (av : Option Addr) (Y : List Int) (cap : Nat) (hwr : 0 ≤ wr ∧ wr < ws) (hlen : os.length = ws) (hos : os[wr.toNat]? = some (.slice av Y.length cap)) (hY2 : Y.length ≤ 2) (c : Nat) (l : List Int) (s : Int) (o : CellOp) (hmc : m ≠ c) (hl : 0 ≤ bs ∧ bs + 1 ≤ l.length ∧ l.length ≤ 1000000) (hs : 0 ≤ s ∧ s < 9223372036854775806) (sl tp nx : Int) (htp : 0 ≤ tp ∧ tp < 4611686018427387904) (hh : l.getD bs.toNat 0 ≠ tp) (w : World) (hM : Mem w (feet [pt p #[.pointer (some ⟨q, 0, none⟩), .int .i64 wr, .bool true, .int .i64 sl, .int .i64 2, .int .i64 tp, .int .i64 nx] 76, pt q #[.pointer (some ⟨m, 0, none⟩), .int .i64 bs, .slice (some ⟨nb, 0, none⟩) ns ns, .slice (some ⟨ob, 0, none⟩) ws ws] 73, pt ob ((vals os)) 22, own 3 1 (.slice av Y.length cap) Y.length (Y.map (Value.int .i64)), memO m c l s o]) [pt p #[.pointer (some ⟨q, 0, none⟩), .int .i64 wr, .bool true, .int .i64 sl, .int .i64 2, .int .i64 tp, .int .i64 nx] 76, pt q #[.pointer (some ⟨m, 0, none⟩), .int .i64 bs, .slice (some ⟨nb, 0, none⟩) ns ns, .slice (some ⟨ob, 0, none⟩) ws ws] 73, pt ob ((vals os)) 22, own 3 1 (.slice av Y.length cap) Y.length (Y.map (Value.int .i64)), memO m c l s o] w) :
  Calls Tryd.prog 18 #[.pointer (some ⟨p, 0, none⟩)] w fun e w' => ∃ op, e = .returned (.bool false) ∧ Mem w (feet [pt p #[.pointer (some ⟨q, 0, none⟩), .int .i64 wr, .bool true, .int .i64 sl, .int .i64 2, .int .i64 tp, .int .i64 nx] 76, pt q #[.pointer (some ⟨m, 0, none⟩), .int .i64 bs, .slice (some ⟨nb, 0, none⟩) ns ns, .slice (some ⟨ob, 0, none⟩) ws ws] 73, pt ob ((vals os)) 22, own 3 1 (.slice av Y.length cap) Y.length (Y.map (Value.int .i64)), memO m c l s o]) [pt p #[.pointer (some ⟨q, 0, none⟩), .int .i64 wr, .bool true, .int .i64 sl, .int .i64 0, .int .i64 tp, .int .i64 nx] 76, pt q #[.pointer (some ⟨m, 0, none⟩), .int .i64 bs, .slice (some ⟨nb, 0, none⟩) ns ns, .slice (some ⟨ob, 0, none⟩) ws ws] 73, pt ob ((vals os)) 22, own 3 1 (.slice av Y.length cap) Y.length (Y.map (Value.int .i64)), memO m c l (s + 1) op] w' := by
 refine Calls.of_ends (vs := [.pointer (some ⟨p, 0, none⟩)]) Tryd.func18 rfl Tryd.ntmps18 rfl ?_
 intro a hA
 replace hA : St 26 [(0, _)] a := hA
 refine Ends.seq (Ends.region ?_)
 refine S.val hA (R.assign rfl) rfl ?_; clear hA a; intro a hA
 refine S.done ?_
 refine Ends.seq (Ends.seq (Ends.region ?_))
 refine S.val hA (R.move rfl) rfl ?_; clear hA a; intro a hA
 refine S.val hA (R.eqlNil Tryd.underlying49 rfl rfl) rfl ?_; clear hA a; intro a hA
 refine S.done ?_
 refine Ends.condF hA rfl ?_
 refine Ends.skip (Ends.seq (Ends.seq (Ends.region ?_)))
 refine S.val hA (R.move rfl) rfl ?_; clear hA a; intro a hA
 refine S.val hA (R.nilCheck rfl) rfl ?_; clear hA a; intro a hA
 refine S.val hA (R.fieldAddr (q := 4) fi76_4 rfl rfl rfl) rfl ?_; clear hA a; intro a hA
 refine S.val hA (R.load sz74 rfl (hM.cell (k := 0) rfl rfl)) rfl ?_; clear hA a; intro a hA
 refine S.done ?_
 replace hA : St 26 [(0, _), (8, _)] a := hA.sub ((.cons rfl (.cons rfl .nil)))
 refine Ends.block (Ends.seq (Ends.region ?_))
 refine S.val hA (R.ff (R.eql rfl rfl) (by first | decide | simp | omega)) rfl ?_; clear hA a; intro a hA
 refine S.val hA (R.assign rfl) rfl ?_; clear hA a; intro a hA
 refine S.done ?_
 refine Ends.condF hA rfl ?_
 refine Ends.seq (Ends.region ?_)
 refine S.val hA (R.ff (R.eql rfl rfl) (by first | decide | simp | omega)) rfl ?_; clear hA a; intro a hA
 refine S.val hA (R.assign rfl) rfl ?_; clear hA a; intro a hA
 refine S.done ?_
 refine Ends.condF hA rfl ?_
 refine Ends.seq (Ends.region ?_)
 refine S.val hA (R.tt (R.eql rfl rfl) (by first | decide | simp | omega)) rfl ?_; clear hA a; intro a hA
 refine S.val hA (R.assign rfl) rfl ?_; clear hA a; intro a hA
 refine S.done ?_
 replace hA : St 26 [(0, _), (17, _)] a := hA.sub ((.cons rfl (.cons rfl .nil)))
 refine Ends.condT hA rfl ?_
 refine Ends.region ?_
 refine S.val hA (R.move rfl) rfl ?_; clear hA a; intro a hA
 refine S.call hA (R.callF Tryd.func30 rfl rfl rfl) rfl (pf_misst p q m nb ns ob ws bs wr os av Y cap hwr hlen hos hY2 c l s o hmc hl hs sl tp nx htp hh _ (hM.hereN 5)) ?_; clear hA a
 rintro e w1 ⟨op, rfl, hn⟩
 replace hM : Mem _ _ [pt p #[.pointer (some ⟨q, 0, none⟩), .int .i64 wr, .bool true, .int .i64 sl, .int .i64 0, .int .i64 tp, .int .i64 nx] 76, pt q #[.pointer (some ⟨m, 0, none⟩), .int .i64 bs, .slice (some ⟨nb, 0, none⟩) ns ns, .slice (some ⟨ob, 0, none⟩) ws ws] 73, pt ob ((vals os)) 22, own 3 1 (.slice av Y.length cap) Y.length (Y.map (Value.int .i64)), memO m c l (s + 1) op] _ := hM.callL 5 hn; clear hn
 refine ⟨.tuple #[], rfl, fun a hA => ?_⟩
 refine S.done ?_
 refine Ends.inBlock (Ends.seq (Ends.region ?_))
 refine S.val hA (R.move rfl) rfl ?_; clear hA a; intro a hA
 refine S.val hA (R.nilCheck rfl) rfl ?_; clear hA a; intro a hA
 refine S.val hA (R.fieldAddr (q := 4) fi76_4 rfl rfl rfl) rfl ?_; clear hA a; intro a hA
 refine S.val hA (R.load sz74 rfl (hM.cell (k := 0) rfl rfl)) rfl ?_; clear hA a; intro a hA
 refine S.val hA (R.ff (R.eql rfl rfl) (by first | decide | simp | omega)) rfl ?_; clear hA a; intro a hA
 refine S.val hA (R.assign rfl) rfl ?_; clear hA a; intro a hA
 refine S.done ?_
 replace hA : St 26 [(2, _)] a := hA.sub ((.cons rfl .nil))
 refine Ends.ret1 Tryd.func18 Tryd.results18 hA rfl ?_
 exact ⟨_, rfl, hM.firstN 5⟩
set_option maxRecDepth 100000 in
set_option maxHeartbeats 400000 in
theorem pf_missf (p q m nb ns ob ws : Nat) (bs wr : Int) (os : List Value) (av : Option Addr) (Y : List Int) (cap : Nat) (hwr : 0 ≤ wr ∧ wr < ws) (hlen : os.length = ws) (hos : os[wr.toNat]? = some (.slice av Y.length cap)) (hY2 : Y.length ≤ 2) (c : Nat) (l : List Int) (s : Int) (o : CellOp) (hmc : m ≠ c) (hl : 0 ≤ bs ∧ bs + 1 ≤ l.length ∧ l.length ≤ 1000000) (hs : 0 ≤ s ∧ s < 9223372036854775806) (sl tp nx : Int) (htp : 0 ≤ tp ∧ tp < 4611686018427387904) (hh : l.getD bs.toNat 0 ≠ tp) (w : World) (hM : Mem w (feet [pt p #[.pointer (some ⟨q, 0, none⟩), .int .i64 wr, .bool false, .int .i64 sl, .int .i64 2, .int .i64 tp, .int .i64 nx] 76, pt q #[.pointer (some ⟨m, 0, none⟩), .int .i64 bs, .slice (some ⟨nb, 0, none⟩) ns ns, .slice (some ⟨ob, 0, none⟩) ws ws] 73, pt ob ((vals os)) 22, own 3 1 (.slice av Y.length cap) Y.length (Y.map (Value.int .i64)), memO m c l s o]) [pt p #[.pointer (some ⟨q, 0, none⟩), .int .i64 wr, .bool false, .int .i64 sl, .int .i64 2, .int .i64 tp, .int .i64 nx] 76, pt q #[.pointer (some ⟨m, 0, none⟩), .int .i64 bs, .slice (some ⟨nb, 0, none⟩) ns ns, .slice (some ⟨ob, 0, none⟩) ws ws] 73, pt ob ((vals os)) 22, own 3 1 (.slice av Y.length cap) Y.length (Y.map (Value.int .i64)), memO m c l s o] w) :
  Calls Tryd.prog 30 #[.pointer (some ⟨p, 0, none⟩)] w fun e w' => ∃ op, e = .returned (.tuple #[]) ∧ Mem w (feet [pt p #[.pointer (some ⟨q, 0, none⟩), .int .i64 wr, .bool false, .int .i64 sl, .int .i64 2, .int .i64 tp, .int .i64 nx] 76, pt q #[.pointer (some ⟨m, 0, none⟩), .int .i64 bs, .slice (some ⟨nb, 0, none⟩) ns ns, .slice (some ⟨ob, 0, none⟩) ws ws] 73, pt ob ((vals os)) 22, own 3 1 (.slice av Y.length cap) Y.length (Y.map (Value.int .i64)), memO m c l s o]) [pt p #[.pointer (some ⟨q, 0, none⟩), .int .i64 wr, .bool false, .int .i64 sl, .int .i64 0, .int .i64 tp, .int .i64 nx] 76, pt q #[.pointer (some ⟨m, 0, none⟩), .int .i64 bs, .slice (some ⟨nb, 0, none⟩) ns ns, .slice (some ⟨ob, 0, none⟩) ws ws] 73, pt ob ((vals os)) 22, own 3 1 (.slice av Y.length cap) Y.length (Y.map (Value.int .i64)), memO m c l (s + 1) op] w' := by
 refine Calls.of_ends (vs := [.pointer (some ⟨p, 0, none⟩)]) Tryd.func30 rfl Tryd.ntmps30 rfl ?_
 intro a hA
 replace hA : St 68 [(0, _)] a := hA
 refine Ends.seq (Ends.region ?_)
 refine S.val hA (R.move rfl) rfl ?_; clear hA a; intro a hA
 refine S.val hA (R.nilCheck rfl) rfl ?_; clear hA a; intro a hA
 refine S.val hA (R.fieldAddr (q := 6) fi76_6 rfl rfl rfl) rfl ?_; clear hA a; intro a hA
 refine S.val hA (R.load sz3 rfl (hM.cell (k := 0) rfl rfl)) rfl ?_; clear hA a; intro a hA
 refine S.val hA (R.assign rfl) rfl ?_; clear hA a; intro a hA
 refine S.done ?_
 replace hA : St 68 [(0, _), (2, _)] a := hA.sub ((.cons rfl (.cons rfl .nil)))
 refine Ends.seq (Ends.seq (Ends.region ?_))
 refine S.val hA (R.move rfl) rfl ?_; clear hA a; intro a hA
 refine S.val hA (R.nilCheck rfl) rfl ?_; clear hA a; intro a hA
 refine S.val hA (R.fieldAddr (q := 2) fi76_2 rfl rfl rfl) rfl ?_; clear hA a; intro a hA
 refine S.val hA (R.load sz4 rfl (hM.cell (k := 0) rfl rfl)) rfl ?_; clear hA a; intro a hA
 refine S.done ?_
 refine Ends.condF hA rfl ?_
 refine Ends.skip (Ends.seq ?_)
 refine Ends.drawn (Mem w (feet [pt p #[.pointer (some ⟨q, 0, none⟩), .int .i64 wr, .bool false, .int .i64 sl, .int .i64 2, .int .i64 tp, .int .i64 nx] 76, pt q #[.pointer (some ⟨m, 0, none⟩), .int .i64 bs, .slice (some ⟨nb, 0, none⟩) ns ns, .slice (some ⟨ob, 0, none⟩) ws ws] 73, pt ob ((vals os)) 22, own 3 1 (.slice av Y.length cap) Y.length (Y.map (Value.int .i64)), memO m c l s o]) [pt p #[.pointer (some ⟨q, 0, none⟩), .int .i64 wr, .bool false, .int .i64 sl, .int .i64 2, .int .i64 tp, .int .i64 nx] 76, pt q #[.pointer (some ⟨m, 0, none⟩), .int .i64 bs, .slice (some ⟨nb, 0, none⟩) ns ns, .slice (some ⟨ob, 0, none⟩) ws ws] 73, pt ob ((vals os)) 22, own 3 1 (.slice av Y.length cap) Y.length (Y.map (Value.int .i64))]) (.cons (0, true) (.cons (1, true) (.cons (2, true) (.cons (3, true) (.cons (4, true) (.cons (5, true) (.cons (6, true) (.cons (7, true) (.cons (8, true) (.cons (9, true) (.cons (10, true) (.cons (11, true) (.cons (12, true) (.cons (13, true) (.cons (14, true) (.cons (15, true) (.cons (16, true) (.cons (17, true) (.cons (18, true) (.cons (19, true) (.cons (20, true) (.cons (21, true) (.cons (22, true) (.cons (23, false) (.cons (24, false) (.cons (25, true) (.cons (26, true) (.cons (27, true) (.cons (28, true) (.cons (29, true) .nil)))))))))))))))))))))))))))))) 30 mixed (by kernel_rfl) (by kernel_rfl) (by kernel_rfl) (hM.drop 4).drew ?_
 replace hM := hM.drew
 refine D.valF hA rfl (fun _ => R.move rfl) rfl ?_; clear hA a; intro a hA
 refine D.valF hA rfl (fun _ => R.nilCheck rfl) rfl ?_; clear hA a; intro a hA
 refine D.valF hA rfl (fun _ => R.fieldAddr (q := 0) fi76_0 rfl rfl rfl) rfl ?_; clear hA a; intro a hA
 refine D.val hA rfl (by kernel_rfl) (fun _ hM => R.load sz46 rfl (hM.cell (k := 0) rfl rfl)) rfl ?_; clear hA a; intro a hA
 refine D.valF hA rfl (fun _ => R.nilCheck rfl) rfl ?_; clear hA a; intro a hA
 refine D.valF hA rfl (fun _ => R.fieldAddr (q := 0) fi73_0 rfl rfl rfl) rfl ?_; clear hA a; intro a hA
 refine D.val hA rfl (by kernel_rfl) (fun _ hM => R.load sz42 rfl (hM.cell (k := 1) rfl rfl)) rfl ?_; clear hA a; intro a hA
 refine D.valF hA rfl (fun _ => R.move rfl) rfl ?_; clear hA a; intro a hA
 refine D.valF hA rfl (fun _ => R.nilCheck rfl) rfl ?_; clear hA a; intro a hA
 refine D.valF hA rfl (fun _ => R.fieldAddr (q := 0) fi76_0 rfl rfl rfl) rfl ?_; clear hA a; intro a hA
 refine D.val hA rfl (by kernel_rfl) (fun _ hM => R.load sz46 rfl (hM.cell (k := 0) rfl rfl)) rfl ?_; clear hA a; intro a hA
 refine D.valF hA rfl (fun _ => R.nilCheck rfl) rfl ?_; clear hA a; intro a hA
 refine D.valF hA rfl (fun _ => R.fieldAddr (q := 1) fi73_1 rfl rfl rfl) rfl ?_; clear hA a; intro a hA
 refine D.val hA rfl (by kernel_rfl) (fun _ hM => R.load sz3 rfl (hM.cell (k := 1) rfl rfl)) rfl ?_; clear hA a; intro a hA
 refine D.valF hA rfl (fun _ => R.move rfl) rfl ?_; clear hA a; intro a hA
 refine D.valF hA rfl (fun _ => R.nilCheck rfl) rfl ?_; clear hA a; intro a hA
 refine D.valF hA rfl (fun _ => R.fieldAddr (q := 5) fi76_5 rfl rfl rfl) rfl ?_; clear hA a; intro a hA
 refine D.val hA rfl (by kernel_rfl) (fun _ hM => R.load sz3 rfl (hM.cell (k := 0) rfl rfl)) rfl ?_; clear hA a; intro a hA
 refine D.valF hA rfl (fun _ => R.move rfl) rfl ?_; clear hA a; intro a hA
 refine D.valF hA rfl (fun _ => R.nilCheck rfl) rfl ?_; clear hA a; intro a hA
 refine D.valF hA rfl (fun _ => R.fieldAddr (q := 5) fi76_5 rfl rfl rfl) rfl ?_; clear hA a; intro a hA
 refine D.val hA rfl (by kernel_rfl) (fun _ hM => R.load sz3 rfl (hM.cell (k := 0) rfl rfl)) rfl ?_; clear hA a; intro a hA
 refine D.valF hA rfl (fun _ => R.move rfl) rfl ?_; clear hA a; intro a hA
 refine D.call hA rfl (R.callF Tryd.func41 rfl rfl rfl) rfl (up_any tp nx (by omega) (by omega) _) ?_; clear hA a
 rintro e w1 ⟨rfl, rfl⟩
 refine ⟨.int .i64 (packI (tp / 4294967296 % 1073741824 + 1) nx), rfl, (hM.drop 4), fun a hA => ?_⟩
 refine D.call hA rfl (R.callF Tryd.func40 rfl rfl rfl) rfl (cas_not m c l s o hmc bs tp (packI (tp / 4294967296 % 1073741824 + 1) nx) (by omega) (by first | omega | (simp; omega)) (by omega) hh _ (hM.mem (k := 4) rfl)) ?_; clear hA a
 rintro e w2 ⟨rfl, hn⟩
 replace hM : Mem _ _ [memO m c ((l.set bs.toNat (l.getD bs.toNat 0))) (s + 1) ⟨3, bs, l.getD bs.toNat 0, l.getD bs.toNat 0, false⟩, pt p #[.pointer (some ⟨q, 0, none⟩), .int .i64 wr, .bool false, .int .i64 sl, .int .i64 2, .int .i64 tp, .int .i64 nx] 76, pt q #[.pointer (some ⟨m, 0, none⟩), .int .i64 bs, .slice (some ⟨nb, 0, none⟩) ns ns, .slice (some ⟨ob, 0, none⟩) ws ws] 73, pt ob ((vals os)) 22, own 3 1 (.slice av Y.length cap) Y.length (Y.map (Value.int .i64))] _ := hM.callW (k := 4) rfl hn (fun _ h => h); clear hn
 refine ⟨.tuple #[.bool false, .int .i64 0], rfl, (hM.drop 0), fun a hA => ?_⟩
 refine D.valF hA rfl (fun _ => R.move rfl) rfl ?_; clear hA a; intro a hA
 refine D.valF hA rfl (fun _ => R.extract (v := .bool false) rfl rfl) rfl ?_; clear hA a; intro a hA
 refine D.valF hA rfl (fun _ => R.extract (v := .int .i64 0) rfl rfl) rfl ?_; clear hA a; intro a hA
 refine D.valF hA rfl (fun _ => R.assign rfl) rfl ?_; clear hA a; intro a hA
 refine D.valF hA rfl (fun _ => R.assign rfl) rfl ?_; clear hA a; intro a hA
 refine D.done ?_
 replace hA : St 68 [(0, _), (3, _)] a := hA.sub ((.cons rfl (.cons rfl .nil)))
 refine Ends.seq (Ends.region ?_)
 refine S.val hA (R.move rfl) rfl ?_; clear hA a; intro a hA
 refine S.val hA (R.nilCheck rfl) rfl ?_; clear hA a; intro a hA
 refine S.val hA (R.fieldAddr (q := 4) fi76_4 rfl rfl rfl) rfl ?_; clear hA a; intro a hA
 refine S.store (k := 1) hA hM sz74 rfl rfl rfl rfl rfl ?_; clear hM
 intro w3 hM
 replace hM : Mem _ _ [memO m c ((l.set bs.toNat (l.getD bs.toNat 0))) (s + 1) ⟨3, bs, l.getD bs.toNat 0, l.getD bs.toNat 0, false⟩, pt p #[.pointer (some ⟨q, 0, none⟩), .int .i64 wr, .bool false, .int .i64 sl, .int .i64 0, .int .i64 tp, .int .i64 nx] 76, pt q #[.pointer (some ⟨m, 0, none⟩), .int .i64 bs, .slice (some ⟨nb, 0, none⟩) ns ns, .slice (some ⟨ob, 0, none⟩) ws ws] 73, pt ob ((vals os)) 22, own 3 1 (.slice av Y.length cap) Y.length (Y.map (Value.int .i64))] _ := hM
 refine S.done ?_
 refine Ends.seq (Ends.region ?_)
 refine S.val hA (R.move rfl) rfl ?_; clear hA a; intro a hA
 refine S.done ?_
 replace hA : St 68 [(0, _), (48, _)] a := hA.sub ((.cons rfl (.cons rfl .nil)))
 refine Ends.condF hA rfl ?_
 refine Ends.skip ?_
 refine Ends.end0 Tryd.func30 Tryd.results30 hA ?_
 replace hM := hM.front (k := 4) rfl
 replace hM := hM.front (k := 4) rfl
 replace hM := hM.front (k := 4) rfl
 replace hM := hM.front (k := 4) rfl
 replace hM : Mem _ _ [pt p #[.pointer (some ⟨q, 0, none⟩), .int .i64 wr, .bool false, .int .i64 sl, .int .i64 0, .int .i64 tp, .int .i64 nx] 76, pt q #[.pointer (some ⟨m, 0, none⟩), .int .i64 bs, .slice (some ⟨nb, 0, none⟩) ns ns, .slice (some ⟨ob, 0, none⟩) ws ws] 73, pt ob ((vals os)) 22, own 3 1 (.slice av Y.length cap) Y.length (Y.map (Value.int .i64)), memO m c ((l.set bs.toNat (l.getD bs.toNat 0))) (s + 1) ⟨3, bs, l.getD bs.toNat 0, l.getD bs.toNat 0, false⟩] _ := hM
 rw [set_getD l bs.toNat (by omega)] at hM
 exact ⟨_, rfl, hM.firstN 5⟩
set_option maxRecDepth 100000 in
set_option maxHeartbeats 400000 in
theorem Spf_missf (p q m nb ns ob ws : Nat) (bs wr : Int) (os : List Value) (av : Option Addr) (Y : List Int) (cap : Nat) (hwr : 0 ≤ wr ∧ wr < ws) (hlen : os.length = ws) (hos : os[wr.toNat]? = some (.slice av Y.length cap)) (hY2 : Y.length ≤ 2) (c : Nat) (l : List Int) (s : Int) (o : CellOp) (hmc : m ≠ c) (hl : 0 ≤ bs ∧ bs + 1 ≤ l.length ∧ l.length ≤ 1000000) (hs : 0 ≤ s ∧ s < 9223372036854775806) (sl tp nx : Int) (htp : 0 ≤ tp ∧ tp < 4611686018427387904) (hh : l.getD bs.toNat 0 ≠ tp) (w : World) (hM : Mem w (feet [pt p #[.pointer (some ⟨q, 0, none⟩), .int .i64 wr, .bool false, .int .i64 sl, .int .i64 2, .int .i64 tp, .int .i64 nx] 76, pt q #[.pointer (some ⟨m, 0, none⟩), .int .i64 bs, .slice (some ⟨nb, 0, none⟩) ns ns, .slice (some ⟨ob, 0, none⟩) ws ws] 73, pt ob ((vals os)) 22, own 3 1 (.slice av Y.length cap) Y.length (Y.map (Value.int .i64)), memO m c l s o]) [pt p #[.pointer (some ⟨q, 0, none⟩), .int .i64 wr, .bool false, .int .i64 sl, .int .i64 2, .int .i64 tp, .int .i64 nx] 76, pt q #[.pointer (some ⟨m, 0, none⟩), .int .i64 bs, .slice (some ⟨nb, 0, none⟩) ns ns, .slice (some ⟨ob, 0, none⟩) ws ws] 73, pt ob ((vals os)) 22, own 3 1 (.slice av Y.length cap) Y.length (Y.map (Value.int .i64)), memO m c l s o] w) :
  Calls Tryd.prog 18 #[.pointer (some ⟨p, 0, none⟩)] w fun e w' => ∃ op, e = .returned (.bool false) ∧ Mem w (feet [pt p #[.pointer (some ⟨q, 0, none⟩), .int .i64 wr, .bool false, .int .i64 sl, .int .i64 2, .int .i64 tp, .int .i64 nx] 76, pt q #[.pointer (some ⟨m, 0, none⟩), .int .i64 bs, .slice (some ⟨nb, 0, none⟩) ns ns, .slice (some ⟨ob, 0, none⟩) ws ws] 73, pt ob ((vals os)) 22, own 3 1 (.slice av Y.length cap) Y.length (Y.map (Value.int .i64)), memO m c l s o]) [pt p #[.pointer (some ⟨q, 0, none⟩), .int .i64 wr, .bool false, .int .i64 sl, .int .i64 0, .int .i64 tp, .int .i64 nx] 76, pt q #[.pointer (some ⟨m, 0, none⟩), .int .i64 bs, .slice (some ⟨nb, 0, none⟩) ns ns, .slice (some ⟨ob, 0, none⟩) ws ws] 73, pt ob ((vals os)) 22, own 3 1 (.slice av Y.length cap) Y.length (Y.map (Value.int .i64)), memO m c l (s + 1) op] w' := by
 refine Calls.of_ends (vs := [.pointer (some ⟨p, 0, none⟩)]) Tryd.func18 rfl Tryd.ntmps18 rfl ?_
 intro a hA
 replace hA : St 26 [(0, _)] a := hA
 refine Ends.seq (Ends.region ?_)
 refine S.val hA (R.assign rfl) rfl ?_; clear hA a; intro a hA
 refine S.done ?_
 refine Ends.seq (Ends.seq (Ends.region ?_))
 refine S.val hA (R.move rfl) rfl ?_; clear hA a; intro a hA
 refine S.val hA (R.eqlNil Tryd.underlying49 rfl rfl) rfl ?_; clear hA a; intro a hA
 refine S.done ?_
 refine Ends.condF hA rfl ?_
 refine Ends.skip (Ends.seq (Ends.seq (Ends.region ?_)))
 refine S.val hA (R.move rfl) rfl ?_; clear hA a; intro a hA
 refine S.val hA (R.nilCheck rfl) rfl ?_; clear hA a; intro a hA
 refine S.val hA (R.fieldAddr (q := 4) fi76_4 rfl rfl rfl) rfl ?_; clear hA a; intro a hA
 refine S.val hA (R.load sz74 rfl (hM.cell (k := 0) rfl rfl)) rfl ?_; clear hA a; intro a hA
 refine S.done ?_
 replace hA : St 26 [(0, _), (8, _)] a := hA.sub ((.cons rfl (.cons rfl .nil)))
 refine Ends.block (Ends.seq (Ends.region ?_))
 refine S.val hA (R.ff (R.eql rfl rfl) (by first | decide | simp | omega)) rfl ?_; clear hA a; intro a hA
 refine S.val hA (R.assign rfl) rfl ?_; clear hA a; intro a hA
 refine S.done ?_
 refine Ends.condF hA rfl ?_
 refine Ends.seq (Ends.region ?_)
 refine S.val hA (R.ff (R.eql rfl rfl) (by first | decide | simp | omega)) rfl ?_; clear hA a; intro a hA
 refine S.val hA (R.assign rfl) rfl ?_; clear hA a; intro a hA
 refine S.done ?_
 refine Ends.condF hA rfl ?_
 refine Ends.seq (Ends.region ?_)
 refine S.val hA (R.tt (R.eql rfl rfl) (by first | decide | simp | omega)) rfl ?_; clear hA a; intro a hA
 refine S.val hA (R.assign rfl) rfl ?_; clear hA a; intro a hA
 refine S.done ?_
 replace hA : St 26 [(0, _), (17, _)] a := hA.sub ((.cons rfl (.cons rfl .nil)))
 refine Ends.condT hA rfl ?_
 refine Ends.region ?_
 refine S.val hA (R.move rfl) rfl ?_; clear hA a; intro a hA
 refine S.call hA (R.callF Tryd.func30 rfl rfl rfl) rfl (pf_missf p q m nb ns ob ws bs wr os av Y cap hwr hlen hos hY2 c l s o hmc hl hs sl tp nx htp hh _ (hM.hereN 5)) ?_; clear hA a
 rintro e w1 ⟨op, rfl, hn⟩
 replace hM : Mem _ _ [pt p #[.pointer (some ⟨q, 0, none⟩), .int .i64 wr, .bool false, .int .i64 sl, .int .i64 0, .int .i64 tp, .int .i64 nx] 76, pt q #[.pointer (some ⟨m, 0, none⟩), .int .i64 bs, .slice (some ⟨nb, 0, none⟩) ns ns, .slice (some ⟨ob, 0, none⟩) ws ws] 73, pt ob ((vals os)) 22, own 3 1 (.slice av Y.length cap) Y.length (Y.map (Value.int .i64)), memO m c l (s + 1) op] _ := hM.callL 5 hn; clear hn
 refine ⟨.tuple #[], rfl, fun a hA => ?_⟩
 refine S.done ?_
 refine Ends.inBlock (Ends.seq (Ends.region ?_))
 refine S.val hA (R.move rfl) rfl ?_; clear hA a; intro a hA
 refine S.val hA (R.nilCheck rfl) rfl ?_; clear hA a; intro a hA
 refine S.val hA (R.fieldAddr (q := 4) fi76_4 rfl rfl rfl) rfl ?_; clear hA a; intro a hA
 refine S.val hA (R.load sz74 rfl (hM.cell (k := 0) rfl rfl)) rfl ?_; clear hA a; intro a hA
 refine S.val hA (R.ff (R.eql rfl rfl) (by first | decide | simp | omega)) rfl ?_; clear hA a; intro a hA
 refine S.val hA (R.assign rfl) rfl ?_; clear hA a; intro a hA
 refine S.done ?_
 replace hA : St 26 [(2, _)] a := hA.sub ((.cons rfl .nil))
 refine Ends.ret1 Tryd.func18 Tryd.results18 hA rfl ?_
 exact ⟨_, rfl, hM.firstN 5⟩
set_option maxRecDepth 100000 in
set_option maxHeartbeats 400000 in
theorem Spf_over (p q m nb ns ob ws : Nat) (bs wr : Int) (os : List Value) (av : Option Addr) (Y : List Int) (cap : Nat) (hwr : 0 ≤ wr ∧ wr < ws) (hlen : os.length = ws) (hos : os[wr.toNat]? = some (.slice av Y.length cap)) (hY2 : Y.length ≤ 2) (c : Nat) (l : List Int) (s : Int) (o : CellOp) (hmc : m ≠ c) (hl : 0 ≤ bs ∧ bs + 1 ≤ l.length ∧ l.length ≤ 1000000) (hs : 0 ≤ s ∧ s < 9223372036854775806) (g : Bool) (sl tp nx : Int) (w : World) (hM : Mem w (feet [pt p #[.pointer (some ⟨q, 0, none⟩), .int .i64 wr, .bool g, .int .i64 sl, .int .i64 3, .int .i64 tp, .int .i64 nx] 76, pt q #[.pointer (some ⟨m, 0, none⟩), .int .i64 bs, .slice (some ⟨nb, 0, none⟩) ns ns, .slice (some ⟨ob, 0, none⟩) ws ws] 73, pt ob ((vals os)) 22, own 3 1 (.slice av Y.length cap) Y.length (Y.map (Value.int .i64)), memO m c l s o]) [pt p #[.pointer (some ⟨q, 0, none⟩), .int .i64 wr, .bool g, .int .i64 sl, .int .i64 3, .int .i64 tp, .int .i64 nx] 76, pt q #[.pointer (some ⟨m, 0, none⟩), .int .i64 bs, .slice (some ⟨nb, 0, none⟩) ns ns, .slice (some ⟨ob, 0, none⟩) ws ws] 73, pt ob ((vals os)) 22, own 3 1 (.slice av Y.length cap) Y.length (Y.map (Value.int .i64)), memO m c l s o] w) :
  Calls Tryd.prog 18 #[.pointer (some ⟨p, 0, none⟩)] w fun e w' => e = .returned (.bool true) ∧ Mem w (feet [pt p #[.pointer (some ⟨q, 0, none⟩), .int .i64 wr, .bool g, .int .i64 sl, .int .i64 3, .int .i64 tp, .int .i64 nx] 76, pt q #[.pointer (some ⟨m, 0, none⟩), .int .i64 bs, .slice (some ⟨nb, 0, none⟩) ns ns, .slice (some ⟨ob, 0, none⟩) ws ws] 73, pt ob ((vals os)) 22, own 3 1 (.slice av Y.length cap) Y.length (Y.map (Value.int .i64)), memO m c l s o]) [pt p #[.pointer (some ⟨q, 0, none⟩), .int .i64 wr, .bool g, .int .i64 sl, .int .i64 3, .int .i64 tp, .int .i64 nx] 76, pt q #[.pointer (some ⟨m, 0, none⟩), .int .i64 bs, .slice (some ⟨nb, 0, none⟩) ns ns, .slice (some ⟨ob, 0, none⟩) ws ws] 73, pt ob ((vals os)) 22, own 3 1 (.slice av Y.length cap) Y.length (Y.map (Value.int .i64)), memO m c l s o] w' := by
 refine Calls.of_ends (vs := [.pointer (some ⟨p, 0, none⟩)]) Tryd.func18 rfl Tryd.ntmps18 rfl ?_
 intro a hA
 replace hA : St 26 [(0, _)] a := hA
 refine Ends.seq (Ends.region ?_)
 refine S.val hA (R.assign rfl) rfl ?_; clear hA a; intro a hA
 refine S.done ?_
 refine Ends.seq (Ends.seq (Ends.region ?_))
 refine S.val hA (R.move rfl) rfl ?_; clear hA a; intro a hA
 refine S.val hA (R.eqlNil Tryd.underlying49 rfl rfl) rfl ?_; clear hA a; intro a hA
 refine S.done ?_
 refine Ends.condF hA rfl ?_
 refine Ends.skip (Ends.seq (Ends.seq (Ends.region ?_)))
 refine S.val hA (R.move rfl) rfl ?_; clear hA a; intro a hA
 refine S.val hA (R.nilCheck rfl) rfl ?_; clear hA a; intro a hA
 refine S.val hA (R.fieldAddr (q := 4) fi76_4 rfl rfl rfl) rfl ?_; clear hA a; intro a hA
 refine S.val hA (R.load sz74 rfl (hM.cell (k := 0) rfl rfl)) rfl ?_; clear hA a; intro a hA
 refine S.done ?_
 replace hA : St 26 [(0, _), (8, _)] a := hA.sub ((.cons rfl (.cons rfl .nil)))
 refine Ends.block (Ends.seq (Ends.region ?_))
 refine S.val hA (R.ff (R.eql rfl rfl) (by first | decide | simp | omega)) rfl ?_; clear hA a; intro a hA
 refine S.val hA (R.assign rfl) rfl ?_; clear hA a; intro a hA
 refine S.done ?_
 refine Ends.condF hA rfl ?_
 refine Ends.seq (Ends.region ?_)
 refine S.val hA (R.ff (R.eql rfl rfl) (by first | decide | simp | omega)) rfl ?_; clear hA a; intro a hA
 refine S.val hA (R.assign rfl) rfl ?_; clear hA a; intro a hA
 refine S.done ?_
 refine Ends.condF hA rfl ?_
 refine Ends.seq (Ends.region ?_)
 refine S.val hA (R.ff (R.eql rfl rfl) (by first | decide | simp | omega)) rfl ?_; clear hA a; intro a hA
 refine S.val hA (R.assign rfl) rfl ?_; clear hA a; intro a hA
 refine S.done ?_
 replace hA : St 26 [(0, _), (17, _)] a := hA.sub ((.cons rfl (.cons rfl .nil)))
 refine Ends.condF hA rfl ?_
 refine Ends.skip (Ends.inBlock (Ends.seq (Ends.region ?_)))
 refine S.val hA (R.move rfl) rfl ?_; clear hA a; intro a hA
 refine S.val hA (R.nilCheck rfl) rfl ?_; clear hA a; intro a hA
 refine S.val hA (R.fieldAddr (q := 4) fi76_4 rfl rfl rfl) rfl ?_; clear hA a; intro a hA
 refine S.val hA (R.load sz74 rfl (hM.cell (k := 0) rfl rfl)) rfl ?_; clear hA a; intro a hA
 refine S.val hA (R.tt (R.eql rfl rfl) (by first | decide | simp | omega)) rfl ?_; clear hA a; intro a hA
 refine S.val hA (R.assign rfl) rfl ?_; clear hA a; intro a hA
 refine S.done ?_
 replace hA : St 26 [(2, _)] a := hA.sub ((.cons rfl .nil))
 refine Ends.ret1 Tryd.func18 Tryd.results18 hA rfl ?_
 exact ⟨rfl, hM⟩
set_option maxRecDepth 100000 in
set_option maxHeartbeats 400000 in
theorem pact_over (p q : Nat) (wr : Int) (t : PAct) (w : World) (hp : w.heap[p]? = some (.cells #[.pointer (some ⟨q, 0, none⟩), .int .i64 wr, .bool t.give, .int .i64 t.slot, .int .i64 t.ph, .int .i64 t.top, .int .i64 t.next] 76 (0, 0))) :
    Calls Tryd.prog 17 #[.pointer (some ⟨p, 0, none⟩)] w fun e w' => e = .returned (.bool (decide (t.ph = 3))) ∧ w = w' := by
  have hM := Mem.start w
  refine Calls.of_ends (vs := [.pointer (some ⟨p, 0, none⟩)]) Tryd.func17 rfl Tryd.ntmps17 rfl ?_
  intro a hA
  replace hA : St 12 [(0, _)] a := hA
  refine Ends.seq (Ends.region ?_)
  refine S.val hA (R.assign rfl) rfl ?_; clear hA a; intro a hA
  refine S.done ?_
  refine Ends.seq (Ends.region ?_)
  refine S.val hA (R.move rfl) rfl ?_; clear hA a; intro a hA
  refine S.val hA (R.eqlNil Tryd.underlying49 rfl rfl) rfl ?_; clear hA a; intro a hA
  refine S.val hA (R.move rfl) rfl ?_; clear hA a; intro a hA
  refine S.valg (dj := 5) hA (by kernel_rfl) rfl (R.move rfl) rfl ?_; clear hA a; intro a hA
  refine S.valg (dj := 5) hA (by kernel_rfl) rfl (R.nilCheck rfl) rfl ?_; clear hA a; intro a hA
  refine S.valg (dj := 5) hA (by kernel_rfl) rfl (R.fieldAddr (q := 4) fi76_4 rfl rfl rfl) rfl ?_; clear hA a; intro a hA
  refine S.valg (dj := 5) hA (by kernel_rfl) rfl (R.load sz74 rfl (hM.cellB hp rfl)) rfl ?_; clear hA a; intro a hA
  refine S.valg (dj := 5) hA (by kernel_rfl) rfl (R.eql rfl rfl) rfl ?_; clear hA a; intro a hA
  refine S.val hA (R.pickF rfl rfl) rfl ?_; clear hA a; intro a hA
  refine S.val hA (R.assign rfl) rfl ?_; clear hA a; intro a hA
  refine S.done ?_
  replace hA : St 12 [(2, _)] a := hA.sub ((.cons rfl .nil))
  refine Ends.ret1 Tryd.func17 Tryd.results17 hA rfl ?_
  exact ⟨rfl, rfl⟩
set_option maxRecDepth 100000 in
set_option maxHeartbeats 400000 in
theorem pact_slot (p q : Nat) (wr : Int) (t : PAct) (h3 : t.ph = 3) (w : World) (hp : w.heap[p]? = some (.cells #[.pointer (some ⟨q, 0, none⟩), .int .i64 wr, .bool t.give, .int .i64 t.slot, .int .i64 t.ph, .int .i64 t.top, .int .i64 t.next] 76 (0, 0))) :
    Calls Tryd.prog 19 #[.pointer (some ⟨p, 0, none⟩)] w fun e w' => e = .returned (.int .i64 (t.slot)) ∧ w = w' := by
  have hM := Mem.start w
  refine Calls.of_ends (vs := [.pointer (some ⟨p, 0, none⟩)]) Tryd.func19 rfl Tryd.ntmps19 rfl ?_
  intro a hA
  replace hA : St 16 [(0, _)] a := hA
  refine Ends.seq (Ends.region ?_)
  refine S.val hA (R.assign rfl) rfl ?_; clear hA a; intro a hA
  refine S.done ?_
  refine Ends.seq (Ends.seq (Ends.region ?_))
  refine S.val hA (R.move rfl) rfl ?_; clear hA a; intro a hA
  refine S.val hA (R.eqlNil Tryd.underlying49 rfl rfl) rfl ?_; clear hA a; intro a hA
  refine S.val hA (R.move rfl) rfl ?_; clear hA a; intro a hA
  refine S.valg (dj := 5) hA (by kernel_rfl) rfl (R.move rfl) rfl ?_; clear hA a; intro a hA
  refine S.valg (dj := 5) hA (by kernel_rfl) rfl (R.nilCheck rfl) rfl ?_; clear hA a; intro a hA
  refine S.valg (dj := 5) hA (by kernel_rfl) rfl (R.fieldAddr (q := 4) fi76_4 rfl rfl rfl) rfl ?_; clear hA a; intro a hA
  refine S.valg (dj := 5) hA (by kernel_rfl) rfl (R.load sz74 rfl (hM.cellB hp rfl)) rfl ?_; clear hA a; intro a hA
  refine S.valg (dj := 5) hA (by kernel_rfl) rfl (R.ff (R.neq rfl rfl) (by omega)) rfl ?_; clear hA a; intro a hA
  refine S.val hA (R.pickF rfl rfl) rfl ?_; clear hA a; intro a hA
  refine S.done ?_
  replace hA : St 16 [(0, _), (11, _)] a := hA.sub ((.cons rfl (.cons rfl .nil)))
  refine Ends.condF hA rfl ?_
  refine Ends.skip (Ends.seq (Ends.region ?_))
  refine S.val hA (R.move rfl) rfl ?_; clear hA a; intro a hA
  refine S.val hA (R.nilCheck rfl) rfl ?_; clear hA a; intro a hA
  refine S.val hA (R.fieldAddr (q := 3) fi76_3 rfl rfl rfl) rfl ?_; clear hA a; intro a hA
  refine S.val hA (R.load sz3 rfl (hM.cellB hp rfl)) rfl ?_; clear hA a; intro a hA
  refine S.val hA (R.assign rfl) rfl ?_; clear hA a; intro a hA
  refine S.done ?_
  replace hA : St 16 [(2, _)] a := hA.sub ((.cons rfl .nil))
  refine Ends.ret1 Tryd.func19 Tryd.results19 hA rfl ?_
  exact ⟨rfl, rfl⟩
def actC (p q : Nat) (wr : Int) (t : PAct) : Ck := pt p #[.pointer (some ⟨q, 0, none⟩), .int .i64 wr, .bool t.give, .int .i64 t.slot, .int .i64 t.ph, .int .i64 t.top, .int .i64 t.next] 76
def pcks (p q m nb ns ob ws c : Nat) (bs wr : Int) (os : List Value) (av : Option Addr) (cap : Nat) (o : CellOp) (z : PSt) : List Ck :=
  [actC p q wr z.t, pt q #[.pointer (some ⟨m, 0, none⟩), .int .i64 bs, .slice (some ⟨nb, 0, none⟩) ns ns, .slice (some ⟨ob, 0, none⟩) ws ws] 73, pt ob (vals (os.set wr.toNat (.slice av z.Y.length cap))) 22, own 3 1 (.slice av z.Y.length cap) z.Y.length (z.Y.map (Value.int .i64)), memO m c z.l z.s o]
theorem pstep_any (p q m nb ns ob ws c : Nat) (bs wr n : Int) (os : List Value) (av : Option Addr) (cap : Nat) (o : CellOp) (hmc : m ≠ c) (hwr : 0 ≤ wr ∧ wr < ws) (hlen : os.length = ws) (z : PSt) (hz : SOK bs n z) (hs : z.s < 9223372036854775806) (w : World)
  (hM : Mem w (feet (pcks p q m nb ns ob ws c bs wr os av cap o z)) (pcks p q m nb ns ob ws c bs wr os av cap o z) w) :
  Calls Tryd.prog 18 #[.pointer (some ⟨p, 0, none⟩)] w fun e w' => ∃ av' cap' o', e = .returned (.bool (decide ((pstep bs z).t.ph = 3))) ∧
   Mem w (feet (pcks p q m nb ns ob ws c bs wr os av cap o z)) (pcks p q m nb ns ob ws c bs wr os av' cap' o' (pstep bs z)) w' := by
 obtain ⟨⟨g, sl, ph, tp, nx⟩, Y, l, s⟩ := z
 obtain ⟨hm, ha, hy, hy2, hs0⟩ := hz
 simp only at hs0 hs hy2
 obtain ⟨hb0, hn1, hn2, hbl, hll, htop, hlk⟩ := hm
 simp only at hbl hll htop
 have hl : 0 ≤ bs ∧ bs + 1 ≤ l.length ∧ l.length ≤ 1000000 := by omega
 have hss : 0 ≤ s ∧ s < 9223372036854775806 := ⟨hs0, hs⟩
 have hwl : wr.toNat < os.length := by omega
 have hlen' : (os.set wr.toNat (.slice av Y.length cap)).length = ws := by rw [List.length_set]; exact hlen
 have hos : (os.set wr.toNat (.slice av Y.length cap))[wr.toNat]? = some (.slice av Y.length cap) := by rw [List.getElem?_set_self hwl]
 have hfix : ∀ Z : List Int, Z = Y → (os.set wr.toNat (.slice av Z.length cap)) = (os.set wr.toNat (.slice av Y.length cap)) := fun Z hZ => by rw [hZ]
 rcases pcase ha bs Y l with ⟨h, hg, hY⟩ | ⟨h, hg, hY⟩ | ⟨h, hg, hY, ht⟩ | ⟨h, hg, hY, ht⟩ | ⟨h, hg, hY⟩ | ⟨h, hg⟩ | ⟨h, hg⟩ | ⟨h, hg, hh⟩ | ⟨h, hg, hh⟩ | ⟨h, hh⟩ | ⟨h⟩
 all_goals simp only at h
 all_goals subst h
 all_goals (try (simp only at hg; subst hg))
 ·
  rw [pstep_keep rfl rfl hY]
  refine (Spf_keep p q m nb ns ob ws bs wr _ av Y cap hwr hlen' hos hy2 c l s o hmc hl hss sl tp nx hY w hM).mono ?_
  rintro e w' ⟨a2, c2, he, hn⟩
  rw [List.set_set] at hn
  exact ⟨a2, c2, _, he, hn⟩
 ·
  rw [pstep_own rfl rfl hY]
  refine (Spf_own p q m nb ns ob ws bs wr _ av Y cap hwr hlen' hos hy2 c l s o hmc hl hss sl tp nx hY w hM).mono ?_
  rintro e w' ⟨he, hn⟩
  rw [List.set_set] at hn
  exact ⟨_, _, _, he, hn⟩
 ·
  rw [pstep_none rfl rfl hY ht]
  refine (Spf_none p q m nb ns ob ws bs wr _ av Y cap hwr hlen' hos hy2 c l s o hmc hl hss sl tp nx ⟨htop.1, htop.2.1⟩ (by rw [hY]; rfl) ht w hM).mono ?_
  rintro e w' ⟨op, he, hn⟩
  exact ⟨_, _, _, he, hn⟩
 ·
  rw [pstep_some rfl rfl hY ht]
  refine (Spf_some p q m nb ns ob ws bs wr _ av Y cap hwr hlen' hos hy2 c l s o hmc hl hss sl tp nx ⟨htop.1, htop.2.1⟩ (by rw [hY]; rfl) ht w hM).mono ?_
  rintro e w' ⟨op, he, hn⟩
  exact ⟨_, _, _, he, hn⟩
 ·
  rw [pstep_full rfl rfl hY]
  refine (Spf_full p q m nb ns ob ws bs wr _ av Y cap hwr hlen' hos hy2 c l s o hmc hl hss sl tp nx ⟨htop.1, htop.2.1⟩ hY w hM).mono ?_
  rintro e w' ⟨op, he, hn⟩
  exact ⟨_, _, _, he, hn⟩
 ·
  rw [pstep_link rfl rfl]
  have h3 := ha.2.2.1 (.inl rfl)
  have h1 := ha.1 rfl
  simp only at h1 h3
  refine (Spf_link p q m nb ns ob ws bs wr _ av Y cap hwr hlen' hos hy2 c l s o hmc hl hss sl tp nx ⟨h3.1.1, h3.1.2.1⟩ (by omega) w hM).mono ?_
  rintro e w' ⟨op, he, hn⟩
  exact ⟨_, _, _, he, hn⟩
 ·
  rw [pstep_next rfl rfl]
  have h3 := ha.2.2.1 (.inl rfl)
  have h4 := h3.1.2.2
  have h5 := h3.2 rfl
  unfold atI at h4 h5
  simp only at h4 h5
  refine (Spf_next p q m nb ns ob ws bs wr _ av Y cap hwr hlen' hos hy2 c l s o hmc hl hss sl tp nx ⟨h3.1.1, h3.1.2.1⟩ (by omega) w hM).mono ?_
  rintro e w' ⟨op, he, hn⟩
  exact ⟨_, _, _, he, hn⟩
 ·
  rw [pstep_push rfl rfl hh]
  have h3 := ha.2.2.1 (.inr rfl)
  refine (Spf_push p q m nb ns ob ws bs wr _ av Y cap hwr hlen' hos hy2 c l s o hmc hl hss sl tp nx ⟨h3.1.1, h3.1.2.1⟩ hh w hM).mono ?_
  rintro e w' ⟨op, he, hn⟩
  exact ⟨_, _, _, he, hn⟩
 ·
  rw [pstep_pop rfl rfl hh]
  have h3 := ha.2.2.1 (.inr rfl)
  refine (Spf_pop p q m nb ns ob ws bs wr _ av Y cap hwr hlen' hos hy2 c l s o hmc hl hss sl tp nx ⟨h3.1.1, h3.1.2.1⟩ hh w hM).mono ?_
  rintro e w' ⟨op, he, hn⟩
  exact ⟨_, _, _, he, hn⟩
 ·
  rw [pstep_miss rfl hh]
  have h3 := ha.2.2.1 (.inr rfl)
  cases g
  ·
   refine (Spf_missf p q m nb ns ob ws bs wr _ av Y cap hwr hlen' hos hy2 c l s o hmc hl hss sl tp nx ⟨h3.1.1, h3.1.2.1⟩ hh w hM).mono ?_
   rintro e w' ⟨op, he, hn⟩
   exact ⟨_, _, _, he, hn⟩
  ·
   refine (Spf_misst p q m nb ns ob ws bs wr _ av Y cap hwr hlen' hos hy2 c l s o hmc hl hss sl tp nx ⟨h3.1.1, h3.1.2.1⟩ hh w hM).mono ?_
   rintro e w' ⟨op, he, hn⟩
   exact ⟨_, _, _, he, hn⟩
 ·
  rw [pstep_over rfl]
  refine (Spf_over p q m nb ns ob ws bs wr _ av Y cap hwr hlen' hos hy2 c l s o hmc hl hss g sl tp nx w hM).mono ?_
  rintro e w' ⟨he, hn⟩
  exact ⟨_, _, _, he, hn⟩
end Go.Proofs.YtjjbognomeplbaaDoor
namespace Go.Proofs.YtjjbognomeplbaaDoor
def Chn (bs : Int) (l : List Int) : Int → List Int → Prop
  | p, [] => p = -1
  | p, x :: r => p = x ∧ 0 ≤ x ∧ Chn bs l (l.getD (bs + 1 + x).toNat 0) r
def Held (n : Int) (H F : List Int) : Prop := (H.length : Int) = n ∧ F.Nodup ∧ (∀ x ∈ F, 0 ≤ x ∧ x < n) ∧ ∀ j : Int, 0 ≤ j → j < n → (j ∈ F ↔ H.getD j.toNat 0 = -1)
def verI (x : Int) : Int := x / 4294967296
def ActI (bs n : Int) (l H : List Int) (j : Nat) (t : PAct) : Prop :=
  AOK n t ∧ t.ph ≠ 3 ∧ (t.give = true → H.getD t.slot.toNat 0 = j) ∧ (t.ph = 1 ∨ t.ph = 2 → t.top = l.getD bs.toNat 0 ∨ verI t.top < verI (l.getD bs.toNat 0)) ∧
    (t.ph = 2 → t.give = false → t.top = l.getD bs.toNat 0 → t.next = l.getD (bs + 1 + atI t.top).toNat 0) ∧ (t.ph = 2 → t.give = true → l.getD (bs + 1 + t.slot).toNat 0 = atI t.top)
structure GI (bs n V : Int) (l H xs : List Int) (ys : List (List Int)) (ac : List (Option PAct)) : Prop where
  mi : MI bs n l
  chn : Chn bs l (atI (l.getD bs.toNat 0)) xs
  held : Held n H (ys.flatten ++ xs)
  own : ∀ y ∈ ys, y.length ≤ 2
  acts : ∀ (j : Nat) (t : PAct), ac[j]? = some (some t) → ActI bs n l H j t
  ver : verI (l.getD bs.toNat 0) ≤ V
theorem chn_top {bs : Int} (hb : 0 ≤ bs) {l : List Int} (v : Int) : ∀ {xs : List Int} {p : Int}, Chn bs l p xs → Chn bs (l.set bs.toNat v) p xs
  | [], _, h => h
  | x :: r, p, h => ⟨h.1, h.2.1, by have := h.2.1; rw [getD_set_ne _ _ _ _ (by omega)]; exact chn_top hb v h.2.2⟩
theorem chn_link {bs : Int} (hb : 0 ≤ bs) {l : List Int} (s v : Int) (hs : 0 ≤ s) : ∀ {xs : List Int} {p : Int}, Chn bs l p xs → s ∉ xs → Chn bs (l.set (bs + 1 + s).toNat v) p xs
  | [], _, h, _ => h
  | x :: r, p, h, hn => ⟨h.1, h.2.1, by
      have h0 := h.2.1
      have h1 : s ≠ x := fun e => hn (by rw [e]; exact List.mem_cons_self ..)
      rw [getD_set_ne _ _ _ _ (by omega)]; exact chn_link hb s v hs h.2.2 (fun e => hn (List.mem_cons_of_mem _ e))⟩
theorem chn_pos {bs : Int} {l xs : List Int} {p : Int} (h : Chn bs l p xs) (hp : 0 ≤ p) : ∃ r, xs = p :: r ∧ Chn bs l (l.getD (bs + 1 + p).toNat 0) r := by
  cases xs with
  | nil => have : p = -1 := h; omega
  | cons x r => obtain ⟨rfl, h1, h2⟩ := h; exact ⟨r, rfl, h2⟩
theorem chn_neg {bs : Int} {l xs : List Int} {p : Int} (h : Chn bs l p xs) (hp : p < 0) : xs = [] := by
  cases xs with
  | nil => rfl
  | cons x r => obtain ⟨rfl, h1, h2⟩ := h; omega
theorem verI_up {x p : Int} (h : 0 ≤ verI x ∧ verI x < 1073741823) : verI (upI x p) = verI x + 1 := by
  unfold verI at *
  unfold upI
  rw [packI_v]
  omega
theorem Held.perm {n : Int} {H F F' : List Int} (h : Held n H F) (hp : F.Perm F') : Held n H F' :=
  ⟨h.1, hp.nodup_iff.1 h.2.1, fun x hx => h.2.2.1 x (hp.mem_iff.2 hx), fun j h0 h1 => by rw [← hp.mem_iff]; exact h.2.2.2 j h0 h1⟩
theorem Held.take {n s v : Int} {H F F' : List Int} (h : Held n H F) (hp : F.Perm (s :: F')) (hv : v ≠ -1) : 0 ≤ s ∧ s < n ∧ H.getD s.toNat 0 = -1 ∧ Held n (H.set s.toNat v) F' := by
  have h1 := h.perm hp
  have hs := h1.2.2.1 s (List.mem_cons_self ..)
  have hl := h1.1
  have hnd := List.nodup_cons.1 h1.2.1
  refine ⟨hs.1, hs.2, (h1.2.2.2 s hs.1 hs.2).1 (List.mem_cons_self ..), by rw [List.length_set]; exact hl, hnd.2, fun x hx => h1.2.2.1 x (List.mem_cons_of_mem _ hx), fun j h0 hj => ?_⟩
  by_cases e : j = s
  · subst e
    rw [getD_set_at _ _ _ (by omega)]
    exact ⟨fun hm => absurd hm hnd.1, fun hm => absurd hm hv⟩
  · rw [getD_set_ne _ _ _ _ (by omega), ← h1.2.2.2 j h0 hj]
    exact ⟨fun hm => List.mem_cons_of_mem _ hm, fun hm => (List.mem_cons.1 hm).resolve_left e⟩
theorem Held.give {n s : Int} {H F F' : List Int} (h : Held n H F) (hp : F'.Perm (s :: F)) (hs : 0 ≤ s ∧ s < n) (hv : H.getD s.toNat 0 ≠ -1) : Held n (H.set s.toNat (-1)) F' := by
  have hl := h.1
  have hnot : s ∉ F := fun hm => hv ((h.2.2.2 s hs.1 hs.2).1 hm)
  refine Held.perm ?_ hp.symm
  refine ⟨by rw [List.length_set]; exact hl, List.nodup_cons.2 ⟨hnot, h.2.1⟩, fun x hx => ?_, fun j h0 hj => ?_⟩
  · rcases List.mem_cons.1 hx with rfl | hx
    · exact hs
    · exact h.2.2.1 x hx
  · by_cases e : j = s
    · subst e
      rw [getD_set_at _ _ _ (by omega)]
      exact ⟨fun _ => rfl, fun _ => List.mem_cons_self ..⟩
    · rw [getD_set_ne _ _ _ _ (by omega), ← h.2.2.2 j h0 hj]
      exact ⟨fun hm => (List.mem_cons.1 hm).resolve_left e, fun hm => List.mem_cons_of_mem _ hm⟩
theorem flat_set : ∀ {ys : List (List Int)} {k : Nat} {y : List Int}, ys[k]? = some y → ∀ y' : List Int, ∃ A B, ys.flatten = A ++ (y ++ B) ∧ (ys.set k y').flatten = A ++ (y' ++ B)
  | [], _, _, h, _ => by simp at h
  | z :: ys, 0, y, h, y' => by
    have e : z = y := by simpa using h
    subst e
    exact ⟨[], ys.flatten, by simp, by simp⟩
  | z :: ys, k + 1, y, h, y' => by
    obtain ⟨A, B, h1, h2⟩ := flat_set (ys := ys) (k := k) (y := y) (by simpa using h) y'
    exact ⟨z ++ A, B, by simp [h1], by simp [h2]⟩
theorem set_self {α : Type} {l : List α} {k : Nat} {x : α} (h : l[k]? = some x) : l.set k x = l := by
  obtain ⟨h1, h2⟩ := List.getElem?_eq_some_iff.1 h
  rw [← h2]; exact List.set_getElem_self h1
section
variable {bs n V : Int} {l H xs : List Int} {ys : List (List Int)} {ac : List (Option PAct)} {k : Nat} {t : PAct} {Y : List Int}
theorem acts_keep (h : GI bs n V l H xs ys ac) {l' H' : List Int} {x : Option PAct} (hk : ∀ t', x = some t' → ActI bs n l' H' k t')
    (ho : ∀ j t, j ≠ k → ActI bs n l H j t → ActI bs n l' H' j t) : ∀ (j : Nat) (t : PAct), (ac.set k x)[j]? = some (some t) → ActI bs n l' H' j t := by
  intro j t hj
  rw [List.getElem?_set] at hj
  split at hj
  · rename_i e
    subst e
    split at hj
    · exact hk t (by simpa using hj)
    · cases hj
  · rename_i e
    exact ho j t (fun e' => e e'.symm) (h.acts j t hj)
theorem gi_out (h : GI bs n V l H xs ys ac) (ha : ActI bs n l H k t) (hg : t.give = true) : t.slot ∉ ys.flatten ++ xs := by
  intro hm
  have hs := ha.1.1 hg
  have := (h.held.2.2.2 t.slot hs.1 hs.2).1 hm
  have h2 := ha.2.2.1 hg
  omega
theorem keep_link (h : GI bs n V l H xs ys ac) (ha : ActI bs n l H k t) (hg : t.give = true) (v : Int) : ∀ j u, j ≠ k → ActI bs n l H j u → ActI bs n (l.set (bs + 1 + t.slot).toNat v) H j u := by
  intro j u hj ⟨u1, u2, u3, u4, u5, u6⟩
  have hb := h.mi.1
  have hs := ha.1.1 hg
  have hout := gi_out h ha hg
  have htop : (l.set (bs + 1 + t.slot).toNat v).getD bs.toNat 0 = l.getD bs.toNat 0 := getD_set_ne _ _ _ _ (by omega)
  refine ⟨u1, u2, u3, by rw [htop]; exact u4, fun h2 hg2 ht => ?_, fun h2 hg2 => ?_⟩
  · rw [htop] at ht
    have h0 := (u1.2.2.1 (.inr h2)).2 hg2
    obtain ⟨r, hr, -⟩ := chn_pos h.chn (by rw [← ht]; exact h0)
    have hne : t.slot ≠ atI u.top := fun e => hout (by rw [hr, ← ht, ← e]; simp)
    rw [getD_set_ne _ _ _ _ (by omega)]
    exact u5 h2 hg2 ht
  · have hs2 := u1.1 hg2
    have e2 := u3 hg2
    have e1 := ha.2.2.1 hg
    have hne : t.slot ≠ u.slot := fun e => hj (by rw [e] at e1; omega)
    rw [getD_set_ne _ _ _ _ (by omega)]
    exact u6 h2 hg2
theorem keep_top (h : GI bs n V l H xs ys ac) (hV : V < 1073741823) {p : Int} : ∀ (j : Nat) (u : PAct), ActI bs n l H j u → ActI bs n (l.set bs.toNat (upI (l.getD bs.toNat 0) p)) H j u := by
  intro j u ⟨u1, u2, u3, u4, u5, u6⟩
  have hm := h.mi
  obtain ⟨hb, hn1, hn2, hl, hl2, ht0, -⟩ := hm
  have hv := h.ver
  have hv0 : 0 ≤ verI (l.getD bs.toNat 0) := by have := ht0.1; unfold verI; omega
  have hup := verI_up (x := l.getD bs.toNat 0) (p := p) ⟨hv0, by omega⟩
  have htop : (l.set bs.toNat (upI (l.getD bs.toNat 0) p)).getD bs.toNat 0 = upI (l.getD bs.toNat 0) p := getD_set_at _ _ _ (by omega)
  have hlt : u.ph = 1 ∨ u.ph = 2 → verI u.top < verI (upI (l.getD bs.toNat 0) p) := fun hp => by
    rw [hup]
    rcases u4 hp with e | e
    · rw [e]; omega
    · omega
  refine ⟨u1, u2, u3, fun hp => .inr (by rw [htop]; exact hlt hp), fun h2 hg2 ht => ?_, fun h2 hg2 => ?_⟩
  · rw [htop] at ht
    have := hlt (.inr h2)
    rw [ht] at this; omega
  · have hs2 := u1.1 hg2
    rw [getD_set_ne _ _ _ _ (by omega)]
    exact u6 h2 hg2
theorem keep_held {s v : Int} {l : List Int} (hs : 0 ≤ s) (hh : ∀ j : Nat, j ≠ k → H.getD s.toNat 0 ≠ j) : ∀ j u, j ≠ k → ActI bs n l H j u → ActI bs n l (H.set s.toNat v) j u := by
  intro j u hj ⟨u1, u2, u3, u4⟩
  refine ⟨u1, u2, fun hg => ?_, u4⟩
  have h2 := u3 hg
  have hs2 := u1.1 hg
  have hne : s ≠ u.slot := fun e => hh j hj (by rw [e]; exact h2)
  rw [getD_set_ne _ _ _ _ (by omega)]
  exact h2
inductive POut (bs n V : Int) (H : List Int) (ys : List (List Int)) (ac : List (Option PAct)) (k : Nat) (g : Bool) (slot : Int) (z : PSt) : Prop
  | on (xs : List Int) (h : GI bs n V z.l H xs (ys.set k z.Y) (ac.set k (some z.t))) (h3 : z.t.ph ≠ 3) (hg : z.t.give = g) (hs : z.t.slot = slot)
  | gave (xs : List Int) (hg : g = true) (h3 : z.t.ph = 3) (hs : z.t.slot = slot) (h : GI bs n (V + 1) z.l (H.set slot.toNat (-1)) xs (ys.set k z.Y) (ac.set k none))
  | empty (hg : g = false) (h3 : z.t.ph = 3) (hs : z.t.slot = slot) (hY : z.Y = []) (h : GI bs n V z.l H [] (ys.set k z.Y) (ac.set k none))
  | took (xs : List Int) (hg : g = false) (h3 : z.t.ph = 3) (hs : 0 ≤ z.t.slot ∧ z.t.slot < n) (hh : H.getD z.t.slot.toNat 0 = -1) (h : GI bs n (V + 1) z.l (H.set z.t.slot.toNat k) xs (ys.set k z.Y) (ac.set k none))
theorem gi_step (h : GI bs n V l H xs ys ac) (hV : V < 1073741823) (hk : ac[k]? = some (some t)) (hY : ys[k]? = some Y) (s : Int) : POut bs n V H ys ac k t.give t.slot (pstep bs ⟨t, Y, l, s⟩) := by
 have ha := h.acts k t hk
 have ha' := ha
 obtain ⟨a1, a2, a3, a4, a5, a6⟩ := ha'
 have hm := h.mi
 obtain ⟨hb, hn1, hn2, hl, hl2, ht0, hlk⟩ := h.mi
 have hYm : Y ∈ ys := List.mem_of_getElem? hY
 have hYl := h.own Y hYm
 have hYs : ys.set k Y = ys := set_self hY
 have hown : ∀ y', y'.length ≤ 2 → ∀ y ∈ ys.set k y', y.length ≤ 2 := fun y' hy' y hy => by
  rcases List.mem_or_eq_of_mem_set hy with h1 | h1
  · exact h.own y h1
  · rw [h1]; exact hy'
 have hv0 : 0 ≤ verI (l.getD bs.toNat 0) := by have := ht0.1; unfold verI; omega
 have hv := h.ver
 rcases pcase a1 bs Y l with ⟨h0, hg, hc⟩ | ⟨h0, hg, hc⟩ | ⟨h0, hg, hc, ht⟩ | ⟨h0, hg, hc, ht⟩ | ⟨h0, hg, hc⟩ | ⟨h0, hg⟩ | ⟨h0, hg⟩ | ⟨h0, hg, hh⟩ | ⟨h0, hg, hh⟩ | ⟨h0, hh⟩ | ⟨h0⟩
 ·
  rw [pstep_keep h0 hg hc]
  have hs := a1.1 hg
  have e3 := a3 hg
  refine .gave xs hg rfl rfl ⟨hm, h.chn, ?_, hown _ (by simp; omega), acts_keep h (fun t' ht' => nomatch ht') (keep_held hs.1 (fun j hj e => hj (by omega))), by show _ ≤ _; simp only; omega⟩
  obtain ⟨A, B, h1, h2⟩ := flat_set hY (Y ++ [t.slot])
  refine h.held.give ?_ hs (by rw [e3]; omega)
  simp only
  rw [h1, h2]
  refine List.perm_iff_count.2 fun c => ?_
  simp [List.count_append, List.count_cons]; omega
 ·
  rw [pstep_own h0 hg hc]
  obtain ⟨A, B, h1, h2⟩ := flat_set hY (Y.take (Y.length - 1))
  have hYe : Y = Y.take (Y.length - 1) ++ [Y.getD (Y.length - 1) 0] := by
   conv => lhs; rw [← List.take_append_drop (Y.length - 1) Y]
   rw [List.drop_eq_getElem_cons (by omega), List.getD_eq_getElem?_getD, List.getElem?_eq_getElem (by omega), show Y.length - 1 + 1 = Y.length by omega, List.drop_length]
   rfl
  have hp : (ys.flatten ++ xs).Perm (Y.getD (Y.length - 1) 0 :: ((ys.set k (Y.take (Y.length - 1))).flatten ++ xs)) := by
   rw [h1, h2]
   conv => lhs; rw [hYe]
   refine List.perm_iff_count.2 fun c => ?_
   simp only [List.count_append, List.count_cons, List.count_nil]; omega
  obtain ⟨g1, g2, g3, g4⟩ := h.held.take hp (v := (k : Int)) (by omega)
  exact .took xs hg rfl ⟨g1, g2⟩ g3 ⟨hm, h.chn, g4, hown _ (by simp; omega), acts_keep h (fun t' ht' => nomatch ht') (keep_held g1 (fun j hj e => by have := g3.symm.trans e; omega)), by simp only; omega⟩
 ·
  rw [pstep_none h0 hg hc ht]
  have hx := chn_neg h.chn ht
  subst hx
  exact .empty hg rfl rfl hc ⟨hm, h.chn, by rw [hYs]; exact h.held, by rw [hYs]; exact h.own, acts_keep h (fun t' ht' => nomatch ht') (fun j u _ hu => hu), hv⟩
 ·
  rw [pstep_some h0 hg hc ht]
  refine .on xs ⟨hm, h.chn, by rw [hYs]; exact h.held, by rw [hYs]; exact h.own, acts_keep h (fun t' ht' => ?_) (fun j u _ hu => hu), hv⟩ (by simp) rfl rfl
  obtain rfl := Option.some.inj ht'
  exact ⟨⟨a1.1, by simp, fun _ => ⟨ht0, fun _ => ht⟩, by simp⟩, by simp, a3, fun _ => .inl rfl, by simp, by simp⟩
 ·
  rw [pstep_full h0 hg hc]
  refine .on xs ⟨hm, h.chn, by rw [hYs]; exact h.held, by rw [hYs]; exact h.own, acts_keep h (fun t' ht' => ?_) (fun j u _ hu => hu), hv⟩ (by simp) rfl rfl
  obtain rfl := Option.some.inj ht'
  exact ⟨⟨a1.1, by simp, fun _ => ⟨ht0, fun h1 => by rw [hg] at h1; cases h1⟩, by simp⟩, by simp, a3, fun _ => .inl rfl, by simp, by simp⟩
 ·
  rw [pstep_link h0 hg]
  have hs := a1.1 hg
  have htp := a1.2.2.1 (.inl h0)
  have htop : (l.set (bs + 1 + t.slot).toNat (atI t.top)).getD bs.toNat 0 = l.getD bs.toNat 0 := getD_set_ne _ _ _ _ (by omega)
  have hout := gi_out h ha hg
  refine .on xs ⟨mi_link hm hs ⟨atI_low _, htp.1.2.2⟩, by simp only; rw [htop]; exact chn_link hb _ _ hs.1 h.chn (fun e => hout (List.mem_append_right _ e)), by rw [hYs]; exact h.held, by rw [hYs]; exact h.own, acts_keep h (fun t' ht' => ?_) (keep_link h ha hg _), by simp only; rw [htop]; exact hv⟩ (by simp) rfl rfl
  obtain rfl := Option.some.inj ht'
  refine ⟨⟨a1.1, by simp, fun _ => htp, fun _ h1 => by rw [hg] at h1; cases h1⟩, by simp, a3, fun _ => by rw [htop]; exact a4 (.inl h0), fun _ h1 => (by rw [hg] at h1; cases h1), fun _ _ => ?_⟩
  exact getD_set_at _ _ _ (by omega)
 ·
  rw [pstep_next h0 hg]
  have htp := a1.2.2.1 (.inl h0)
  refine .on xs ⟨hm, h.chn, by rw [hYs]; exact h.held, by rw [hYs]; exact h.own, acts_keep h (fun t' ht' => ?_) (fun j u _ hu => hu), hv⟩ (by simp) rfl rfl
  obtain rfl := Option.some.inj ht'
  exact ⟨⟨a1.1, by simp, fun _ => htp, fun _ _ => hlk _ (htp.2 hg) htp.1.2.2⟩, by simp, a3, fun _ => a4 (.inl h0), fun _ _ _ => rfl, fun _ h1 => by rw [hg] at h1; cases h1⟩
 ·
  rw [pstep_push h0 hg hh]
  have hs := a1.1 hg
  have e3 := a3 hg
  have hup := upI_ok (x := t.top) hn2 (p := t.slot) ⟨by omega, hs.2⟩
  have hver := verI_up (x := l.getD bs.toNat 0) (p := t.slot) ⟨hv0, by omega⟩
  have htop : (l.set bs.toNat (upI t.top t.slot)).getD bs.toNat 0 = upI t.top t.slot := getD_set_at _ _ _ (by omega)
  refine .gave (t.slot :: xs) hg rfl rfl ⟨mi_top hm hup.1, ?_, ?_, by rw [hYs]; exact h.own, acts_keep h (fun t' ht' => nomatch ht') (fun j u hj hu => ?_), ?_⟩
  ·
   simp only
   rw [htop, hup.2]
   refine ⟨rfl, hs.1, ?_⟩
   rw [getD_set_ne _ _ _ _ (by omega), a6 h0 hg, ← hh]
   exact chn_top hb _ h.chn
  ·
   rw [hYs]
   refine h.held.give ?_ hs (by rw [e3]; omega)
   exact List.perm_middle
  ·
   simp only
   rw [← hh]
   exact keep_held hs.1 (fun j hj e => hj (by omega)) j u hj (keep_top h hV j u hu)
  ·
   simp only
   rw [htop, ← hh, hver]; omega
 ·
  rw [pstep_pop h0 hg hh]
  have htp := a1.2.2.1 (.inr h0)
  have hp0 := htp.2 hg
  have hnx := a1.2.2.2 h0 hg
  have hup := upI_ok (x := t.top) hn2 (p := t.next) hnx
  have hver := verI_up (x := l.getD bs.toNat 0) (p := t.next) ⟨hv0, by omega⟩
  have htop : (l.set bs.toNat (upI t.top t.next)).getD bs.toNat 0 = upI t.top t.next := getD_set_at _ _ _ (by omega)
  obtain ⟨r, hr, hcr⟩ := chn_pos h.chn (by rw [hh]; exact hp0)
  rw [hh] at hr hcr
  have hperm : (ys.flatten ++ xs).Perm (atI t.top :: (ys.flatten ++ r)) := by rw [hr]; exact List.perm_middle
  obtain ⟨g1, g2, g3, g4⟩ := h.held.take hperm (v := (k : Int)) (by omega)
  refine .took r hg rfl ⟨g1, g2⟩ g3 ⟨mi_top hm hup.1, ?_, by rw [hYs]; exact g4, by rw [hYs]; exact h.own, acts_keep h (fun t' ht' => nomatch ht') (fun j u hj hu => ?_), ?_⟩
  ·
   simp only
   rw [htop, hup.2, a5 h0 hg hh.symm]
   exact chn_top hb _ hcr
  ·
   simp only
   rw [← hh] at g1 g3 ⊢
   exact keep_held g1 (fun j hj e => by omega) j u hj (keep_top h hV j u hu)
  ·
   simp only
   rw [htop, ← hh, hver]; omega
 ·
  rw [pstep_miss h0 hh]
  refine .on xs ⟨hm, h.chn, by rw [hYs]; exact h.held, by rw [hYs]; exact h.own, acts_keep h (fun t' ht' => ?_) (fun j u _ hu => hu), hv⟩ (by simp) rfl rfl
  obtain rfl := Option.some.inj ht'
  exact ⟨⟨a1.1, by simp, by simp, by simp⟩, by simp, a3, by simp, by simp, by simp⟩
 · exact absurd h0 a2
theorem gi_sok (h : GI bs n V l H xs ys ac) (hk : ac[k]? = some (some t)) (hY : ys[k]? = some Y) {s : Int} (hs : 0 ≤ s) : SOK bs n ⟨t, Y, l, s⟩ := by
  refine ⟨h.mi, (h.acts k t hk).1, fun y hy => ?_, h.own Y (List.mem_of_getElem? hY), hs⟩
  exact h.held.2.2.1 y (List.mem_append_left _ (List.mem_flatten.2 ⟨Y, List.mem_of_getElem? hY, hy⟩))
theorem gi_begin (h : GI bs n V l H xs ys ac) (ha : ActI bs n l H k t) : GI bs n V l H xs ys (ac.set k (some t)) :=
  ⟨h.mi, h.chn, h.held, h.own, acts_keep h (fun t' ht' => by obtain rfl := Option.some.inj ht'; exact ha) (fun _ _ _ hu => hu), h.ver⟩
theorem acti_take (bs n : Int) (l H : List Int) (k : Nat) : ActI bs n l H k ⟨false, -1, 0, 0, 0⟩ :=
  ⟨aok_take _ _ _ _, by simp, by simp, by simp, by simp, by simp⟩
theorem GI.more (h : GI bs n V l H xs ys ac) {V' : Int} (hv : V ≤ V') : GI bs n V' l H xs ys ac := ⟨h.mi, h.chn, h.held, h.own, h.acts, by have := h.ver; omega⟩
end
section
variable {bs n V slot : Int} {H Y : List Int} {t : PAct} {z : PSt}
end
def Two (H : List Int) : Prop := ∀ j, j < H.length → H.getD j 0 = -1 ∨ H.getD j 0 = 0
end Go.Proofs.YtjjbognomeplbaaDoor
namespace Go.Proofs.YtjjbognomeplbaaDoor
open Go.RowKit
theorem chn_range {bs n : Int} {l : List Int} (hn : 0 ≤ n) (hl : ∀ j : Nat, (j : Int) < n → l.getD (bs + 1 + j).toNat 0 = if (j : Int) + 1 = n then -1 else (j : Int) + 1) : ∀ (d j : Nat), (j : Int) + d = n → Chn bs l (if (j : Int) = n then -1 else j) ((List.range' j d).map Int.ofNat)
  | 0, j, h => by
    rw [if_pos (by omega)]; rfl
  | d + 1, j, h => by
    rw [if_neg (by omega)]
    refine ⟨rfl, by show (0 : Int) ≤ Int.ofNat j; exact Int.natCast_nonneg j, ?_⟩
    show Chn bs l (l.getD (bs + 1 + (j : Int)).toNat 0) _
    rw [hl j (by omega)]
    have := chn_range hn hl d (j + 1) (by omega)
    exact this
abbrev Ow0 := Option Addr × Nat
def ow0V (o : Ow0) : Value := .slice o.1 0 o.2
def ow0C (o : Ow0) : Ck := own 3 1 (.slice o.1 0 o.2) 0 []
def q0C (q m nb ns ob ws : Nat) (bs : Int) : Ck := pt q #[.pointer (some ⟨m, 0, none⟩), .int .i64 bs, .slice (some ⟨nb, 0, none⟩) ns ns, .slice (some ⟨ob, 0, none⟩) ws ws] 73
def ob0C (ob : Nat) (gs : List Ow0) : Ck := pt ob (vals (gs.map ow0V)) 22
theorem ow0V_at {gs : List Ow0} {k : Nat} {o : Ow0} (h : gs[k]? = some o) : (gs.map ow0V)[k]? = some (.slice o.1 0 o.2) := by rw [List.getElem?_map, h]; rfl
section
variable (p q m nb ns ob ws c : Nat) (bs n V : Int) (o : CellOp) (hmc : m ≠ c) (gs : List Ow0) (hgl : gs.length = ws) (t : PAct) (l : List Int) (s : Int) (hs : 0 ≤ s ∧ s < 9223372036854775800) (H xs : List Int) (ac : List (Option PAct)) (k : Nat) (y : Ow0)
def acks0 (p q m nb ns ob ws c : Nat) (bs : Int) (o : CellOp) (gs : List Ow0) (t : PAct) (l : List Int) (s : Int) (k : Nat) : List Ck := [actC p q k t, q0C q m nb ns ob ws bs, ob0C ob gs, bundle (gs.map ow0C), memO m c l s o]
theorem acks0_open {w : World} (hy : gs[k]? = some y) {w0 : World} {F : Nat → Prop} (hM : Mem w0 F (acks0 p q m nb ns ob ws c bs o gs t l s k) w) :
    Mem w0 F (pcks p q m nb ns ob ws c bs k (gs.map ow0V) y.1 y.2 o ⟨t, [], l, s⟩ ++ [bundle ((gs.eraseIdx k).map ow0C)]) w := by
  have h1 := (hM.front (k := 3) rfl).openB hy
  have h2 : Mem w0 F [actC p q k t, q0C q m nb ns ob ws bs, ob0C ob gs, ow0C y, memO m c l s o, bundle ((gs.eraseIdx k).map ow0C)] w :=
    ((((h1.front (k := 5) rfl).front (k := 1) rfl).front (k := 5) rfl).front (k := 5) rfl).front (k := 5) rfl
  have e : (gs.map ow0V).set k (.slice y.1 0 y.2) = gs.map ow0V := set_self (ow0V_at hy)
  unfold ob0C at h2
  rw [← e] at h2
  exact h2
theorem acks0_close {w : World} (hy : gs[k]? = some y) {w0 : World} {F : Nat → Prop} {a' : Option Addr} {c' : Nat} {o' : CellOp} {z : PSt} (hz : z.Y = [])
    (hM : Mem w0 F (pcks p q m nb ns ob ws c bs k (gs.map ow0V) a' c' o' z ++ [bundle ((gs.eraseIdx k).map ow0C)]) w) :
    Mem w0 F (acks0 p q m nb ns ob ws c bs o' (gs.set k (a', c')) z.t z.l z.s k) w := by
  obtain ⟨t, Y, l, s⟩ := z
  obtain rfl : Y = [] := hz
  have h2 : Mem w0 F [actC p q k t, q0C q m nb ns ob ws bs, pt ob (vals ((gs.map ow0V).set k (.slice a' 0 c'))) 22, ow0C (a', c'), memO m c l s o', bundle ((gs.eraseIdx k).map ow0C)] w := hM
  have e : (gs.map ow0V).set k (.slice a' 0 c') = (gs.set k (a', c')).map ow0V := by rw [List.map_set]; rfl
  rw [e] at h2
  have h3 : Mem w0 F (ow0C (a', c') :: bundle ((gs.eraseIdx k).map ow0C) :: [actC p q k t, q0C q m nb ns ob ws bs, ob0C ob (gs.set k (a', c')), memO m c l s o']) w := (h2.front (k := 5) rfl).front (k := 4) rfl
  have h4 := Mem.closeB (f := ow0C) h3 hy
  have h5 : Mem w0 F [actC p q k t, q0C q m nb ns ob ws bs, ob0C ob (gs.set k (a', c')), bundle ((gs.set k (a', c')).map ow0C), memO m c l s o'] w :=
    ((h4.front (k := 3) rfl).front (k := 3) rfl).front (k := 3) rfl
  exact h5
include hmc hgl hs
theorem pstep_0 (hz : SOK bs n ⟨t, [], l, s⟩) (hY : (pstep bs ⟨t, [], l, s⟩).Y = []) (hy : gs[k]? = some y) (hkw : k < ws) (w : World) (hM : Mem w (feet (acks0 p q m nb ns ob ws c bs o gs t l s k)) (acks0 p q m nb ns ob ws c bs o gs t l s k) w) :
    Calls Tryd.prog 18 #[.pointer (some ⟨p, 0, none⟩)] w fun e w' => ∃ a' c' o', e = .returned (.bool (decide ((pstep bs ⟨t, [], l, s⟩).t.ph = 3))) ∧ Mem w (feet (acks0 p q m nb ns ob ws c bs o gs t l s k)) (acks0 p q m nb ns ob ws c bs o' (gs.set k (a', c')) (pstep bs ⟨t, [], l, s⟩).t (pstep bs ⟨t, [], l, s⟩).l (pstep bs ⟨t, [], l, s⟩).s k) w' := by
  have h1 := acks0_open p q m nb ns ob ws c bs o gs t l s k y hy hM
  refine (pstep_any p q m nb ns ob ws c bs k n (gs.map ow0V) y.1 y.2 o hmc (by omega) (by rw [List.length_map]; exact hgl) ⟨t, [], l, s⟩ hz (by show s < _; omega) w (h1.hereN 5)).mono ?_
  rintro e w' ⟨a', c', o', he, hn⟩
  have h2 := h1.callL 5 hn
  exact ⟨a', c', o', he, acks0_close p q m nb ns ob ws c bs gs k y hy hY h2⟩
end
end Go.Proofs.YtjjbognomeplbaaDoor
namespace Go.Proofs.YtjjbognomeplbaaDoor
open Go.RowKit
theorem gi_new0 {n : Int} {N ws : Nat} (hn : 1 ≤ n ∧ n ≤ 4096) (hN : N = (n + 1).toNat) : GI 0 n 0 (linkL (List.replicate N 0) 0 n n.toNat) (List.replicate n.toNat (-1)) ((List.range' 0 n.toNat).map Int.ofNat) (List.replicate ws []) (List.replicate ws none) := by
  have hlen : (List.replicate N (0 : Int)).length = N := by simp
  have htop : (linkL (List.replicate N 0) 0 n n.toNat).getD (0 : Int).toNat 0 = 1 := linkL_top _ 0 n (by omega) n.toNat (by rw [hlen]; omega)
  have hat := fun j hj => linkL_at (List.replicate N 0) 0 n (by omega) n.toNat (by rw [hlen]; omega) j hj
  have hfl : (List.replicate ws ([] : List Int)).flatten = [] := by simp
  refine ⟨⟨by omega, hn.1, hn.2, by rw [linkL_len, hlen]; omega, by rw [linkL_len, hlen]; omega, ?_, fun j h0 h1 => ?_⟩, ?_, ?_, fun y hy => ?_, fun j t hj => ?_, ?_⟩
  · rw [htop]; exact ⟨by omega, by omega, by unfold atI; omega⟩
  · have := hat j.toNat (by omega)
    rw [show ((j.toNat : Nat) : Int) = j by omega] at this
    rw [this]; split <;> omega
  · rw [htop]
    have := chn_range (bs := 0) (n := n) (l := linkL (List.replicate N 0) 0 n n.toNat) (by omega) (fun j hj => hat j (by omega)) n.toNat 0 (by omega)
    rw [if_neg (by omega)] at this
    exact this
  · rw [hfl, List.nil_append]
    refine ⟨by simp; omega, ?_, fun x hx => ?_, fun j h0 h1 => ?_⟩
    · exact List.Pairwise.map Int.ofNat (fun x y h e => h (Int.ofNat.inj e)) (List.nodup_range' (step := 1))
    · obtain ⟨a, ha, rfl⟩ := List.mem_map.1 hx
      have := List.mem_range'_1.1 ha
      constructor
      · exact Int.natCast_nonneg a
      · show (a : Int) < n; omega
    · refine ⟨fun _ => ?_, fun _ => List.mem_map.2 ⟨j.toNat, List.mem_range'_1.2 (by omega), by show ((j.toNat : Nat) : Int) = j; omega⟩⟩
      rw [List.getD_eq_getElem?_getD, List.getElem?_replicate, if_pos (by omega)]; rfl
  · rw [List.eq_of_mem_replicate hy]; simp
  · have := List.eq_of_mem_replicate (List.mem_of_getElem? hj); cases this
  · rw [htop]; unfold verI; omega
structure WA where
  p : Nat
  w : Int
  t : PAct
def wt : Option WA → Option PAct
  | none => none
  | some a => if a.t.ph = 3 then none else some a.t
theorem wt_on {p : Nat} {w : Int} {t : PAct} (h : t.ph ≠ 3) : wt (some ⟨p, w, t⟩) = some t := by
  show (if t.ph = 3 then none else some t) = some t
  rw [if_neg h]
theorem wt_off {p : Nat} {w : Int} {t : PAct} (h : t.ph = 3) : wt (some ⟨p, w, t⟩) = none := by
  show (if t.ph = 3 then none else some t) = none
  rw [if_pos h]
theorem iof_mem {v : Int} : ∀ {n a : Nat}, v ∈ iof a n ↔ (a : Int) ≤ v ∧ v < (a : Int) + n
  | 0, a => by
    constructor
    · intro h; cases h
    · intro h; omega
  | n + 1, a => by
    rw [iof, List.mem_cons, iof_mem (n := n)]
    push_cast
    omega
theorem iof_nodup : ∀ {n a : Nat}, (iof a n).Nodup
  | 0, a => List.nodup_nil
  | n + 1, a => by
    rw [iof]
    refine List.nodup_cons.2 ⟨fun h => ?_, iof_nodup⟩
    have := iof_mem.1 h
    push_cast at this
    omega
theorem okT_snoc {v : Int} : ∀ {l b : List Int}, okT b l → (if v = -1 then bgT b l = [] else v ∈ bgT b l) → okT b (l ++ [v])
  | [], b, _, hv => by
    show okT b [v]
    unfold okT
    by_cases e : v = -1
    · rw [if_pos e] at hv ⊢; exact ⟨hv, trivial⟩
    · rw [if_neg e] at hv ⊢; exact ⟨hv, trivial⟩
  | u :: l, b, h, hv => by
    rw [List.cons_append]
    unfold okT at h ⊢
    unfold bgT at hv
    by_cases e : u = -1
    · rw [if_pos e] at h hv ⊢; exact ⟨h.1, okT_snoc h.2 hv⟩
    · rw [if_neg e] at h hv ⊢; exact ⟨h.1, okT_snoc h.2 hv⟩
theorem bgT_snoc {v : Int} : ∀ {l b : List Int}, bgT b (l ++ [v]) = if v = -1 then bgT b l else (bgT b l).erase v
  | [], b => rfl
  | u :: l, b => by
    rw [List.cons_append, bgT, bgT]
    exact bgT_snoc
def itm (es : List HEnt) (ord : List Nat) : List Int := ord.map fun i => (ent es i).i
structure HPI (n V : Int) (l H xs : List Int) (ws : List (Option WA)) (num : List Int) (es : List HEnt) (now : Nat) (ord : List Nat) : Prop where
  gi : GI 0 n V l H xs (List.replicate 3 []) (ws.map wt)
  wl : ws.length = 3
  nl : num.length = 3
  el : es.length + ws.countP (·.isNone) = 3
  wr : ∀ (j : Nat) (a : WA), ws[j]? = some (some a) → a.w = (j : Int)
  act : ∀ (j : Nat) (a : WA), ws[j]? = some (some a) → ∃ i : Nat, num.getD j 0 = (i : Int) ∧ i < es.length ∧ (ent es i).e = decide (a.t.ph = 3) ∧ (a.t.ph ≠ 3 → a.t.give = false ∧ a.t.slot = -1)
  inj : ∀ (j q : Nat) (a c : WA), ws[j]? = some (some a) → ws[q]? = some (some c) → num.getD j 0 = num.getD q 0 → j = q
  enk : ∀ i : Nat, i < es.length → (ent es i).k = 2 ∧ (ent es i).f < now ∧ ((ent es i).e = true → (ent es i).f ≤ (ent es i).t ∧ (ent es i).t < now)
  cov : ∀ i : Nat, i < es.length → ∃ (j : Nat) (a : WA), ws[j]? = some (some a) ∧ num.getD j 0 = (i : Int)
  om : ∀ i : Nat, i ∈ ord ↔ i < es.length ∧ (ent es i).e = true
  on : ord.Nodup
  ot : ord.Pairwise fun a c => (ent es a).t < (ent es c).t
  ok : okT (iof 0 n.toNat) (itm es ord)
  nd : (bgT (iof 0 n.toNat) (itm es ord)).Nodup
  fr : ∀ v : Int, v ∈ bgT (iof 0 n.toNat) (itm es ord) ↔ 0 ≤ v ∧ v < n ∧ H.getD v.toNat 0 = -1
theorem hp_new {n : Int} (hn : 1 ≤ n ∧ n ≤ 4096) {N : Nat} (hN : N = (n + 1).toNat) : HPI n 0 (linkL (List.replicate N 0) 0 n n.toNat) (List.replicate n.toNat (-1)) ((List.range' 0 n.toNat).map Int.ofNat) [none, none, none] [0, 0, 0] [] 0 [] := by
  refine ⟨gi_new0 (ws := 3) hn hN, rfl, rfl, rfl, fun j a h => ?_, fun j a h => ?_, fun j q a c h => ?_, fun i h => absurd h (Nat.not_lt_zero _), fun i h => absurd h (Nat.not_lt_zero _), fun i => ⟨fun h => (by cases h), fun h => absurd h.1 (Nat.not_lt_zero _)⟩, List.nodup_nil, List.Pairwise.nil, trivial, iof_nodup, fun v => ?_⟩
  · match j, h with
    | 0, h => cases h
    | 1, h => cases h
    | 2, h => cases h
    | j + 3, h => cases h
  · match j, h with
    | 0, h => cases h
    | 1, h => cases h
    | 2, h => cases h
    | j + 3, h => cases h
  · match j, h with
    | 0, h => cases h
    | 1, h => cases h
    | 2, h => cases h
    | j + 3, h => cases h
  · show v ∈ iof 0 n.toNat ↔ _
    rw [iof_mem]
    constructor
    · intro h
      refine ⟨by omega, by omega, ?_⟩
      rw [List.getD_eq_getElem?_getD, List.getElem?_replicate, if_pos (by omega)]; rfl
    · intro h; omega
section
variable {n V : Int} {l H xs : List Int} {ws : List (Option WA)} {num : List Int} {es : List HEnt} {now : Nat} {ord : List Nat}
theorem HPI.more (h : HPI n V l H xs ws num es now ord) {V' : Int} (hv : V ≤ V') : HPI n V' l H xs ws num es now ord := { h with gi := h.gi.more hv }
theorem itm_same {es es' : List HEnt} {ord : List Nat} (h : ∀ i ∈ ord, (ent es' i).i = (ent es i).i) : itm es' ord = itm es ord := List.map_congr_left h
theorem map_wt_set {j : Nat} (x : Option WA) : (ws.set j x).map wt = (ws.map wt).set j (wt x) := by rw [List.map_set]
theorem none_count : ∀ {ws : List (Option WA)} {j : Nat} {x : WA}, ws[j]? = some none → (ws.set j (some x)).countP (·.isNone) + 1 = ws.countP (·.isNone)
  | [], j, x, h => by simp at h
  | w :: ws, 0, x, h => by
    have : w = none := by simpa using h
    subst this
    simp
  | w :: ws, j + 1, x, h => by
    have := none_count (ws := ws) (j := j) (x := x) (by simpa using h)
    simp only [List.set_cons_succ, List.countP_cons]
    omega
theorem some_count : ∀ {ws : List (Option WA)} {j : Nat} {x y : WA}, ws[j]? = some (some y) → (ws.set j (some x)).countP (·.isNone) = ws.countP (·.isNone)
  | [], j, x, y, h => by simp at h
  | w :: ws, 0, x, y, h => by
    have : w = some y := by simpa using h
    subst this
    simp
  | w :: ws, j + 1, x, y, h => by
    have := some_count (ws := ws) (j := j) (x := x) (y := y) (by simpa using h)
    simp only [List.set_cons_succ, List.countP_cons]
    omega
theorem hp_begin (h : HPI n V l H xs ws num es now ord) {j : Nat} (hj : ws[j]? = some none) (p : Nat) :
  HPI n V l H xs (ws.set j (some ⟨p, (j : Int), ⟨false, -1, 0, 0, 0⟩⟩)) (num.set j (es.length : Int)) (es ++ [⟨2, -1, now, 0, false⟩]) (now + 1) ord := by
 have hjl : j < ws.length := (List.getElem?_eq_some_iff.1 hj).1
 have hjn : j < num.length := by have := h.wl; have := h.nl; omega
 have hord : ∀ i ∈ ord, i < es.length := fun i hi => ((h.om i).1 hi).1
 have hent : ∀ i ∈ ord, ent (es ++ [⟨2, -1, now, 0, false⟩]) i = ent es i := fun i hi => ent_app (hord i hi)
 have hitm : itm (es ++ [⟨2, -1, (now : Int), 0, false⟩]) ord = itm es ord := itm_same fun i hi => by rw [hent i hi]
 refine ⟨?_, by rw [List.length_set]; exact h.wl, by rw [List.length_set]; exact h.nl, ?_, fun q a hq => ?_, fun q a hq => ?_, fun q r a c hq hr e => ?_, fun i hi => ?_, fun i hi => ?_, fun i => ?_, h.on, ?_, by rw [hitm]; exact h.ok, by rw [hitm]; exact h.nd, by rw [hitm]; exact h.fr⟩
 ·
  rw [map_wt_set]
  exact gi_begin h.gi (acti_take _ _ _ _ _)
 ·
  have := none_count (x := ⟨p, (j : Int), ⟨false, -1, 0, 0, 0⟩⟩) hj
  have := h.el
  simp only [List.length_append, List.length_cons, List.length_nil]
  omega
 ·
  by_cases e : j = q
  ·
   subst e
   rw [List.getElem?_set_self hjl] at hq
   obtain rfl := Option.some.inj (Option.some.inj hq)
   rfl
  · rw [List.getElem?_set_ne e] at hq; exact h.wr q a hq
 ·
  by_cases e : j = q
  ·
   subst e
   rw [List.getElem?_set_self hjl] at hq
   obtain rfl := Option.some.inj (Option.some.inj hq)
   refine ⟨es.length, getD_set_at _ _ _ hjn, by simp, ?_, fun _ => ⟨rfl, rfl⟩⟩
   rw [ent_last]; rfl
  ·
   rw [List.getElem?_set_ne e] at hq
   obtain ⟨i, h1, h2, h3, h4⟩ := h.act q a hq
   refine ⟨i, by rw [getD_set_ne _ _ _ _ e]; exact h1, by simp; omega, by rw [ent_app h2]; exact h3, h4⟩
 ·
  have key : ∀ (q : Nat) (a : WA), q ≠ j → (ws.set j (some ⟨p, (j : Int), ⟨false, -1, 0, 0, 0⟩⟩))[q]? = some (some a) → ∃ i : Nat, (num.set j (es.length : Int)).getD q 0 = (i : Int) ∧ i < es.length ∧ ws[q]? = some (some a) := fun q a hne hq => by
   rw [List.getElem?_set_ne (fun e => hne e.symm)] at hq
   obtain ⟨i, h1, h2, -, -⟩ := h.act q a hq
   exact ⟨i, by rw [getD_set_ne _ _ _ _ (fun e => hne e.symm)]; exact h1, h2, hq⟩
  by_cases e1 : q = j
  ·
   by_cases e2 : r = j
   · rw [e1, e2]
   ·
    obtain ⟨i, g1, g2, -⟩ := key r c e2 hr
    rw [e1, getD_set_at _ _ _ hjn, g1] at e
    omega
  ·
   by_cases e2 : r = j
   ·
    obtain ⟨i, g1, g2, -⟩ := key q a e1 hq
    rw [e2, getD_set_at _ _ _ hjn, g1] at e
    omega
   ·
    obtain ⟨i, g1, g2, g3⟩ := key q a e1 hq
    obtain ⟨i', k1, k2, k3⟩ := key r c e2 hr
    rw [getD_set_ne _ _ _ _ (fun e => e1 e.symm), getD_set_ne _ _ _ _ (fun e => e2 e.symm)] at e
    exact h.inj q r a c g3 k3 e
 ·
  rcases Nat.lt_or_ge i es.length with g | g
  ·
   rw [ent_app g]
   obtain ⟨h1, h2, h3⟩ := h.enk i g
   exact ⟨h1, by push_cast; omega, fun he => ⟨(h3 he).1, by have := (h3 he).2; push_cast; omega⟩⟩
  ·
   have : i = es.length := by simp at hi; omega
   subst this
   rw [ent_last]
   exact ⟨rfl, by show (now : Int) < ((now + 1 : Nat) : Int); push_cast; omega, fun he => by cases he⟩
 ·
  rcases Nat.lt_or_ge i es.length with g | g
  ·
   obtain ⟨q, a, h1, h2⟩ := h.cov i g
   have hne : j ≠ q := fun e => by subst e; rw [hj] at h1; cases h1
   exact ⟨q, a, by rw [List.getElem?_set_ne hne]; exact h1, by rw [getD_set_ne _ _ _ _ hne]; exact h2⟩
  ·
   have : i = es.length := by simp at hi; omega
   subst this
   exact ⟨j, _, List.getElem?_set_self hjl, getD_set_at _ _ _ hjn⟩
 ·
  rw [h.om i]
  constructor
  · intro ⟨h1, h2⟩; exact ⟨by simp; omega, by rw [ent_app h1]; exact h2⟩
  ·
   intro ⟨h1, h2⟩
   rcases Nat.lt_or_ge i es.length with g | g
   · exact ⟨g, by rw [ent_app g] at h2; exact h2⟩
   ·
    have : i = es.length := by simp at h1; omega
    subst this
    rw [ent_last] at h2; cases h2
 · exact h.ot.imp_of_mem fun {a c} ha hc hac => by rw [hent a ha, hent c hc]; exact hac
theorem hp_on (h : HPI n V l H xs ws num es now ord) {j : Nat} {a : WA} (hj : ws[j]? = some (some a)) {t' : PAct} {l' xs' : List Int} (ht : a.t.ph ≠ 3) (h3 : t'.ph ≠ 3) (hg : t'.give = a.t.give) (hs : t'.slot = a.t.slot) (hgi : GI 0 n V l' H xs' (List.replicate 3 []) ((ws.map wt).set j (some t'))) :
    HPI n V l' H xs' (ws.set j (some ⟨a.p, a.w, t'⟩)) num es now ord := by
  have hjl : j < ws.length := (List.getElem?_eq_some_iff.1 hj).1
  have hback : ∀ (q : Nat) (c : WA), (ws.set j (some ⟨a.p, a.w, t'⟩))[q]? = some (some c) → ∃ c' : WA, ws[q]? = some (some c') := fun q c hq => by
    by_cases e : j = q
    · subst e; exact ⟨a, hj⟩
    · rw [List.getElem?_set_ne e] at hq; exact ⟨c, hq⟩
  refine ⟨?_, by rw [List.length_set]; exact h.wl, h.nl, by rw [some_count hj]; exact h.el, fun q c hq => ?_, fun q c hq => ?_, fun q r c d hq hr e => ?_, h.enk, fun i hi => ?_, h.om, h.on, h.ot, h.ok, h.nd, h.fr⟩
  · rw [map_wt_set, wt_on h3]
    exact hgi
  · by_cases e : j = q
    · subst e
      rw [List.getElem?_set_self hjl] at hq
      obtain rfl := Option.some.inj (Option.some.inj hq)
      exact h.wr j a hj
    · rw [List.getElem?_set_ne e] at hq; exact h.wr q c hq
  · by_cases e : j = q
    · subst e
      rw [List.getElem?_set_self hjl] at hq
      obtain rfl := Option.some.inj (Option.some.inj hq)
      obtain ⟨i, h1, h2, h4, h5⟩ := h.act j a hj
      refine ⟨i, h1, h2, ?_, fun _ => ?_⟩
      · rw [h4, decide_eq_false ht]; exact (decide_eq_false h3).symm
      · have := h5 ht; exact ⟨hg.trans this.1, hs.trans this.2⟩
    · rw [List.getElem?_set_ne e] at hq; exact h.act q c hq
  · obtain ⟨c', hc⟩ := hback q c hq
    obtain ⟨d', hd⟩ := hback r d hr
    exact h.inj q r c' d' hc hd e
  · obtain ⟨q, c, h1, h2⟩ := h.cov i hi
    by_cases e : j = q
    · subst e; exact ⟨j, _, List.getElem?_set_self hjl, h2⟩
    · exact ⟨q, c, by rw [List.getElem?_set_ne e]; exact h1, h2⟩
theorem hp_end (h : HPI n V l H xs ws num es now ord) {j : Nat} {a : WA} (hj : ws[j]? = some (some a)) {t' : PAct} {l' xs' H' : List Int} (ht : a.t.ph ≠ 3) (h3 : t'.ph = 3) {i : Nat} (hi : num.getD j 0 = (i : Int))
  (hv : if t'.slot = -1 then ∀ v : Int, 0 ≤ v → v < n → H.getD v.toNat 0 ≠ -1 else (0 ≤ t'.slot ∧ t'.slot < n) ∧ H.getD t'.slot.toNat 0 = -1)
  (hH : ∀ v : Int, 0 ≤ v → v < n → (H'.getD v.toNat 0 = -1 ↔ H.getD v.toNat 0 = -1 ∧ v ≠ t'.slot)) (hgi : GI 0 n (V + 1) l' H' xs' (List.replicate 3 []) ((ws.map wt).set j none)) :
  HPI n (V + 1) l' H' xs' (ws.set j (some ⟨a.p, a.w, t'⟩)) num (es.set i ⟨(ent es i).k, t'.slot, (ent es i).f, now, true⟩) (now + 1) (ord ++ [i]) := by
 have hjl : j < ws.length := (List.getElem?_eq_some_iff.1 hj).1
 obtain ⟨i', g1, hil, g3, g4⟩ := h.act j a hj
 obtain rfl : i = i' := by omega
 rw [decide_eq_false ht] at g3
 have hnot : i ∉ ord := fun hm => by rw [((h.om i).1 hm).2] at g3; cases g3
 have hent : ∀ q, q ≠ i → ent (es.set i ⟨(ent es i).k, t'.slot, (ent es i).f, now, true⟩) q = ent es q := fun q hq => by rw [ent_set hil, if_neg hq]
 have hself : ent (es.set i ⟨(ent es i).k, t'.slot, (ent es i).f, (now : Int), true⟩) i = ⟨(ent es i).k, t'.slot, (ent es i).f, now, true⟩ := ent_self hil
 have hne : ∀ q ∈ ord, q ≠ i := fun q hq e => hnot (by rw [← e]; exact hq)
 have hitm : itm (es.set i ⟨(ent es i).k, t'.slot, (ent es i).f, (now : Int), true⟩) (ord ++ [i]) = itm es ord ++ [t'.slot] := by
  unfold itm
  rw [List.map_append, List.map_cons, List.map_nil, hself]
  congr 1
  exact List.map_congr_left fun q hq => by rw [hent q (hne q hq)]
 have hback : ∀ (q : Nat) (c : WA), (ws.set j (some ⟨a.p, a.w, t'⟩))[q]? = some (some c) → ∃ c' : WA, ws[q]? = some (some c') := fun q c hq => by
  by_cases e : j = q
  · subst e; exact ⟨a, hj⟩
  · rw [List.getElem?_set_ne e] at hq; exact ⟨c, hq⟩
 have hbag : if t'.slot = -1 then bgT (iof 0 n.toNat) (itm es ord) = [] else t'.slot ∈ bgT (iof 0 n.toNat) (itm es ord) := by
  by_cases e : t'.slot = -1
  ·
   rw [if_pos e] at hv ⊢
   cases hb : bgT (iof 0 n.toNat) (itm es ord) with
   | nil => rfl
   | cons v m =>
    have := (h.fr v).1 (by rw [hb]; exact .head _)
    exact absurd this.2.2 (hv v this.1 this.2.1)
  ·
   rw [if_neg e] at hv ⊢
   exact (h.fr _).2 ⟨hv.1.1, hv.1.2, hv.2⟩
 refine ⟨?_, by rw [List.length_set]; exact h.wl, h.nl, by rw [some_count hj, List.length_set]; exact h.el, fun q c hq => ?_, fun q c hq => ?_, fun q r c d hq hr e => ?_, fun q hq => ?_, fun q hq => ?_, fun q => ?_, ?_, ?_, ?_, ?_, fun v => ?_⟩
 ·
  rw [map_wt_set, wt_off h3]
  exact hgi
 ·
  by_cases e : j = q
  ·
   subst e
   rw [List.getElem?_set_self hjl] at hq
   obtain rfl := Option.some.inj (Option.some.inj hq)
   exact h.wr j a hj
  · rw [List.getElem?_set_ne e] at hq; exact h.wr q c hq
 ·
  by_cases e : j = q
  ·
   subst e
   rw [List.getElem?_set_self hjl] at hq
   obtain rfl := Option.some.inj (Option.some.inj hq)
   refine ⟨i, hi, by rw [List.length_set]; exact hil, ?_, fun hh => absurd h3 hh⟩
   rw [hself]; exact (decide_eq_true h3).symm
  ·
   rw [List.getElem?_set_ne e] at hq
   obtain ⟨i2, k1, k2, k3, k4⟩ := h.act q c hq
   have hii : i2 ≠ i := fun e2 => e (h.inj j q a c hj hq (by rw [hi, k1, e2]))
   exact ⟨i2, k1, by rw [List.length_set]; exact k2, by rw [hent i2 hii]; exact k3, k4⟩
 ·
  obtain ⟨c', hc⟩ := hback q c hq
  obtain ⟨d', hd⟩ := hback r d hr
  exact h.inj q r c' d' hc hd e
 ·
  rw [List.length_set] at hq
  obtain ⟨k1, k2, k3⟩ := h.enk q hq
  by_cases e : q = i
  ·
   subst e
   rw [hself]
   refine ⟨k1, by show (ent es q).f < ((now + 1 : Nat) : Int); push_cast; omega, fun _ => ⟨by show (ent es q).f ≤ (now : Int); omega, by show (now : Int) < ((now + 1 : Nat) : Int); push_cast; omega⟩⟩
  ·
   rw [hent q e]
   exact ⟨k1, by push_cast; omega, fun he => ⟨(k3 he).1, by have := (k3 he).2; push_cast; omega⟩⟩
 ·
  rw [List.length_set] at hq
  obtain ⟨r, c, k1, k2⟩ := h.cov q hq
  by_cases e : j = r
  · subst e; exact ⟨j, _, List.getElem?_set_self hjl, k2⟩
  · exact ⟨r, c, by rw [List.getElem?_set_ne e]; exact k1, k2⟩
 ·
  rw [List.mem_append, List.mem_singleton, h.om q, List.length_set]
  by_cases e : q = i
  ·
   subst e
   rw [hself]
   exact ⟨fun _ => ⟨hil, rfl⟩, fun _ => .inr rfl⟩
  ·
   rw [hent q e]
   exact ⟨fun hh => hh.resolve_right e, .inl⟩
 ·
  rw [List.nodup_append]
  exact ⟨h.on, by simp, fun x hx y hy e => by rw [List.mem_singleton.1 hy] at e; exact hne x hx e⟩
 ·
  rw [List.pairwise_append]
  refine ⟨h.ot.imp_of_mem fun {x y} hx hy hxy => by rw [hent x (hne x hx), hent y (hne y hy)]; exact hxy, List.pairwise_singleton _ _, fun x hx y hy => ?_⟩
  rw [List.mem_singleton.1 hy, hself, hent x (hne x hx)]
  have hx2 := (h.om x).1 hx
  exact ((h.enk x hx2.1).2.2 hx2.2).2
 · rw [hitm]; exact okT_snoc h.ok hbag
 ·
  rw [hitm, bgT_snoc]
  split
  · exact h.nd
  · exact h.nd.erase _
 ·
  rw [hitm, bgT_snoc]
  by_cases e : t'.slot = -1
  ·
   rw [if_pos e, h.fr v]
   constructor
   · intro ⟨k1, k2, k3⟩; exact ⟨k1, k2, (hH v k1 k2).2 ⟨k3, by omega⟩⟩
   · intro ⟨k1, k2, k3⟩; exact ⟨k1, k2, ((hH v k1 k2).1 k3).1⟩
  ·
   rw [if_neg e, h.nd.mem_erase_iff, h.fr v]
   constructor
   · intro ⟨k0, k1, k2, k3⟩; exact ⟨k1, k2, (hH v k1 k2).2 ⟨k3, k0⟩⟩
   · intro ⟨k1, k2, k3⟩; exact ⟨((hH v k1 k2).1 k3).2, k1, k2, ((hH v k1 k2).1 k3).1⟩
theorem hp_step (h : HPI n V l H xs ws num es now ord) (hV : V < 1000000) {j : Nat} {a : WA} (hj : ws[j]? = some (some a)) (ht : a.t.ph ≠ 3) (s : Int) {z : PSt} (hz : z = pstep 0 ⟨a.t, [], l, s⟩) :
  z.Y = [] ∧ ((z.t.ph ≠ 3 ∧ ∃ xs', HPI n V z.l H xs' (ws.set j (some ⟨a.p, a.w, z.t⟩)) num es now ord) ∨
   (z.t.ph = 3 ∧ ∀ i : Nat, num.getD j 0 = (i : Int) → ∃ H' xs', HPI n (V + 1) z.l H' xs' (ws.set j (some ⟨a.p, a.w, z.t⟩)) num (es.set i ⟨(ent es i).k, z.t.slot, (ent es i).f, now, true⟩) (now + 1) (ord ++ [i]))) := by
 obtain ⟨i', g1, g2, g3, g4⟩ := h.act j a hj
 obtain ⟨hgv, hsl⟩ := g4 ht
 have hjl : j < ws.length := (List.getElem?_eq_some_iff.1 hj).1
 have hj3 : j < 3 := by have := h.wl; omega
 have hk : (ws.map wt)[j]? = some (some a.t) := by
  rw [List.getElem?_map, hj]
  exact congrArg some (wt_on (p := a.p) (w := a.w) ht)
 have hY : (List.replicate 3 ([] : List Int))[j]? = some [] := by rw [List.getElem?_replicate, if_pos hj3]
 have hp := gi_step h.gi (by omega) hk hY s
 rw [← hz] at hp
 have hzY : z.Y = [] := by
  rw [hz]
  simp only [pstep, hgv]
  split
  · simp
  ·
   split
   · simp
   ·
    split
    · split <;> rfl
    · rfl
 have hset : (List.replicate 3 ([] : List Int)).set j z.Y = List.replicate 3 [] := by rw [hzY]; exact set_self hY
 refine ⟨hzY, ?_⟩
 cases hp with
 | on xs' hgi h3 hg hs =>
  rw [hset] at hgi
  exact .inl ⟨h3, xs', hp_on h hj ht h3 hg hs hgi⟩
 | gave xs' hg h3 hs hgi => rw [hgv] at hg; cases hg
 | empty hg h3 hs hY0 hgi =>
  rw [hset] at hgi
  refine .inr ⟨h3, fun i hi => ⟨H, [], hp_end h hj ht h3 hi ?_ (fun v h0 h1 => ?_) (hgi.more (by omega))⟩⟩
  ·
   rw [if_pos (by rw [hs]; exact hsl)]
   intro v h0 h1 hv
   have hh := hgi.held
   have := (hh.2.2.2 v h0 h1).2 hv
   simp at this
  ·
   rw [hs, hsl]; constructor
   · intro hh; exact ⟨hh, by omega⟩
   · intro hh; exact hh.1
 | took xs' hg h3 hs hh hgi =>
  rw [hset] at hgi
  have hHl : (H.length : Int) = n := h.gi.held.1
  refine .inr ⟨h3, fun i hi => ⟨_, xs', hp_end h hj ht h3 hi ?_ (fun v h0 h1 => ?_) hgi⟩⟩
  · rw [if_neg (by omega)]; exact ⟨hs, hh⟩
  ·
   by_cases e : v = z.t.slot
   ·
    subst e
    rw [getD_set_at _ _ _ (by omega)]
    constructor
    · intro hh; omega
    · intro hh; exact absurd rfl hh.2
   ·
    rw [getD_set_ne _ _ _ _ (by omega)]
    exact ⟨fun hh => ⟨hh, e⟩, fun hh => hh.1⟩
theorem right_ops (h : HPI n V l H xs ws num es now ord) : (opsOf es).all rightP = true := by
  have key : ∀ m, m ≤ es.length → ∀ o ∈ opsOf (es.take m), rightP o = true := by
    intro m
    induction m with
    | zero => intro _ o ho; simp [opsOf] at ho
    | succ m ih =>
      intro hm o ho
      cases he : (ent es m).e with
      | false => rw [← opsOf_no (by omega) he] at ho; exact ih (by omega) o ho
      | true =>
        rw [← opsOf_yes (by omega) he] at ho
        rcases List.mem_append.1 ho with g | g
        · exact ih (by omega) o g
        · obtain rfl := List.mem_singleton.1 g
          obtain ⟨k1, k2, k3⟩ := h.enk m (by omega)
          unfold rightP
          rw [k1, if_neg (show ¬ ((2 : Int) = 1) by decide), if_pos rfl]
          exact decide_eq_true (k3 he).1
  refine List.all_eq_true.2 fun o ho => key es.length (Nat.le_refl _) o ?_
  rw [List.take_length]; exact ho
theorem all_ops : ∀ {es : List HEnt}, (∀ i, i < es.length → (ent es i).e = true) → opsOf es = es.map enOp
  | [], _ => rfl
  | x :: l, h => by
    have h0 : x.e = true := h 0 (by simp)
    rw [opsOf, if_pos h0, List.map_cons, all_ops (es := l) fun i hi => h (i + 1) (by simpa using hi)]
theorem hp_all (h : HPI n V l H xs ws num es now ord) (hn : 1 ≤ n ∧ n ≤ 3) (hall : ∀ (j : Nat) (a : WA), ws[j]? = some (some a) → a.t.ph = 3) : ∃ r, hordP (iof 0 n.toNat) (opsOf es) = (r, 0) ∧ r.length = (opsOf es).length := by
  have he : ∀ i, i < es.length → (ent es i).e = true := fun i hi => by
    obtain ⟨j, a, k1, k2⟩ := h.cov i hi
    obtain ⟨i', m1, m2, m3, -⟩ := h.act j a k1
    obtain rfl : i = i' := by omega
    rw [m3]; exact decide_eq_true (hall j a k1)
  have hops := all_ops he
  have hl3 : es.length ≤ 3 := by have := h.el; omega
  have hlen : (opsOf es).length = es.length := by rw [hops, List.length_map]
  have hhop : ∀ i, i < es.length → hop (opsOf es) i = enOp (ent es i) := fun i hi => by rw [hops]; exact hop_map hi
  have hol : ∀ i ∈ ord, i < es.length := fun i hi => ((h.om i).1 hi).1
  refine takes_find (s := ord) (by omega) (by rw [iof_len]; omega) (fun i hi => ?_) (right_ops h) h.on (fun i => ?_) ?_ ?_
  · rw [hhop i (by omega)]; exact (h.enk i (by omega)).1
  · rw [h.om i, hlen]; exact ⟨fun hh => hh.1, fun hh => ⟨hh, he i hh⟩⟩
  · refine h.ot.imp_of_mem fun {x y} hx hy hxy => ?_
    rw [hhop x (hol x hx), hhop y (hol y hy)]
    have := ((h.enk x (hol x hx)).2.2 (he x (hol x hx))).1
    show ¬ (ent es y).t < (ent es x).f
    omega
  · have : ord.map (fun a => (hop (opsOf es) a).i) = itm es ord := List.map_congr_left fun i hi => by rw [hhop i (hol i hi)]; rfl
    rw [this]; exact h.ok
theorem hp_some (h : HPI n V l H xs ws num es now ord) (hn : 1 ≤ n ∧ n ≤ 3) : (hordP (iof 0 n.toNat) (opsOf es)).2 = 0 ∨ (hordP (iof 0 n.toNat) (opsOf es)).2 = 11 := by
  have hl3 : es.length ≤ 3 := by have := h.el; omega
  have := opsOf_le es
  exact hordP_err (right_ops h) (by omega) (by rw [iof_len]; omega)
end
def waV : Option WA → Value
  | none => .pointer none
  | some a => .pointer (some ⟨a.p, 0, none⟩)
def waC (q : Nat) : Option WA → Ck
  | none => emp
  | some a => actC a.p q a.w a.t
theorem waV_at {ws : List (Option WA)} {j : Nat} {x : Option WA} (h : ws[j]? = some x) : (ws.map waV)[j]? = some (waV x) := by rw [List.getElem?_map, h]; rfl
theorem wa_some {ws : List (Option WA)} {j : Nat} (hj : j < ws.length) (h : ¬ ws[j]? = some none) : ∃ a, ws[j]? = some (some a) := by
  cases hw : ws[j]? with
  | none => rw [List.getElem?_eq_none_iff] at hw; omega
  | some x =>
    cases x with
    | none => exact absurd hw h
    | some a => exact ⟨a, rfl⟩
theorem Mem.waNone {w0 w : World} {F : Nat → Prop} {L : List Ck} (h : Mem w0 F L w) (q : Nat) : Mem w0 F (bundle ((List.map (waC q) [none, none, none])) :: L) w := by
  refine h.consNo ⟨fun c hc => ?_, ?_⟩ (fun b ⟨c, hc, hb⟩ => ?_)
  · simp [waC] at hc; rw [hc]; trivial
  · exact .cons (fun c _ b hb => hb.elim) (.cons (fun c _ b hb => hb.elim) (.cons (fun c hc => by cases hc) .nil))
  · simp [waC] at hc; rw [hc] at hb; exact hb
theorem Mem.owNone {w0 w : World} {F : Nat → Prop} {L : List Ck} (h : Mem w0 F L w) : Mem w0 F (bundle (([(none, 0), (none, 0), (none, 0)] : List Ow0).map ow0C) :: L) w :=
  Mem.pack (cs := ([(none, 0), (none, 0), (none, 0)] : List Ow0).map ow0C) (((h.ownNil 3 1).ownNil 3 1).ownNil 3 1)
theorem Mem.waBlk {w0 w : World} {F : Nat → Prop} {L : List Ck} {k q j : Nat} {ws : List (Option WA)} {a : WA} (h : Mem w0 F L w) (hk : ith L k = some (bundle (ws.map (waC q)))) (hj : ws[j]? = some (some a)) :
    w.heap[a.p]? = some (.cells #[.pointer (some ⟨q, 0, none⟩), .int .i64 a.w, .bool a.t.give, .int .i64 a.t.slot, .int .i64 a.t.ph, .int .i64 a.t.top, .int .i64 a.t.next] 76 (0, 0)) :=
  (h.mem hk).1 _ (List.mem_map.2 ⟨some a, List.mem_of_getElem? hj, rfl⟩)
end Go.Proofs.YtjjbognomeplbaaDoor
