/-
  Own, Shared, kurganref18.New and Once; run and Step by what is true of several acts.
-/
import Derived.Test.YtjjbognomeplbaaPoolN
import Derived.Test.YtjjbognomeplbaaPoolQ
import Derived.Test.YtjjbognomeplbaaEng6
namespace Go.Proofs.Ytjjbognomeplbaa
open Go.RowKit

set_option maxRecDepth 100000 in
set_option maxHeartbeats 400000 in
theorem rnew18 (n : Int) (hn : 0 ≤ n ∧ n ≤ 4096) (w : World) :
    Calls Try.prog 58 #[.int .i64 n] w fun e w' => ∃ wb a2 c2, e = .returned (.pointer (some ⟨wb, 0, none⟩)) ∧ Mem w nof [pt wb #[.slice a2 (List.replicate n.toNat (-1) : List Int).length c2] 93, own 3 1 (.slice a2 (List.replicate n.toNat (-1) : List Int).length c2) (List.replicate n.toNat (-1) : List Int).length ((List.replicate n.toNat (-1) : List Int).map (Value.int .i64))] w' := by
  have hM := Mem.start w
  refine Calls.of_ends (vs := [.int .i64 n]) Try.func58 rfl Try.ntmps58 rfl ?_
  intro a hA
  replace hA : St 22 [(0, _)] a := hA
  refine Ends.seq ?_
  refine Ends.region ?_
  refine S.val hA (R.assign rfl) rfl ?_; clear hA a; intro a hA
  refine S.done ?_
  replace hA : St 22 [(0, _), (2, _)] a := hA.sub ((.cons rfl (.cons rfl .nil)))
  refine Ends.seq ?_
  refine Ends.region ?_
  refine S.val hA (R.build (cells := #[.slice none 0 0]) rfl (by kernel_rfl)) rfl ?_; clear hA a; intro a hA
  refine S.box hA hM rfl rfl ?_; clear hA hM a; intro b1 w1 hb2 hM a hA
  replace hM : Mem _ _ [pt b1 #[.slice none 0 0] 93] _ := hM
  refine S.val hA (R.assign rfl) rfl ?_; clear hA a; intro a hA
  refine S.done ?_
  replace hA : St 22 [(0, _), (2, _), (3, _)] a := hA.sub ((.cons rfl (.cons rfl (.cons rfl .nil))))
  refine Ends.seq ?_
  refine Ends.seq ?_
  refine Ends.region ?_
  refine S.val hA (R.assign rfl) rfl ?_; clear hA a; intro a hA
  refine S.done ?_
  replace hA : St 22 [(0, _), (2, _), (3, _), (4, _)] a := hA.sub ((.cons rfl (.cons rfl (.cons rfl (.cons rfl .nil)))))
  refine Ends.block ?_
  replace hM := hM.ownNil 3 1
  replace hM : Mem _ _ [own 3 1 (.slice none (((List.replicate 0 (-1) : List Int)).length) 0) (((List.replicate 0 (-1) : List Int)).length) (((List.replicate 0 (-1) : List Int)).map (Value.int .i64)), pt b1 #[.slice none 0 0] 93] _ := hM
  replace hM := hM.front (k := 1) rfl
  replace hM : Mem _ _ [pt b1 #[.slice none 0 0] 93, own 3 1 (.slice none (((List.replicate 0 (-1) : List Int)).length) 0) (((List.replicate 0 (-1) : List Int)).length) (((List.replicate 0 (-1) : List Int)).map (Value.int .i64))] _ := hM
  refine Ends.loop (σ := Nat × Option Addr × Nat) (fun (k, av, cap) (a : Act) (wv : World) => St 22 [(0, .int .i64 n), (2, .pointer none), (3, .pointer (some ⟨b1, 0, none⟩)), (4, .int .i64 ((k : Int)))] a ∧ Mem w nof [pt b1 #[.slice av ((List.replicate k (-1) : List Int).length) cap] 93, own 3 1 (.slice av (((List.replicate k (-1) : List Int)).length) cap) (((List.replicate k (-1) : List Int)).length) (((List.replicate k (-1) : List Int)).map (Value.int .i64))] wv ∧ ((k : Int) ≤ n)) (fun (k, av, cap) => n.toNat - k) ((0, none, 0)) ⟨hA.sub ((.cons rfl (.cons rfl (.cons rfl (.cons rfl .nil))))), hM, (by omega)⟩ ?_
  clear hA hM a
  rintro ⟨k, av, cap⟩ a w2 ⟨hA, hM, hk⟩ hNext
  refine Ends.seq ?_
  refine Ends.seq ?_
  refine Ends.region ?_
  refine S.val hA (R.move rfl) rfl ?_; clear hA a; intro a hA
  refine S.val hA (R.move rfl) rfl ?_; clear hA a; intro a hA
  refine S.val hA (R.lss rfl rfl) rfl ?_; clear hA a; intro a hA
  refine S.done ?_
  replace hA : St 22 [(0, _), (2, _), (3, _), (4, _), (7, _), (8, _), (9, _)] a := hA.sub ((.cons rfl (.cons rfl (.cons rfl (.cons rfl (.cons rfl (.cons rfl (.cons rfl .nil))))))))
  refine Ends.ite hA rfl (fun hc3 => ?_) (fun hc3 => ?_)
  ·
    refine Ends.skip ?_
    refine Ends.seq ?_
    refine Ends.block ?_
    refine Ends.region ?_
    refine S.val hA (R.move rfl) rfl ?_; clear hA a; intro a hA
    refine S.val hA (R.move rfl) rfl ?_; clear hA a; intro a hA
    refine S.val hA (R.nilCheck rfl) rfl ?_; clear hA a; intro a hA
    refine S.val hA (R.fieldAddr (q := 0) fi93_0 rfl rfl rfl) rfl ?_; clear hA a; intro a hA
    refine S.val hA (R.load sz43 rfl (hM.cell (k := 0) rfl rfl)) rfl ?_; clear hA a; intro a hA
    refine S.buildSl (cells := #[.int .i64 (-1)]) hA hM Try.underlying43 info3 rfl rfl rfl rfl (by kernel_rfl) rfl ?_; clear hA hM a; intro b4 w3 hb5 hM a hA
    replace hM : Mem _ _ [pt b4 #[.int .i64 (-1)] 3, pt b1 #[.slice av ((List.replicate k (-1) : List Int).length) cap] 93, own 3 1 (.slice av (((List.replicate k (-1) : List Int)).length) cap) (((List.replicate k (-1) : List Int)).length) (((List.replicate k (-1) : List Int)).map (Value.int .i64))] _ := hM
    refine S.append (k := 2) (k2 := 0) hA hM rfl rfl Try.underlying43 info3 rfl rfl rfl rfl rfl rfl rfl rfl rfl (by first | (rw [List.length_replicate]; unfold maxLen; omega) | (rw [List.length_replicate]; show (k + 1) * 8 ≤ _; omega)) (by first | (rw [List.length_replicate]; unfold maxLen; omega) | (rw [List.length_replicate]; show (k + 1) * 8 ≤ _; omega)) rfl ?_; clear hA hM a; intro a6 c7 w4 hM a hA
    replace hM : Mem _ _ [pt b4 #[.int .i64 (-1)] 3, pt b1 #[.slice av ((List.replicate k (-1) : List Int).length) cap] 93, own 3 1 (.slice a6 ((((List.replicate k (-1) : List Int)).length) + 1) c7) ((((List.replicate k (-1) : List Int)).length) + 1) (((List.replicate k (-1) : List Int)).map (Value.int .i64) ++ [.int .i64 (-1)])] _ := hM
    have hl8 : (((List.replicate k (-1) : List Int)).length) + 1 = ((List.replicate k (-1) : List Int) ++ [-1]).length := by simp
    rw [hl8, show ((List.replicate k (-1) : List Int)).map (Value.int .i64) ++ [.int .i64 (-1)] = ((List.replicate k (-1) : List Int) ++ [-1]).map (Value.int .i64) by simp] at hM; rw [hl8] at hA
    clear hl8
    replace hM := hM.drop 0
    replace hM : Mem _ _ [pt b1 #[.slice av ((List.replicate k (-1) : List Int).length) cap] 93, own 3 1 (.slice a6 ((((List.replicate k (-1) : List Int) ++ [-1])).length) c7) ((((List.replicate k (-1) : List Int) ++ [-1])).length) ((((List.replicate k (-1) : List Int) ++ [-1])).map (Value.int .i64))] _ := hM
    refine S.val hA (R.nilCheck rfl) rfl ?_; clear hA a; intro a hA
    refine S.val hA (R.fieldAddr (q := 0) fi93_0 rfl rfl rfl) rfl ?_; clear hA a; intro a hA
    refine S.store (k := 0) hA hM sz43 rfl rfl rfl rfl rfl ?_; clear hM
    intro w5 hM
    replace hM : Mem _ _ [pt b1 #[.slice a6 ((((List.replicate k (-1) : List Int) ++ [-1])).length) c7] 93, own 3 1 (.slice a6 ((((List.replicate k (-1) : List Int) ++ [-1])).length) c7) ((((List.replicate k (-1) : List Int) ++ [-1])).length) ((((List.replicate k (-1) : List Int) ++ [-1])).map (Value.int .i64))] _ := hM
    refine S.done ?_
    replace hA : St 22 [(0, _), (2, _), (3, _), (4, _), (7, _), (8, _), (9, _), (12, _), (13, _), (14, _), (15, _), (16, _), (17, _), (18, _), (19, _), (20, _)] a := hA.sub ((.cons rfl (.cons rfl (.cons rfl (.cons rfl (.cons rfl (.cons rfl (.cons rfl (.cons rfl (.cons rfl (.cons rfl (.cons rfl (.cons rfl (.cons rfl (.cons rfl (.cons rfl (.cons rfl .nil)))))))))))))))))
    refine Ends.inBlock ?_
    refine Ends.region ?_
    refine S.val hA (R.move rfl) rfl ?_; clear hA a; intro a hA
    refine S.val hA (R.addI rfl rfl (r := ((k : Int)) + 1) rfl (by omega)) rfl ?_; clear hA a; intro a hA
    refine S.val hA (R.assign rfl) rfl ?_; clear hA a; intro a hA
    refine S.done ?_
    replace hA : St 22 [(0, _), (2, _), (3, _), (4, _), (7, _), (8, _), (9, _), (10, _), (11, _), (12, _), (13, _), (14, _), (15, _), (16, _), (17, _), (18, _), (19, _), (20, _)] a := hA.sub ((.cons rfl (.cons rfl (.cons rfl (.cons rfl (.cons rfl (.cons rfl (.cons rfl (.cons rfl (.cons rfl (.cons rfl (.cons rfl (.cons rfl (.cons rfl (.cons rfl (.cons rfl (.cons rfl (.cons rfl (.cons rfl .nil)))))))))))))))))))
    rw [show ((List.replicate k (-1) : List Int) ++ [-1]) = List.replicate (k + 1) (-1) by rw [List.replicate_succ']] at hM
    exact hNext ((k + 1, a6, c7)) _ _ ((by show n.toNat - (k + 1) < n.toNat - k; omega)) ⟨hA.sub ((.cons rfl (.cons rfl (.cons rfl (.cons rfl .nil))))), hM, (by omega)⟩
  ·
    refine Ends.exit rfl ?_
    replace hA : St 22 [(2, _), (3, _)] a := hA.sub ((.cons rfl (.cons rfl .nil)))
    refine Ends.seq ?_
    refine Ends.region ?_
    refine S.val hA (R.move rfl) rfl ?_; clear hA a; intro a hA
    refine S.val hA (R.assign rfl) rfl ?_; clear hA a; intro a hA
    refine S.done ?_
    replace hA : St 22 [(2, _)] a := hA.sub ((.cons rfl .nil))
    refine Ends.ret1 Try.func58 Try.results58 hA rfl ?_
    have hkn : k = n.toNat := by omega
    subst hkn
    exact ⟨_, av, cap, rfl, hM⟩
set_option maxRecDepth 100000 in
set_option maxHeartbeats 400000 in
theorem pown_ok (q m nb ns ob ws : Nat) (bs i : Int) (ls : List Value) (av : Option Addr) (Y : List Int) (cap : Nat) (hi : 0 ≤ i ∧ i < ws) (hls : ls[i.toNat]? = some (.slice av Y.length cap)) (hY : Y.length ≤ 1000) (w : World) (hM : Mem w (feet [pt q #[.pointer (some ⟨m, 0, none⟩), .int .i64 bs, .slice (some ⟨nb, 0, none⟩) ns ns, .slice (some ⟨ob, 0, none⟩) ws ws] 128, pt ob ((vals ls)) 43, own 3 1 (.slice av Y.length cap) Y.length (Y.map (Value.int .i64))]) [pt q #[.pointer (some ⟨m, 0, none⟩), .int .i64 bs, .slice (some ⟨nb, 0, none⟩) ns ns, .slice (some ⟨ob, 0, none⟩) ws ws] 128, pt ob ((vals ls)) 43, own 3 1 (.slice av Y.length cap) Y.length (Y.map (Value.int .i64))] w) :
    Calls Try.prog 52 #[.pointer (some ⟨q, 0, none⟩), .int .i64 i] w fun e w' => ∃ a2 c2, e = .returned (.slice a2 Y.length c2) ∧ Mem w (feet [pt q #[.pointer (some ⟨m, 0, none⟩), .int .i64 bs, .slice (some ⟨nb, 0, none⟩) ns ns, .slice (some ⟨ob, 0, none⟩) ws ws] 128, pt ob ((vals ls)) 43, own 3 1 (.slice av Y.length cap) Y.length (Y.map (Value.int .i64))]) [own 3 1 (.slice a2 Y.length c2) Y.length (Y.map (Value.int .i64)), pt q #[.pointer (some ⟨m, 0, none⟩), .int .i64 bs, .slice (some ⟨nb, 0, none⟩) ns ns, .slice (some ⟨ob, 0, none⟩) ws ws] 128, pt ob ((vals ls)) 43, own 3 1 (.slice av Y.length cap) Y.length (Y.map (Value.int .i64))] w' := by
  have hM0 : True := trivial  -- have hM
  refine Calls.of_ends (vs := [.pointer (some ⟨q, 0, none⟩), .int .i64 i]) Try.func52 rfl Try.ntmps52 rfl ?_
  intro a hA
  replace hA : St 28 [(0, _), (1, _)] a := hA
  refine Ends.seq ?_
  refine Ends.region ?_
  refine S.val hA (R.assign rfl) rfl ?_; clear hA a; intro a hA
  refine S.done ?_
  replace hA : St 28 [(0, _), (1, _), (4, _)] a := hA.sub ((.cons rfl (.cons rfl (.cons rfl .nil))))
  refine Ends.seq ?_
  refine Ends.seq ?_
  refine Ends.region ?_
  refine S.val hA (R.move rfl) rfl ?_; clear hA a; intro a hA
  refine S.val hA (R.eqlNil Try.underlying72 rfl rfl) rfl ?_; clear hA a; intro a hA
  refine S.val hA (R.move rfl) rfl ?_; clear hA a; intro a hA
  refine S.valg (dj := 7) hA (by kernel_rfl) rfl (R.move rfl) rfl ?_; clear hA a; intro a hA
  refine S.valg (dj := 7) hA (by kernel_rfl) rfl (R.ff (R.lss rfl rfl) (by omega)) rfl ?_; clear hA a; intro a hA
  refine S.val hA (R.pickF rfl rfl) rfl ?_; clear hA a; intro a hA
  refine S.val hA (R.move rfl) rfl ?_; clear hA a; intro a hA
  refine S.valg (dj := 11) hA (by kernel_rfl) rfl (R.move rfl) rfl ?_; clear hA a; intro a hA
  refine S.valg (dj := 11) hA (by kernel_rfl) rfl (R.move rfl) rfl ?_; clear hA a; intro a hA
  refine S.valg (dj := 11) hA (by kernel_rfl) rfl (R.nilCheck rfl) rfl ?_; clear hA a; intro a hA
  refine S.valg (dj := 11) hA (by kernel_rfl) rfl (R.fieldAddr (q := 3) fi128_3 rfl rfl rfl) rfl ?_; clear hA a; intro a hA
  refine S.valg (dj := 11) hA (by kernel_rfl) rfl (R.load sz95 rfl (hM.cell (k := 0) rfl rfl)) rfl ?_; clear hA a; intro a hA
  refine S.valg (dj := 11) hA (by kernel_rfl) rfl (R.lenS Try.underlying95 rfl rfl) rfl ?_; clear hA a; intro a hA
  refine S.valg (dj := 11) hA (by kernel_rfl) rfl (R.ff (R.geq rfl rfl) (by omega)) rfl ?_; clear hA a; intro a hA
  refine S.val hA (R.pickF rfl rfl) rfl ?_; clear hA a; intro a hA
  refine S.done ?_
  replace hA : St 28 [(0, _), (1, _), (4, _), (19, _)] a := hA.sub ((.cons rfl (.cons rfl (.cons rfl (.cons rfl .nil)))))
  refine Ends.condF hA rfl ?_
  refine Ends.skip ?_
  refine Ends.seq ?_
  refine Ends.region ?_
  refine S.val hA (R.move rfl) rfl ?_; clear hA a; intro a hA
  refine S.val hA (R.nilCheck rfl) rfl ?_; clear hA a; intro a hA
  refine S.val hA (R.fieldAddr (q := 3) fi128_3 rfl rfl rfl) rfl ?_; clear hA a; intro a hA
  refine S.val hA (R.load sz95 rfl (hM.cell (k := 0) rfl rfl)) rfl ?_; clear hA a; intro a hA
  refine S.val hA (R.move rfl) rfl ?_; clear hA a; intro a hA
  refine S.val hA (R.indexAddr (q := i.toNat) sl95 rfl rfl (by omega) (by omega)) rfl ?_; clear hA a; intro a hA
  refine S.val hA (R.load sz43 rfl (hM.cell (k := 1) rfl (vals_at ls _ _ hls))) rfl ?_; clear hA a; intro a hA
  refine S.call hA (R.callF Try.func69 rfl rfl rfl) rfl (clone_own av cap Y (by omega) _ (hM.mem (k := 2) rfl)) ?_; clear hA a
  rintro e w1 ⟨a1, c2, rfl, hn⟩
  replace hM : Mem _ _ [own 3 1 (.slice a1 Y.length c2) Y.length (Y.map (Value.int .i64)), pt q #[.pointer (some ⟨m, 0, none⟩), .int .i64 bs, .slice (some ⟨nb, 0, none⟩) ns ns, .slice (some ⟨ob, 0, none⟩) ws ws] 128, pt ob ((vals ls)) 43, own 3 1 (.slice av Y.length cap) Y.length (Y.map (Value.int .i64))] _ := hM.call hn; clear hn
  refine ⟨.slice a1 Y.length c2, rfl, fun a hA => ?_⟩
  refine S.val hA (R.assign rfl) rfl ?_; clear hA a; intro a hA
  refine S.done ?_
  replace hA : St 28 [(4, _)] a := hA.sub ((.cons rfl .nil))
  refine Ends.ret1 Try.func52 Try.results52 hA rfl ?_
  exact ⟨_, _, rfl, hM.firstN 4⟩
set_option maxRecDepth 100000 in
set_option maxHeartbeats 400000 in
theorem pshared_any (q m c nb ns ob ws : Nat) (bs : Int) (l : List Int) (s : Int) (o : CellOp) (hmc : m ≠ c) (xs : List Int) (hb : 0 ≤ bs ∧ bs + 1 + ns ≤ l.length ∧ l.length ≤ 1000000) (hns : ns ≤ 4096) (htp : 0 ≤ l.getD bs.toNat 0 ∧ l.getD bs.toNat 0 < 4611686018427387904) (hch : Chn bs l (l.getD bs.toNat 0 % 4294967296 - 1) xs) (hxn : xs.length ≤ ns) (hxr : ∀ x ∈ xs, 0 ≤ x ∧ x < ns) (w : World) (hM : Mem w (feet [pt q #[.pointer (some ⟨m, 0, none⟩), .int .i64 bs, .slice (some ⟨nb, 0, none⟩) ns ns, .slice (some ⟨ob, 0, none⟩) ws ws] 128, memO m c l s o]) [pt q #[.pointer (some ⟨m, 0, none⟩), .int .i64 bs, .slice (some ⟨nb, 0, none⟩) ns ns, .slice (some ⟨ob, 0, none⟩) ws ws] 128, memO m c l s o] w) :
    Calls Try.prog 53 #[.pointer (some ⟨q, 0, none⟩)] w fun e w' => ∃ a2 c2, e = .returned (.slice a2 xs.length c2) ∧ Mem w (feet [pt q #[.pointer (some ⟨m, 0, none⟩), .int .i64 bs, .slice (some ⟨nb, 0, none⟩) ns ns, .slice (some ⟨ob, 0, none⟩) ws ws] 128, memO m c l s o]) [own 3 1 (.slice a2 xs.length c2) xs.length (xs.map (Value.int .i64)), pt q #[.pointer (some ⟨m, 0, none⟩), .int .i64 bs, .slice (some ⟨nb, 0, none⟩) ns ns, .slice (some ⟨ob, 0, none⟩) ws ws] 128, memO m c l s o] w' := by
  have hM0 : True := trivial  -- have hM
  refine Calls.of_ends (vs := [.pointer (some ⟨q, 0, none⟩)]) Try.func53 rfl Try.ntmps53 rfl ?_
  intro a hA
  replace hA : St 46 [(0, _)] a := hA
  refine Ends.seq ?_
  refine Ends.region ?_
  refine S.val hA (R.assign rfl) rfl ?_; clear hA a; intro a hA
  refine S.done ?_
  replace hA : St 46 [(0, _), (2, _)] a := hA.sub ((.cons rfl (.cons rfl .nil)))
  refine Ends.seq ?_
  refine Ends.seq ?_
  refine Ends.region ?_
  refine S.val hA (R.move rfl) rfl ?_; clear hA a; intro a hA
  refine S.val hA (R.eqlNil Try.underlying72 rfl rfl) rfl ?_; clear hA a; intro a hA
  refine S.done ?_
  replace hA : St 46 [(0, _), (2, _), (7, _)] a := hA.sub ((.cons rfl (.cons rfl (.cons rfl .nil))))
  refine Ends.condF hA rfl ?_
  refine Ends.skip ?_
  refine Ends.seq ?_
  refine Ends.drawn (Mem w (feet [pt q #[.pointer (some ⟨m, 0, none⟩), .int .i64 bs, .slice (some ⟨nb, 0, none⟩) ns ns, .slice (some ⟨ob, 0, none⟩) ws ws] 128, memO m c l s o]) [pt q #[.pointer (some ⟨m, 0, none⟩), .int .i64 bs, .slice (some ⟨nb, 0, none⟩) ns ns, .slice (some ⟨ob, 0, none⟩) ws ws] 128]) (.cons (0, true) (.cons (1, true) (.cons (2, true) (.cons (3, true) (.cons (4, true) (.cons (5, true) (.cons (6, true) (.cons (7, true) (.cons (8, false) (.cons (9, false) (.cons (10, true) (.cons (11, true) (.cons (12, true) (.cons (13, true) (.cons (14, true) .nil))))))))))))))) 15 mixed (by kernel_rfl) (by kernel_rfl) (by kernel_rfl) (hM.drop 1).drew ?_
  replace hM := hM.drew
  refine D.valF hA rfl (fun _ => R.move rfl) rfl ?_; clear hA a; intro a hA
  refine D.valF hA rfl (fun _ => R.nilCheck rfl) rfl ?_; clear hA a; intro a hA
  refine D.valF hA rfl (fun _ => R.fieldAddr (q := 0) fi128_0 rfl rfl rfl) rfl ?_; clear hA a; intro a hA
  refine D.val hA rfl (by kernel_rfl) (fun _ hM => R.load sz24 rfl (hM.cell (k := 0) rfl rfl)) rfl ?_; clear hA a; intro a hA
  refine D.valF hA rfl (fun _ => R.move rfl) rfl ?_; clear hA a; intro a hA
  refine D.valF hA rfl (fun _ => R.nilCheck rfl) rfl ?_; clear hA a; intro a hA
  refine D.valF hA rfl (fun _ => R.fieldAddr (q := 1) fi128_1 rfl rfl rfl) rfl ?_; clear hA a; intro a hA
  refine D.val hA rfl (by kernel_rfl) (fun _ hM => R.load sz3 rfl (hM.cell (k := 0) rfl rfl)) rfl ?_; clear hA a; intro a hA
  refine D.call hA rfl (R.callF Try.func64 rfl rfl rfl) rfl (peek_ok m c l s o hmc bs (by omega) (by omega) _ (hM.mem (k := 1) rfl)) ?_; clear hA a
  rintro e w1 ⟨rfl, rfl⟩
  refine ⟨.int .i64 (l.getD bs.toNat 0), rfl, (hM.drop 1), fun a hA => ?_⟩
  refine D.call hA rfl (R.callF Try.func77 rfl rfl rfl) rfl (unpack_any (l.getD bs.toNat 0) (by omega) (by omega) _) ?_; clear hA a
  rintro e w2 ⟨rfl, rfl⟩
  refine ⟨.tuple #[.int .i64 ((l.getD bs.toNat 0) / 4294967296 % 1073741824), .int .i64 ((l.getD bs.toNat 0) % 4294967296 - 1)], rfl, (hM.drop 1), fun a hA => ?_⟩
  refine D.valF hA rfl (fun _ => R.move rfl) rfl ?_; clear hA a; intro a hA
  refine D.valF hA rfl (fun _ => R.extract (v := .int .i64 ((l.getD bs.toNat 0) / 4294967296 % 1073741824)) rfl rfl) rfl ?_; clear hA a; intro a hA
  refine D.valF hA rfl (fun _ => R.extract (v := .int .i64 ((l.getD bs.toNat 0) % 4294967296 - 1)) rfl rfl) rfl ?_; clear hA a; intro a hA
  refine D.valF hA rfl (fun _ => R.assign rfl) rfl ?_; clear hA a; intro a hA
  refine D.valF hA rfl (fun _ => R.assign rfl) rfl ?_; clear hA a; intro a hA
  refine D.done ?_
  replace hA : St 46 [(0, _), (2, _), (4, _)] a := hA.sub ((.cons rfl (.cons rfl (.cons rfl .nil))))
  refine Ends.seq ?_
  refine Ends.region ?_
  refine S.val hA (R.assign rfl) rfl ?_; clear hA a; intro a hA
  refine S.done ?_
  replace hA : St 46 [(0, _), (2, _), (4, _), (5, _)] a := hA.sub ((.cons rfl (.cons rfl (.cons rfl (.cons rfl .nil)))))
  refine Ends.seq ?_
  refine Ends.block ?_
  replace hM := hM.ownNil 3 1
  replace hM : Mem _ _ [own 3 1 (.slice none ((([] : List Int)).length) 0) ((([] : List Int)).length) ((([] : List Int)).map (Value.int .i64)), pt q #[.pointer (some ⟨m, 0, none⟩), .int .i64 bs, .slice (some ⟨nb, 0, none⟩) ns ns, .slice (some ⟨ob, 0, none⟩) ws ws] 128, memO m c l s o] _ := hM
  refine Ends.loop (σ := Int × List Int × List Int × Option Addr × Nat) (fun (pt_, X, r, av, cap) (a : Act) (wv : World) => St 46 [(0, .pointer (some ⟨q, 0, none⟩)), (2, .slice none 0 0), (4, .int .i64 pt_), (5, .slice av X.length cap)] a ∧ Mem w (feet [pt q #[.pointer (some ⟨m, 0, none⟩), .int .i64 bs, .slice (some ⟨nb, 0, none⟩) ns ns, .slice (some ⟨ob, 0, none⟩) ws ws] 128, memO m c l s o]) [own 3 1 (.slice av X.length cap) X.length (X.map (Value.int .i64)), pt q #[.pointer (some ⟨m, 0, none⟩), .int .i64 bs, .slice (some ⟨nb, 0, none⟩) ns ns, .slice (some ⟨ob, 0, none⟩) ws ws] 128, memO m c l s o] wv ∧ (X ++ r = xs) ∧ (Chn bs l pt_ r)) (fun (pt_, X, r, av, cap) => r.length) (((l.getD bs.toNat 0) % 4294967296 - 1, [], xs, none, 0)) ⟨hA.sub ((.cons rfl (.cons rfl (.cons rfl (.cons rfl .nil))))), hM, rfl, hch⟩ ?_
  clear hA hM a
  rintro ⟨pt_, X, r, av, cap⟩ a w3 ⟨hA, hM, hdr, hchr⟩ hNext
  refine Ends.seq ?_
  refine Ends.seq ?_
  by_cases hs1 : 0 ≤ pt_
  ·
    obtain ⟨r2, hr2, hch2⟩ := chn_pos hchr hs1
    have hxl : X.length + r.length = xs.length := by rw [← hdr]; simp
    have hrl : r.length = r2.length + 1 := by rw [hr2]; simp
    have hpn := hxr pt_ (by rw [← hdr, hr2]; simp)
    refine Ends.region ?_
    refine S.val hA (R.move rfl) rfl ?_; clear hA a; intro a hA
    refine S.val hA (R.tt (R.geq rfl rfl) (by omega)) rfl ?_; clear hA a; intro a hA
    refine S.val hA (R.move rfl) rfl ?_; clear hA a; intro a hA
    refine S.valg (dj := 23) hA (by kernel_rfl) rfl (R.move rfl) rfl ?_; clear hA a; intro a hA
    refine S.valg (dj := 23) hA (by kernel_rfl) rfl (R.lenS Try.underlying43 rfl rfl) rfl ?_; clear hA a; intro a hA
    refine S.valg (dj := 23) hA (by kernel_rfl) rfl (R.move rfl) rfl ?_; clear hA a; intro a hA
    refine S.valg (dj := 23) hA (by kernel_rfl) rfl (R.nilCheck rfl) rfl ?_; clear hA a; intro a hA
    refine S.valg (dj := 23) hA (by kernel_rfl) rfl (R.fieldAddr (q := 2) fi128_2 rfl rfl rfl) rfl ?_; clear hA a; intro a hA
    refine S.valg (dj := 23) hA (by kernel_rfl) rfl (R.load sz126 rfl (hM.cell (k := 1) rfl rfl)) rfl ?_; clear hA a; intro a hA
    refine S.valg (dj := 23) hA (by kernel_rfl) rfl (R.lenS Try.underlying126 rfl rfl) rfl ?_; clear hA a; intro a hA
    refine S.valg (dj := 23) hA (by kernel_rfl) rfl (R.tt (R.leq rfl rfl) (by omega)) rfl ?_; clear hA a; intro a hA
    refine S.val hA (R.pickT rfl rfl) rfl ?_; clear hA a; intro a hA
    refine S.done ?_
    replace hA : St 46 [(0, _), (2, _), (4, _), (5, _), (21, _), (22, _), (23, _), (24, _), (25, _), (26, _), (27, _), (28, _), (29, _), (30, _), (31, _), (32, _)] a := hA.sub ((.cons rfl (.cons rfl (.cons rfl (.cons rfl (.cons rfl (.cons rfl (.cons rfl (.cons rfl (.cons rfl (.cons rfl (.cons rfl (.cons rfl (.cons rfl (.cons rfl (.cons rfl (.cons rfl .nil)))))))))))))))))
    refine Ends.condT hA rfl ?_
    refine Ends.skip ?_
    refine Ends.block ?_
    refine Ends.seq ?_
    refine Ends.region ?_
    refine S.val hA (R.move rfl) rfl ?_; clear hA a; intro a hA
    refine S.val hA (R.move rfl) rfl ?_; clear hA a; intro a hA
    refine S.buildSl (cells := #[.int .i64 pt_]) hA hM Try.underlying43 info3 rfl rfl rfl rfl (by kernel_rfl) rfl ?_; clear hA hM a; intro b2 w4 hb3 hM a hA
    replace hM : Mem _ _ [pt b2 #[.int .i64 pt_] 3, own 3 1 (.slice av X.length cap) X.length (X.map (Value.int .i64)), pt q #[.pointer (some ⟨m, 0, none⟩), .int .i64 bs, .slice (some ⟨nb, 0, none⟩) ns ns, .slice (some ⟨ob, 0, none⟩) ws ws] 128, memO m c l s o] _ := hM
    refine S.append (k := 1) (k2 := 0) hA hM rfl rfl Try.underlying43 info3 rfl rfl rfl rfl rfl rfl rfl rfl rfl (by first | omega | (show _ ≤ (9223372036854775807 : Nat); omega) | (show (X.length + 1) * 8 ≤ _; omega) | (unfold maxLen; omega)) (by first | omega | (show _ ≤ (9223372036854775807 : Nat); omega) | (show (X.length + 1) * 8 ≤ _; omega) | (unfold maxLen; omega)) rfl ?_; clear hA hM a; intro a4 c5 w5 hM a hA
    replace hM : Mem _ _ [pt b2 #[.int .i64 pt_] 3, own 3 1 (.slice a4 (X.length + 1) c5) (X.length + 1) (X.map (Value.int .i64) ++ [.int .i64 pt_]), pt q #[.pointer (some ⟨m, 0, none⟩), .int .i64 bs, .slice (some ⟨nb, 0, none⟩) ns ns, .slice (some ⟨ob, 0, none⟩) ws ws] 128, memO m c l s o] _ := hM
    have hl6 : X.length + 1 = (X ++ [pt_]).length := by simp
    rw [hl6, show X.map (Value.int .i64) ++ [.int .i64 pt_] = (X ++ [pt_]).map (Value.int .i64) by simp] at hM; rw [hl6] at hA
    clear hl6
    replace hM := hM.drop 0
    replace hM : Mem _ _ [own 3 1 (.slice a4 (((X ++ [pt_])).length) c5) (((X ++ [pt_])).length) (((X ++ [pt_])).map (Value.int .i64)), pt q #[.pointer (some ⟨m, 0, none⟩), .int .i64 bs, .slice (some ⟨nb, 0, none⟩) ns ns, .slice (some ⟨ob, 0, none⟩) ws ws] 128, memO m c l s o] _ := hM
    refine S.val hA (R.assign rfl) rfl ?_; clear hA a; intro a hA
    refine S.done ?_
    replace hA : St 46 [(0, _), (2, _), (4, _), (5, _), (21, _), (22, _), (23, _), (24, _), (25, _), (26, _), (27, _), (28, _), (29, _), (30, _), (31, _), (32, _), (33, _), (34, _), (35, _), (36, _)] a := hA.sub ((.cons rfl (.cons rfl (.cons rfl (.cons rfl (.cons rfl (.cons rfl (.cons rfl (.cons rfl (.cons rfl (.cons rfl (.cons rfl (.cons rfl (.cons rfl (.cons rfl (.cons rfl (.cons rfl (.cons rfl (.cons rfl (.cons rfl (.cons rfl .nil)))))))))))))))))))))
    refine Ends.drawn (Mem w (feet [pt q #[.pointer (some ⟨m, 0, none⟩), .int .i64 bs, .slice (some ⟨nb, 0, none⟩) ns ns, .slice (some ⟨ob, 0, none⟩) ws ws] 128, memO m c l s o]) [own 3 1 (.slice a4 (((X ++ [pt_])).length) c5) (((X ++ [pt_])).length) (((X ++ [pt_])).map (Value.int .i64)), pt q #[.pointer (some ⟨m, 0, none⟩), .int .i64 bs, .slice (some ⟨nb, 0, none⟩) ns ns, .slice (some ⟨ob, 0, none⟩) ws ws] 128]) (.cons (0, true) (.cons (1, true) (.cons (2, true) (.cons (3, true) (.cons (4, true) (.cons (5, true) (.cons (6, false) (.cons (7, false) (.cons (8, true) .nil))))))))) 9 mixed (by kernel_rfl) (by kernel_rfl) (by kernel_rfl) (hM.drop 2).drew ?_
    replace hM := hM.drew
    refine D.valF hA rfl (fun _ => R.move rfl) rfl ?_; clear hA a; intro a hA
    refine D.valF hA rfl (fun _ => R.nilCheck rfl) rfl ?_; clear hA a; intro a hA
    refine D.valF hA rfl (fun _ => R.fieldAddr (q := 0) fi128_0 rfl rfl rfl) rfl ?_; clear hA a; intro a hA
    refine D.val hA rfl (by kernel_rfl) (fun _ hM => R.load sz24 rfl (hM.cell (k := 1) rfl rfl)) rfl ?_; clear hA a; intro a hA
    refine D.valF hA rfl (fun _ => R.move rfl) rfl ?_; clear hA a; intro a hA
    refine D.valF hA rfl (fun _ => R.move rfl) rfl ?_; clear hA a; intro a hA
    refine D.call hA rfl (R.callF Try.func76 rfl rfl rfl) rfl (plink q m nb ob ns ws bs pt_ (by omega) (by omega) _ (hM.block (k := 1) rfl)) ?_; clear hA a
    rintro e w6 ⟨rfl, rfl⟩
    refine ⟨.int .i64 (bs + 1 + pt_), rfl, (hM.drop 2), fun a hA => ?_⟩
    refine D.call hA rfl (R.callF Try.func64 rfl rfl rfl) rfl (peek_ok m c l s o hmc (bs + 1 + pt_) (by omega) (by omega) _ (hM.mem (k := 2) rfl)) ?_; clear hA a
    rintro e w7 ⟨rfl, rfl⟩
    refine ⟨.int .i64 (l.getD (bs + 1 + pt_).toNat 0), rfl, (hM.drop 2), fun a hA => ?_⟩
    refine D.valF hA rfl (fun _ => R.assign rfl) rfl ?_; clear hA a; intro a hA
    refine D.done ?_
    replace hA : St 46 [(0, _), (2, _), (4, _), (5, _), (21, _), (22, _), (23, _), (24, _), (25, _), (26, _), (27, _), (28, _), (29, _), (30, _), (31, _), (32, _), (33, _), (34, _), (35, _), (36, _), (37, _), (38, _), (39, _), (40, _), (41, _), (42, _), (43, _), (44, _)] a := hA.sub ((.cons rfl (.cons rfl (.cons rfl (.cons rfl (.cons rfl (.cons rfl (.cons rfl (.cons rfl (.cons rfl (.cons rfl (.cons rfl (.cons rfl (.cons rfl (.cons rfl (.cons rfl (.cons rfl (.cons rfl (.cons rfl (.cons rfl (.cons rfl (.cons rfl (.cons rfl (.cons rfl (.cons rfl (.cons rfl (.cons rfl (.cons rfl (.cons rfl .nil)))))))))))))))))))))))))))))
    refine Ends.inBlock ?_
    exact hNext ((l.getD (bs + 1 + pt_).toNat 0, (X ++ [pt_]), r2, a4, c5)) _ _ ((by show r2.length < r.length; rw [hr2]; simp)) ⟨hA.sub ((.cons rfl (.cons rfl (.cons rfl (.cons rfl .nil))))), hM, (by rw [← hdr, hr2]; simp), hch2⟩
  ·
    refine Ends.region ?_
    refine S.val hA (R.move rfl) rfl ?_; clear hA a; intro a hA
    refine S.val hA (R.ff (R.geq rfl rfl) (by omega)) rfl ?_; clear hA a; intro a hA
    refine S.val hA (R.move rfl) rfl ?_; clear hA a; intro a hA
    refine S.no (dj := 23) hA (by kernel_rfl) rfl rfl rfl ?_; clear hA a; intro a hA
    refine S.no (dj := 23) hA (by kernel_rfl) rfl rfl rfl ?_; clear hA a; intro a hA
    refine S.no (dj := 23) hA (by kernel_rfl) rfl rfl rfl ?_; clear hA a; intro a hA
    refine S.no (dj := 23) hA (by kernel_rfl) rfl rfl rfl ?_; clear hA a; intro a hA
    refine S.no (dj := 23) hA (by kernel_rfl) rfl rfl rfl ?_; clear hA a; intro a hA
    refine S.no (dj := 23) hA (by kernel_rfl) rfl rfl rfl ?_; clear hA a; intro a hA
    refine S.no (dj := 23) hA (by kernel_rfl) rfl rfl rfl ?_; clear hA a; intro a hA
    refine S.no (dj := 23) hA (by kernel_rfl) rfl rfl rfl ?_; clear hA a; intro a hA
    refine S.val hA (R.pickF rfl rfl) rfl ?_; clear hA a; intro a hA
    refine S.done ?_
    replace hA : St 46 [(0, _), (2, _), (4, _), (5, _), (21, _), (22, _), (23, _), (32, _)] a := hA.sub ((.cons rfl (.cons rfl (.cons rfl (.cons rfl (.cons rfl (.cons rfl (.cons rfl (.cons rfl .nil)))))))))
    refine Ends.condF hA rfl ?_
    refine Ends.exit rfl ?_
    replace hA : St 46 [(2, _), (5, _)] a := hA.sub ((.cons rfl (.cons rfl .nil)))
    refine Ends.seq ?_
    refine Ends.region ?_
    refine S.val hA (R.move rfl) rfl ?_; clear hA a; intro a hA
    refine S.val hA (R.assign rfl) rfl ?_; clear hA a; intro a hA
    refine S.done ?_
    replace hA : St 46 [(2, _)] a := hA.sub ((.cons rfl .nil))
    refine Ends.ret1 Try.func53 Try.results53 hA rfl ?_
    have hr0 := chn_neg hchr (by omega)
    subst hr0
    rw [List.append_nil] at hdr
    subst hdr
    exact ⟨_, _, rfl, hM.firstN 3⟩
set_option maxRecDepth 100000 in
set_option maxHeartbeats 400000 in
theorem once18_2 (wb lb : Nat) (n : Int) (hn : 1 ≤ n ∧ n ≤ 4096) (hv : Option Addr) (H : List Int) (hc : Nat) (a0 : Option Addr) (Y0 : List Int) (c0 : Nat) (a1 : Option Addr) (Y1 : List Int) (c1 : Nat) (hgood : Held n H (Y0 ++ Y1)) (w : World) (hw : w.heap[wb]? = some (.cells #[.slice hv H.length hc] 93 (0, 0))) (hlb : w.heap[lb]? = some (.cells #[.slice a0 Y0.length c0, .slice a1 Y1.length c1] 43 (0, 0))) (hH : IntSl w (.slice hv H.length hc) H) (h0 : IntSl w (.slice a0 Y0.length c0) Y0) (h1 : IntSl w (.slice a1 Y1.length c1) Y1) :
    Calls Try.prog 60 #[.pointer (some ⟨wb, 0, none⟩), .slice (some ⟨lb, 0, none⟩) 2 2] w fun e w' => e = .returned (.bool true) ∧ Below w.heap.size w w' := by
  have hHl := hgood.1
  have hM := Mem.start w
  refine Calls.of_ends (vs := [.pointer (some ⟨wb, 0, none⟩), .slice (some ⟨lb, 0, none⟩) 2 2]) Try.func60 rfl Try.ntmps60 rfl ?_
  intro a hA
  replace hA : St 90 [(0, _), (1, _)] a := hA
  refine Ends.seq ?_
  refine Ends.region ?_
  refine S.val hA (R.assign rfl) rfl ?_; clear hA a; intro a hA
  refine S.done ?_
  replace hA : St 90 [(0, _), (1, _), (4, _)] a := hA.sub ((.cons rfl (.cons rfl (.cons rfl .nil))))
  refine Ends.seq ?_
  refine Ends.region ?_
  refine S.val hA (R.move rfl) rfl ?_; clear hA a; intro a hA
  refine S.val hA (R.nilCheck rfl) rfl ?_; clear hA a; intro a hA
  refine S.val hA (R.fieldAddr (q := 0) fi93_0 rfl rfl rfl) rfl ?_; clear hA a; intro a hA
  refine S.val hA (R.load sz43 rfl (hM.cellB hw rfl)) rfl ?_; clear hA a; intro a hA
  refine S.val hA (R.lenS Try.underlying43 rfl rfl) rfl ?_; clear hA a; intro a hA
  refine S.make hA hM Try.underlying43 info3 rfl rfl rfl (by omega) (by show (8 : Int) * _ ≤ _; omega) (by omega) rfl ?_; clear hA hM a; intro b1 w1 hb2 hM a hA
  replace hM : Mem _ _ [pt b1 (madeCells #[.int .i64 0] (((H.length : Int)).toNat * 1)) 3] _ := hM
  rw [Nat.mul_one, made_ints] at hM
  replace hM : Mem _ _ [pt b1 ((ints (List.replicate ((H.length : Int)).toNat 0))) 3] _ := hM
  refine S.val hA (R.assign rfl) rfl ?_; clear hA a; intro a hA
  refine S.done ?_
  replace hA : St 90 [(0, _), (1, _), (4, _), (5, _)] a := hA.sub ((.cons rfl (.cons rfl (.cons rfl (.cons rfl .nil)))))
  refine Ends.seq ?_
  refine Ends.seq ?_
  refine Ends.region ?_
  refine S.val hA (R.assign rfl) rfl ?_; clear hA a; intro a hA
  refine S.done ?_
  replace hA : St 90 [(0, _), (1, _), (4, _), (5, _), (6, _)] a := hA.sub ((.cons rfl (.cons rfl (.cons rfl (.cons rfl (.cons rfl .nil))))))
  refine Ends.block ?_
  refine Ends.unroll ?_
  refine Ends.seq ?_
  refine Ends.seq ?_
  refine Ends.region ?_
  refine S.val hA (R.move rfl) rfl ?_; clear hA a; intro a hA
  refine S.val hA (R.move rfl) rfl ?_; clear hA a; intro a hA
  refine S.val hA (R.lenS Try.underlying95 rfl rfl) rfl ?_; clear hA a; intro a hA
  refine S.val hA (R.tt (R.lss rfl rfl) (by first | decide | simp | omega)) rfl ?_; clear hA a; intro a hA
  refine S.done ?_
  replace hA : St 90 [(0, _), (1, _), (4, _), (5, _), (6, _), (16, _), (17, _), (18, _), (19, _)] a := hA.sub ((.cons rfl (.cons rfl (.cons rfl (.cons rfl (.cons rfl (.cons rfl (.cons rfl (.cons rfl (.cons rfl .nil))))))))))
  refine Ends.condT hA rfl ?_
  refine Ends.skip ?_
  refine Ends.seq ?_
  refine Ends.block ?_
  refine Ends.seq ?_
  refine Ends.region ?_
  refine S.val hA (R.assign rfl) rfl ?_; clear hA a; intro a hA
  refine S.done ?_
  replace hA : St 90 [(0, _), (1, _), (4, _), (5, _), (6, _), (7, _), (16, _), (17, _), (18, _), (19, _)] a := hA.sub ((.cons rfl (.cons rfl (.cons rfl (.cons rfl (.cons rfl (.cons rfl (.cons rfl (.cons rfl (.cons rfl (.cons rfl .nil)))))))))))
  refine Ends.block ?_
  rw [show H.length = n.toNat by omega] at hM
  refine Ends.loop (σ := Nat × List Int) (fun (b, sn) (a : Act) (wv : World) => St 90 [(0, .pointer (some ⟨wb, 0, none⟩)), (1, .slice (some ⟨lb, 0, none⟩) 2 2), (5, .slice (some ⟨b1, 0, none⟩) (((H.length : Int)).toNat) (((H.length : Int)).toNat)), (6, .int .i64 0), (7, .int .i64 ((b : Int))), (16, .int .i64 0), (17, .slice (some ⟨lb, 0, none⟩) 2 2), (18, .int .i64 2), (19, .bool true)] a ∧ Mem w nof [pt b1 ((ints sn)) 3] wv ∧ (b ≤ Y0.length) ∧ (sn = cntL n.toNat (([] : List Int) ++ Y0.take b))) (fun (b, sn) => Y0.length - b) ((0, (List.replicate n.toNat 0))) ⟨hA.sub ((.cons rfl (.cons rfl (.cons rfl (.cons rfl (.cons rfl (.cons rfl (.cons rfl (.cons rfl (.cons rfl .nil)))))))))), hM, (by omega), (by rw [List.take_zero, List.append_nil]; exact (cntL_nil _).symm)⟩ ?_
  clear hA hM a
  rintro ⟨b, sn⟩ a w2 ⟨hA, hM, hb, hsn⟩ hNext1
  refine Ends.seq ?_
  refine Ends.seq ?_
  refine Ends.region ?_
  refine S.val hA (R.move rfl) rfl ?_; clear hA a; intro a hA
  refine S.val hA (R.move rfl) rfl ?_; clear hA a; intro a hA
  refine S.val hA (R.move rfl) rfl ?_; clear hA a; intro a hA
  refine S.val hA (R.indexAddr (q := 0) sl95 rfl rfl (by omega) (rfl)) rfl ?_; clear hA a; intro a hA
  refine S.val hA (R.load sz43 rfl (hM.cellB hlb rfl)) rfl ?_; clear hA a; intro a hA
  refine S.val hA (R.lenS Try.underlying43 rfl rfl) rfl ?_; clear hA a; intro a hA
  refine S.val hA (R.lss rfl rfl) rfl ?_; clear hA a; intro a hA
  refine S.done ?_
  replace hA : St 90 [(0, _), (1, _), (5, _), (6, _), (7, _), (16, _), (17, _), (18, _), (19, _), (22, _), (23, _), (24, _), (25, _), (26, _), (27, _), (28, _)] a := hA.sub ((.cons rfl (.cons rfl (.cons rfl (.cons rfl (.cons rfl (.cons rfl (.cons rfl (.cons rfl (.cons rfl (.cons rfl (.cons rfl (.cons rfl (.cons rfl (.cons rfl (.cons rfl (.cons rfl .nil)))))))))))))))))
  refine Ends.ite hA rfl (fun hc3 => ?_) (fun hc3 => ?_)
  ·
    refine Ends.skip ?_
    refine Ends.seq ?_
    refine Ends.block ?_
    refine Ends.seq ?_
    have hml := h0.len
    unfold maxLen at hml
    obtain ⟨g0, off, hg, hcell⟩ := h0.at (i := b) (by omega)
    subst hg
    have hmem : Y0.getD b 0 ∈ (Y0 ++ Y1) := by
      have hm := getD_mem Y0 b (by omega)
      repeat (first | exact List.mem_append_right _ hm | exact hm | apply List.mem_append_left)
    have hrng := hgood.2.2.1 _ hmem
    have hsl : sn.length = n.toNat := by rw [hsn]; exact cntL_len _ _
    have hsub : (([] : List Int) ++ Y0.take b).Sublist (Y0 ++ Y1) := (List.Sublist.append (List.Sublist.refl ([] : List Int)) (List.take_sublist b Y0)).trans ((List.Sublist.refl _).trans (List.sublist_append_left _ _))
    have hcb : 0 ≤ sn.getD (Y0.getD b 0).toNat 0 ∧ sn.getD (Y0.getD b 0).toNat 0 ≤ 1 := by rw [hsn]; exact cntL_one hgood.2.1 hsub _ (by omega)
    refine Ends.region ?_
    refine S.val hA (R.move rfl) rfl ?_; clear hA a; intro a hA
    refine S.val hA (R.move rfl) rfl ?_; clear hA a; intro a hA
    refine S.val hA (R.indexAddr (q := 0) sl95 rfl rfl (by omega) (rfl)) rfl ?_; clear hA a; intro a hA
    refine S.val hA (R.load sz43 rfl (hM.cellB hlb rfl)) rfl ?_; clear hA a; intro a hA
    refine S.val hA (R.move rfl) rfl ?_; clear hA a; intro a hA
    refine S.val hA (R.indexAddr (q := off + b) sl43 rfl rfl (by omega) (by omega)) rfl ?_; clear hA a; intro a hA
    refine S.val hA (R.load sz3 rfl (hM.cell0 hcell (fun h => h))) rfl ?_; clear hA a; intro a hA
    refine S.val hA (R.assign rfl) rfl ?_; clear hA a; intro a hA
    refine S.done ?_
    replace hA : St 90 [(0, _), (1, _), (5, _), (6, _), (7, _), (8, _), (16, _), (17, _), (18, _), (19, _), (22, _), (23, _), (24, _), (25, _), (26, _), (27, _), (28, _), (31, _), (32, _), (33, _), (34, _), (35, _), (36, _), (37, _)] a := hA.sub ((.cons rfl (.cons rfl (.cons rfl (.cons rfl (.cons rfl (.cons rfl (.cons rfl (.cons rfl (.cons rfl (.cons rfl (.cons rfl (.cons rfl (.cons rfl (.cons rfl (.cons rfl (.cons rfl (.cons rfl (.cons rfl (.cons rfl (.cons rfl (.cons rfl (.cons rfl (.cons rfl (.cons rfl .nil)))))))))))))))))))))))))
    refine Ends.seq ?_
    refine Ends.seq ?_
    refine Ends.region ?_
    refine S.val hA (R.move rfl) rfl ?_; clear hA a; intro a hA
    refine S.val hA (R.ff (R.lss rfl rfl) (by omega)) rfl ?_; clear hA a; intro a hA
    refine S.val hA (R.move rfl) rfl ?_; clear hA a; intro a hA
    refine S.valg (dj := 40) hA (by kernel_rfl) rfl (R.move rfl) rfl ?_; clear hA a; intro a hA
    refine S.valg (dj := 40) hA (by kernel_rfl) rfl (R.move rfl) rfl ?_; clear hA a; intro a hA
    refine S.valg (dj := 40) hA (by kernel_rfl) rfl (R.lenS Try.underlying43 rfl rfl) rfl ?_; clear hA a; intro a hA
    refine S.valg (dj := 40) hA (by kernel_rfl) rfl (R.ff (R.geq rfl rfl) (by omega)) rfl ?_; clear hA a; intro a hA
    refine S.val hA (R.pickF rfl rfl) rfl ?_; clear hA a; intro a hA
    refine S.done ?_
    replace hA : St 90 [(0, _), (1, _), (5, _), (6, _), (7, _), (8, _), (16, _), (17, _), (18, _), (19, _), (22, _), (23, _), (24, _), (25, _), (26, _), (27, _), (28, _), (31, _), (32, _), (33, _), (34, _), (35, _), (36, _), (37, _), (38, _), (39, _), (40, _), (41, _), (42, _), (43, _), (44, _), (45, _)] a := hA.sub ((.cons rfl (.cons rfl (.cons rfl (.cons rfl (.cons rfl (.cons rfl (.cons rfl (.cons rfl (.cons rfl (.cons rfl (.cons rfl (.cons rfl (.cons rfl (.cons rfl (.cons rfl (.cons rfl (.cons rfl (.cons rfl (.cons rfl (.cons rfl (.cons rfl (.cons rfl (.cons rfl (.cons rfl (.cons rfl (.cons rfl (.cons rfl (.cons rfl (.cons rfl (.cons rfl (.cons rfl (.cons rfl .nil)))))))))))))))))))))))))))))))))
    refine Ends.condF hA rfl ?_
    refine Ends.skip ?_
    refine Ends.region ?_
    refine S.val hA (R.move rfl) rfl ?_; clear hA a; intro a hA
    refine S.val hA (R.move rfl) rfl ?_; clear hA a; intro a hA
    refine S.val hA (R.indexAddr (q := (Y0.getD b 0).toNat) sl43 rfl rfl (by omega) (by omega)) rfl ?_; clear hA a; intro a hA
    refine S.val hA (R.load sz3 rfl (hM.cell (k := 0) rfl (ints_getD sn _ (by omega)))) rfl ?_; clear hA a; intro a hA
    refine S.val hA (R.addI rfl rfl (r := (sn.getD ((Y0.getD b 0).toNat) 0) + 1) rfl (by omega)) rfl ?_; clear hA a; intro a hA
    refine S.val hA (R.indexAddr (q := (Y0.getD b 0).toNat) sl43 rfl rfl (by omega) (by omega)) rfl ?_; clear hA a; intro a hA
    refine S.store (k := 0) hA hM sz3 rfl rfl rfl rfl (ints_getD sn _ (by omega)) ?_; clear hM
    intro w3 hM
    rw [ints_set] at hM
    replace hM : Mem _ _ [pt b1 ((ints (sn.set ((Y0.getD b 0).toNat) ((sn.getD ((Y0.getD b 0).toNat) 0) + 1)))) 3] _ := hM
    refine S.done ?_
    replace hA : St 90 [(0, _), (1, _), (5, _), (6, _), (7, _), (8, _), (16, _), (17, _), (18, _), (19, _), (22, _), (23, _), (24, _), (25, _), (26, _), (27, _), (28, _), (31, _), (32, _), (33, _), (34, _), (35, _), (36, _), (37, _), (38, _), (39, _), (40, _), (41, _), (42, _), (43, _), (44, _), (45, _), (46, _), (47, _), (48, _), (49, _), (50, _), (51, _)] a := hA.sub ((.cons rfl (.cons rfl (.cons rfl (.cons rfl (.cons rfl (.cons rfl (.cons rfl (.cons rfl (.cons rfl (.cons rfl (.cons rfl (.cons rfl (.cons rfl (.cons rfl (.cons rfl (.cons rfl (.cons rfl (.cons rfl (.cons rfl (.cons rfl (.cons rfl (.cons rfl (.cons rfl (.cons rfl (.cons rfl (.cons rfl (.cons rfl (.cons rfl (.cons rfl (.cons rfl (.cons rfl (.cons rfl (.cons rfl (.cons rfl (.cons rfl (.cons rfl (.cons rfl (.cons rfl .nil)))))))))))))))))))))))))))))))))))))))
    refine Ends.inBlock ?_
    refine Ends.region ?_
    refine S.val hA (R.move rfl) rfl ?_; clear hA a; intro a hA
    refine S.val hA (R.addI rfl rfl (r := ((b : Int)) + 1) rfl (by omega)) rfl ?_; clear hA a; intro a hA
    refine S.val hA (R.assign rfl) rfl ?_; clear hA a; intro a hA
    refine S.done ?_
    replace hA : St 90 [(0, _), (1, _), (5, _), (6, _), (7, _), (8, _), (16, _), (17, _), (18, _), (19, _), (22, _), (23, _), (24, _), (25, _), (26, _), (27, _), (28, _), (29, _), (30, _), (31, _), (32, _), (33, _), (34, _), (35, _), (36, _), (37, _), (38, _), (39, _), (40, _), (41, _), (42, _), (43, _), (44, _), (45, _), (46, _), (47, _), (48, _), (49, _), (50, _), (51, _)] a := hA.sub ((.cons rfl (.cons rfl (.cons rfl (.cons rfl (.cons rfl (.cons rfl (.cons rfl (.cons rfl (.cons rfl (.cons rfl (.cons rfl (.cons rfl (.cons rfl (.cons rfl (.cons rfl (.cons rfl (.cons rfl (.cons rfl (.cons rfl (.cons rfl (.cons rfl (.cons rfl (.cons rfl (.cons rfl (.cons rfl (.cons rfl (.cons rfl (.cons rfl (.cons rfl (.cons rfl (.cons rfl (.cons rfl (.cons rfl (.cons rfl (.cons rfl (.cons rfl (.cons rfl (.cons rfl (.cons rfl (.cons rfl .nil)))))))))))))))))))))))))))))))))))))))))
    exact hNext1 ((b + 1, (sn.set ((Y0.getD b 0).toNat) ((sn.getD ((Y0.getD b 0).toNat) 0) + 1)))) _ _ ((by show Y0.length - (b + 1) < Y0.length - b; omega)) ⟨hA.sub ((.cons rfl (.cons rfl (.cons rfl (.cons rfl (.cons rfl (.cons rfl (.cons rfl (.cons rfl (.cons rfl .nil)))))))))), hM, (by omega), (by rw [hsn]; exact cntL_take _ _ _ _ (by omega) (by omega))⟩
  ·
    have hbe : b = Y0.length := by omega
    subst hbe
    rw [List.take_length, List.nil_append] at hsn
    have hsd0 := hsn; clear hsn hNext1
    refine Ends.exit rfl ?_
    replace hA : St 90 [(0, _), (1, _), (5, _), (6, _), (16, _), (17, _), (18, _), (19, _), (23, _), (24, _), (25, _), (26, _), (27, _)] a := hA.sub ((.cons rfl (.cons rfl (.cons rfl (.cons rfl (.cons rfl (.cons rfl (.cons rfl (.cons rfl (.cons rfl (.cons rfl (.cons rfl (.cons rfl (.cons rfl .nil))))))))))))))
    refine Ends.inBlock ?_
    refine Ends.region ?_
    refine S.val hA (R.move rfl) rfl ?_; clear hA a; intro a hA
    refine S.val hA (R.addI rfl rfl (r := 1) rfl (by omega)) rfl ?_; clear hA a; intro a hA
    refine S.val hA (R.assign rfl) rfl ?_; clear hA a; intro a hA
    refine S.done ?_
    replace hA : St 90 [(0, _), (1, _), (5, _), (6, _), (16, _), (17, _), (18, _), (19, _), (20, _), (21, _), (23, _), (24, _), (25, _), (26, _), (27, _)] a := hA.sub ((.cons rfl (.cons rfl (.cons rfl (.cons rfl (.cons rfl (.cons rfl (.cons rfl (.cons rfl (.cons rfl (.cons rfl (.cons rfl (.cons rfl (.cons rfl (.cons rfl (.cons rfl .nil))))))))))))))))
    refine Ends.inLoop ?_
    refine Ends.seq ?_
    refine Ends.seq ?_
    refine Ends.region ?_
    refine S.val hA (R.move rfl) rfl ?_; clear hA a; intro a hA
    refine S.val hA (R.move rfl) rfl ?_; clear hA a; intro a hA
    refine S.val hA (R.lenS Try.underlying95 rfl rfl) rfl ?_; clear hA a; intro a hA
    refine S.val hA (R.tt (R.lss rfl rfl) (by first | decide | simp | omega)) rfl ?_; clear hA a; intro a hA
    refine S.done ?_
    replace hA : St 90 [(0, _), (1, _), (5, _), (6, _), (16, _), (17, _), (18, _), (19, _), (20, _), (21, _), (23, _), (24, _), (25, _), (26, _), (27, _)] a := hA.sub ((.cons rfl (.cons rfl (.cons rfl (.cons rfl (.cons rfl (.cons rfl (.cons rfl (.cons rfl (.cons rfl (.cons rfl (.cons rfl (.cons rfl (.cons rfl (.cons rfl (.cons rfl .nil))))))))))))))))
    refine Ends.condT hA rfl ?_
    refine Ends.skip ?_
    refine Ends.seq ?_
    refine Ends.block ?_
    refine Ends.seq ?_
    refine Ends.region ?_
    refine S.val hA (R.assign rfl) rfl ?_; clear hA a; intro a hA
    refine S.done ?_
    replace hA : St 90 [(0, _), (1, _), (5, _), (6, _), (7, _), (16, _), (17, _), (18, _), (19, _), (20, _), (21, _), (23, _), (24, _), (25, _), (26, _), (27, _)] a := hA.sub ((.cons rfl (.cons rfl (.cons rfl (.cons rfl (.cons rfl (.cons rfl (.cons rfl (.cons rfl (.cons rfl (.cons rfl (.cons rfl (.cons rfl (.cons rfl (.cons rfl (.cons rfl (.cons rfl .nil)))))))))))))))))
    refine Ends.block ?_
    refine Ends.loop (σ := Nat × List Int) (fun (b, sn) (a : Act) (wv : World) => St 90 [(0, .pointer (some ⟨wb, 0, none⟩)), (1, .slice (some ⟨lb, 0, none⟩) 2 2), (5, .slice (some ⟨b1, 0, none⟩) (((H.length : Int)).toNat) (((H.length : Int)).toNat)), (6, .int .i64 1), (7, .int .i64 ((b : Int))), (16, .int .i64 1), (17, .slice (some ⟨lb, 0, none⟩) 2 2), (18, .int .i64 2), (19, .bool true), (20, .int .i64 0), (21, .int .i64 1)] a ∧ Mem w nof [pt b1 ((ints sn)) 3] wv ∧ (b ≤ Y1.length) ∧ (sn = cntL n.toNat (Y0 ++ Y1.take b))) (fun (b, sn) => Y1.length - b) ((0, sn)) ⟨hA.sub ((.cons rfl (.cons rfl (.cons rfl (.cons rfl (.cons rfl (.cons rfl (.cons rfl (.cons rfl (.cons rfl (.cons rfl (.cons rfl .nil)))))))))))), hM, (by omega), (by rw [List.take_zero, List.append_nil]; exact hsd0)⟩ ?_
    clear hA hM a
    rintro ⟨b, sn⟩ a w4 ⟨hA, hM, hb, hsn⟩ hNext1
    refine Ends.seq ?_
    refine Ends.seq ?_
    refine Ends.region ?_
    refine S.val hA (R.move rfl) rfl ?_; clear hA a; intro a hA
    refine S.val hA (R.move rfl) rfl ?_; clear hA a; intro a hA
    refine S.val hA (R.move rfl) rfl ?_; clear hA a; intro a hA
    refine S.val hA (R.indexAddr (q := 1) sl95 rfl rfl (by omega) (rfl)) rfl ?_; clear hA a; intro a hA
    refine S.val hA (R.load sz43 rfl (hM.cellB hlb rfl)) rfl ?_; clear hA a; intro a hA
    refine S.val hA (R.lenS Try.underlying43 rfl rfl) rfl ?_; clear hA a; intro a hA
    refine S.val hA (R.lss rfl rfl) rfl ?_; clear hA a; intro a hA
    refine S.done ?_
    replace hA : St 90 [(0, _), (1, _), (5, _), (6, _), (7, _), (16, _), (17, _), (18, _), (19, _), (20, _), (21, _), (22, _), (23, _), (24, _), (25, _), (26, _), (27, _), (28, _)] a := hA.sub ((.cons rfl (.cons rfl (.cons rfl (.cons rfl (.cons rfl (.cons rfl (.cons rfl (.cons rfl (.cons rfl (.cons rfl (.cons rfl (.cons rfl (.cons rfl (.cons rfl (.cons rfl (.cons rfl (.cons rfl (.cons rfl .nil)))))))))))))))))))
    refine Ends.ite hA rfl (fun hc4 => ?_) (fun hc4 => ?_)
    ·
      refine Ends.skip ?_
      refine Ends.seq ?_
      refine Ends.block ?_
      refine Ends.seq ?_
      have hml := h1.len
      unfold maxLen at hml
      obtain ⟨g1, off, hg, hcell⟩ := h1.at (i := b) (by omega)
      subst hg
      have hmem : Y1.getD b 0 ∈ (Y0 ++ Y1) := by
        have hm := getD_mem Y1 b (by omega)
        repeat (first | exact List.mem_append_right _ hm | exact hm | apply List.mem_append_left)
      have hrng := hgood.2.2.1 _ hmem
      have hsl : sn.length = n.toNat := by rw [hsn]; exact cntL_len _ _
      have hsub : (Y0 ++ Y1.take b).Sublist (Y0 ++ Y1) := (List.Sublist.append (List.Sublist.refl Y0) (List.take_sublist b Y1)).trans (List.Sublist.refl _)
      have hcb : 0 ≤ sn.getD (Y1.getD b 0).toNat 0 ∧ sn.getD (Y1.getD b 0).toNat 0 ≤ 1 := by rw [hsn]; exact cntL_one hgood.2.1 hsub _ (by omega)
      refine Ends.region ?_
      refine S.val hA (R.move rfl) rfl ?_; clear hA a; intro a hA
      refine S.val hA (R.move rfl) rfl ?_; clear hA a; intro a hA
      refine S.val hA (R.indexAddr (q := 1) sl95 rfl rfl (by omega) (rfl)) rfl ?_; clear hA a; intro a hA
      refine S.val hA (R.load sz43 rfl (hM.cellB hlb rfl)) rfl ?_; clear hA a; intro a hA
      refine S.val hA (R.move rfl) rfl ?_; clear hA a; intro a hA
      refine S.val hA (R.indexAddr (q := off + b) sl43 rfl rfl (by omega) (by omega)) rfl ?_; clear hA a; intro a hA
      refine S.val hA (R.load sz3 rfl (hM.cell0 hcell (fun h => h))) rfl ?_; clear hA a; intro a hA
      refine S.val hA (R.assign rfl) rfl ?_; clear hA a; intro a hA
      refine S.done ?_
      replace hA : St 90 [(0, _), (1, _), (5, _), (6, _), (7, _), (8, _), (16, _), (17, _), (18, _), (19, _), (20, _), (21, _), (22, _), (23, _), (24, _), (25, _), (26, _), (27, _), (28, _), (31, _), (32, _), (33, _), (34, _), (35, _), (36, _), (37, _)] a := hA.sub ((.cons rfl (.cons rfl (.cons rfl (.cons rfl (.cons rfl (.cons rfl (.cons rfl (.cons rfl (.cons rfl (.cons rfl (.cons rfl (.cons rfl (.cons rfl (.cons rfl (.cons rfl (.cons rfl (.cons rfl (.cons rfl (.cons rfl (.cons rfl (.cons rfl (.cons rfl (.cons rfl (.cons rfl (.cons rfl (.cons rfl .nil)))))))))))))))))))))))))))
      refine Ends.seq ?_
      refine Ends.seq ?_
      refine Ends.region ?_
      refine S.val hA (R.move rfl) rfl ?_; clear hA a; intro a hA
      refine S.val hA (R.ff (R.lss rfl rfl) (by omega)) rfl ?_; clear hA a; intro a hA
      refine S.val hA (R.move rfl) rfl ?_; clear hA a; intro a hA
      refine S.valg (dj := 40) hA (by kernel_rfl) rfl (R.move rfl) rfl ?_; clear hA a; intro a hA
      refine S.valg (dj := 40) hA (by kernel_rfl) rfl (R.move rfl) rfl ?_; clear hA a; intro a hA
      refine S.valg (dj := 40) hA (by kernel_rfl) rfl (R.lenS Try.underlying43 rfl rfl) rfl ?_; clear hA a; intro a hA
      refine S.valg (dj := 40) hA (by kernel_rfl) rfl (R.ff (R.geq rfl rfl) (by omega)) rfl ?_; clear hA a; intro a hA
      refine S.val hA (R.pickF rfl rfl) rfl ?_; clear hA a; intro a hA
      refine S.done ?_
      replace hA : St 90 [(0, _), (1, _), (5, _), (6, _), (7, _), (8, _), (16, _), (17, _), (18, _), (19, _), (20, _), (21, _), (22, _), (23, _), (24, _), (25, _), (26, _), (27, _), (28, _), (31, _), (32, _), (33, _), (34, _), (35, _), (36, _), (37, _), (38, _), (39, _), (40, _), (41, _), (42, _), (43, _), (44, _), (45, _)] a := hA.sub ((.cons rfl (.cons rfl (.cons rfl (.cons rfl (.cons rfl (.cons rfl (.cons rfl (.cons rfl (.cons rfl (.cons rfl (.cons rfl (.cons rfl (.cons rfl (.cons rfl (.cons rfl (.cons rfl (.cons rfl (.cons rfl (.cons rfl (.cons rfl (.cons rfl (.cons rfl (.cons rfl (.cons rfl (.cons rfl (.cons rfl (.cons rfl (.cons rfl (.cons rfl (.cons rfl (.cons rfl (.cons rfl (.cons rfl (.cons rfl .nil)))))))))))))))))))))))))))))))))))
      refine Ends.condF hA rfl ?_
      refine Ends.skip ?_
      refine Ends.region ?_
      refine S.val hA (R.move rfl) rfl ?_; clear hA a; intro a hA
      refine S.val hA (R.move rfl) rfl ?_; clear hA a; intro a hA
      refine S.val hA (R.indexAddr (q := (Y1.getD b 0).toNat) sl43 rfl rfl (by omega) (by omega)) rfl ?_; clear hA a; intro a hA
      refine S.val hA (R.load sz3 rfl (hM.cell (k := 0) rfl (ints_getD sn _ (by omega)))) rfl ?_; clear hA a; intro a hA
      refine S.val hA (R.addI rfl rfl (r := (sn.getD ((Y1.getD b 0).toNat) 0) + 1) rfl (by omega)) rfl ?_; clear hA a; intro a hA
      refine S.val hA (R.indexAddr (q := (Y1.getD b 0).toNat) sl43 rfl rfl (by omega) (by omega)) rfl ?_; clear hA a; intro a hA
      refine S.store (k := 0) hA hM sz3 rfl rfl rfl rfl (ints_getD sn _ (by omega)) ?_; clear hM
      intro w5 hM
      rw [ints_set] at hM
      replace hM : Mem _ _ [pt b1 ((ints (sn.set ((Y1.getD b 0).toNat) ((sn.getD ((Y1.getD b 0).toNat) 0) + 1)))) 3] _ := hM
      refine S.done ?_
      replace hA : St 90 [(0, _), (1, _), (5, _), (6, _), (7, _), (8, _), (16, _), (17, _), (18, _), (19, _), (20, _), (21, _), (22, _), (23, _), (24, _), (25, _), (26, _), (27, _), (28, _), (31, _), (32, _), (33, _), (34, _), (35, _), (36, _), (37, _), (38, _), (39, _), (40, _), (41, _), (42, _), (43, _), (44, _), (45, _), (46, _), (47, _), (48, _), (49, _), (50, _), (51, _)] a := hA.sub ((.cons rfl (.cons rfl (.cons rfl (.cons rfl (.cons rfl (.cons rfl (.cons rfl (.cons rfl (.cons rfl (.cons rfl (.cons rfl (.cons rfl (.cons rfl (.cons rfl (.cons rfl (.cons rfl (.cons rfl (.cons rfl (.cons rfl (.cons rfl (.cons rfl (.cons rfl (.cons rfl (.cons rfl (.cons rfl (.cons rfl (.cons rfl (.cons rfl (.cons rfl (.cons rfl (.cons rfl (.cons rfl (.cons rfl (.cons rfl (.cons rfl (.cons rfl (.cons rfl (.cons rfl (.cons rfl (.cons rfl .nil)))))))))))))))))))))))))))))))))))))))))
      refine Ends.inBlock ?_
      refine Ends.region ?_
      refine S.val hA (R.move rfl) rfl ?_; clear hA a; intro a hA
      refine S.val hA (R.addI rfl rfl (r := ((b : Int)) + 1) rfl (by omega)) rfl ?_; clear hA a; intro a hA
      refine S.val hA (R.assign rfl) rfl ?_; clear hA a; intro a hA
      refine S.done ?_
      replace hA : St 90 [(0, _), (1, _), (5, _), (6, _), (7, _), (8, _), (16, _), (17, _), (18, _), (19, _), (20, _), (21, _), (22, _), (23, _), (24, _), (25, _), (26, _), (27, _), (28, _), (29, _), (30, _), (31, _), (32, _), (33, _), (34, _), (35, _), (36, _), (37, _), (38, _), (39, _), (40, _), (41, _), (42, _), (43, _), (44, _), (45, _), (46, _), (47, _), (48, _), (49, _), (50, _), (51, _)] a := hA.sub ((.cons rfl (.cons rfl (.cons rfl (.cons rfl (.cons rfl (.cons rfl (.cons rfl (.cons rfl (.cons rfl (.cons rfl (.cons rfl (.cons rfl (.cons rfl (.cons rfl (.cons rfl (.cons rfl (.cons rfl (.cons rfl (.cons rfl (.cons rfl (.cons rfl (.cons rfl (.cons rfl (.cons rfl (.cons rfl (.cons rfl (.cons rfl (.cons rfl (.cons rfl (.cons rfl (.cons rfl (.cons rfl (.cons rfl (.cons rfl (.cons rfl (.cons rfl (.cons rfl (.cons rfl (.cons rfl (.cons rfl (.cons rfl (.cons rfl .nil)))))))))))))))))))))))))))))))))))))))))))
      exact hNext1 ((b + 1, (sn.set ((Y1.getD b 0).toNat) ((sn.getD ((Y1.getD b 0).toNat) 0) + 1)))) _ _ ((by show Y1.length - (b + 1) < Y1.length - b; omega)) ⟨hA.sub ((.cons rfl (.cons rfl (.cons rfl (.cons rfl (.cons rfl (.cons rfl (.cons rfl (.cons rfl (.cons rfl (.cons rfl (.cons rfl .nil)))))))))))), hM, (by omega), (by rw [hsn]; exact cntL_take _ _ _ _ (by omega) (by omega))⟩
    ·
      have hbe : b = Y1.length := by omega
      subst hbe
      rw [List.take_length] at hsn
      have hsd1 := hsn; clear hsn hNext1
      refine Ends.exit rfl ?_
      replace hA : St 90 [(0, _), (1, _), (5, _), (6, _), (16, _), (17, _), (18, _), (19, _), (20, _), (21, _), (23, _), (24, _), (25, _), (26, _), (27, _)] a := hA.sub ((.cons rfl (.cons rfl (.cons rfl (.cons rfl (.cons rfl (.cons rfl (.cons rfl (.cons rfl (.cons rfl (.cons rfl (.cons rfl (.cons rfl (.cons rfl (.cons rfl (.cons rfl .nil))))))))))))))))
      refine Ends.inBlock ?_
      refine Ends.region ?_
      refine S.val hA (R.move rfl) rfl ?_; clear hA a; intro a hA
      refine S.val hA (R.addI rfl rfl (r := 2) rfl (by omega)) rfl ?_; clear hA a; intro a hA
      refine S.val hA (R.assign rfl) rfl ?_; clear hA a; intro a hA
      refine S.done ?_
      replace hA : St 90 [(0, _), (1, _), (5, _), (6, _), (16, _), (17, _), (18, _), (19, _), (20, _), (21, _), (23, _), (24, _), (25, _), (26, _), (27, _)] a := hA.sub ((.cons rfl (.cons rfl (.cons rfl (.cons rfl (.cons rfl (.cons rfl (.cons rfl (.cons rfl (.cons rfl (.cons rfl (.cons rfl (.cons rfl (.cons rfl (.cons rfl (.cons rfl .nil))))))))))))))))
      refine Ends.inLoop ?_
      refine Ends.seq ?_
      refine Ends.seq ?_
      refine Ends.region ?_
      refine S.val hA (R.move rfl) rfl ?_; clear hA a; intro a hA
      refine S.val hA (R.move rfl) rfl ?_; clear hA a; intro a hA
      refine S.val hA (R.lenS Try.underlying95 rfl rfl) rfl ?_; clear hA a; intro a hA
      refine S.val hA (R.ff (R.lss rfl rfl) (by first | decide | simp | omega)) rfl ?_; clear hA a; intro a hA
      refine S.done ?_
      replace hA : St 90 [(0, _), (1, _), (5, _), (6, _), (16, _), (17, _), (18, _), (19, _), (20, _), (21, _), (23, _), (24, _), (25, _), (26, _), (27, _)] a := hA.sub ((.cons rfl (.cons rfl (.cons rfl (.cons rfl (.cons rfl (.cons rfl (.cons rfl (.cons rfl (.cons rfl (.cons rfl (.cons rfl (.cons rfl (.cons rfl (.cons rfl (.cons rfl .nil))))))))))))))))
      refine Ends.condF hA rfl ?_
      refine Ends.exit rfl ?_
      replace hA : St 90 [(0, _), (5, _)] a := hA.sub ((.cons rfl (.cons rfl .nil)))
      refine Ends.seq ?_
      refine Ends.seq ?_
      refine Ends.region ?_
      refine S.val hA (R.assign rfl) rfl ?_; clear hA a; intro a hA
      refine S.done ?_
      replace hA : St 90 [(0, _), (5, _), (9, _)] a := hA.sub ((.cons rfl (.cons rfl (.cons rfl .nil))))
      refine Ends.block ?_
      have hsl : sn.length = n.toNat := by rw [hsd1]; exact cntL_len _ _
      refine Ends.loop (σ := Nat) (fun k (a : Act) (wv : World) => St 90 [(0, .pointer (some ⟨wb, 0, none⟩)), (5, .slice (some ⟨b1, 0, none⟩) (((H.length : Int)).toNat) (((H.length : Int)).toNat)), (9, .int .i64 ((k : Int)))] a ∧ Mem w nof [pt b1 ((ints sn)) 3] wv ∧ ((k : Int) ≤ n)) (fun k => n.toNat - k) 0 ⟨hA.sub ((.cons rfl (.cons rfl (.cons rfl .nil)))), hM, (by omega)⟩ ?_
      clear hA hM a
      rintro k a w6 ⟨hA, hM, hk⟩ hNext2
      refine Ends.seq ?_
      refine Ends.seq ?_
      refine Ends.region ?_
      refine S.val hA (R.move rfl) rfl ?_; clear hA a; intro a hA
      refine S.val hA (R.move rfl) rfl ?_; clear hA a; intro a hA
      refine S.val hA (R.lenS Try.underlying43 rfl rfl) rfl ?_; clear hA a; intro a hA
      refine S.val hA (R.lss rfl rfl) rfl ?_; clear hA a; intro a hA
      refine S.done ?_
      replace hA : St 90 [(0, _), (5, _), (9, _), (52, _), (53, _), (54, _), (55, _)] a := hA.sub ((.cons rfl (.cons rfl (.cons rfl (.cons rfl (.cons rfl (.cons rfl (.cons rfl .nil))))))))
      refine Ends.ite hA rfl (fun hc5 => ?_) (fun hc5 => ?_)
      ·
        refine Ends.skip ?_
        refine Ends.seq ?_
        refine Ends.block ?_
        refine Ends.seq ?_
        by_cases hs6 : H.getD k 0 = -1
        ·
          have hcn := held_cnt hgood k (by omega)
          rw [← hsd1] at hcn
          have hcn2 := hcn.1 hs6
          obtain ⟨gH, off, hg, hcellH⟩ := hH.at (i := k) (by omega)
          subst hg
          refine Ends.region ?_
          refine S.val hA (R.move rfl) rfl ?_; clear hA a; intro a hA
          refine S.val hA (R.nilCheck rfl) rfl ?_; clear hA a; intro a hA
          refine S.val hA (R.fieldAddr (q := 0) fi93_0 rfl rfl rfl) rfl ?_; clear hA a; intro a hA
          refine S.val hA (R.load sz43 rfl (hM.cellB hw rfl)) rfl ?_; clear hA a; intro a hA
          refine S.val hA (R.move rfl) rfl ?_; clear hA a; intro a hA
          refine S.val hA (R.indexAddr (q := off + k) sl43 rfl rfl (by omega) (by omega)) rfl ?_; clear hA a; intro a hA
          refine S.val hA (R.load sz3 rfl (hM.cell0 hcellH (fun h => h))) rfl ?_; clear hA a; intro a hA
          refine S.val hA (R.tt (R.eql rfl rfl) (by omega)) rfl ?_; clear hA a; intro a hA
          refine S.val hA (R.move rfl) rfl ?_; clear hA a; intro a hA
          refine S.valg (dj := 66) hA (by kernel_rfl) rfl (R.move rfl) rfl ?_; clear hA a; intro a hA
          refine S.valg (dj := 66) hA (by kernel_rfl) rfl (R.move rfl) rfl ?_; clear hA a; intro a hA
          refine S.valg (dj := 66) hA (by kernel_rfl) rfl (R.indexAddr (q := k) sl43 rfl rfl (by omega) (by omega)) rfl ?_; clear hA a; intro a hA
          refine S.valg (dj := 66) hA (by kernel_rfl) rfl (R.load sz3 rfl (hM.cell (k := 0) rfl (ints_getD sn _ (by omega)))) rfl ?_; clear hA a; intro a hA
          refine S.valg (dj := 66) hA (by kernel_rfl) rfl (R.ff (R.neq rfl rfl) (by omega)) rfl ?_; clear hA a; intro a hA
          refine S.val hA (R.pickT rfl rfl) rfl ?_; clear hA a; intro a hA
          refine S.val hA (R.move rfl) rfl ?_; clear hA a; intro a hA
          refine S.valg (dj := 73) hA (by kernel_rfl) rfl (R.move rfl) rfl ?_; clear hA a; intro a hA
          refine S.valg (dj := 73) hA (by kernel_rfl) rfl (R.nilCheck rfl) rfl ?_; clear hA a; intro a hA
          refine S.valg (dj := 73) hA (by kernel_rfl) rfl (R.fieldAddr (q := 0) fi93_0 rfl rfl rfl) rfl ?_; clear hA a; intro a hA
          refine S.valg (dj := 73) hA (by kernel_rfl) rfl (R.load sz43 rfl (hM.cellB hw rfl)) rfl ?_; clear hA a; intro a hA
          refine S.valg (dj := 73) hA (by kernel_rfl) rfl (R.move rfl) rfl ?_; clear hA a; intro a hA
          refine S.valg (dj := 73) hA (by kernel_rfl) rfl (R.indexAddr (q := off + k) sl43 rfl rfl (by omega) (by omega)) rfl ?_; clear hA a; intro a hA
          refine S.valg (dj := 73) hA (by kernel_rfl) rfl (R.load sz3 rfl (hM.cell0 hcellH (fun h => h))) rfl ?_; clear hA a; intro a hA
          refine S.valg (dj := 73) hA (by kernel_rfl) rfl (R.ff (R.neq rfl rfl) (by omega)) rfl ?_; clear hA a; intro a hA
          refine S.valg (dj := 73) hA (by kernel_rfl) rfl (R.move rfl) rfl ?_; clear hA a; intro a hA
          refine S.no (dj := 82) hA (by kernel_rfl) rfl rfl rfl ?_; clear hA a; intro a hA
          refine S.no (dj := 82) hA (by kernel_rfl) rfl rfl rfl ?_; clear hA a; intro a hA
          refine S.no (dj := 82) hA (by kernel_rfl) rfl rfl rfl ?_; clear hA a; intro a hA
          refine S.no (dj := 82) hA (by kernel_rfl) rfl rfl rfl ?_; clear hA a; intro a hA
          refine S.no (dj := 82) hA (by kernel_rfl) rfl rfl rfl ?_; clear hA a; intro a hA
          refine S.valg (dj := 73) hA (by kernel_rfl) rfl (R.pickF rfl rfl) rfl ?_; clear hA a; intro a hA
          refine S.val hA (R.pickF rfl rfl) rfl ?_; clear hA a; intro a hA
          refine S.done ?_
          replace hA : St 90 [(0, _), (5, _), (9, _), (52, _), (53, _), (54, _), (55, _), (58, _), (59, _), (60, _), (61, _), (62, _), (63, _), (64, _), (65, _), (66, _), (67, _), (68, _), (69, _), (70, _), (71, _), (72, _), (73, _), (74, _), (75, _), (76, _), (77, _), (78, _), (79, _), (80, _), (81, _), (82, _), (88, _), (89, _)] a := hA.sub ((.cons rfl (.cons rfl (.cons rfl (.cons rfl (.cons rfl (.cons rfl (.cons rfl (.cons rfl (.cons rfl (.cons rfl (.cons rfl (.cons rfl (.cons rfl (.cons rfl (.cons rfl (.cons rfl (.cons rfl (.cons rfl (.cons rfl (.cons rfl (.cons rfl (.cons rfl (.cons rfl (.cons rfl (.cons rfl (.cons rfl (.cons rfl (.cons rfl (.cons rfl (.cons rfl (.cons rfl (.cons rfl (.cons rfl (.cons rfl .nil)))))))))))))))))))))))))))))))))))
          refine Ends.condF hA rfl ?_
          refine Ends.skip ?_
          refine Ends.inBlock ?_
          refine Ends.region ?_
          refine S.val hA (R.move rfl) rfl ?_; clear hA a; intro a hA
          refine S.val hA (R.addI rfl rfl (r := ((k : Int)) + 1) rfl (by omega)) rfl ?_; clear hA a; intro a hA
          refine S.val hA (R.assign rfl) rfl ?_; clear hA a; intro a hA
          refine S.done ?_
          replace hA : St 90 [(0, _), (5, _), (9, _), (52, _), (53, _), (54, _), (55, _), (56, _), (57, _), (58, _), (59, _), (60, _), (61, _), (62, _), (63, _), (64, _), (65, _), (66, _), (67, _), (68, _), (69, _), (70, _), (71, _), (72, _), (73, _), (74, _), (75, _), (76, _), (77, _), (78, _), (79, _), (80, _), (81, _), (82, _), (88, _), (89, _)] a := hA.sub ((.cons rfl (.cons rfl (.cons rfl (.cons rfl (.cons rfl (.cons rfl (.cons rfl (.cons rfl (.cons rfl (.cons rfl (.cons rfl (.cons rfl (.cons rfl (.cons rfl (.cons rfl (.cons rfl (.cons rfl (.cons rfl (.cons rfl (.cons rfl (.cons rfl (.cons rfl (.cons rfl (.cons rfl (.cons rfl (.cons rfl (.cons rfl (.cons rfl (.cons rfl (.cons rfl (.cons rfl (.cons rfl (.cons rfl (.cons rfl (.cons rfl (.cons rfl .nil)))))))))))))))))))))))))))))))))))))
          exact hNext2 ((k + 1)) _ _ ((by show n.toNat - (k + 1) < n.toNat - k; omega)) ⟨hA.sub ((.cons rfl (.cons rfl (.cons rfl .nil)))), hM, (by omega)⟩
        ·
          have hcn := held_cnt hgood k (by omega)
          rw [← hsd1] at hcn
          have hcn2 := hcn.2 hs6
          obtain ⟨gH, off, hg, hcellH⟩ := hH.at (i := k) (by omega)
          subst hg
          refine Ends.region ?_
          refine S.val hA (R.move rfl) rfl ?_; clear hA a; intro a hA
          refine S.val hA (R.nilCheck rfl) rfl ?_; clear hA a; intro a hA
          refine S.val hA (R.fieldAddr (q := 0) fi93_0 rfl rfl rfl) rfl ?_; clear hA a; intro a hA
          refine S.val hA (R.load sz43 rfl (hM.cellB hw rfl)) rfl ?_; clear hA a; intro a hA
          refine S.val hA (R.move rfl) rfl ?_; clear hA a; intro a hA
          refine S.val hA (R.indexAddr (q := off + k) sl43 rfl rfl (by omega) (by omega)) rfl ?_; clear hA a; intro a hA
          refine S.val hA (R.load sz3 rfl (hM.cell0 hcellH (fun h => h))) rfl ?_; clear hA a; intro a hA
          refine S.val hA (R.ff (R.eql rfl rfl) (by omega)) rfl ?_; clear hA a; intro a hA
          refine S.val hA (R.move rfl) rfl ?_; clear hA a; intro a hA
          refine S.no (dj := 66) hA (by kernel_rfl) rfl rfl rfl ?_; clear hA a; intro a hA
          refine S.no (dj := 66) hA (by kernel_rfl) rfl rfl rfl ?_; clear hA a; intro a hA
          refine S.no (dj := 66) hA (by kernel_rfl) rfl rfl rfl ?_; clear hA a; intro a hA
          refine S.no (dj := 66) hA (by kernel_rfl) rfl rfl rfl ?_; clear hA a; intro a hA
          refine S.no (dj := 66) hA (by kernel_rfl) rfl rfl rfl ?_; clear hA a; intro a hA
          refine S.val hA (R.pickF rfl rfl) rfl ?_; clear hA a; intro a hA
          refine S.val hA (R.move rfl) rfl ?_; clear hA a; intro a hA
          refine S.valg (dj := 73) hA (by kernel_rfl) rfl (R.move rfl) rfl ?_; clear hA a; intro a hA
          refine S.valg (dj := 73) hA (by kernel_rfl) rfl (R.nilCheck rfl) rfl ?_; clear hA a; intro a hA
          refine S.valg (dj := 73) hA (by kernel_rfl) rfl (R.fieldAddr (q := 0) fi93_0 rfl rfl rfl) rfl ?_; clear hA a; intro a hA
          refine S.valg (dj := 73) hA (by kernel_rfl) rfl (R.load sz43 rfl (hM.cellB hw rfl)) rfl ?_; clear hA a; intro a hA
          refine S.valg (dj := 73) hA (by kernel_rfl) rfl (R.move rfl) rfl ?_; clear hA a; intro a hA
          refine S.valg (dj := 73) hA (by kernel_rfl) rfl (R.indexAddr (q := off + k) sl43 rfl rfl (by omega) (by omega)) rfl ?_; clear hA a; intro a hA
          refine S.valg (dj := 73) hA (by kernel_rfl) rfl (R.load sz3 rfl (hM.cell0 hcellH (fun h => h))) rfl ?_; clear hA a; intro a hA
          refine S.valg (dj := 73) hA (by kernel_rfl) rfl (R.tt (R.neq rfl rfl) (by omega)) rfl ?_; clear hA a; intro a hA
          refine S.valg (dj := 73) hA (by kernel_rfl) rfl (R.move rfl) rfl ?_; clear hA a; intro a hA
          refine S.valg (dj := 82) hA (by kernel_rfl) rfl (R.move rfl) rfl ?_; clear hA a; intro a hA
          refine S.valg (dj := 82) hA (by kernel_rfl) rfl (R.move rfl) rfl ?_; clear hA a; intro a hA
          refine S.valg (dj := 82) hA (by kernel_rfl) rfl (R.indexAddr (q := k) sl43 rfl rfl (by omega) (by omega)) rfl ?_; clear hA a; intro a hA
          refine S.valg (dj := 82) hA (by kernel_rfl) rfl (R.load sz3 rfl (hM.cell (k := 0) rfl (ints_getD sn _ (by omega)))) rfl ?_; clear hA a; intro a hA
          refine S.valg (dj := 82) hA (by kernel_rfl) rfl (R.ff (R.neq rfl rfl) (by omega)) rfl ?_; clear hA a; intro a hA
          refine S.valg (dj := 73) hA (by kernel_rfl) rfl (R.pickT rfl rfl) rfl ?_; clear hA a; intro a hA
          refine S.val hA (R.pickF rfl rfl) rfl ?_; clear hA a; intro a hA
          refine S.done ?_
          replace hA : St 90 [(0, _), (5, _), (9, _), (52, _), (53, _), (54, _), (55, _), (58, _), (59, _), (60, _), (61, _), (62, _), (63, _), (64, _), (65, _), (66, _), (72, _), (73, _), (74, _), (75, _), (76, _), (77, _), (78, _), (79, _), (80, _), (81, _), (82, _), (83, _), (84, _), (85, _), (86, _), (87, _), (88, _), (89, _)] a := hA.sub ((.cons rfl (.cons rfl (.cons rfl (.cons rfl (.cons rfl (.cons rfl (.cons rfl (.cons rfl (.cons rfl (.cons rfl (.cons rfl (.cons rfl (.cons rfl (.cons rfl (.cons rfl (.cons rfl (.cons rfl (.cons rfl (.cons rfl (.cons rfl (.cons rfl (.cons rfl (.cons rfl (.cons rfl (.cons rfl (.cons rfl (.cons rfl (.cons rfl (.cons rfl (.cons rfl (.cons rfl (.cons rfl (.cons rfl (.cons rfl .nil)))))))))))))))))))))))))))))))))))
          refine Ends.condF hA rfl ?_
          refine Ends.skip ?_
          refine Ends.inBlock ?_
          refine Ends.region ?_
          refine S.val hA (R.move rfl) rfl ?_; clear hA a; intro a hA
          refine S.val hA (R.addI rfl rfl (r := ((k : Int)) + 1) rfl (by omega)) rfl ?_; clear hA a; intro a hA
          refine S.val hA (R.assign rfl) rfl ?_; clear hA a; intro a hA
          refine S.done ?_
          replace hA : St 90 [(0, _), (5, _), (9, _), (52, _), (53, _), (54, _), (55, _), (56, _), (57, _), (58, _), (59, _), (60, _), (61, _), (62, _), (63, _), (64, _), (65, _), (66, _), (72, _), (73, _), (74, _), (75, _), (76, _), (77, _), (78, _), (79, _), (80, _), (81, _), (82, _), (83, _), (84, _), (85, _), (86, _), (87, _), (88, _), (89, _)] a := hA.sub ((.cons rfl (.cons rfl (.cons rfl (.cons rfl (.cons rfl (.cons rfl (.cons rfl (.cons rfl (.cons rfl (.cons rfl (.cons rfl (.cons rfl (.cons rfl (.cons rfl (.cons rfl (.cons rfl (.cons rfl (.cons rfl (.cons rfl (.cons rfl (.cons rfl (.cons rfl (.cons rfl (.cons rfl (.cons rfl (.cons rfl (.cons rfl (.cons rfl (.cons rfl (.cons rfl (.cons rfl (.cons rfl (.cons rfl (.cons rfl (.cons rfl (.cons rfl .nil)))))))))))))))))))))))))))))))))))))
          exact hNext2 ((k + 1)) _ _ ((by show n.toNat - (k + 1) < n.toNat - k; omega)) ⟨hA.sub ((.cons rfl (.cons rfl (.cons rfl .nil)))), hM, (by omega)⟩
      ·
        refine Ends.exit rfl ?_
        replace hA : St 90 [] a := hA.sub (.nil)
        refine Ends.seq ?_
        refine Ends.region ?_
        refine S.val hA (R.assign rfl) rfl ?_; clear hA a; intro a hA
        refine S.done ?_
        replace hA : St 90 [(4, _)] a := hA.sub ((.cons rfl .nil))
        refine Ends.ret1 Try.func60 Try.results60 hA rfl ?_
        exact ⟨rfl, hM.nilL.below⟩
set_option maxRecDepth 100000 in
set_option maxHeartbeats 400000 in
theorem once18_5 (wb lb : Nat) (n : Int) (hn : 1 ≤ n ∧ n ≤ 4096) (hv : Option Addr) (H : List Int) (hc : Nat) (a0 : Option Addr) (Y0 : List Int) (c0 : Nat) (a1 : Option Addr) (Y1 : List Int) (c1 : Nat) (a2 : Option Addr) (Y2 : List Int) (c2 : Nat) (a3 : Option Addr) (Y3 : List Int) (c3 : Nat) (a4 : Option Addr) (Y4 : List Int) (c4 : Nat) (hgood : Held n H ((((Y0 ++ Y1) ++ Y2) ++ Y3) ++ Y4)) (w : World) (hw : w.heap[wb]? = some (.cells #[.slice hv H.length hc] 93 (0, 0))) (hlb : w.heap[lb]? = some (.cells #[.slice a0 Y0.length c0, .slice a1 Y1.length c1, .slice a2 Y2.length c2, .slice a3 Y3.length c3, .slice a4 Y4.length c4] 43 (0, 0))) (hH : IntSl w (.slice hv H.length hc) H) (h0 : IntSl w (.slice a0 Y0.length c0) Y0) (h1 : IntSl w (.slice a1 Y1.length c1) Y1) (h2 : IntSl w (.slice a2 Y2.length c2) Y2) (h3 : IntSl w (.slice a3 Y3.length c3) Y3) (h4 : IntSl w (.slice a4 Y4.length c4) Y4) :
    Calls Try.prog 60 #[.pointer (some ⟨wb, 0, none⟩), .slice (some ⟨lb, 0, none⟩) 5 5] w fun e w' => e = .returned (.bool true) ∧ Below w.heap.size w w' := by
  have hHl := hgood.1
  have hM := Mem.start w
  refine Calls.of_ends (vs := [.pointer (some ⟨wb, 0, none⟩), .slice (some ⟨lb, 0, none⟩) 5 5]) Try.func60 rfl Try.ntmps60 rfl ?_
  intro a hA
  replace hA : St 90 [(0, _), (1, _)] a := hA
  refine Ends.seq ?_
  refine Ends.region ?_
  refine S.val hA (R.assign rfl) rfl ?_; clear hA a; intro a hA
  refine S.done ?_
  replace hA : St 90 [(0, _), (1, _), (4, _)] a := hA.sub ((.cons rfl (.cons rfl (.cons rfl .nil))))
  refine Ends.seq ?_
  refine Ends.region ?_
  refine S.val hA (R.move rfl) rfl ?_; clear hA a; intro a hA
  refine S.val hA (R.nilCheck rfl) rfl ?_; clear hA a; intro a hA
  refine S.val hA (R.fieldAddr (q := 0) fi93_0 rfl rfl rfl) rfl ?_; clear hA a; intro a hA
  refine S.val hA (R.load sz43 rfl (hM.cellB hw rfl)) rfl ?_; clear hA a; intro a hA
  refine S.val hA (R.lenS Try.underlying43 rfl rfl) rfl ?_; clear hA a; intro a hA
  refine S.make hA hM Try.underlying43 info3 rfl rfl rfl (by omega) (by show (8 : Int) * _ ≤ _; omega) (by omega) rfl ?_; clear hA hM a; intro b1 w1 hb2 hM a hA
  replace hM : Mem _ _ [pt b1 (madeCells #[.int .i64 0] (((H.length : Int)).toNat * 1)) 3] _ := hM
  rw [Nat.mul_one, made_ints] at hM
  replace hM : Mem _ _ [pt b1 ((ints (List.replicate ((H.length : Int)).toNat 0))) 3] _ := hM
  refine S.val hA (R.assign rfl) rfl ?_; clear hA a; intro a hA
  refine S.done ?_
  replace hA : St 90 [(0, _), (1, _), (4, _), (5, _)] a := hA.sub ((.cons rfl (.cons rfl (.cons rfl (.cons rfl .nil)))))
  refine Ends.seq ?_
  refine Ends.seq ?_
  refine Ends.region ?_
  refine S.val hA (R.assign rfl) rfl ?_; clear hA a; intro a hA
  refine S.done ?_
  replace hA : St 90 [(0, _), (1, _), (4, _), (5, _), (6, _)] a := hA.sub ((.cons rfl (.cons rfl (.cons rfl (.cons rfl (.cons rfl .nil))))))
  refine Ends.block ?_
  refine Ends.unroll ?_
  refine Ends.seq ?_
  refine Ends.seq ?_
  refine Ends.region ?_
  refine S.val hA (R.move rfl) rfl ?_; clear hA a; intro a hA
  refine S.val hA (R.move rfl) rfl ?_; clear hA a; intro a hA
  refine S.val hA (R.lenS Try.underlying95 rfl rfl) rfl ?_; clear hA a; intro a hA
  refine S.val hA (R.tt (R.lss rfl rfl) (by first | decide | simp | omega)) rfl ?_; clear hA a; intro a hA
  refine S.done ?_
  replace hA : St 90 [(0, _), (1, _), (4, _), (5, _), (6, _), (16, _), (17, _), (18, _), (19, _)] a := hA.sub ((.cons rfl (.cons rfl (.cons rfl (.cons rfl (.cons rfl (.cons rfl (.cons rfl (.cons rfl (.cons rfl .nil))))))))))
  refine Ends.condT hA rfl ?_
  refine Ends.skip ?_
  refine Ends.seq ?_
  refine Ends.block ?_
  refine Ends.seq ?_
  refine Ends.region ?_
  refine S.val hA (R.assign rfl) rfl ?_; clear hA a; intro a hA
  refine S.done ?_
  replace hA : St 90 [(0, _), (1, _), (4, _), (5, _), (6, _), (7, _), (16, _), (17, _), (18, _), (19, _)] a := hA.sub ((.cons rfl (.cons rfl (.cons rfl (.cons rfl (.cons rfl (.cons rfl (.cons rfl (.cons rfl (.cons rfl (.cons rfl .nil)))))))))))
  refine Ends.block ?_
  rw [show H.length = n.toNat by omega] at hM
  refine Ends.loop (σ := Nat × List Int) (fun (b, sn) (a : Act) (wv : World) => St 90 [(0, .pointer (some ⟨wb, 0, none⟩)), (1, .slice (some ⟨lb, 0, none⟩) 5 5), (5, .slice (some ⟨b1, 0, none⟩) (((H.length : Int)).toNat) (((H.length : Int)).toNat)), (6, .int .i64 0), (7, .int .i64 ((b : Int))), (16, .int .i64 0), (17, .slice (some ⟨lb, 0, none⟩) 5 5), (18, .int .i64 5), (19, .bool true)] a ∧ Mem w nof [pt b1 ((ints sn)) 3] wv ∧ (b ≤ Y0.length) ∧ (sn = cntL n.toNat (([] : List Int) ++ Y0.take b))) (fun (b, sn) => Y0.length - b) ((0, (List.replicate n.toNat 0))) ⟨hA.sub ((.cons rfl (.cons rfl (.cons rfl (.cons rfl (.cons rfl (.cons rfl (.cons rfl (.cons rfl (.cons rfl .nil)))))))))), hM, (by omega), (by rw [List.take_zero, List.append_nil]; exact (cntL_nil _).symm)⟩ ?_
  clear hA hM a
  rintro ⟨b, sn⟩ a w2 ⟨hA, hM, hb, hsn⟩ hNext1
  refine Ends.seq ?_
  refine Ends.seq ?_
  refine Ends.region ?_
  refine S.val hA (R.move rfl) rfl ?_; clear hA a; intro a hA
  refine S.val hA (R.move rfl) rfl ?_; clear hA a; intro a hA
  refine S.val hA (R.move rfl) rfl ?_; clear hA a; intro a hA
  refine S.val hA (R.indexAddr (q := 0) sl95 rfl rfl (by omega) (rfl)) rfl ?_; clear hA a; intro a hA
  refine S.val hA (R.load sz43 rfl (hM.cellB hlb rfl)) rfl ?_; clear hA a; intro a hA
  refine S.val hA (R.lenS Try.underlying43 rfl rfl) rfl ?_; clear hA a; intro a hA
  refine S.val hA (R.lss rfl rfl) rfl ?_; clear hA a; intro a hA
  refine S.done ?_
  replace hA : St 90 [(0, _), (1, _), (5, _), (6, _), (7, _), (16, _), (17, _), (18, _), (19, _), (22, _), (23, _), (24, _), (25, _), (26, _), (27, _), (28, _)] a := hA.sub ((.cons rfl (.cons rfl (.cons rfl (.cons rfl (.cons rfl (.cons rfl (.cons rfl (.cons rfl (.cons rfl (.cons rfl (.cons rfl (.cons rfl (.cons rfl (.cons rfl (.cons rfl (.cons rfl .nil)))))))))))))))))
  refine Ends.ite hA rfl (fun hc3 => ?_) (fun hc3 => ?_)
  ·
    refine Ends.skip ?_
    refine Ends.seq ?_
    refine Ends.block ?_
    refine Ends.seq ?_
    have hml := h0.len
    unfold maxLen at hml
    obtain ⟨g0, off, hg, hcell⟩ := h0.at (i := b) (by omega)
    subst hg
    have hmem : Y0.getD b 0 ∈ ((((Y0 ++ Y1) ++ Y2) ++ Y3) ++ Y4) := by
      have hm := getD_mem Y0 b (by omega)
      repeat (first | exact List.mem_append_right _ hm | exact hm | apply List.mem_append_left)
    have hrng := hgood.2.2.1 _ hmem
    have hsl : sn.length = n.toNat := by rw [hsn]; exact cntL_len _ _
    have hsub : (([] : List Int) ++ Y0.take b).Sublist ((((Y0 ++ Y1) ++ Y2) ++ Y3) ++ Y4) := (List.Sublist.append (List.Sublist.refl ([] : List Int)) (List.take_sublist b Y0)).trans (((((List.Sublist.refl _).trans (List.sublist_append_left _ _)).trans (List.sublist_append_left _ _)).trans (List.sublist_append_left _ _)).trans (List.sublist_append_left _ _))
    have hcb : 0 ≤ sn.getD (Y0.getD b 0).toNat 0 ∧ sn.getD (Y0.getD b 0).toNat 0 ≤ 1 := by rw [hsn]; exact cntL_one hgood.2.1 hsub _ (by omega)
    refine Ends.region ?_
    refine S.val hA (R.move rfl) rfl ?_; clear hA a; intro a hA
    refine S.val hA (R.move rfl) rfl ?_; clear hA a; intro a hA
    refine S.val hA (R.indexAddr (q := 0) sl95 rfl rfl (by omega) (rfl)) rfl ?_; clear hA a; intro a hA
    refine S.val hA (R.load sz43 rfl (hM.cellB hlb rfl)) rfl ?_; clear hA a; intro a hA
    refine S.val hA (R.move rfl) rfl ?_; clear hA a; intro a hA
    refine S.val hA (R.indexAddr (q := off + b) sl43 rfl rfl (by omega) (by omega)) rfl ?_; clear hA a; intro a hA
    refine S.val hA (R.load sz3 rfl (hM.cell0 hcell (fun h => h))) rfl ?_; clear hA a; intro a hA
    refine S.val hA (R.assign rfl) rfl ?_; clear hA a; intro a hA
    refine S.done ?_
    replace hA : St 90 [(0, _), (1, _), (5, _), (6, _), (7, _), (8, _), (16, _), (17, _), (18, _), (19, _), (22, _), (23, _), (24, _), (25, _), (26, _), (27, _), (28, _), (31, _), (32, _), (33, _), (34, _), (35, _), (36, _), (37, _)] a := hA.sub ((.cons rfl (.cons rfl (.cons rfl (.cons rfl (.cons rfl (.cons rfl (.cons rfl (.cons rfl (.cons rfl (.cons rfl (.cons rfl (.cons rfl (.cons rfl (.cons rfl (.cons rfl (.cons rfl (.cons rfl (.cons rfl (.cons rfl (.cons rfl (.cons rfl (.cons rfl (.cons rfl (.cons rfl .nil)))))))))))))))))))))))))
    refine Ends.seq ?_
    refine Ends.seq ?_
    refine Ends.region ?_
    refine S.val hA (R.move rfl) rfl ?_; clear hA a; intro a hA
    refine S.val hA (R.ff (R.lss rfl rfl) (by omega)) rfl ?_; clear hA a; intro a hA
    refine S.val hA (R.move rfl) rfl ?_; clear hA a; intro a hA
    refine S.valg (dj := 40) hA (by kernel_rfl) rfl (R.move rfl) rfl ?_; clear hA a; intro a hA
    refine S.valg (dj := 40) hA (by kernel_rfl) rfl (R.move rfl) rfl ?_; clear hA a; intro a hA
    refine S.valg (dj := 40) hA (by kernel_rfl) rfl (R.lenS Try.underlying43 rfl rfl) rfl ?_; clear hA a; intro a hA
    refine S.valg (dj := 40) hA (by kernel_rfl) rfl (R.ff (R.geq rfl rfl) (by omega)) rfl ?_; clear hA a; intro a hA
    refine S.val hA (R.pickF rfl rfl) rfl ?_; clear hA a; intro a hA
    refine S.done ?_
    replace hA : St 90 [(0, _), (1, _), (5, _), (6, _), (7, _), (8, _), (16, _), (17, _), (18, _), (19, _), (22, _), (23, _), (24, _), (25, _), (26, _), (27, _), (28, _), (31, _), (32, _), (33, _), (34, _), (35, _), (36, _), (37, _), (38, _), (39, _), (40, _), (41, _), (42, _), (43, _), (44, _), (45, _)] a := hA.sub ((.cons rfl (.cons rfl (.cons rfl (.cons rfl (.cons rfl (.cons rfl (.cons rfl (.cons rfl (.cons rfl (.cons rfl (.cons rfl (.cons rfl (.cons rfl (.cons rfl (.cons rfl (.cons rfl (.cons rfl (.cons rfl (.cons rfl (.cons rfl (.cons rfl (.cons rfl (.cons rfl (.cons rfl (.cons rfl (.cons rfl (.cons rfl (.cons rfl (.cons rfl (.cons rfl (.cons rfl (.cons rfl .nil)))))))))))))))))))))))))))))))))
    refine Ends.condF hA rfl ?_
    refine Ends.skip ?_
    refine Ends.region ?_
    refine S.val hA (R.move rfl) rfl ?_; clear hA a; intro a hA
    refine S.val hA (R.move rfl) rfl ?_; clear hA a; intro a hA
    refine S.val hA (R.indexAddr (q := (Y0.getD b 0).toNat) sl43 rfl rfl (by omega) (by omega)) rfl ?_; clear hA a; intro a hA
    refine S.val hA (R.load sz3 rfl (hM.cell (k := 0) rfl (ints_getD sn _ (by omega)))) rfl ?_; clear hA a; intro a hA
    refine S.val hA (R.addI rfl rfl (r := (sn.getD ((Y0.getD b 0).toNat) 0) + 1) rfl (by omega)) rfl ?_; clear hA a; intro a hA
    refine S.val hA (R.indexAddr (q := (Y0.getD b 0).toNat) sl43 rfl rfl (by omega) (by omega)) rfl ?_; clear hA a; intro a hA
    refine S.store (k := 0) hA hM sz3 rfl rfl rfl rfl (ints_getD sn _ (by omega)) ?_; clear hM
    intro w3 hM
    rw [ints_set] at hM
    replace hM : Mem _ _ [pt b1 ((ints (sn.set ((Y0.getD b 0).toNat) ((sn.getD ((Y0.getD b 0).toNat) 0) + 1)))) 3] _ := hM
    refine S.done ?_
    replace hA : St 90 [(0, _), (1, _), (5, _), (6, _), (7, _), (8, _), (16, _), (17, _), (18, _), (19, _), (22, _), (23, _), (24, _), (25, _), (26, _), (27, _), (28, _), (31, _), (32, _), (33, _), (34, _), (35, _), (36, _), (37, _), (38, _), (39, _), (40, _), (41, _), (42, _), (43, _), (44, _), (45, _), (46, _), (47, _), (48, _), (49, _), (50, _), (51, _)] a := hA.sub ((.cons rfl (.cons rfl (.cons rfl (.cons rfl (.cons rfl (.cons rfl (.cons rfl (.cons rfl (.cons rfl (.cons rfl (.cons rfl (.cons rfl (.cons rfl (.cons rfl (.cons rfl (.cons rfl (.cons rfl (.cons rfl (.cons rfl (.cons rfl (.cons rfl (.cons rfl (.cons rfl (.cons rfl (.cons rfl (.cons rfl (.cons rfl (.cons rfl (.cons rfl (.cons rfl (.cons rfl (.cons rfl (.cons rfl (.cons rfl (.cons rfl (.cons rfl (.cons rfl (.cons rfl .nil)))))))))))))))))))))))))))))))))))))))
    refine Ends.inBlock ?_
    refine Ends.region ?_
    refine S.val hA (R.move rfl) rfl ?_; clear hA a; intro a hA
    refine S.val hA (R.addI rfl rfl (r := ((b : Int)) + 1) rfl (by omega)) rfl ?_; clear hA a; intro a hA
    refine S.val hA (R.assign rfl) rfl ?_; clear hA a; intro a hA
    refine S.done ?_
    replace hA : St 90 [(0, _), (1, _), (5, _), (6, _), (7, _), (8, _), (16, _), (17, _), (18, _), (19, _), (22, _), (23, _), (24, _), (25, _), (26, _), (27, _), (28, _), (29, _), (30, _), (31, _), (32, _), (33, _), (34, _), (35, _), (36, _), (37, _), (38, _), (39, _), (40, _), (41, _), (42, _), (43, _), (44, _), (45, _), (46, _), (47, _), (48, _), (49, _), (50, _), (51, _)] a := hA.sub ((.cons rfl (.cons rfl (.cons rfl (.cons rfl (.cons rfl (.cons rfl (.cons rfl (.cons rfl (.cons rfl (.cons rfl (.cons rfl (.cons rfl (.cons rfl (.cons rfl (.cons rfl (.cons rfl (.cons rfl (.cons rfl (.cons rfl (.cons rfl (.cons rfl (.cons rfl (.cons rfl (.cons rfl (.cons rfl (.cons rfl (.cons rfl (.cons rfl (.cons rfl (.cons rfl (.cons rfl (.cons rfl (.cons rfl (.cons rfl (.cons rfl (.cons rfl (.cons rfl (.cons rfl (.cons rfl (.cons rfl .nil)))))))))))))))))))))))))))))))))))))))))
    exact hNext1 ((b + 1, (sn.set ((Y0.getD b 0).toNat) ((sn.getD ((Y0.getD b 0).toNat) 0) + 1)))) _ _ ((by show Y0.length - (b + 1) < Y0.length - b; omega)) ⟨hA.sub ((.cons rfl (.cons rfl (.cons rfl (.cons rfl (.cons rfl (.cons rfl (.cons rfl (.cons rfl (.cons rfl .nil)))))))))), hM, (by omega), (by rw [hsn]; exact cntL_take _ _ _ _ (by omega) (by omega))⟩
  ·
    have hbe : b = Y0.length := by omega
    subst hbe
    rw [List.take_length, List.nil_append] at hsn
    have hsd0 := hsn; clear hsn hNext1
    refine Ends.exit rfl ?_
    replace hA : St 90 [(0, _), (1, _), (5, _), (6, _), (16, _), (17, _), (18, _), (19, _), (23, _), (24, _), (25, _), (26, _), (27, _)] a := hA.sub ((.cons rfl (.cons rfl (.cons rfl (.cons rfl (.cons rfl (.cons rfl (.cons rfl (.cons rfl (.cons rfl (.cons rfl (.cons rfl (.cons rfl (.cons rfl .nil))))))))))))))
    refine Ends.inBlock ?_
    refine Ends.region ?_
    refine S.val hA (R.move rfl) rfl ?_; clear hA a; intro a hA
    refine S.val hA (R.addI rfl rfl (r := 1) rfl (by omega)) rfl ?_; clear hA a; intro a hA
    refine S.val hA (R.assign rfl) rfl ?_; clear hA a; intro a hA
    refine S.done ?_
    replace hA : St 90 [(0, _), (1, _), (5, _), (6, _), (16, _), (17, _), (18, _), (19, _), (20, _), (21, _), (23, _), (24, _), (25, _), (26, _), (27, _)] a := hA.sub ((.cons rfl (.cons rfl (.cons rfl (.cons rfl (.cons rfl (.cons rfl (.cons rfl (.cons rfl (.cons rfl (.cons rfl (.cons rfl (.cons rfl (.cons rfl (.cons rfl (.cons rfl .nil))))))))))))))))
    refine Ends.inLoop ?_
    refine Ends.seq ?_
    refine Ends.seq ?_
    refine Ends.region ?_
    refine S.val hA (R.move rfl) rfl ?_; clear hA a; intro a hA
    refine S.val hA (R.move rfl) rfl ?_; clear hA a; intro a hA
    refine S.val hA (R.lenS Try.underlying95 rfl rfl) rfl ?_; clear hA a; intro a hA
    refine S.val hA (R.tt (R.lss rfl rfl) (by first | decide | simp | omega)) rfl ?_; clear hA a; intro a hA
    refine S.done ?_
    replace hA : St 90 [(0, _), (1, _), (5, _), (6, _), (16, _), (17, _), (18, _), (19, _), (20, _), (21, _), (23, _), (24, _), (25, _), (26, _), (27, _)] a := hA.sub ((.cons rfl (.cons rfl (.cons rfl (.cons rfl (.cons rfl (.cons rfl (.cons rfl (.cons rfl (.cons rfl (.cons rfl (.cons rfl (.cons rfl (.cons rfl (.cons rfl (.cons rfl .nil))))))))))))))))
    refine Ends.condT hA rfl ?_
    refine Ends.skip ?_
    refine Ends.seq ?_
    refine Ends.block ?_
    refine Ends.seq ?_
    refine Ends.region ?_
    refine S.val hA (R.assign rfl) rfl ?_; clear hA a; intro a hA
    refine S.done ?_
    replace hA : St 90 [(0, _), (1, _), (5, _), (6, _), (7, _), (16, _), (17, _), (18, _), (19, _), (20, _), (21, _), (23, _), (24, _), (25, _), (26, _), (27, _)] a := hA.sub ((.cons rfl (.cons rfl (.cons rfl (.cons rfl (.cons rfl (.cons rfl (.cons rfl (.cons rfl (.cons rfl (.cons rfl (.cons rfl (.cons rfl (.cons rfl (.cons rfl (.cons rfl (.cons rfl .nil)))))))))))))))))
    refine Ends.block ?_
    refine Ends.loop (σ := Nat × List Int) (fun (b, sn) (a : Act) (wv : World) => St 90 [(0, .pointer (some ⟨wb, 0, none⟩)), (1, .slice (some ⟨lb, 0, none⟩) 5 5), (5, .slice (some ⟨b1, 0, none⟩) (((H.length : Int)).toNat) (((H.length : Int)).toNat)), (6, .int .i64 1), (7, .int .i64 ((b : Int))), (16, .int .i64 1), (17, .slice (some ⟨lb, 0, none⟩) 5 5), (18, .int .i64 5), (19, .bool true), (20, .int .i64 0), (21, .int .i64 1)] a ∧ Mem w nof [pt b1 ((ints sn)) 3] wv ∧ (b ≤ Y1.length) ∧ (sn = cntL n.toNat (Y0 ++ Y1.take b))) (fun (b, sn) => Y1.length - b) ((0, sn)) ⟨hA.sub ((.cons rfl (.cons rfl (.cons rfl (.cons rfl (.cons rfl (.cons rfl (.cons rfl (.cons rfl (.cons rfl (.cons rfl (.cons rfl .nil)))))))))))), hM, (by omega), (by rw [List.take_zero, List.append_nil]; exact hsd0)⟩ ?_
    clear hA hM a
    rintro ⟨b, sn⟩ a w4 ⟨hA, hM, hb, hsn⟩ hNext1
    refine Ends.seq ?_
    refine Ends.seq ?_
    refine Ends.region ?_
    refine S.val hA (R.move rfl) rfl ?_; clear hA a; intro a hA
    refine S.val hA (R.move rfl) rfl ?_; clear hA a; intro a hA
    refine S.val hA (R.move rfl) rfl ?_; clear hA a; intro a hA
    refine S.val hA (R.indexAddr (q := 1) sl95 rfl rfl (by omega) (rfl)) rfl ?_; clear hA a; intro a hA
    refine S.val hA (R.load sz43 rfl (hM.cellB hlb rfl)) rfl ?_; clear hA a; intro a hA
    refine S.val hA (R.lenS Try.underlying43 rfl rfl) rfl ?_; clear hA a; intro a hA
    refine S.val hA (R.lss rfl rfl) rfl ?_; clear hA a; intro a hA
    refine S.done ?_
    replace hA : St 90 [(0, _), (1, _), (5, _), (6, _), (7, _), (16, _), (17, _), (18, _), (19, _), (20, _), (21, _), (22, _), (23, _), (24, _), (25, _), (26, _), (27, _), (28, _)] a := hA.sub ((.cons rfl (.cons rfl (.cons rfl (.cons rfl (.cons rfl (.cons rfl (.cons rfl (.cons rfl (.cons rfl (.cons rfl (.cons rfl (.cons rfl (.cons rfl (.cons rfl (.cons rfl (.cons rfl (.cons rfl (.cons rfl .nil)))))))))))))))))))
    refine Ends.ite hA rfl (fun hc4 => ?_) (fun hc4 => ?_)
    ·
      refine Ends.skip ?_
      refine Ends.seq ?_
      refine Ends.block ?_
      refine Ends.seq ?_
      have hml := h1.len
      unfold maxLen at hml
      obtain ⟨g1, off, hg, hcell⟩ := h1.at (i := b) (by omega)
      subst hg
      have hmem : Y1.getD b 0 ∈ ((((Y0 ++ Y1) ++ Y2) ++ Y3) ++ Y4) := by
        have hm := getD_mem Y1 b (by omega)
        repeat (first | exact List.mem_append_right _ hm | exact hm | apply List.mem_append_left)
      have hrng := hgood.2.2.1 _ hmem
      have hsl : sn.length = n.toNat := by rw [hsn]; exact cntL_len _ _
      have hsub : (Y0 ++ Y1.take b).Sublist ((((Y0 ++ Y1) ++ Y2) ++ Y3) ++ Y4) := (List.Sublist.append (List.Sublist.refl Y0) (List.take_sublist b Y1)).trans ((((List.Sublist.refl _).trans (List.sublist_append_left _ _)).trans (List.sublist_append_left _ _)).trans (List.sublist_append_left _ _))
      have hcb : 0 ≤ sn.getD (Y1.getD b 0).toNat 0 ∧ sn.getD (Y1.getD b 0).toNat 0 ≤ 1 := by rw [hsn]; exact cntL_one hgood.2.1 hsub _ (by omega)
      refine Ends.region ?_
      refine S.val hA (R.move rfl) rfl ?_; clear hA a; intro a hA
      refine S.val hA (R.move rfl) rfl ?_; clear hA a; intro a hA
      refine S.val hA (R.indexAddr (q := 1) sl95 rfl rfl (by omega) (rfl)) rfl ?_; clear hA a; intro a hA
      refine S.val hA (R.load sz43 rfl (hM.cellB hlb rfl)) rfl ?_; clear hA a; intro a hA
      refine S.val hA (R.move rfl) rfl ?_; clear hA a; intro a hA
      refine S.val hA (R.indexAddr (q := off + b) sl43 rfl rfl (by omega) (by omega)) rfl ?_; clear hA a; intro a hA
      refine S.val hA (R.load sz3 rfl (hM.cell0 hcell (fun h => h))) rfl ?_; clear hA a; intro a hA
      refine S.val hA (R.assign rfl) rfl ?_; clear hA a; intro a hA
      refine S.done ?_
      replace hA : St 90 [(0, _), (1, _), (5, _), (6, _), (7, _), (8, _), (16, _), (17, _), (18, _), (19, _), (20, _), (21, _), (22, _), (23, _), (24, _), (25, _), (26, _), (27, _), (28, _), (31, _), (32, _), (33, _), (34, _), (35, _), (36, _), (37, _)] a := hA.sub ((.cons rfl (.cons rfl (.cons rfl (.cons rfl (.cons rfl (.cons rfl (.cons rfl (.cons rfl (.cons rfl (.cons rfl (.cons rfl (.cons rfl (.cons rfl (.cons rfl (.cons rfl (.cons rfl (.cons rfl (.cons rfl (.cons rfl (.cons rfl (.cons rfl (.cons rfl (.cons rfl (.cons rfl (.cons rfl (.cons rfl .nil)))))))))))))))))))))))))))
      refine Ends.seq ?_
      refine Ends.seq ?_
      refine Ends.region ?_
      refine S.val hA (R.move rfl) rfl ?_; clear hA a; intro a hA
      refine S.val hA (R.ff (R.lss rfl rfl) (by omega)) rfl ?_; clear hA a; intro a hA
      refine S.val hA (R.move rfl) rfl ?_; clear hA a; intro a hA
      refine S.valg (dj := 40) hA (by kernel_rfl) rfl (R.move rfl) rfl ?_; clear hA a; intro a hA
      refine S.valg (dj := 40) hA (by kernel_rfl) rfl (R.move rfl) rfl ?_; clear hA a; intro a hA
      refine S.valg (dj := 40) hA (by kernel_rfl) rfl (R.lenS Try.underlying43 rfl rfl) rfl ?_; clear hA a; intro a hA
      refine S.valg (dj := 40) hA (by kernel_rfl) rfl (R.ff (R.geq rfl rfl) (by omega)) rfl ?_; clear hA a; intro a hA
      refine S.val hA (R.pickF rfl rfl) rfl ?_; clear hA a; intro a hA
      refine S.done ?_
      replace hA : St 90 [(0, _), (1, _), (5, _), (6, _), (7, _), (8, _), (16, _), (17, _), (18, _), (19, _), (20, _), (21, _), (22, _), (23, _), (24, _), (25, _), (26, _), (27, _), (28, _), (31, _), (32, _), (33, _), (34, _), (35, _), (36, _), (37, _), (38, _), (39, _), (40, _), (41, _), (42, _), (43, _), (44, _), (45, _)] a := hA.sub ((.cons rfl (.cons rfl (.cons rfl (.cons rfl (.cons rfl (.cons rfl (.cons rfl (.cons rfl (.cons rfl (.cons rfl (.cons rfl (.cons rfl (.cons rfl (.cons rfl (.cons rfl (.cons rfl (.cons rfl (.cons rfl (.cons rfl (.cons rfl (.cons rfl (.cons rfl (.cons rfl (.cons rfl (.cons rfl (.cons rfl (.cons rfl (.cons rfl (.cons rfl (.cons rfl (.cons rfl (.cons rfl (.cons rfl (.cons rfl .nil)))))))))))))))))))))))))))))))))))
      refine Ends.condF hA rfl ?_
      refine Ends.skip ?_
      refine Ends.region ?_
      refine S.val hA (R.move rfl) rfl ?_; clear hA a; intro a hA
      refine S.val hA (R.move rfl) rfl ?_; clear hA a; intro a hA
      refine S.val hA (R.indexAddr (q := (Y1.getD b 0).toNat) sl43 rfl rfl (by omega) (by omega)) rfl ?_; clear hA a; intro a hA
      refine S.val hA (R.load sz3 rfl (hM.cell (k := 0) rfl (ints_getD sn _ (by omega)))) rfl ?_; clear hA a; intro a hA
      refine S.val hA (R.addI rfl rfl (r := (sn.getD ((Y1.getD b 0).toNat) 0) + 1) rfl (by omega)) rfl ?_; clear hA a; intro a hA
      refine S.val hA (R.indexAddr (q := (Y1.getD b 0).toNat) sl43 rfl rfl (by omega) (by omega)) rfl ?_; clear hA a; intro a hA
      refine S.store (k := 0) hA hM sz3 rfl rfl rfl rfl (ints_getD sn _ (by omega)) ?_; clear hM
      intro w5 hM
      rw [ints_set] at hM
      replace hM : Mem _ _ [pt b1 ((ints (sn.set ((Y1.getD b 0).toNat) ((sn.getD ((Y1.getD b 0).toNat) 0) + 1)))) 3] _ := hM
      refine S.done ?_
      replace hA : St 90 [(0, _), (1, _), (5, _), (6, _), (7, _), (8, _), (16, _), (17, _), (18, _), (19, _), (20, _), (21, _), (22, _), (23, _), (24, _), (25, _), (26, _), (27, _), (28, _), (31, _), (32, _), (33, _), (34, _), (35, _), (36, _), (37, _), (38, _), (39, _), (40, _), (41, _), (42, _), (43, _), (44, _), (45, _), (46, _), (47, _), (48, _), (49, _), (50, _), (51, _)] a := hA.sub ((.cons rfl (.cons rfl (.cons rfl (.cons rfl (.cons rfl (.cons rfl (.cons rfl (.cons rfl (.cons rfl (.cons rfl (.cons rfl (.cons rfl (.cons rfl (.cons rfl (.cons rfl (.cons rfl (.cons rfl (.cons rfl (.cons rfl (.cons rfl (.cons rfl (.cons rfl (.cons rfl (.cons rfl (.cons rfl (.cons rfl (.cons rfl (.cons rfl (.cons rfl (.cons rfl (.cons rfl (.cons rfl (.cons rfl (.cons rfl (.cons rfl (.cons rfl (.cons rfl (.cons rfl (.cons rfl (.cons rfl .nil)))))))))))))))))))))))))))))))))))))))))
      refine Ends.inBlock ?_
      refine Ends.region ?_
      refine S.val hA (R.move rfl) rfl ?_; clear hA a; intro a hA
      refine S.val hA (R.addI rfl rfl (r := ((b : Int)) + 1) rfl (by omega)) rfl ?_; clear hA a; intro a hA
      refine S.val hA (R.assign rfl) rfl ?_; clear hA a; intro a hA
      refine S.done ?_
      replace hA : St 90 [(0, _), (1, _), (5, _), (6, _), (7, _), (8, _), (16, _), (17, _), (18, _), (19, _), (20, _), (21, _), (22, _), (23, _), (24, _), (25, _), (26, _), (27, _), (28, _), (29, _), (30, _), (31, _), (32, _), (33, _), (34, _), (35, _), (36, _), (37, _), (38, _), (39, _), (40, _), (41, _), (42, _), (43, _), (44, _), (45, _), (46, _), (47, _), (48, _), (49, _), (50, _), (51, _)] a := hA.sub ((.cons rfl (.cons rfl (.cons rfl (.cons rfl (.cons rfl (.cons rfl (.cons rfl (.cons rfl (.cons rfl (.cons rfl (.cons rfl (.cons rfl (.cons rfl (.cons rfl (.cons rfl (.cons rfl (.cons rfl (.cons rfl (.cons rfl (.cons rfl (.cons rfl (.cons rfl (.cons rfl (.cons rfl (.cons rfl (.cons rfl (.cons rfl (.cons rfl (.cons rfl (.cons rfl (.cons rfl (.cons rfl (.cons rfl (.cons rfl (.cons rfl (.cons rfl (.cons rfl (.cons rfl (.cons rfl (.cons rfl (.cons rfl (.cons rfl .nil)))))))))))))))))))))))))))))))))))))))))))
      exact hNext1 ((b + 1, (sn.set ((Y1.getD b 0).toNat) ((sn.getD ((Y1.getD b 0).toNat) 0) + 1)))) _ _ ((by show Y1.length - (b + 1) < Y1.length - b; omega)) ⟨hA.sub ((.cons rfl (.cons rfl (.cons rfl (.cons rfl (.cons rfl (.cons rfl (.cons rfl (.cons rfl (.cons rfl (.cons rfl (.cons rfl .nil)))))))))))), hM, (by omega), (by rw [hsn]; exact cntL_take _ _ _ _ (by omega) (by omega))⟩
    ·
      have hbe : b = Y1.length := by omega
      subst hbe
      rw [List.take_length] at hsn
      have hsd1 := hsn; clear hsn hNext1
      refine Ends.exit rfl ?_
      replace hA : St 90 [(0, _), (1, _), (5, _), (6, _), (16, _), (17, _), (18, _), (19, _), (20, _), (21, _), (23, _), (24, _), (25, _), (26, _), (27, _)] a := hA.sub ((.cons rfl (.cons rfl (.cons rfl (.cons rfl (.cons rfl (.cons rfl (.cons rfl (.cons rfl (.cons rfl (.cons rfl (.cons rfl (.cons rfl (.cons rfl (.cons rfl (.cons rfl .nil))))))))))))))))
      refine Ends.inBlock ?_
      refine Ends.region ?_
      refine S.val hA (R.move rfl) rfl ?_; clear hA a; intro a hA
      refine S.val hA (R.addI rfl rfl (r := 2) rfl (by omega)) rfl ?_; clear hA a; intro a hA
      refine S.val hA (R.assign rfl) rfl ?_; clear hA a; intro a hA
      refine S.done ?_
      replace hA : St 90 [(0, _), (1, _), (5, _), (6, _), (16, _), (17, _), (18, _), (19, _), (20, _), (21, _), (23, _), (24, _), (25, _), (26, _), (27, _)] a := hA.sub ((.cons rfl (.cons rfl (.cons rfl (.cons rfl (.cons rfl (.cons rfl (.cons rfl (.cons rfl (.cons rfl (.cons rfl (.cons rfl (.cons rfl (.cons rfl (.cons rfl (.cons rfl .nil))))))))))))))))
      refine Ends.inLoop ?_
      refine Ends.seq ?_
      refine Ends.seq ?_
      refine Ends.region ?_
      refine S.val hA (R.move rfl) rfl ?_; clear hA a; intro a hA
      refine S.val hA (R.move rfl) rfl ?_; clear hA a; intro a hA
      refine S.val hA (R.lenS Try.underlying95 rfl rfl) rfl ?_; clear hA a; intro a hA
      refine S.val hA (R.tt (R.lss rfl rfl) (by first | decide | simp | omega)) rfl ?_; clear hA a; intro a hA
      refine S.done ?_
      replace hA : St 90 [(0, _), (1, _), (5, _), (6, _), (16, _), (17, _), (18, _), (19, _), (20, _), (21, _), (23, _), (24, _), (25, _), (26, _), (27, _)] a := hA.sub ((.cons rfl (.cons rfl (.cons rfl (.cons rfl (.cons rfl (.cons rfl (.cons rfl (.cons rfl (.cons rfl (.cons rfl (.cons rfl (.cons rfl (.cons rfl (.cons rfl (.cons rfl .nil))))))))))))))))
      refine Ends.condT hA rfl ?_
      refine Ends.skip ?_
      refine Ends.seq ?_
      refine Ends.block ?_
      refine Ends.seq ?_
      refine Ends.region ?_
      refine S.val hA (R.assign rfl) rfl ?_; clear hA a; intro a hA
      refine S.done ?_
      replace hA : St 90 [(0, _), (1, _), (5, _), (6, _), (7, _), (16, _), (17, _), (18, _), (19, _), (20, _), (21, _), (23, _), (24, _), (25, _), (26, _), (27, _)] a := hA.sub ((.cons rfl (.cons rfl (.cons rfl (.cons rfl (.cons rfl (.cons rfl (.cons rfl (.cons rfl (.cons rfl (.cons rfl (.cons rfl (.cons rfl (.cons rfl (.cons rfl (.cons rfl (.cons rfl .nil)))))))))))))))))
      refine Ends.block ?_
      refine Ends.loop (σ := Nat × List Int) (fun (b, sn) (a : Act) (wv : World) => St 90 [(0, .pointer (some ⟨wb, 0, none⟩)), (1, .slice (some ⟨lb, 0, none⟩) 5 5), (5, .slice (some ⟨b1, 0, none⟩) (((H.length : Int)).toNat) (((H.length : Int)).toNat)), (6, .int .i64 2), (7, .int .i64 ((b : Int))), (16, .int .i64 2), (17, .slice (some ⟨lb, 0, none⟩) 5 5), (18, .int .i64 5), (19, .bool true), (20, .int .i64 1), (21, .int .i64 2)] a ∧ Mem w nof [pt b1 ((ints sn)) 3] wv ∧ (b ≤ Y2.length) ∧ (sn = cntL n.toNat ((Y0 ++ Y1) ++ Y2.take b))) (fun (b, sn) => Y2.length - b) ((0, sn)) ⟨hA.sub ((.cons rfl (.cons rfl (.cons rfl (.cons rfl (.cons rfl (.cons rfl (.cons rfl (.cons rfl (.cons rfl (.cons rfl (.cons rfl .nil)))))))))))), hM, (by omega), (by rw [List.take_zero, List.append_nil]; exact hsd1)⟩ ?_
      clear hA hM a
      rintro ⟨b, sn⟩ a w6 ⟨hA, hM, hb, hsn⟩ hNext1
      refine Ends.seq ?_
      refine Ends.seq ?_
      refine Ends.region ?_
      refine S.val hA (R.move rfl) rfl ?_; clear hA a; intro a hA
      refine S.val hA (R.move rfl) rfl ?_; clear hA a; intro a hA
      refine S.val hA (R.move rfl) rfl ?_; clear hA a; intro a hA
      refine S.val hA (R.indexAddr (q := 2) sl95 rfl rfl (by omega) (rfl)) rfl ?_; clear hA a; intro a hA
      refine S.val hA (R.load sz43 rfl (hM.cellB hlb rfl)) rfl ?_; clear hA a; intro a hA
      refine S.val hA (R.lenS Try.underlying43 rfl rfl) rfl ?_; clear hA a; intro a hA
      refine S.val hA (R.lss rfl rfl) rfl ?_; clear hA a; intro a hA
      refine S.done ?_
      replace hA : St 90 [(0, _), (1, _), (5, _), (6, _), (7, _), (16, _), (17, _), (18, _), (19, _), (20, _), (21, _), (22, _), (23, _), (24, _), (25, _), (26, _), (27, _), (28, _)] a := hA.sub ((.cons rfl (.cons rfl (.cons rfl (.cons rfl (.cons rfl (.cons rfl (.cons rfl (.cons rfl (.cons rfl (.cons rfl (.cons rfl (.cons rfl (.cons rfl (.cons rfl (.cons rfl (.cons rfl (.cons rfl (.cons rfl .nil)))))))))))))))))))
      refine Ends.ite hA rfl (fun hc5 => ?_) (fun hc5 => ?_)
      ·
        refine Ends.skip ?_
        refine Ends.seq ?_
        refine Ends.block ?_
        refine Ends.seq ?_
        have hml := h2.len
        unfold maxLen at hml
        obtain ⟨g2, off, hg, hcell⟩ := h2.at (i := b) (by omega)
        subst hg
        have hmem : Y2.getD b 0 ∈ ((((Y0 ++ Y1) ++ Y2) ++ Y3) ++ Y4) := by
          have hm := getD_mem Y2 b (by omega)
          repeat (first | exact List.mem_append_right _ hm | exact hm | apply List.mem_append_left)
        have hrng := hgood.2.2.1 _ hmem
        have hsl : sn.length = n.toNat := by rw [hsn]; exact cntL_len _ _
        have hsub : ((Y0 ++ Y1) ++ Y2.take b).Sublist ((((Y0 ++ Y1) ++ Y2) ++ Y3) ++ Y4) := (List.Sublist.append (List.Sublist.refl (Y0 ++ Y1)) (List.take_sublist b Y2)).trans (((List.Sublist.refl _).trans (List.sublist_append_left _ _)).trans (List.sublist_append_left _ _))
        have hcb : 0 ≤ sn.getD (Y2.getD b 0).toNat 0 ∧ sn.getD (Y2.getD b 0).toNat 0 ≤ 1 := by rw [hsn]; exact cntL_one hgood.2.1 hsub _ (by omega)
        refine Ends.region ?_
        refine S.val hA (R.move rfl) rfl ?_; clear hA a; intro a hA
        refine S.val hA (R.move rfl) rfl ?_; clear hA a; intro a hA
        refine S.val hA (R.indexAddr (q := 2) sl95 rfl rfl (by omega) (rfl)) rfl ?_; clear hA a; intro a hA
        refine S.val hA (R.load sz43 rfl (hM.cellB hlb rfl)) rfl ?_; clear hA a; intro a hA
        refine S.val hA (R.move rfl) rfl ?_; clear hA a; intro a hA
        refine S.val hA (R.indexAddr (q := off + b) sl43 rfl rfl (by omega) (by omega)) rfl ?_; clear hA a; intro a hA
        refine S.val hA (R.load sz3 rfl (hM.cell0 hcell (fun h => h))) rfl ?_; clear hA a; intro a hA
        refine S.val hA (R.assign rfl) rfl ?_; clear hA a; intro a hA
        refine S.done ?_
        replace hA : St 90 [(0, _), (1, _), (5, _), (6, _), (7, _), (8, _), (16, _), (17, _), (18, _), (19, _), (20, _), (21, _), (22, _), (23, _), (24, _), (25, _), (26, _), (27, _), (28, _), (31, _), (32, _), (33, _), (34, _), (35, _), (36, _), (37, _)] a := hA.sub ((.cons rfl (.cons rfl (.cons rfl (.cons rfl (.cons rfl (.cons rfl (.cons rfl (.cons rfl (.cons rfl (.cons rfl (.cons rfl (.cons rfl (.cons rfl (.cons rfl (.cons rfl (.cons rfl (.cons rfl (.cons rfl (.cons rfl (.cons rfl (.cons rfl (.cons rfl (.cons rfl (.cons rfl (.cons rfl (.cons rfl .nil)))))))))))))))))))))))))))
        refine Ends.seq ?_
        refine Ends.seq ?_
        refine Ends.region ?_
        refine S.val hA (R.move rfl) rfl ?_; clear hA a; intro a hA
        refine S.val hA (R.ff (R.lss rfl rfl) (by omega)) rfl ?_; clear hA a; intro a hA
        refine S.val hA (R.move rfl) rfl ?_; clear hA a; intro a hA
        refine S.valg (dj := 40) hA (by kernel_rfl) rfl (R.move rfl) rfl ?_; clear hA a; intro a hA
        refine S.valg (dj := 40) hA (by kernel_rfl) rfl (R.move rfl) rfl ?_; clear hA a; intro a hA
        refine S.valg (dj := 40) hA (by kernel_rfl) rfl (R.lenS Try.underlying43 rfl rfl) rfl ?_; clear hA a; intro a hA
        refine S.valg (dj := 40) hA (by kernel_rfl) rfl (R.ff (R.geq rfl rfl) (by omega)) rfl ?_; clear hA a; intro a hA
        refine S.val hA (R.pickF rfl rfl) rfl ?_; clear hA a; intro a hA
        refine S.done ?_
        replace hA : St 90 [(0, _), (1, _), (5, _), (6, _), (7, _), (8, _), (16, _), (17, _), (18, _), (19, _), (20, _), (21, _), (22, _), (23, _), (24, _), (25, _), (26, _), (27, _), (28, _), (31, _), (32, _), (33, _), (34, _), (35, _), (36, _), (37, _), (38, _), (39, _), (40, _), (41, _), (42, _), (43, _), (44, _), (45, _)] a := hA.sub ((.cons rfl (.cons rfl (.cons rfl (.cons rfl (.cons rfl (.cons rfl (.cons rfl (.cons rfl (.cons rfl (.cons rfl (.cons rfl (.cons rfl (.cons rfl (.cons rfl (.cons rfl (.cons rfl (.cons rfl (.cons rfl (.cons rfl (.cons rfl (.cons rfl (.cons rfl (.cons rfl (.cons rfl (.cons rfl (.cons rfl (.cons rfl (.cons rfl (.cons rfl (.cons rfl (.cons rfl (.cons rfl (.cons rfl (.cons rfl .nil)))))))))))))))))))))))))))))))))))
        refine Ends.condF hA rfl ?_
        refine Ends.skip ?_
        refine Ends.region ?_
        refine S.val hA (R.move rfl) rfl ?_; clear hA a; intro a hA
        refine S.val hA (R.move rfl) rfl ?_; clear hA a; intro a hA
        refine S.val hA (R.indexAddr (q := (Y2.getD b 0).toNat) sl43 rfl rfl (by omega) (by omega)) rfl ?_; clear hA a; intro a hA
        refine S.val hA (R.load sz3 rfl (hM.cell (k := 0) rfl (ints_getD sn _ (by omega)))) rfl ?_; clear hA a; intro a hA
        refine S.val hA (R.addI rfl rfl (r := (sn.getD ((Y2.getD b 0).toNat) 0) + 1) rfl (by omega)) rfl ?_; clear hA a; intro a hA
        refine S.val hA (R.indexAddr (q := (Y2.getD b 0).toNat) sl43 rfl rfl (by omega) (by omega)) rfl ?_; clear hA a; intro a hA
        refine S.store (k := 0) hA hM sz3 rfl rfl rfl rfl (ints_getD sn _ (by omega)) ?_; clear hM
        intro w7 hM
        rw [ints_set] at hM
        replace hM : Mem _ _ [pt b1 ((ints (sn.set ((Y2.getD b 0).toNat) ((sn.getD ((Y2.getD b 0).toNat) 0) + 1)))) 3] _ := hM
        refine S.done ?_
        replace hA : St 90 [(0, _), (1, _), (5, _), (6, _), (7, _), (8, _), (16, _), (17, _), (18, _), (19, _), (20, _), (21, _), (22, _), (23, _), (24, _), (25, _), (26, _), (27, _), (28, _), (31, _), (32, _), (33, _), (34, _), (35, _), (36, _), (37, _), (38, _), (39, _), (40, _), (41, _), (42, _), (43, _), (44, _), (45, _), (46, _), (47, _), (48, _), (49, _), (50, _), (51, _)] a := hA.sub ((.cons rfl (.cons rfl (.cons rfl (.cons rfl (.cons rfl (.cons rfl (.cons rfl (.cons rfl (.cons rfl (.cons rfl (.cons rfl (.cons rfl (.cons rfl (.cons rfl (.cons rfl (.cons rfl (.cons rfl (.cons rfl (.cons rfl (.cons rfl (.cons rfl (.cons rfl (.cons rfl (.cons rfl (.cons rfl (.cons rfl (.cons rfl (.cons rfl (.cons rfl (.cons rfl (.cons rfl (.cons rfl (.cons rfl (.cons rfl (.cons rfl (.cons rfl (.cons rfl (.cons rfl (.cons rfl (.cons rfl .nil)))))))))))))))))))))))))))))))))))))))))
        refine Ends.inBlock ?_
        refine Ends.region ?_
        refine S.val hA (R.move rfl) rfl ?_; clear hA a; intro a hA
        refine S.val hA (R.addI rfl rfl (r := ((b : Int)) + 1) rfl (by omega)) rfl ?_; clear hA a; intro a hA
        refine S.val hA (R.assign rfl) rfl ?_; clear hA a; intro a hA
        refine S.done ?_
        replace hA : St 90 [(0, _), (1, _), (5, _), (6, _), (7, _), (8, _), (16, _), (17, _), (18, _), (19, _), (20, _), (21, _), (22, _), (23, _), (24, _), (25, _), (26, _), (27, _), (28, _), (29, _), (30, _), (31, _), (32, _), (33, _), (34, _), (35, _), (36, _), (37, _), (38, _), (39, _), (40, _), (41, _), (42, _), (43, _), (44, _), (45, _), (46, _), (47, _), (48, _), (49, _), (50, _), (51, _)] a := hA.sub ((.cons rfl (.cons rfl (.cons rfl (.cons rfl (.cons rfl (.cons rfl (.cons rfl (.cons rfl (.cons rfl (.cons rfl (.cons rfl (.cons rfl (.cons rfl (.cons rfl (.cons rfl (.cons rfl (.cons rfl (.cons rfl (.cons rfl (.cons rfl (.cons rfl (.cons rfl (.cons rfl (.cons rfl (.cons rfl (.cons rfl (.cons rfl (.cons rfl (.cons rfl (.cons rfl (.cons rfl (.cons rfl (.cons rfl (.cons rfl (.cons rfl (.cons rfl (.cons rfl (.cons rfl (.cons rfl (.cons rfl (.cons rfl (.cons rfl .nil)))))))))))))))))))))))))))))))))))))))))))
        exact hNext1 ((b + 1, (sn.set ((Y2.getD b 0).toNat) ((sn.getD ((Y2.getD b 0).toNat) 0) + 1)))) _ _ ((by show Y2.length - (b + 1) < Y2.length - b; omega)) ⟨hA.sub ((.cons rfl (.cons rfl (.cons rfl (.cons rfl (.cons rfl (.cons rfl (.cons rfl (.cons rfl (.cons rfl (.cons rfl (.cons rfl .nil)))))))))))), hM, (by omega), (by rw [hsn]; exact cntL_take _ _ _ _ (by omega) (by omega))⟩
      ·
        have hbe : b = Y2.length := by omega
        subst hbe
        rw [List.take_length] at hsn
        have hsd2 := hsn; clear hsn hNext1
        refine Ends.exit rfl ?_
        replace hA : St 90 [(0, _), (1, _), (5, _), (6, _), (16, _), (17, _), (18, _), (19, _), (20, _), (21, _), (23, _), (24, _), (25, _), (26, _), (27, _)] a := hA.sub ((.cons rfl (.cons rfl (.cons rfl (.cons rfl (.cons rfl (.cons rfl (.cons rfl (.cons rfl (.cons rfl (.cons rfl (.cons rfl (.cons rfl (.cons rfl (.cons rfl (.cons rfl .nil))))))))))))))))
        refine Ends.inBlock ?_
        refine Ends.region ?_
        refine S.val hA (R.move rfl) rfl ?_; clear hA a; intro a hA
        refine S.val hA (R.addI rfl rfl (r := 3) rfl (by omega)) rfl ?_; clear hA a; intro a hA
        refine S.val hA (R.assign rfl) rfl ?_; clear hA a; intro a hA
        refine S.done ?_
        replace hA : St 90 [(0, _), (1, _), (5, _), (6, _), (16, _), (17, _), (18, _), (19, _), (20, _), (21, _), (23, _), (24, _), (25, _), (26, _), (27, _)] a := hA.sub ((.cons rfl (.cons rfl (.cons rfl (.cons rfl (.cons rfl (.cons rfl (.cons rfl (.cons rfl (.cons rfl (.cons rfl (.cons rfl (.cons rfl (.cons rfl (.cons rfl (.cons rfl .nil))))))))))))))))
        refine Ends.inLoop ?_
        refine Ends.seq ?_
        refine Ends.seq ?_
        refine Ends.region ?_
        refine S.val hA (R.move rfl) rfl ?_; clear hA a; intro a hA
        refine S.val hA (R.move rfl) rfl ?_; clear hA a; intro a hA
        refine S.val hA (R.lenS Try.underlying95 rfl rfl) rfl ?_; clear hA a; intro a hA
        refine S.val hA (R.tt (R.lss rfl rfl) (by first | decide | simp | omega)) rfl ?_; clear hA a; intro a hA
        refine S.done ?_
        replace hA : St 90 [(0, _), (1, _), (5, _), (6, _), (16, _), (17, _), (18, _), (19, _), (20, _), (21, _), (23, _), (24, _), (25, _), (26, _), (27, _)] a := hA.sub ((.cons rfl (.cons rfl (.cons rfl (.cons rfl (.cons rfl (.cons rfl (.cons rfl (.cons rfl (.cons rfl (.cons rfl (.cons rfl (.cons rfl (.cons rfl (.cons rfl (.cons rfl .nil))))))))))))))))
        refine Ends.condT hA rfl ?_
        refine Ends.skip ?_
        refine Ends.seq ?_
        refine Ends.block ?_
        refine Ends.seq ?_
        refine Ends.region ?_
        refine S.val hA (R.assign rfl) rfl ?_; clear hA a; intro a hA
        refine S.done ?_
        replace hA : St 90 [(0, _), (1, _), (5, _), (6, _), (7, _), (16, _), (17, _), (18, _), (19, _), (20, _), (21, _), (23, _), (24, _), (25, _), (26, _), (27, _)] a := hA.sub ((.cons rfl (.cons rfl (.cons rfl (.cons rfl (.cons rfl (.cons rfl (.cons rfl (.cons rfl (.cons rfl (.cons rfl (.cons rfl (.cons rfl (.cons rfl (.cons rfl (.cons rfl (.cons rfl .nil)))))))))))))))))
        refine Ends.block ?_
        refine Ends.loop (σ := Nat × List Int) (fun (b, sn) (a : Act) (wv : World) => St 90 [(0, .pointer (some ⟨wb, 0, none⟩)), (1, .slice (some ⟨lb, 0, none⟩) 5 5), (5, .slice (some ⟨b1, 0, none⟩) (((H.length : Int)).toNat) (((H.length : Int)).toNat)), (6, .int .i64 3), (7, .int .i64 ((b : Int))), (16, .int .i64 3), (17, .slice (some ⟨lb, 0, none⟩) 5 5), (18, .int .i64 5), (19, .bool true), (20, .int .i64 2), (21, .int .i64 3)] a ∧ Mem w nof [pt b1 ((ints sn)) 3] wv ∧ (b ≤ Y3.length) ∧ (sn = cntL n.toNat (((Y0 ++ Y1) ++ Y2) ++ Y3.take b))) (fun (b, sn) => Y3.length - b) ((0, sn)) ⟨hA.sub ((.cons rfl (.cons rfl (.cons rfl (.cons rfl (.cons rfl (.cons rfl (.cons rfl (.cons rfl (.cons rfl (.cons rfl (.cons rfl .nil)))))))))))), hM, (by omega), (by rw [List.take_zero, List.append_nil]; exact hsd2)⟩ ?_
        clear hA hM a
        rintro ⟨b, sn⟩ a w8 ⟨hA, hM, hb, hsn⟩ hNext1
        refine Ends.seq ?_
        refine Ends.seq ?_
        refine Ends.region ?_
        refine S.val hA (R.move rfl) rfl ?_; clear hA a; intro a hA
        refine S.val hA (R.move rfl) rfl ?_; clear hA a; intro a hA
        refine S.val hA (R.move rfl) rfl ?_; clear hA a; intro a hA
        refine S.val hA (R.indexAddr (q := 3) sl95 rfl rfl (by omega) (rfl)) rfl ?_; clear hA a; intro a hA
        refine S.val hA (R.load sz43 rfl (hM.cellB hlb rfl)) rfl ?_; clear hA a; intro a hA
        refine S.val hA (R.lenS Try.underlying43 rfl rfl) rfl ?_; clear hA a; intro a hA
        refine S.val hA (R.lss rfl rfl) rfl ?_; clear hA a; intro a hA
        refine S.done ?_
        replace hA : St 90 [(0, _), (1, _), (5, _), (6, _), (7, _), (16, _), (17, _), (18, _), (19, _), (20, _), (21, _), (22, _), (23, _), (24, _), (25, _), (26, _), (27, _), (28, _)] a := hA.sub ((.cons rfl (.cons rfl (.cons rfl (.cons rfl (.cons rfl (.cons rfl (.cons rfl (.cons rfl (.cons rfl (.cons rfl (.cons rfl (.cons rfl (.cons rfl (.cons rfl (.cons rfl (.cons rfl (.cons rfl (.cons rfl .nil)))))))))))))))))))
        refine Ends.ite hA rfl (fun hc6 => ?_) (fun hc6 => ?_)
        ·
          refine Ends.skip ?_
          refine Ends.seq ?_
          refine Ends.block ?_
          refine Ends.seq ?_
          have hml := h3.len
          unfold maxLen at hml
          obtain ⟨g3, off, hg, hcell⟩ := h3.at (i := b) (by omega)
          subst hg
          have hmem : Y3.getD b 0 ∈ ((((Y0 ++ Y1) ++ Y2) ++ Y3) ++ Y4) := by
            have hm := getD_mem Y3 b (by omega)
            repeat (first | exact List.mem_append_right _ hm | exact hm | apply List.mem_append_left)
          have hrng := hgood.2.2.1 _ hmem
          have hsl : sn.length = n.toNat := by rw [hsn]; exact cntL_len _ _
          have hsub : (((Y0 ++ Y1) ++ Y2) ++ Y3.take b).Sublist ((((Y0 ++ Y1) ++ Y2) ++ Y3) ++ Y4) := (List.Sublist.append (List.Sublist.refl ((Y0 ++ Y1) ++ Y2)) (List.take_sublist b Y3)).trans ((List.Sublist.refl _).trans (List.sublist_append_left _ _))
          have hcb : 0 ≤ sn.getD (Y3.getD b 0).toNat 0 ∧ sn.getD (Y3.getD b 0).toNat 0 ≤ 1 := by rw [hsn]; exact cntL_one hgood.2.1 hsub _ (by omega)
          refine Ends.region ?_
          refine S.val hA (R.move rfl) rfl ?_; clear hA a; intro a hA
          refine S.val hA (R.move rfl) rfl ?_; clear hA a; intro a hA
          refine S.val hA (R.indexAddr (q := 3) sl95 rfl rfl (by omega) (rfl)) rfl ?_; clear hA a; intro a hA
          refine S.val hA (R.load sz43 rfl (hM.cellB hlb rfl)) rfl ?_; clear hA a; intro a hA
          refine S.val hA (R.move rfl) rfl ?_; clear hA a; intro a hA
          refine S.val hA (R.indexAddr (q := off + b) sl43 rfl rfl (by omega) (by omega)) rfl ?_; clear hA a; intro a hA
          refine S.val hA (R.load sz3 rfl (hM.cell0 hcell (fun h => h))) rfl ?_; clear hA a; intro a hA
          refine S.val hA (R.assign rfl) rfl ?_; clear hA a; intro a hA
          refine S.done ?_
          replace hA : St 90 [(0, _), (1, _), (5, _), (6, _), (7, _), (8, _), (16, _), (17, _), (18, _), (19, _), (20, _), (21, _), (22, _), (23, _), (24, _), (25, _), (26, _), (27, _), (28, _), (31, _), (32, _), (33, _), (34, _), (35, _), (36, _), (37, _)] a := hA.sub ((.cons rfl (.cons rfl (.cons rfl (.cons rfl (.cons rfl (.cons rfl (.cons rfl (.cons rfl (.cons rfl (.cons rfl (.cons rfl (.cons rfl (.cons rfl (.cons rfl (.cons rfl (.cons rfl (.cons rfl (.cons rfl (.cons rfl (.cons rfl (.cons rfl (.cons rfl (.cons rfl (.cons rfl (.cons rfl (.cons rfl .nil)))))))))))))))))))))))))))
          refine Ends.seq ?_
          refine Ends.seq ?_
          refine Ends.region ?_
          refine S.val hA (R.move rfl) rfl ?_; clear hA a; intro a hA
          refine S.val hA (R.ff (R.lss rfl rfl) (by omega)) rfl ?_; clear hA a; intro a hA
          refine S.val hA (R.move rfl) rfl ?_; clear hA a; intro a hA
          refine S.valg (dj := 40) hA (by kernel_rfl) rfl (R.move rfl) rfl ?_; clear hA a; intro a hA
          refine S.valg (dj := 40) hA (by kernel_rfl) rfl (R.move rfl) rfl ?_; clear hA a; intro a hA
          refine S.valg (dj := 40) hA (by kernel_rfl) rfl (R.lenS Try.underlying43 rfl rfl) rfl ?_; clear hA a; intro a hA
          refine S.valg (dj := 40) hA (by kernel_rfl) rfl (R.ff (R.geq rfl rfl) (by omega)) rfl ?_; clear hA a; intro a hA
          refine S.val hA (R.pickF rfl rfl) rfl ?_; clear hA a; intro a hA
          refine S.done ?_
          replace hA : St 90 [(0, _), (1, _), (5, _), (6, _), (7, _), (8, _), (16, _), (17, _), (18, _), (19, _), (20, _), (21, _), (22, _), (23, _), (24, _), (25, _), (26, _), (27, _), (28, _), (31, _), (32, _), (33, _), (34, _), (35, _), (36, _), (37, _), (38, _), (39, _), (40, _), (41, _), (42, _), (43, _), (44, _), (45, _)] a := hA.sub ((.cons rfl (.cons rfl (.cons rfl (.cons rfl (.cons rfl (.cons rfl (.cons rfl (.cons rfl (.cons rfl (.cons rfl (.cons rfl (.cons rfl (.cons rfl (.cons rfl (.cons rfl (.cons rfl (.cons rfl (.cons rfl (.cons rfl (.cons rfl (.cons rfl (.cons rfl (.cons rfl (.cons rfl (.cons rfl (.cons rfl (.cons rfl (.cons rfl (.cons rfl (.cons rfl (.cons rfl (.cons rfl (.cons rfl (.cons rfl .nil)))))))))))))))))))))))))))))))))))
          refine Ends.condF hA rfl ?_
          refine Ends.skip ?_
          refine Ends.region ?_
          refine S.val hA (R.move rfl) rfl ?_; clear hA a; intro a hA
          refine S.val hA (R.move rfl) rfl ?_; clear hA a; intro a hA
          refine S.val hA (R.indexAddr (q := (Y3.getD b 0).toNat) sl43 rfl rfl (by omega) (by omega)) rfl ?_; clear hA a; intro a hA
          refine S.val hA (R.load sz3 rfl (hM.cell (k := 0) rfl (ints_getD sn _ (by omega)))) rfl ?_; clear hA a; intro a hA
          refine S.val hA (R.addI rfl rfl (r := (sn.getD ((Y3.getD b 0).toNat) 0) + 1) rfl (by omega)) rfl ?_; clear hA a; intro a hA
          refine S.val hA (R.indexAddr (q := (Y3.getD b 0).toNat) sl43 rfl rfl (by omega) (by omega)) rfl ?_; clear hA a; intro a hA
          refine S.store (k := 0) hA hM sz3 rfl rfl rfl rfl (ints_getD sn _ (by omega)) ?_; clear hM
          intro w9 hM
          rw [ints_set] at hM
          replace hM : Mem _ _ [pt b1 ((ints (sn.set ((Y3.getD b 0).toNat) ((sn.getD ((Y3.getD b 0).toNat) 0) + 1)))) 3] _ := hM
          refine S.done ?_
          replace hA : St 90 [(0, _), (1, _), (5, _), (6, _), (7, _), (8, _), (16, _), (17, _), (18, _), (19, _), (20, _), (21, _), (22, _), (23, _), (24, _), (25, _), (26, _), (27, _), (28, _), (31, _), (32, _), (33, _), (34, _), (35, _), (36, _), (37, _), (38, _), (39, _), (40, _), (41, _), (42, _), (43, _), (44, _), (45, _), (46, _), (47, _), (48, _), (49, _), (50, _), (51, _)] a := hA.sub ((.cons rfl (.cons rfl (.cons rfl (.cons rfl (.cons rfl (.cons rfl (.cons rfl (.cons rfl (.cons rfl (.cons rfl (.cons rfl (.cons rfl (.cons rfl (.cons rfl (.cons rfl (.cons rfl (.cons rfl (.cons rfl (.cons rfl (.cons rfl (.cons rfl (.cons rfl (.cons rfl (.cons rfl (.cons rfl (.cons rfl (.cons rfl (.cons rfl (.cons rfl (.cons rfl (.cons rfl (.cons rfl (.cons rfl (.cons rfl (.cons rfl (.cons rfl (.cons rfl (.cons rfl (.cons rfl (.cons rfl .nil)))))))))))))))))))))))))))))))))))))))))
          refine Ends.inBlock ?_
          refine Ends.region ?_
          refine S.val hA (R.move rfl) rfl ?_; clear hA a; intro a hA
          refine S.val hA (R.addI rfl rfl (r := ((b : Int)) + 1) rfl (by omega)) rfl ?_; clear hA a; intro a hA
          refine S.val hA (R.assign rfl) rfl ?_; clear hA a; intro a hA
          refine S.done ?_
          replace hA : St 90 [(0, _), (1, _), (5, _), (6, _), (7, _), (8, _), (16, _), (17, _), (18, _), (19, _), (20, _), (21, _), (22, _), (23, _), (24, _), (25, _), (26, _), (27, _), (28, _), (29, _), (30, _), (31, _), (32, _), (33, _), (34, _), (35, _), (36, _), (37, _), (38, _), (39, _), (40, _), (41, _), (42, _), (43, _), (44, _), (45, _), (46, _), (47, _), (48, _), (49, _), (50, _), (51, _)] a := hA.sub ((.cons rfl (.cons rfl (.cons rfl (.cons rfl (.cons rfl (.cons rfl (.cons rfl (.cons rfl (.cons rfl (.cons rfl (.cons rfl (.cons rfl (.cons rfl (.cons rfl (.cons rfl (.cons rfl (.cons rfl (.cons rfl (.cons rfl (.cons rfl (.cons rfl (.cons rfl (.cons rfl (.cons rfl (.cons rfl (.cons rfl (.cons rfl (.cons rfl (.cons rfl (.cons rfl (.cons rfl (.cons rfl (.cons rfl (.cons rfl (.cons rfl (.cons rfl (.cons rfl (.cons rfl (.cons rfl (.cons rfl (.cons rfl (.cons rfl .nil)))))))))))))))))))))))))))))))))))))))))))
          exact hNext1 ((b + 1, (sn.set ((Y3.getD b 0).toNat) ((sn.getD ((Y3.getD b 0).toNat) 0) + 1)))) _ _ ((by show Y3.length - (b + 1) < Y3.length - b; omega)) ⟨hA.sub ((.cons rfl (.cons rfl (.cons rfl (.cons rfl (.cons rfl (.cons rfl (.cons rfl (.cons rfl (.cons rfl (.cons rfl (.cons rfl .nil)))))))))))), hM, (by omega), (by rw [hsn]; exact cntL_take _ _ _ _ (by omega) (by omega))⟩
        ·
          have hbe : b = Y3.length := by omega
          subst hbe
          rw [List.take_length] at hsn
          have hsd3 := hsn; clear hsn hNext1
          refine Ends.exit rfl ?_
          replace hA : St 90 [(0, _), (1, _), (5, _), (6, _), (16, _), (17, _), (18, _), (19, _), (20, _), (21, _), (23, _), (24, _), (25, _), (26, _), (27, _)] a := hA.sub ((.cons rfl (.cons rfl (.cons rfl (.cons rfl (.cons rfl (.cons rfl (.cons rfl (.cons rfl (.cons rfl (.cons rfl (.cons rfl (.cons rfl (.cons rfl (.cons rfl (.cons rfl .nil))))))))))))))))
          refine Ends.inBlock ?_
          refine Ends.region ?_
          refine S.val hA (R.move rfl) rfl ?_; clear hA a; intro a hA
          refine S.val hA (R.addI rfl rfl (r := 4) rfl (by omega)) rfl ?_; clear hA a; intro a hA
          refine S.val hA (R.assign rfl) rfl ?_; clear hA a; intro a hA
          refine S.done ?_
          replace hA : St 90 [(0, _), (1, _), (5, _), (6, _), (16, _), (17, _), (18, _), (19, _), (20, _), (21, _), (23, _), (24, _), (25, _), (26, _), (27, _)] a := hA.sub ((.cons rfl (.cons rfl (.cons rfl (.cons rfl (.cons rfl (.cons rfl (.cons rfl (.cons rfl (.cons rfl (.cons rfl (.cons rfl (.cons rfl (.cons rfl (.cons rfl (.cons rfl .nil))))))))))))))))
          refine Ends.inLoop ?_
          refine Ends.seq ?_
          refine Ends.seq ?_
          refine Ends.region ?_
          refine S.val hA (R.move rfl) rfl ?_; clear hA a; intro a hA
          refine S.val hA (R.move rfl) rfl ?_; clear hA a; intro a hA
          refine S.val hA (R.lenS Try.underlying95 rfl rfl) rfl ?_; clear hA a; intro a hA
          refine S.val hA (R.tt (R.lss rfl rfl) (by first | decide | simp | omega)) rfl ?_; clear hA a; intro a hA
          refine S.done ?_
          replace hA : St 90 [(0, _), (1, _), (5, _), (6, _), (16, _), (17, _), (18, _), (19, _), (20, _), (21, _), (23, _), (24, _), (25, _), (26, _), (27, _)] a := hA.sub ((.cons rfl (.cons rfl (.cons rfl (.cons rfl (.cons rfl (.cons rfl (.cons rfl (.cons rfl (.cons rfl (.cons rfl (.cons rfl (.cons rfl (.cons rfl (.cons rfl (.cons rfl .nil))))))))))))))))
          refine Ends.condT hA rfl ?_
          refine Ends.skip ?_
          refine Ends.seq ?_
          refine Ends.block ?_
          refine Ends.seq ?_
          refine Ends.region ?_
          refine S.val hA (R.assign rfl) rfl ?_; clear hA a; intro a hA
          refine S.done ?_
          replace hA : St 90 [(0, _), (1, _), (5, _), (6, _), (7, _), (16, _), (17, _), (18, _), (19, _), (20, _), (21, _), (23, _), (24, _), (25, _), (26, _), (27, _)] a := hA.sub ((.cons rfl (.cons rfl (.cons rfl (.cons rfl (.cons rfl (.cons rfl (.cons rfl (.cons rfl (.cons rfl (.cons rfl (.cons rfl (.cons rfl (.cons rfl (.cons rfl (.cons rfl (.cons rfl .nil)))))))))))))))))
          refine Ends.block ?_
          refine Ends.loop (σ := Nat × List Int) (fun (b, sn) (a : Act) (wv : World) => St 90 [(0, .pointer (some ⟨wb, 0, none⟩)), (1, .slice (some ⟨lb, 0, none⟩) 5 5), (5, .slice (some ⟨b1, 0, none⟩) (((H.length : Int)).toNat) (((H.length : Int)).toNat)), (6, .int .i64 4), (7, .int .i64 ((b : Int))), (16, .int .i64 4), (17, .slice (some ⟨lb, 0, none⟩) 5 5), (18, .int .i64 5), (19, .bool true), (20, .int .i64 3), (21, .int .i64 4)] a ∧ Mem w nof [pt b1 ((ints sn)) 3] wv ∧ (b ≤ Y4.length) ∧ (sn = cntL n.toNat ((((Y0 ++ Y1) ++ Y2) ++ Y3) ++ Y4.take b))) (fun (b, sn) => Y4.length - b) ((0, sn)) ⟨hA.sub ((.cons rfl (.cons rfl (.cons rfl (.cons rfl (.cons rfl (.cons rfl (.cons rfl (.cons rfl (.cons rfl (.cons rfl (.cons rfl .nil)))))))))))), hM, (by omega), (by rw [List.take_zero, List.append_nil]; exact hsd3)⟩ ?_
          clear hA hM a
          rintro ⟨b, sn⟩ a w10 ⟨hA, hM, hb, hsn⟩ hNext1
          refine Ends.seq ?_
          refine Ends.seq ?_
          refine Ends.region ?_
          refine S.val hA (R.move rfl) rfl ?_; clear hA a; intro a hA
          refine S.val hA (R.move rfl) rfl ?_; clear hA a; intro a hA
          refine S.val hA (R.move rfl) rfl ?_; clear hA a; intro a hA
          refine S.val hA (R.indexAddr (q := 4) sl95 rfl rfl (by omega) (rfl)) rfl ?_; clear hA a; intro a hA
          refine S.val hA (R.load sz43 rfl (hM.cellB hlb rfl)) rfl ?_; clear hA a; intro a hA
          refine S.val hA (R.lenS Try.underlying43 rfl rfl) rfl ?_; clear hA a; intro a hA
          refine S.val hA (R.lss rfl rfl) rfl ?_; clear hA a; intro a hA
          refine S.done ?_
          replace hA : St 90 [(0, _), (1, _), (5, _), (6, _), (7, _), (16, _), (17, _), (18, _), (19, _), (20, _), (21, _), (22, _), (23, _), (24, _), (25, _), (26, _), (27, _), (28, _)] a := hA.sub ((.cons rfl (.cons rfl (.cons rfl (.cons rfl (.cons rfl (.cons rfl (.cons rfl (.cons rfl (.cons rfl (.cons rfl (.cons rfl (.cons rfl (.cons rfl (.cons rfl (.cons rfl (.cons rfl (.cons rfl (.cons rfl .nil)))))))))))))))))))
          refine Ends.ite hA rfl (fun hc7 => ?_) (fun hc7 => ?_)
          ·
            refine Ends.skip ?_
            refine Ends.seq ?_
            refine Ends.block ?_
            refine Ends.seq ?_
            have hml := h4.len
            unfold maxLen at hml
            obtain ⟨g4, off, hg, hcell⟩ := h4.at (i := b) (by omega)
            subst hg
            have hmem : Y4.getD b 0 ∈ ((((Y0 ++ Y1) ++ Y2) ++ Y3) ++ Y4) := by
              have hm := getD_mem Y4 b (by omega)
              repeat (first | exact List.mem_append_right _ hm | exact hm | apply List.mem_append_left)
            have hrng := hgood.2.2.1 _ hmem
            have hsl : sn.length = n.toNat := by rw [hsn]; exact cntL_len _ _
            have hsub : ((((Y0 ++ Y1) ++ Y2) ++ Y3) ++ Y4.take b).Sublist ((((Y0 ++ Y1) ++ Y2) ++ Y3) ++ Y4) := (List.Sublist.append (List.Sublist.refl (((Y0 ++ Y1) ++ Y2) ++ Y3)) (List.take_sublist b Y4)).trans (List.Sublist.refl _)
            have hcb : 0 ≤ sn.getD (Y4.getD b 0).toNat 0 ∧ sn.getD (Y4.getD b 0).toNat 0 ≤ 1 := by rw [hsn]; exact cntL_one hgood.2.1 hsub _ (by omega)
            refine Ends.region ?_
            refine S.val hA (R.move rfl) rfl ?_; clear hA a; intro a hA
            refine S.val hA (R.move rfl) rfl ?_; clear hA a; intro a hA
            refine S.val hA (R.indexAddr (q := 4) sl95 rfl rfl (by omega) (rfl)) rfl ?_; clear hA a; intro a hA
            refine S.val hA (R.load sz43 rfl (hM.cellB hlb rfl)) rfl ?_; clear hA a; intro a hA
            refine S.val hA (R.move rfl) rfl ?_; clear hA a; intro a hA
            refine S.val hA (R.indexAddr (q := off + b) sl43 rfl rfl (by omega) (by omega)) rfl ?_; clear hA a; intro a hA
            refine S.val hA (R.load sz3 rfl (hM.cell0 hcell (fun h => h))) rfl ?_; clear hA a; intro a hA
            refine S.val hA (R.assign rfl) rfl ?_; clear hA a; intro a hA
            refine S.done ?_
            replace hA : St 90 [(0, _), (1, _), (5, _), (6, _), (7, _), (8, _), (16, _), (17, _), (18, _), (19, _), (20, _), (21, _), (22, _), (23, _), (24, _), (25, _), (26, _), (27, _), (28, _), (31, _), (32, _), (33, _), (34, _), (35, _), (36, _), (37, _)] a := hA.sub ((.cons rfl (.cons rfl (.cons rfl (.cons rfl (.cons rfl (.cons rfl (.cons rfl (.cons rfl (.cons rfl (.cons rfl (.cons rfl (.cons rfl (.cons rfl (.cons rfl (.cons rfl (.cons rfl (.cons rfl (.cons rfl (.cons rfl (.cons rfl (.cons rfl (.cons rfl (.cons rfl (.cons rfl (.cons rfl (.cons rfl .nil)))))))))))))))))))))))))))
            refine Ends.seq ?_
            refine Ends.seq ?_
            refine Ends.region ?_
            refine S.val hA (R.move rfl) rfl ?_; clear hA a; intro a hA
            refine S.val hA (R.ff (R.lss rfl rfl) (by omega)) rfl ?_; clear hA a; intro a hA
            refine S.val hA (R.move rfl) rfl ?_; clear hA a; intro a hA
            refine S.valg (dj := 40) hA (by kernel_rfl) rfl (R.move rfl) rfl ?_; clear hA a; intro a hA
            refine S.valg (dj := 40) hA (by kernel_rfl) rfl (R.move rfl) rfl ?_; clear hA a; intro a hA
            refine S.valg (dj := 40) hA (by kernel_rfl) rfl (R.lenS Try.underlying43 rfl rfl) rfl ?_; clear hA a; intro a hA
            refine S.valg (dj := 40) hA (by kernel_rfl) rfl (R.ff (R.geq rfl rfl) (by omega)) rfl ?_; clear hA a; intro a hA
            refine S.val hA (R.pickF rfl rfl) rfl ?_; clear hA a; intro a hA
            refine S.done ?_
            replace hA : St 90 [(0, _), (1, _), (5, _), (6, _), (7, _), (8, _), (16, _), (17, _), (18, _), (19, _), (20, _), (21, _), (22, _), (23, _), (24, _), (25, _), (26, _), (27, _), (28, _), (31, _), (32, _), (33, _), (34, _), (35, _), (36, _), (37, _), (38, _), (39, _), (40, _), (41, _), (42, _), (43, _), (44, _), (45, _)] a := hA.sub ((.cons rfl (.cons rfl (.cons rfl (.cons rfl (.cons rfl (.cons rfl (.cons rfl (.cons rfl (.cons rfl (.cons rfl (.cons rfl (.cons rfl (.cons rfl (.cons rfl (.cons rfl (.cons rfl (.cons rfl (.cons rfl (.cons rfl (.cons rfl (.cons rfl (.cons rfl (.cons rfl (.cons rfl (.cons rfl (.cons rfl (.cons rfl (.cons rfl (.cons rfl (.cons rfl (.cons rfl (.cons rfl (.cons rfl (.cons rfl .nil)))))))))))))))))))))))))))))))))))
            refine Ends.condF hA rfl ?_
            refine Ends.skip ?_
            refine Ends.region ?_
            refine S.val hA (R.move rfl) rfl ?_; clear hA a; intro a hA
            refine S.val hA (R.move rfl) rfl ?_; clear hA a; intro a hA
            refine S.val hA (R.indexAddr (q := (Y4.getD b 0).toNat) sl43 rfl rfl (by omega) (by omega)) rfl ?_; clear hA a; intro a hA
            refine S.val hA (R.load sz3 rfl (hM.cell (k := 0) rfl (ints_getD sn _ (by omega)))) rfl ?_; clear hA a; intro a hA
            refine S.val hA (R.addI rfl rfl (r := (sn.getD ((Y4.getD b 0).toNat) 0) + 1) rfl (by omega)) rfl ?_; clear hA a; intro a hA
            refine S.val hA (R.indexAddr (q := (Y4.getD b 0).toNat) sl43 rfl rfl (by omega) (by omega)) rfl ?_; clear hA a; intro a hA
            refine S.store (k := 0) hA hM sz3 rfl rfl rfl rfl (ints_getD sn _ (by omega)) ?_; clear hM
            intro w11 hM
            rw [ints_set] at hM
            replace hM : Mem _ _ [pt b1 ((ints (sn.set ((Y4.getD b 0).toNat) ((sn.getD ((Y4.getD b 0).toNat) 0) + 1)))) 3] _ := hM
            refine S.done ?_
            replace hA : St 90 [(0, _), (1, _), (5, _), (6, _), (7, _), (8, _), (16, _), (17, _), (18, _), (19, _), (20, _), (21, _), (22, _), (23, _), (24, _), (25, _), (26, _), (27, _), (28, _), (31, _), (32, _), (33, _), (34, _), (35, _), (36, _), (37, _), (38, _), (39, _), (40, _), (41, _), (42, _), (43, _), (44, _), (45, _), (46, _), (47, _), (48, _), (49, _), (50, _), (51, _)] a := hA.sub ((.cons rfl (.cons rfl (.cons rfl (.cons rfl (.cons rfl (.cons rfl (.cons rfl (.cons rfl (.cons rfl (.cons rfl (.cons rfl (.cons rfl (.cons rfl (.cons rfl (.cons rfl (.cons rfl (.cons rfl (.cons rfl (.cons rfl (.cons rfl (.cons rfl (.cons rfl (.cons rfl (.cons rfl (.cons rfl (.cons rfl (.cons rfl (.cons rfl (.cons rfl (.cons rfl (.cons rfl (.cons rfl (.cons rfl (.cons rfl (.cons rfl (.cons rfl (.cons rfl (.cons rfl (.cons rfl (.cons rfl .nil)))))))))))))))))))))))))))))))))))))))))
            refine Ends.inBlock ?_
            refine Ends.region ?_
            refine S.val hA (R.move rfl) rfl ?_; clear hA a; intro a hA
            refine S.val hA (R.addI rfl rfl (r := ((b : Int)) + 1) rfl (by omega)) rfl ?_; clear hA a; intro a hA
            refine S.val hA (R.assign rfl) rfl ?_; clear hA a; intro a hA
            refine S.done ?_
            replace hA : St 90 [(0, _), (1, _), (5, _), (6, _), (7, _), (8, _), (16, _), (17, _), (18, _), (19, _), (20, _), (21, _), (22, _), (23, _), (24, _), (25, _), (26, _), (27, _), (28, _), (29, _), (30, _), (31, _), (32, _), (33, _), (34, _), (35, _), (36, _), (37, _), (38, _), (39, _), (40, _), (41, _), (42, _), (43, _), (44, _), (45, _), (46, _), (47, _), (48, _), (49, _), (50, _), (51, _)] a := hA.sub ((.cons rfl (.cons rfl (.cons rfl (.cons rfl (.cons rfl (.cons rfl (.cons rfl (.cons rfl (.cons rfl (.cons rfl (.cons rfl (.cons rfl (.cons rfl (.cons rfl (.cons rfl (.cons rfl (.cons rfl (.cons rfl (.cons rfl (.cons rfl (.cons rfl (.cons rfl (.cons rfl (.cons rfl (.cons rfl (.cons rfl (.cons rfl (.cons rfl (.cons rfl (.cons rfl (.cons rfl (.cons rfl (.cons rfl (.cons rfl (.cons rfl (.cons rfl (.cons rfl (.cons rfl (.cons rfl (.cons rfl (.cons rfl (.cons rfl .nil)))))))))))))))))))))))))))))))))))))))))))
            exact hNext1 ((b + 1, (sn.set ((Y4.getD b 0).toNat) ((sn.getD ((Y4.getD b 0).toNat) 0) + 1)))) _ _ ((by show Y4.length - (b + 1) < Y4.length - b; omega)) ⟨hA.sub ((.cons rfl (.cons rfl (.cons rfl (.cons rfl (.cons rfl (.cons rfl (.cons rfl (.cons rfl (.cons rfl (.cons rfl (.cons rfl .nil)))))))))))), hM, (by omega), (by rw [hsn]; exact cntL_take _ _ _ _ (by omega) (by omega))⟩
          ·
            have hbe : b = Y4.length := by omega
            subst hbe
            rw [List.take_length] at hsn
            have hsd4 := hsn; clear hsn hNext1
            refine Ends.exit rfl ?_
            replace hA : St 90 [(0, _), (1, _), (5, _), (6, _), (16, _), (17, _), (18, _), (19, _), (20, _), (21, _), (23, _), (24, _), (25, _), (26, _), (27, _)] a := hA.sub ((.cons rfl (.cons rfl (.cons rfl (.cons rfl (.cons rfl (.cons rfl (.cons rfl (.cons rfl (.cons rfl (.cons rfl (.cons rfl (.cons rfl (.cons rfl (.cons rfl (.cons rfl .nil))))))))))))))))
            refine Ends.inBlock ?_
            refine Ends.region ?_
            refine S.val hA (R.move rfl) rfl ?_; clear hA a; intro a hA
            refine S.val hA (R.addI rfl rfl (r := 5) rfl (by omega)) rfl ?_; clear hA a; intro a hA
            refine S.val hA (R.assign rfl) rfl ?_; clear hA a; intro a hA
            refine S.done ?_
            replace hA : St 90 [(0, _), (1, _), (5, _), (6, _), (16, _), (17, _), (18, _), (19, _), (20, _), (21, _), (23, _), (24, _), (25, _), (26, _), (27, _)] a := hA.sub ((.cons rfl (.cons rfl (.cons rfl (.cons rfl (.cons rfl (.cons rfl (.cons rfl (.cons rfl (.cons rfl (.cons rfl (.cons rfl (.cons rfl (.cons rfl (.cons rfl (.cons rfl .nil))))))))))))))))
            refine Ends.inLoop ?_
            refine Ends.seq ?_
            refine Ends.seq ?_
            refine Ends.region ?_
            refine S.val hA (R.move rfl) rfl ?_; clear hA a; intro a hA
            refine S.val hA (R.move rfl) rfl ?_; clear hA a; intro a hA
            refine S.val hA (R.lenS Try.underlying95 rfl rfl) rfl ?_; clear hA a; intro a hA
            refine S.val hA (R.ff (R.lss rfl rfl) (by first | decide | simp | omega)) rfl ?_; clear hA a; intro a hA
            refine S.done ?_
            replace hA : St 90 [(0, _), (1, _), (5, _), (6, _), (16, _), (17, _), (18, _), (19, _), (20, _), (21, _), (23, _), (24, _), (25, _), (26, _), (27, _)] a := hA.sub ((.cons rfl (.cons rfl (.cons rfl (.cons rfl (.cons rfl (.cons rfl (.cons rfl (.cons rfl (.cons rfl (.cons rfl (.cons rfl (.cons rfl (.cons rfl (.cons rfl (.cons rfl .nil))))))))))))))))
            refine Ends.condF hA rfl ?_
            refine Ends.exit rfl ?_
            replace hA : St 90 [(0, _), (5, _)] a := hA.sub ((.cons rfl (.cons rfl .nil)))
            refine Ends.seq ?_
            refine Ends.seq ?_
            refine Ends.region ?_
            refine S.val hA (R.assign rfl) rfl ?_; clear hA a; intro a hA
            refine S.done ?_
            replace hA : St 90 [(0, _), (5, _), (9, _)] a := hA.sub ((.cons rfl (.cons rfl (.cons rfl .nil))))
            refine Ends.block ?_
            have hsl : sn.length = n.toNat := by rw [hsd4]; exact cntL_len _ _
            refine Ends.loop (σ := Nat) (fun k (a : Act) (wv : World) => St 90 [(0, .pointer (some ⟨wb, 0, none⟩)), (5, .slice (some ⟨b1, 0, none⟩) (((H.length : Int)).toNat) (((H.length : Int)).toNat)), (9, .int .i64 ((k : Int)))] a ∧ Mem w nof [pt b1 ((ints sn)) 3] wv ∧ ((k : Int) ≤ n)) (fun k => n.toNat - k) 0 ⟨hA.sub ((.cons rfl (.cons rfl (.cons rfl .nil)))), hM, (by omega)⟩ ?_
            clear hA hM a
            rintro k a w12 ⟨hA, hM, hk⟩ hNext2
            refine Ends.seq ?_
            refine Ends.seq ?_
            refine Ends.region ?_
            refine S.val hA (R.move rfl) rfl ?_; clear hA a; intro a hA
            refine S.val hA (R.move rfl) rfl ?_; clear hA a; intro a hA
            refine S.val hA (R.lenS Try.underlying43 rfl rfl) rfl ?_; clear hA a; intro a hA
            refine S.val hA (R.lss rfl rfl) rfl ?_; clear hA a; intro a hA
            refine S.done ?_
            replace hA : St 90 [(0, _), (5, _), (9, _), (52, _), (53, _), (54, _), (55, _)] a := hA.sub ((.cons rfl (.cons rfl (.cons rfl (.cons rfl (.cons rfl (.cons rfl (.cons rfl .nil))))))))
            refine Ends.ite hA rfl (fun hc8 => ?_) (fun hc8 => ?_)
            ·
              refine Ends.skip ?_
              refine Ends.seq ?_
              refine Ends.block ?_
              refine Ends.seq ?_
              by_cases hs9 : H.getD k 0 = -1
              ·
                have hcn := held_cnt hgood k (by omega)
                rw [← hsd4] at hcn
                have hcn2 := hcn.1 hs9
                obtain ⟨gH, off, hg, hcellH⟩ := hH.at (i := k) (by omega)
                subst hg
                refine Ends.region ?_
                refine S.val hA (R.move rfl) rfl ?_; clear hA a; intro a hA
                refine S.val hA (R.nilCheck rfl) rfl ?_; clear hA a; intro a hA
                refine S.val hA (R.fieldAddr (q := 0) fi93_0 rfl rfl rfl) rfl ?_; clear hA a; intro a hA
                refine S.val hA (R.load sz43 rfl (hM.cellB hw rfl)) rfl ?_; clear hA a; intro a hA
                refine S.val hA (R.move rfl) rfl ?_; clear hA a; intro a hA
                refine S.val hA (R.indexAddr (q := off + k) sl43 rfl rfl (by omega) (by omega)) rfl ?_; clear hA a; intro a hA
                refine S.val hA (R.load sz3 rfl (hM.cell0 hcellH (fun h => h))) rfl ?_; clear hA a; intro a hA
                refine S.val hA (R.tt (R.eql rfl rfl) (by omega)) rfl ?_; clear hA a; intro a hA
                refine S.val hA (R.move rfl) rfl ?_; clear hA a; intro a hA
                refine S.valg (dj := 66) hA (by kernel_rfl) rfl (R.move rfl) rfl ?_; clear hA a; intro a hA
                refine S.valg (dj := 66) hA (by kernel_rfl) rfl (R.move rfl) rfl ?_; clear hA a; intro a hA
                refine S.valg (dj := 66) hA (by kernel_rfl) rfl (R.indexAddr (q := k) sl43 rfl rfl (by omega) (by omega)) rfl ?_; clear hA a; intro a hA
                refine S.valg (dj := 66) hA (by kernel_rfl) rfl (R.load sz3 rfl (hM.cell (k := 0) rfl (ints_getD sn _ (by omega)))) rfl ?_; clear hA a; intro a hA
                refine S.valg (dj := 66) hA (by kernel_rfl) rfl (R.ff (R.neq rfl rfl) (by omega)) rfl ?_; clear hA a; intro a hA
                refine S.val hA (R.pickT rfl rfl) rfl ?_; clear hA a; intro a hA
                refine S.val hA (R.move rfl) rfl ?_; clear hA a; intro a hA
                refine S.valg (dj := 73) hA (by kernel_rfl) rfl (R.move rfl) rfl ?_; clear hA a; intro a hA
                refine S.valg (dj := 73) hA (by kernel_rfl) rfl (R.nilCheck rfl) rfl ?_; clear hA a; intro a hA
                refine S.valg (dj := 73) hA (by kernel_rfl) rfl (R.fieldAddr (q := 0) fi93_0 rfl rfl rfl) rfl ?_; clear hA a; intro a hA
                refine S.valg (dj := 73) hA (by kernel_rfl) rfl (R.load sz43 rfl (hM.cellB hw rfl)) rfl ?_; clear hA a; intro a hA
                refine S.valg (dj := 73) hA (by kernel_rfl) rfl (R.move rfl) rfl ?_; clear hA a; intro a hA
                refine S.valg (dj := 73) hA (by kernel_rfl) rfl (R.indexAddr (q := off + k) sl43 rfl rfl (by omega) (by omega)) rfl ?_; clear hA a; intro a hA
                refine S.valg (dj := 73) hA (by kernel_rfl) rfl (R.load sz3 rfl (hM.cell0 hcellH (fun h => h))) rfl ?_; clear hA a; intro a hA
                refine S.valg (dj := 73) hA (by kernel_rfl) rfl (R.ff (R.neq rfl rfl) (by omega)) rfl ?_; clear hA a; intro a hA
                refine S.valg (dj := 73) hA (by kernel_rfl) rfl (R.move rfl) rfl ?_; clear hA a; intro a hA
                refine S.no (dj := 82) hA (by kernel_rfl) rfl rfl rfl ?_; clear hA a; intro a hA
                refine S.no (dj := 82) hA (by kernel_rfl) rfl rfl rfl ?_; clear hA a; intro a hA
                refine S.no (dj := 82) hA (by kernel_rfl) rfl rfl rfl ?_; clear hA a; intro a hA
                refine S.no (dj := 82) hA (by kernel_rfl) rfl rfl rfl ?_; clear hA a; intro a hA
                refine S.no (dj := 82) hA (by kernel_rfl) rfl rfl rfl ?_; clear hA a; intro a hA
                refine S.valg (dj := 73) hA (by kernel_rfl) rfl (R.pickF rfl rfl) rfl ?_; clear hA a; intro a hA
                refine S.val hA (R.pickF rfl rfl) rfl ?_; clear hA a; intro a hA
                refine S.done ?_
                replace hA : St 90 [(0, _), (5, _), (9, _), (52, _), (53, _), (54, _), (55, _), (58, _), (59, _), (60, _), (61, _), (62, _), (63, _), (64, _), (65, _), (66, _), (67, _), (68, _), (69, _), (70, _), (71, _), (72, _), (73, _), (74, _), (75, _), (76, _), (77, _), (78, _), (79, _), (80, _), (81, _), (82, _), (88, _), (89, _)] a := hA.sub ((.cons rfl (.cons rfl (.cons rfl (.cons rfl (.cons rfl (.cons rfl (.cons rfl (.cons rfl (.cons rfl (.cons rfl (.cons rfl (.cons rfl (.cons rfl (.cons rfl (.cons rfl (.cons rfl (.cons rfl (.cons rfl (.cons rfl (.cons rfl (.cons rfl (.cons rfl (.cons rfl (.cons rfl (.cons rfl (.cons rfl (.cons rfl (.cons rfl (.cons rfl (.cons rfl (.cons rfl (.cons rfl (.cons rfl (.cons rfl .nil)))))))))))))))))))))))))))))))))))
                refine Ends.condF hA rfl ?_
                refine Ends.skip ?_
                refine Ends.inBlock ?_
                refine Ends.region ?_
                refine S.val hA (R.move rfl) rfl ?_; clear hA a; intro a hA
                refine S.val hA (R.addI rfl rfl (r := ((k : Int)) + 1) rfl (by omega)) rfl ?_; clear hA a; intro a hA
                refine S.val hA (R.assign rfl) rfl ?_; clear hA a; intro a hA
                refine S.done ?_
                replace hA : St 90 [(0, _), (5, _), (9, _), (52, _), (53, _), (54, _), (55, _), (56, _), (57, _), (58, _), (59, _), (60, _), (61, _), (62, _), (63, _), (64, _), (65, _), (66, _), (67, _), (68, _), (69, _), (70, _), (71, _), (72, _), (73, _), (74, _), (75, _), (76, _), (77, _), (78, _), (79, _), (80, _), (81, _), (82, _), (88, _), (89, _)] a := hA.sub ((.cons rfl (.cons rfl (.cons rfl (.cons rfl (.cons rfl (.cons rfl (.cons rfl (.cons rfl (.cons rfl (.cons rfl (.cons rfl (.cons rfl (.cons rfl (.cons rfl (.cons rfl (.cons rfl (.cons rfl (.cons rfl (.cons rfl (.cons rfl (.cons rfl (.cons rfl (.cons rfl (.cons rfl (.cons rfl (.cons rfl (.cons rfl (.cons rfl (.cons rfl (.cons rfl (.cons rfl (.cons rfl (.cons rfl (.cons rfl (.cons rfl (.cons rfl .nil)))))))))))))))))))))))))))))))))))))
                exact hNext2 ((k + 1)) _ _ ((by show n.toNat - (k + 1) < n.toNat - k; omega)) ⟨hA.sub ((.cons rfl (.cons rfl (.cons rfl .nil)))), hM, (by omega)⟩
              ·
                have hcn := held_cnt hgood k (by omega)
                rw [← hsd4] at hcn
                have hcn2 := hcn.2 hs9
                obtain ⟨gH, off, hg, hcellH⟩ := hH.at (i := k) (by omega)
                subst hg
                refine Ends.region ?_
                refine S.val hA (R.move rfl) rfl ?_; clear hA a; intro a hA
                refine S.val hA (R.nilCheck rfl) rfl ?_; clear hA a; intro a hA
                refine S.val hA (R.fieldAddr (q := 0) fi93_0 rfl rfl rfl) rfl ?_; clear hA a; intro a hA
                refine S.val hA (R.load sz43 rfl (hM.cellB hw rfl)) rfl ?_; clear hA a; intro a hA
                refine S.val hA (R.move rfl) rfl ?_; clear hA a; intro a hA
                refine S.val hA (R.indexAddr (q := off + k) sl43 rfl rfl (by omega) (by omega)) rfl ?_; clear hA a; intro a hA
                refine S.val hA (R.load sz3 rfl (hM.cell0 hcellH (fun h => h))) rfl ?_; clear hA a; intro a hA
                refine S.val hA (R.ff (R.eql rfl rfl) (by omega)) rfl ?_; clear hA a; intro a hA
                refine S.val hA (R.move rfl) rfl ?_; clear hA a; intro a hA
                refine S.no (dj := 66) hA (by kernel_rfl) rfl rfl rfl ?_; clear hA a; intro a hA
                refine S.no (dj := 66) hA (by kernel_rfl) rfl rfl rfl ?_; clear hA a; intro a hA
                refine S.no (dj := 66) hA (by kernel_rfl) rfl rfl rfl ?_; clear hA a; intro a hA
                refine S.no (dj := 66) hA (by kernel_rfl) rfl rfl rfl ?_; clear hA a; intro a hA
                refine S.no (dj := 66) hA (by kernel_rfl) rfl rfl rfl ?_; clear hA a; intro a hA
                refine S.val hA (R.pickF rfl rfl) rfl ?_; clear hA a; intro a hA
                refine S.val hA (R.move rfl) rfl ?_; clear hA a; intro a hA
                refine S.valg (dj := 73) hA (by kernel_rfl) rfl (R.move rfl) rfl ?_; clear hA a; intro a hA
                refine S.valg (dj := 73) hA (by kernel_rfl) rfl (R.nilCheck rfl) rfl ?_; clear hA a; intro a hA
                refine S.valg (dj := 73) hA (by kernel_rfl) rfl (R.fieldAddr (q := 0) fi93_0 rfl rfl rfl) rfl ?_; clear hA a; intro a hA
                refine S.valg (dj := 73) hA (by kernel_rfl) rfl (R.load sz43 rfl (hM.cellB hw rfl)) rfl ?_; clear hA a; intro a hA
                refine S.valg (dj := 73) hA (by kernel_rfl) rfl (R.move rfl) rfl ?_; clear hA a; intro a hA
                refine S.valg (dj := 73) hA (by kernel_rfl) rfl (R.indexAddr (q := off + k) sl43 rfl rfl (by omega) (by omega)) rfl ?_; clear hA a; intro a hA
                refine S.valg (dj := 73) hA (by kernel_rfl) rfl (R.load sz3 rfl (hM.cell0 hcellH (fun h => h))) rfl ?_; clear hA a; intro a hA
                refine S.valg (dj := 73) hA (by kernel_rfl) rfl (R.tt (R.neq rfl rfl) (by omega)) rfl ?_; clear hA a; intro a hA
                refine S.valg (dj := 73) hA (by kernel_rfl) rfl (R.move rfl) rfl ?_; clear hA a; intro a hA
                refine S.valg (dj := 82) hA (by kernel_rfl) rfl (R.move rfl) rfl ?_; clear hA a; intro a hA
                refine S.valg (dj := 82) hA (by kernel_rfl) rfl (R.move rfl) rfl ?_; clear hA a; intro a hA
                refine S.valg (dj := 82) hA (by kernel_rfl) rfl (R.indexAddr (q := k) sl43 rfl rfl (by omega) (by omega)) rfl ?_; clear hA a; intro a hA
                refine S.valg (dj := 82) hA (by kernel_rfl) rfl (R.load sz3 rfl (hM.cell (k := 0) rfl (ints_getD sn _ (by omega)))) rfl ?_; clear hA a; intro a hA
                refine S.valg (dj := 82) hA (by kernel_rfl) rfl (R.ff (R.neq rfl rfl) (by omega)) rfl ?_; clear hA a; intro a hA
                refine S.valg (dj := 73) hA (by kernel_rfl) rfl (R.pickT rfl rfl) rfl ?_; clear hA a; intro a hA
                refine S.val hA (R.pickF rfl rfl) rfl ?_; clear hA a; intro a hA
                refine S.done ?_
                replace hA : St 90 [(0, _), (5, _), (9, _), (52, _), (53, _), (54, _), (55, _), (58, _), (59, _), (60, _), (61, _), (62, _), (63, _), (64, _), (65, _), (66, _), (72, _), (73, _), (74, _), (75, _), (76, _), (77, _), (78, _), (79, _), (80, _), (81, _), (82, _), (83, _), (84, _), (85, _), (86, _), (87, _), (88, _), (89, _)] a := hA.sub ((.cons rfl (.cons rfl (.cons rfl (.cons rfl (.cons rfl (.cons rfl (.cons rfl (.cons rfl (.cons rfl (.cons rfl (.cons rfl (.cons rfl (.cons rfl (.cons rfl (.cons rfl (.cons rfl (.cons rfl (.cons rfl (.cons rfl (.cons rfl (.cons rfl (.cons rfl (.cons rfl (.cons rfl (.cons rfl (.cons rfl (.cons rfl (.cons rfl (.cons rfl (.cons rfl (.cons rfl (.cons rfl (.cons rfl (.cons rfl .nil)))))))))))))))))))))))))))))))))))
                refine Ends.condF hA rfl ?_
                refine Ends.skip ?_
                refine Ends.inBlock ?_
                refine Ends.region ?_
                refine S.val hA (R.move rfl) rfl ?_; clear hA a; intro a hA
                refine S.val hA (R.addI rfl rfl (r := ((k : Int)) + 1) rfl (by omega)) rfl ?_; clear hA a; intro a hA
                refine S.val hA (R.assign rfl) rfl ?_; clear hA a; intro a hA
                refine S.done ?_
                replace hA : St 90 [(0, _), (5, _), (9, _), (52, _), (53, _), (54, _), (55, _), (56, _), (57, _), (58, _), (59, _), (60, _), (61, _), (62, _), (63, _), (64, _), (65, _), (66, _), (72, _), (73, _), (74, _), (75, _), (76, _), (77, _), (78, _), (79, _), (80, _), (81, _), (82, _), (83, _), (84, _), (85, _), (86, _), (87, _), (88, _), (89, _)] a := hA.sub ((.cons rfl (.cons rfl (.cons rfl (.cons rfl (.cons rfl (.cons rfl (.cons rfl (.cons rfl (.cons rfl (.cons rfl (.cons rfl (.cons rfl (.cons rfl (.cons rfl (.cons rfl (.cons rfl (.cons rfl (.cons rfl (.cons rfl (.cons rfl (.cons rfl (.cons rfl (.cons rfl (.cons rfl (.cons rfl (.cons rfl (.cons rfl (.cons rfl (.cons rfl (.cons rfl (.cons rfl (.cons rfl (.cons rfl (.cons rfl (.cons rfl (.cons rfl .nil)))))))))))))))))))))))))))))))))))))
                exact hNext2 ((k + 1)) _ _ ((by show n.toNat - (k + 1) < n.toNat - k; omega)) ⟨hA.sub ((.cons rfl (.cons rfl (.cons rfl .nil)))), hM, (by omega)⟩
            ·
              refine Ends.exit rfl ?_
              replace hA : St 90 [] a := hA.sub (.nil)
              refine Ends.seq ?_
              refine Ends.region ?_
              refine S.val hA (R.assign rfl) rfl ?_; clear hA a; intro a hA
              refine S.done ?_
              replace hA : St 90 [(4, _)] a := hA.sub ((.cons rfl .nil))
              refine Ends.ret1 Try.func60 Try.results60 hA rfl ?_
              exact ⟨rfl, hM.nilL.below⟩
theorem prun_s (bs : Int) : ∀ (f : Nat) (z : PSt), z.s ≤ (prun bs f z).2.s ∧ (prun bs f z).2.s ≤ z.s + f
  | 0, z => ⟨Int.le_refl _, by show z.s ≤ z.s + ((0 : Nat) : Int); omega⟩
  | f + 1, z => by
    simp only [prun]
    split
    · simp only; omega
    · have h1 := pstep_s bs z
      have h2 := prun_s bs f (pstep bs z)
      omega
theorem prun_gi (p q m nb ns ob ws c : Nat) (bs wr n V : Int) (os : List Value) (av : Option Addr) (cap : Nat) (o : CellOp) (hmc : m ≠ c) (hwr : 0 ≤ wr ∧ wr < ws) (hlen : os.length = ws) (t : PAct) (Y l : List Int) (s : Int) (hs : 0 ≤ s ∧ s < 9223372036854775800) (H xs : List Int) (ys : List (List Int)) (ac : List (Option PAct)) (k : Nat) (h : GI bs n V l H xs ys ac) (hV : V < 1073741823) (hk : ac[k]? = some (some t)) (hY : ys[k]? = some Y) (w : World) (hM : Mem w (feet (pcks p q m nb ns ob ws c bs wr os av cap o (⟨t, Y, l, s⟩))) (pcks p q m nb ns ob ws c bs wr os av cap o (⟨t, Y, l, s⟩)) w) :
    Calls Try.prog 59 #[.pointer (some ⟨p, 0, none⟩)] w fun e w' => ∃ av' cap' o' r z', e = .returned (.int .i64 r) ∧ Mem w (feet (pcks p q m nb ns ob ws c bs wr os av cap o (⟨t, Y, l, s⟩))) (pcks p q m nb ns ob ws c bs wr os av' cap' o' z') w' ∧
      (s ≤ z'.s ∧ z'.s ≤ s + 5) ∧ (t.ph = 0 → 0 ≤ r) ∧ PEnd bs n V H ys ac k t.give t.slot z' := by
  refine (prun_any p q m nb ns ob ws c bs wr n os av cap o hmc hwr hlen ⟨t, Y, l, s⟩ (gi_sok h hk hY hs.1) hs.2 w hM).mono ?_
  rintro e w' ⟨a1, c1, o1, he, hn⟩
  refine ⟨a1, c1, o1, _, _, he, hn, prun_s bs 5 ⟨t, Y, l, s⟩, fun h0 => ?_, run_out 5 s h hV hs.1 hk hY (rnk_le _ _)⟩
  refine run_pos 4 (gi_sok h hk hY hs.1) ?_ (by omega)
  simp [rnk, h0]
theorem pstep_gi (p q m nb ns ob ws c : Nat) (bs wr n V : Int) (os : List Value) (av : Option Addr) (cap : Nat) (o : CellOp) (hmc : m ≠ c) (hwr : 0 ≤ wr ∧ wr < ws) (hlen : os.length = ws) (t : PAct) (Y l : List Int) (s : Int) (hs : 0 ≤ s ∧ s < 9223372036854775800) (H xs : List Int) (ys : List (List Int)) (ac : List (Option PAct)) (k : Nat) (h : GI bs n V l H xs ys ac) (hV : V < 1073741823) (hk : ac[k]? = some (some t)) (hY : ys[k]? = some Y) (w : World) (hM : Mem w (feet (pcks p q m nb ns ob ws c bs wr os av cap o (⟨t, Y, l, s⟩))) (pcks p q m nb ns ob ws c bs wr os av cap o (⟨t, Y, l, s⟩)) w) :
    Calls Try.prog 55 #[.pointer (some ⟨p, 0, none⟩)] w fun e w' => ∃ av' cap' o' z', e = .returned (.bool (decide (z'.t.ph = 3))) ∧ Mem w (feet (pcks p q m nb ns ob ws c bs wr os av cap o (⟨t, Y, l, s⟩))) (pcks p q m nb ns ob ws c bs wr os av' cap' o' z') w' ∧
      (s ≤ z'.s ∧ z'.s ≤ s + 1) ∧ POut bs n V H ys ac k t.give t.slot z' := by
  refine (pstep_any p q m nb ns ob ws c bs wr n os av cap o hmc hwr hlen ⟨t, Y, l, s⟩ (gi_sok h hk hY hs.1) (by show s < _; omega) w hM).mono ?_
  rintro e w' ⟨a1, c1, o1, he, hn⟩
  exact ⟨a1, c1, o1, _, he, hn, pstep_s bs ⟨t, Y, l, s⟩, gi_step h hV hk hY s⟩
/-- A new pool. -/
theorem chn_range {bs n : Int} {l : List Int} (hn : 0 ≤ n) (hl : ∀ j : Nat, (j : Int) < n → l.getD (bs + 1 + j).toNat 0 = if (j : Int) + 1 = n then -1 else (j : Int) + 1) : ∀ (d j : Nat), (j : Int) + d = n → Chn bs l (if (j : Int) = n then -1 else j) ((List.range' j d).map Int.ofNat)
  | 0, j, h => by
    rw [if_pos (by omega)]; rfl
  | d + 1, j, h => by
    rw [if_neg (by omega)]
    refine ⟨rfl, by show (0 : Int) ≤ Int.ofNat j; exact Int.natCast_nonneg j, ?_⟩
    show Chn bs l (l.getD (bs + 1 + (j : Int)).toNat 0) _
    rw [hl j (by omega)]
    have := chn_range hn hl d (j + 1) (by omega)
    exact this
theorem gi_new {n : Int} {N ws : Nat} (hn : 1 ≤ n ∧ n ≤ 4096) (hN : N = (3 + (n + 1)).toNat) : GI 3 n 0 (linkL (List.replicate N 0) 3 n n.toNat) (List.replicate n.toNat (-1)) ((List.range' 0 n.toNat).map Int.ofNat) (List.replicate ws []) (List.replicate ws none) := by
  have hlen : (List.replicate N (0 : Int)).length = N := by simp
  have htop : (linkL (List.replicate N 0) 3 n n.toNat).getD (3 : Int).toNat 0 = 1 := linkL_top _ 3 n (by omega) n.toNat (by rw [hlen]; omega)
  have hat := fun j hj => linkL_at (List.replicate N 0) 3 n (by omega) n.toNat (by rw [hlen]; omega) j hj
  have hfl : (List.replicate ws ([] : List Int)).flatten = [] := by simp
  refine ⟨⟨by omega, hn.1, hn.2, by rw [linkL_len, hlen]; omega, by rw [linkL_len, hlen]; omega, ?_, fun j h0 h1 => ?_⟩, ?_, ?_, fun y hy => ?_, fun j t hj => ?_, ?_⟩
  · rw [htop]; exact ⟨by omega, by omega, by unfold atI; omega⟩
  · have := hat j.toNat (by omega)
    rw [show ((j.toNat : Nat) : Int) = j by omega] at this
    rw [this]; split <;> omega
  · rw [htop]
    have := chn_range (bs := 3) (n := n) (l := linkL (List.replicate N 0) 3 n n.toNat) (by omega) (fun j hj => hat j (by omega)) n.toNat 0 (by omega)
    rw [if_neg (by omega)] at this
    exact this
  · rw [hfl, List.nil_append]
    refine ⟨by simp; omega, ?_, fun x hx => ?_, fun j h0 h1 => ?_⟩
    · exact List.Pairwise.map Int.ofNat (fun x y h e => h (Int.ofNat.inj e)) (List.nodup_range' (step := 1))
    · obtain ⟨a, ha, rfl⟩ := List.mem_map.1 hx
      have := List.mem_range'_1.1 ha
      constructor
      · exact Int.natCast_nonneg a
      · show (a : Int) < n; omega
    · refine ⟨fun _ => ?_, fun _ => List.mem_map.2 ⟨j.toNat, List.mem_range'_1.2 (by omega), by show ((j.toNat : Nat) : Int) = j; omega⟩⟩
      rw [List.getD_eq_getElem?_getD, List.getElem?_replicate, if_pos (by omega)]; rfl
  · rw [List.eq_of_mem_replicate hy]; simp
  · have := List.eq_of_mem_replicate (List.mem_of_getElem? hj); cases this
  · rw [htop]; unfold verI; omega
end Go.Proofs.Ytjjbognomeplbaa
