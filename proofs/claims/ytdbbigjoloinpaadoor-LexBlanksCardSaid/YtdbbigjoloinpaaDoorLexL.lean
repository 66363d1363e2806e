/-
  lexes, from, Same; the law LexScans.
-/
import Derived.Test.YtdbbigjoloinpaaDoorLexS
import Derived.Test.YtdbbigjoloinpaaDoorEng6
import Derived.Laws.StructEq
namespace Go.Proofs.YtdbbigjoloinpaaDoor
open Go.RowKit
theorem scan_eq (s : ByteArray) (hsz : s.size ≤ 9223372036854775807) (X : List Tok) (p e0 : Int) (h : scan s = (X, p, e0)) (w : World) (htab : U8T w) : Calls Tryd.prog 13 #[.string s] w fun e w' => ∃ a cap, e = .returned (.tuple #[.slice a X.length cap, .int .i64 p, .int .i64 e0]) ∧ Mem w nof [own 36 4 (.slice a X.length cap) X.length (tokv X)] w' := by
  have h1 := scan_any s hsz w htab
  rwa [h] at h1
theorem rscan_eq (s : ByteArray) (hsz : s.size ≤ 9223372036854775807) (X : List Tok) (p e0 : Int) (h : scan s = (X, p, e0)) (w : World) : Calls Tryd.prog 14 #[.string s] w fun e w' => ∃ a cap, e = .returned (.tuple #[.slice a X.length cap, .int .i64 p, .int .i64 e0]) ∧ Mem w nof [own 58 4 (.slice a X.length cap) X.length (tokv X)] w' := by
  have h1 := rscan_any s hsz w
  rwa [h] at h1
def lexT1 : List Tok := [⟨1, ⟨#[84, 83, 80]⟩, 0, 0⟩, ⟨2, ⟨#[]⟩, 3, 4⟩, ⟨3, ⟨#[]⟩, 0, 9⟩]
theorem lex_1 : scan ⟨#[84, 83, 80, 32, 51, 32, 35, 32, 120]⟩ = (lexT1, 0, 0) := by kernel_rfl
theorem lex_2 : scan ⟨#[120, 32, 195, 188]⟩ = ([], 2, 2) := by kernel_rfl
section
variable {w0 w w' : World} {F : Nat → Prop} {L : List Ck}
/-- A token of a list, as it lies. -/
theorem Mem.tokRow {k g cap i : Nat} {e : TypeId} {X : List Tok} (hM : Mem w0 F L w) (hk : ith L k = some (own e 4 (.slice (some ⟨g, 0, none⟩) X.length cap) X.length (tokv X))) (hi : i < X.length) : w.rangeAt g (i * 4) [.int .i64 (X.getD i tz).k, .string (X.getD i tz).x, .int .i64 (X.getD i tz).n, .int .i64 (X.getD i tz).a] := by
  obtain ⟨h0, h1, h2, h3⟩ := tokv_get X i hi
  intro j v hj
  refine hM.ownCell hk (i := i * 4 + j) ?_
  match j, hj with
  | 0, hj => rw [← hj]; exact h0
  | 1, hj => rw [← hj]; exact h1
  | 2, hj => rw [← hj]; exact h2
  | 3, hj => rw [← hj]; exact h3
  | j + 4, hj => cases hj
end
theorem tok_take {X : List Tok} {i : Nat} (h : i < X.length) : X.take i ++ [(⟨(X.getD i tz).k, (X.getD i tz).x, (X.getD i tz).n, (X.getD i tz).a⟩ : Tok)] = X.take (i + 1) := by
  have e : X.getD i tz = X[i] := by simp [List.getD, h]
  rw [List.take_succ_eq_append_getElem h, e]
theorem eq_rtok (k n a : Int) (x : ByteArray) (w : World) : (Op.equalIn 10000 58 (.agg #[.int .i64 k, .string x, .int .i64 n, .int .i64 a]) (.agg #[.int .i64 k, .string x, .int .i64 n, .int .i64 a])).run Tryd.prog w = .ok true w := by
  have u3 := Tryd.underlying3
  have q3 := Tryd.isAgg3
  have z3 := Tryd.sizeOf3
  have u4 := Tryd.underlying9
  have q4 := Tryd.isAgg9
  have z4 := Tryd.sizeOf9
  have hS : Tryd.prog.underlying 58 = some (.struct (Tryd.prog.fieldsOf 58)) := by kernel_rfl
  have hp : Tryd.prog.stoodInHeld 58 = false := by kernel_rfl
  rw [show (10000 : Nat) = 9999 + 1 from rfl, run_equalIn_struct w 9999 58 _ _ hS hp]
  simp only [Program.fieldsOf, Tryd.underlying58]
  go_simp

set_option maxRecDepth 100000 in
set_option maxHeartbeats 400000 in
theorem lexes_any  (w : World) (htab : U8T w) :
    Calls Tryd.prog 12 #[] w fun e w' => e = .returned (.bool true) ∧ Below w.heap.size w w' := by
  have hM := Mem.start w
  refine Calls.of_ends (vs := []) Tryd.func12 rfl Tryd.ntmps12 rfl ?_
  intro a hA
  replace hA : St 53 [] a := hA
  refine Ends.seq ?_
  refine Ends.region ?_
  refine S.val hA (R.assign rfl) rfl ?_; clear hA a; intro a hA
  refine S.done ?_
  replace hA : St 53 [] a := hA.sub (.nil)
  refine Ends.seq ?_
  refine Ends.region ?_
  refine S.call hA (R.callF Tryd.func13 rfl rfl rfl) rfl (scan_eq (⟨#[84, 83, 80, 32, 51, 32, 35, 32, 120]⟩) (by decide) lexT1 0 0 lex_1 _ (htab.mem hM OffT.nof)) ?_; clear hA a
  rintro e w1 ⟨a1, c2, rfl, hn⟩
  replace hM : Mem _ _ [own 36 4 (.slice a1 3 c2) 3 (tokv lexT1)] _ := hM.call hn; clear hn
  refine ⟨.tuple #[.slice a1 3 c2, .int .i64 0, .int .i64 0], rfl, fun a hA => ?_⟩
  refine S.val hA (R.move rfl) rfl ?_; clear hA a; intro a hA
  refine S.val hA (R.extract (v := .slice a1 3 c2) rfl rfl) rfl ?_; clear hA a; intro a hA
  refine S.val hA (R.extract (v := .int .i64 0) rfl rfl) rfl ?_; clear hA a; intro a hA
  refine S.val hA (R.extract (v := .int .i64 0) rfl rfl) rfl ?_; clear hA a; intro a hA
  refine S.val hA (R.assign rfl) rfl ?_; clear hA a; intro a hA
  refine S.val hA (R.assign rfl) rfl ?_; clear hA a; intro a hA
  refine S.val hA (R.assign rfl) rfl ?_; clear hA a; intro a hA
  refine S.done ?_
  replace hA : St 53 [(1, _), (3, _)] a := hA.sub ((.cons rfl (.cons rfl .nil)))
  refine Ends.seq ?_
  refine Ends.region ?_
  refine S.call hA (R.callF Tryd.func13 rfl rfl rfl) rfl (scan_eq (⟨#[120, 32, 195, 188]⟩) (by decide) [] 2 2 lex_2 _ (htab.mem hM OffT.nof)) ?_; clear hA a
  rintro e w2 ⟨a3, c4, rfl, hn⟩
  replace hM : Mem _ _ [own 36 4 (.slice a3 0 c4) 0 (tokv (([] : List Tok))), own 36 4 (.slice a1 3 c2) 3 (tokv lexT1)] _ := hM.call hn; clear hn
  refine ⟨.tuple #[.slice a3 0 c4, .int .i64 2, .int .i64 2], rfl, fun a hA => ?_⟩
  refine S.val hA (R.move rfl) rfl ?_; clear hA a; intro a hA
  refine S.val hA (R.extract (v := .slice a3 0 c4) rfl rfl) rfl ?_; clear hA a; intro a hA
  refine S.val hA (R.extract (v := .int .i64 2) rfl rfl) rfl ?_; clear hA a; intro a hA
  refine S.val hA (R.extract (v := .int .i64 2) rfl rfl) rfl ?_; clear hA a; intro a hA
  refine S.val hA (R.assign rfl) rfl ?_; clear hA a; intro a hA
  refine S.val hA (R.assign rfl) rfl ?_; clear hA a; intro a hA
  refine S.val hA (R.assign rfl) rfl ?_; clear hA a; intro a hA
  refine S.done ?_
  replace hA : St 53 [(1, _), (3, _), (5, _), (6, _)] a := hA.sub ((.cons rfl (.cons rfl (.cons rfl (.cons rfl .nil)))))
  refine Ends.seq ?_
  obtain ⟨g5, hg5⟩ := hM.ownAt (k := 1) rfl (by decide)
  subst hg5
  replace hM : Mem _ _ [own 36 4 (.slice a3 0 c4) 0 (tokv (([] : List Tok))), own 36 4 (.slice (some ⟨g5, 0, none⟩) 3 c2) 3 (tokv lexT1)] _ := hM
  refine Ends.region ?_
  refine S.val hA (R.move rfl) rfl ?_; clear hA a; intro a hA
  refine S.val hA (R.tt (R.eql rfl rfl) (by first | decide | simp | omega)) rfl ?_; clear hA a; intro a hA
  refine S.val hA (R.move rfl) rfl ?_; clear hA a; intro a hA
  refine S.valg (dj := 19) hA (by kernel_rfl) rfl (R.move rfl) rfl ?_; clear hA a; intro a hA
  refine S.valg (dj := 19) hA (by kernel_rfl) rfl (R.lenS Tryd.underlying23 rfl rfl) rfl ?_; clear hA a; intro a hA
  refine S.valg (dj := 19) hA (by kernel_rfl) rfl (R.tt (R.eql rfl rfl) (by first | decide | simp | omega)) rfl ?_; clear hA a; intro a hA
  refine S.val hA (R.pickT rfl rfl) rfl ?_; clear hA a; intro a hA
  refine S.val hA (R.move rfl) rfl ?_; clear hA a; intro a hA
  refine S.valg (dj := 24) hA (by kernel_rfl) rfl (R.move rfl) rfl ?_; clear hA a; intro a hA
  refine S.valg (dj := 24) hA (by kernel_rfl) rfl (R.indexAddr (q := 0) sl23 rfl rfl (by omega) (rfl)) rfl ?_; clear hA a; intro a hA
  refine S.valg (dj := 24) hA (by kernel_rfl) rfl (R.fieldAddr (q := 1) fi36_1 rfl rfl rfl) rfl ?_; clear hA a; intro a hA
  refine S.valg (dj := 24) hA (by kernel_rfl) rfl (R.load sz9 rfl (hM.ownCell (k := 1) rfl rfl)) rfl ?_; clear hA a; intro a hA
  refine S.valg (dj := 24) hA (by kernel_rfl) rfl (R.tt (R.eqlStr rfl rfl) (rfl)) rfl ?_; clear hA a; intro a hA
  refine S.val hA (R.pickT rfl rfl) rfl ?_; clear hA a; intro a hA
  refine S.val hA (R.move rfl) rfl ?_; clear hA a; intro a hA
  refine S.valg (dj := 31) hA (by kernel_rfl) rfl (R.move rfl) rfl ?_; clear hA a; intro a hA
  refine S.valg (dj := 31) hA (by kernel_rfl) rfl (R.indexAddr (q := 4) sl23 rfl rfl (by omega) (rfl)) rfl ?_; clear hA a; intro a hA
  refine S.valg (dj := 31) hA (by kernel_rfl) rfl (R.fieldAddr (q := 6) fi36_2 rfl rfl rfl) rfl ?_; clear hA a; intro a hA
  refine S.valg (dj := 31) hA (by kernel_rfl) rfl (R.load sz3 rfl (hM.ownCell (k := 1) rfl rfl)) rfl ?_; clear hA a; intro a hA
  refine S.valg (dj := 31) hA (by kernel_rfl) rfl (R.tt (R.eql rfl rfl) (by first | decide | simp | omega)) rfl ?_; clear hA a; intro a hA
  refine S.val hA (R.pickT rfl rfl) rfl ?_; clear hA a; intro a hA
  refine S.val hA (R.move rfl) rfl ?_; clear hA a; intro a hA
  refine S.valg (dj := 38) hA (by kernel_rfl) rfl (R.move rfl) rfl ?_; clear hA a; intro a hA
  refine S.valg (dj := 38) hA (by kernel_rfl) rfl (R.indexAddr (q := 8) sl23 rfl rfl (by omega) (rfl)) rfl ?_; clear hA a; intro a hA
  refine S.valg (dj := 38) hA (by kernel_rfl) rfl (R.fieldAddr (q := 8) fi36_0 rfl rfl rfl) rfl ?_; clear hA a; intro a hA
  refine S.valg (dj := 38) hA (by kernel_rfl) rfl (R.load sz3 rfl (hM.ownCell (k := 1) rfl rfl)) rfl ?_; clear hA a; intro a hA
  refine S.valg (dj := 38) hA (by kernel_rfl) rfl (R.tt (R.eql rfl rfl) (by first | decide | simp | omega)) rfl ?_; clear hA a; intro a hA
  refine S.val hA (R.pickT rfl rfl) rfl ?_; clear hA a; intro a hA
  refine S.val hA (R.move rfl) rfl ?_; clear hA a; intro a hA
  refine S.valg (dj := 45) hA (by kernel_rfl) rfl (R.move rfl) rfl ?_; clear hA a; intro a hA
  refine S.valg (dj := 45) hA (by kernel_rfl) rfl (R.tt (R.eql rfl rfl) (by first | decide | simp | omega)) rfl ?_; clear hA a; intro a hA
  refine S.val hA (R.pickT rfl rfl) rfl ?_; clear hA a; intro a hA
  refine S.val hA (R.move rfl) rfl ?_; clear hA a; intro a hA
  refine S.valg (dj := 49) hA (by kernel_rfl) rfl (R.move rfl) rfl ?_; clear hA a; intro a hA
  refine S.valg (dj := 49) hA (by kernel_rfl) rfl (R.tt (R.eql rfl rfl) (by first | decide | simp | omega)) rfl ?_; clear hA a; intro a hA
  refine S.val hA (R.pickT rfl rfl) rfl ?_; clear hA a; intro a hA
  refine S.val hA (R.assign rfl) rfl ?_; clear hA a; intro a hA
  refine S.done ?_
  replace hA : St 53 [(0, _)] a := hA.sub ((.cons rfl .nil))
  refine Ends.ret1 Tryd.func12 Tryd.results12 hA rfl ?_
  exact ⟨rfl, hM.nilL.below⟩
set_option maxRecDepth 100000 in
set_option maxHeartbeats 400000 in
theorem from_any (av : Option Addr) (cap : Nat) (X : List Tok) (hX : X.length ≤ 1000000) (w : World) (hM : Mem w (feet [own 36 4 (.slice av X.length cap) X.length (tokv X)]) [own 36 4 (.slice av X.length cap) X.length (tokv X)] w) :
    Calls Tryd.prog 16 #[.slice av X.length cap] w fun e w' => ∃ a' cap', e = .returned (.slice a' X.length cap') ∧ Mem w (feet [own 36 4 (.slice av X.length cap) X.length (tokv X)]) [own 58 4 (.slice a' X.length cap') X.length (tokv X), own 36 4 (.slice av X.length cap) X.length (tokv X)] w' := by
  have hM0 : True := trivial  -- have hM
  refine Calls.of_ends (vs := [.slice av X.length cap]) Tryd.func16 rfl Tryd.ntmps16 rfl ?_
  intro a hA
  replace hA : St 36 [(0, _)] a := hA
  refine Ends.seq ?_
  refine Ends.region ?_
  refine S.val hA (R.assign rfl) rfl ?_; clear hA a; intro a hA
  refine S.done ?_
  replace hA : St 36 [(0, _)] a := hA.sub ((.cons rfl .nil))
  refine Ends.seq ?_
  refine Ends.region ?_
  refine S.val hA (R.assign rfl) rfl ?_; clear hA a; intro a hA
  refine S.done ?_
  replace hA : St 36 [(0, _), (3, _)] a := hA.sub ((.cons rfl (.cons rfl .nil)))
  refine Ends.seq ?_
  refine Ends.seq ?_
  refine Ends.region ?_
  refine S.val hA (R.assign rfl) rfl ?_; clear hA a; intro a hA
  refine S.done ?_
  replace hA : St 36 [(0, _), (3, _), (4, _)] a := hA.sub ((.cons rfl (.cons rfl (.cons rfl .nil))))
  refine Ends.block ?_
  replace hM := hM.ownNil 58 4
  replace hM : Mem _ _ [own 58 4 (.slice none (((X.take 0)).length) 0) (((X.take 0)).length) (tokv ((X.take 0))), own 36 4 (.slice av X.length cap) X.length (tokv X)] _ := hM
  refine Ends.loop (σ := Nat × Option Addr × Nat) (fun (i, v, c) (a : Act) (wv : World) => St 36 [(0, .slice av X.length cap), (3, .slice v ((X.take i).length) c), (4, .int .i64 ((i : Int)))] a ∧ Mem w (feet [own 36 4 (.slice av X.length cap) X.length (tokv X)]) [own 58 4 (.slice v (((X.take i)).length) c) (((X.take i)).length) (tokv ((X.take i))), own 36 4 (.slice av X.length cap) X.length (tokv X)] wv ∧ (i ≤ X.length)) (fun (i, v, c) => X.length - i) ((0, none, 0)) ⟨hA.sub ((.cons rfl (.cons rfl (.cons rfl .nil)))), hM, (Nat.zero_le _)⟩ ?_
  clear hA hM a
  rintro ⟨i, v, c⟩ a w1 ⟨hA, hM, hi⟩ hNext
  refine Ends.seq ?_
  refine Ends.seq ?_
  refine Ends.region ?_
  refine S.val hA (R.move rfl) rfl ?_; clear hA a; intro a hA
  refine S.val hA (R.move rfl) rfl ?_; clear hA a; intro a hA
  refine S.val hA (R.lenS Tryd.underlying23 rfl rfl) rfl ?_; clear hA a; intro a hA
  refine S.val hA (R.lss rfl rfl) rfl ?_; clear hA a; intro a hA
  refine S.done ?_
  replace hA : St 36 [(0, _), (3, _), (4, _), (8, _)] a := hA.sub ((.cons rfl (.cons rfl (.cons rfl (.cons rfl .nil)))))
  refine Ends.ite hA rfl (fun hc1 => ?_) (fun hc1 => ?_)
  ·
    refine Ends.skip ?_
    refine Ends.seq ?_
    refine Ends.block ?_
    obtain ⟨g2, hg2⟩ := hM.ownAt (k := 1) rfl (by omega)
    subst hg2
    replace hM : Mem _ _ [own 58 4 (.slice v (((X.take i)).length) c) (((X.take i)).length) (tokv ((X.take i))), own 36 4 (.slice (some ⟨g2, 0, none⟩) X.length cap) X.length (tokv X)] _ := hM
    have htl : (X.take i).length = i := by rw [List.length_take]; omega
    refine Ends.drawn (Mem w (feet [own 36 4 (.slice (some ⟨g2, 0, none⟩) X.length cap) X.length (tokv X)]) [own 36 4 (.slice (some ⟨g2, 0, none⟩) X.length cap) X.length (tokv X)]) (.cons (0, true) (.cons (1, true) (.cons (2, true) (.cons (3, true) (.cons (4, true) (.cons (5, true) (.cons (6, true) (.cons (7, true) (.cons (8, true) (.cons (9, true) (.cons (10, true) (.cons (11, true) (.cons (12, true) (.cons (13, true) (.cons (14, true) (.cons (15, true) (.cons (16, true) (.cons (17, true) (.cons (18, true) (.cons (19, true) (.cons (20, true) (.cons (21, true) (.cons (22, false) (.cons (23, false) (.cons (24, true) .nil))))))))))))))))))))))))) 25 mixed (by kernel_rfl) (by kernel_rfl) (by kernel_rfl) (hM.drop 0).drew ?_
    replace hM := hM.drew
    refine D.valF hA rfl (fun _ => R.move rfl) rfl ?_; clear hA a; intro a hA
    refine D.valF hA rfl (fun _ => R.move rfl) rfl ?_; clear hA a; intro a hA
    refine D.valF hA rfl (fun _ => R.move rfl) rfl ?_; clear hA a; intro a hA
    refine D.valF hA rfl (fun _ => R.indexAddr (q := i * 4) sl23 rfl rfl (by omega) (by omega)) rfl ?_; clear hA a; intro a hA
    refine D.valF hA rfl (fun _ => R.fieldAddr (q := i * 4 + 0) fi36_0 rfl rfl rfl) rfl ?_; clear hA a; intro a hA
    refine D.val hA rfl (by kernel_rfl) (fun _ hM => R.load sz3 rfl (hM.tokRow (k := 0) rfl (i := i) (by omega) 0 _ rfl)) rfl ?_; clear hA a; intro a hA
    refine D.valF hA rfl (fun _ => R.move rfl) rfl ?_; clear hA a; intro a hA
    refine D.valF hA rfl (fun _ => R.move rfl) rfl ?_; clear hA a; intro a hA
    refine D.valF hA rfl (fun _ => R.indexAddr (q := i * 4) sl23 rfl rfl (by omega) (by omega)) rfl ?_; clear hA a; intro a hA
    refine D.valF hA rfl (fun _ => R.fieldAddr (q := i * 4 + 1) fi36_1 rfl rfl rfl) rfl ?_; clear hA a; intro a hA
    refine D.val hA rfl (by kernel_rfl) (fun _ hM => R.load sz9 rfl (hM.tokRow (k := 0) rfl (i := i) (by omega) 1 _ rfl)) rfl ?_; clear hA a; intro a hA
    refine D.valF hA rfl (fun _ => R.move rfl) rfl ?_; clear hA a; intro a hA
    refine D.valF hA rfl (fun _ => R.move rfl) rfl ?_; clear hA a; intro a hA
    refine D.valF hA rfl (fun _ => R.indexAddr (q := i * 4) sl23 rfl rfl (by omega) (by omega)) rfl ?_; clear hA a; intro a hA
    refine D.valF hA rfl (fun _ => R.fieldAddr (q := i * 4 + 2) fi36_2 rfl rfl rfl) rfl ?_; clear hA a; intro a hA
    refine D.val hA rfl (by kernel_rfl) (fun _ hM => R.load sz3 rfl (hM.tokRow (k := 0) rfl (i := i) (by omega) 2 _ rfl)) rfl ?_; clear hA a; intro a hA
    refine D.valF hA rfl (fun _ => R.move rfl) rfl ?_; clear hA a; intro a hA
    refine D.valF hA rfl (fun _ => R.move rfl) rfl ?_; clear hA a; intro a hA
    refine D.valF hA rfl (fun _ => R.indexAddr (q := i * 4) sl23 rfl rfl (by omega) (by omega)) rfl ?_; clear hA a; intro a hA
    refine D.valF hA rfl (fun _ => R.fieldAddr (q := i * 4 + 3) fi36_3 rfl rfl rfl) rfl ?_; clear hA a; intro a hA
    refine D.val hA rfl (by kernel_rfl) (fun _ hM => R.load sz3 rfl (hM.tokRow (k := 0) rfl (i := i) (by omega) 3 _ rfl)) rfl ?_; clear hA a; intro a hA
    refine D.valF hA rfl (fun _ => R.build (cells := #[.int .i64 ((X.getD i tz).k), .string ((X.getD i tz).x), .int .i64 ((X.getD i tz).n), .int .i64 ((X.getD i tz).a)]) rfl (by kernel_rfl)) rfl ?_; clear hA a; intro a hA
    refine D.buildSl (cells := #[.int .i64 ((X.getD i tz).k), .string ((X.getD i tz).x), .int .i64 ((X.getD i tz).n), .int .i64 ((X.getD i tz).a)]) hA hM rfl Tryd.underlying27 info58 rfl rfl rfl rfl (by kernel_rfl) rfl ?_; clear hA hM a; intro b3 w2 hb4 hM; refine ⟨(fun hM => (hM.drop 0)) hM.tail, fun a hA => ?_⟩
    replace hM : Mem _ _ [pt b3 #[.int .i64 ((X.getD i tz).k), .string ((X.getD i tz).x), .int .i64 ((X.getD i tz).n), .int .i64 ((X.getD i tz).a)] 58, own 58 4 (.slice v (((X.take i)).length) c) (((X.take i)).length) (tokv ((X.take i))), own 36 4 (.slice (some ⟨g2, 0, none⟩) X.length cap) X.length (tokv X)] _ := hM
    refine D.append (k := 1) (k2 := 0) hA hM rfl rfl rfl Tryd.underlying27 info58 rfl rfl rfl rfl rfl rfl rfl rfl rfl (by first | omega | (show (_ + 1) * 40 ≤ 140737488355328; omega) | (unfold maxLen; omega)) (by first | omega | (show (_ + 1) * 40 ≤ 140737488355328; omega) | (unfold maxLen; omega)) rfl ?_; clear hA hM a; intro a5 c6 w3 hM
    replace hM : Mem _ _ [pt b3 #[.int .i64 ((X.getD i tz).k), .string ((X.getD i tz).x), .int .i64 ((X.getD i tz).n), .int .i64 ((X.getD i tz).a)] 58, own 58 4 (.slice a5 ((((X.take i)).length) + 1) c6) ((((X.take i)).length) + 1) (tokv ((X.take i)) ++ [.int .i64 ((X.getD i tz).k), .string ((X.getD i tz).x), .int .i64 ((X.getD i tz).n), .int .i64 ((X.getD i tz).a)]), own 36 4 (.slice (some ⟨g2, 0, none⟩) X.length cap) X.length (tokv X)] _ := hM
    have hl7 : (((X.take i)).length) + 1 = ((X.take i) ++ [(⟨(X.getD i tz).k, (X.getD i tz).x, (X.getD i tz).n, (X.getD i tz).a⟩ : Tok)]).length := by simp
    rw [hl7, show tokv ((X.take i)) ++ [.int .i64 ((X.getD i tz).k), .string ((X.getD i tz).x), .int .i64 ((X.getD i tz).n), .int .i64 ((X.getD i tz).a)] = tokv ((X.take i) ++ [(⟨(X.getD i tz).k, (X.getD i tz).x, (X.getD i tz).n, (X.getD i tz).a⟩ : Tok)]) from tokv_app ((X.take i)) (⟨(X.getD i tz).k, (X.getD i tz).x, (X.getD i tz).n, (X.getD i tz).a⟩ : Tok)] at hM
    replace hM := hM.drop 0
    replace hM : Mem _ _ [own 58 4 (.slice a5 ((((X.take i) ++ [(⟨(X.getD i tz).k, (X.getD i tz).x, (X.getD i tz).n, (X.getD i tz).a⟩ : Tok)])).length) c6) ((((X.take i) ++ [(⟨(X.getD i tz).k, (X.getD i tz).x, (X.getD i tz).n, (X.getD i tz).a⟩ : Tok)])).length) (tokv (((X.take i) ++ [(⟨(X.getD i tz).k, (X.getD i tz).x, (X.getD i tz).n, (X.getD i tz).a⟩ : Tok)]))), own 36 4 (.slice (some ⟨g2, 0, none⟩) X.length cap) X.length (tokv X)] _ := hM
    refine ⟨(hM.drop 0), fun a hA => ?_⟩; rw [hl7] at hA; clear hl7
    refine D.valF hA rfl (fun _ => R.assign rfl) rfl ?_; clear hA a; intro a hA
    refine D.done ?_
    replace hA : St 36 [(0, _), (3, _), (4, _)] a := hA.sub ((.cons rfl (.cons rfl (.cons rfl .nil))))
    refine Ends.inBlock ?_
    refine Ends.region ?_
    refine S.val hA (R.move rfl) rfl ?_; clear hA a; intro a hA
    refine S.val hA (R.addI rfl rfl (r := ((i : Int)) + 1) rfl (by omega)) rfl ?_; clear hA a; intro a hA
    refine S.val hA (R.assign rfl) rfl ?_; clear hA a; intro a hA
    refine S.done ?_
    replace hA : St 36 [(0, _), (3, _), (4, _)] a := hA.sub ((.cons rfl (.cons rfl (.cons rfl .nil))))
    rw [tok_take (X := X) (i := i) (by omega)] at hM hA
    exact hNext ((i + 1, a5, c6)) _ _ ((by show X.length - (i + 1) < X.length - i; omega)) ⟨hA.sub ((.cons rfl (.cons rfl (.cons rfl .nil)))), hM, (by omega)⟩
  ·
    refine Ends.exit rfl ?_
    replace hA : St 36 [(3, _)] a := hA.sub ((.cons rfl .nil))
    refine Ends.seq ?_
    refine Ends.region ?_
    refine S.val hA (R.move rfl) rfl ?_; clear hA a; intro a hA
    refine S.val hA (R.assign rfl) rfl ?_; clear hA a; intro a hA
    refine S.done ?_
    replace hA : St 36 [(2, _)] a := hA.sub ((.cons rfl .nil))
    refine Ends.ret1 Tryd.func16 Tryd.results16 hA rfl ?_
    obtain rfl : i = X.length := by omega
    rw [List.take_length] at hA hM
    exact ⟨v, c, by rw [List.take_length], hM⟩
set_option maxRecDepth 100000 in
set_option maxHeartbeats 400000 in
theorem rsame_any (av bv : Option Addr) (cap cbp : Nat) (X : List Tok) (hX : X.length ≤ 1000000) (w : World) (hM : Mem w (feet [own 58 4 (.slice av X.length cap) X.length (tokv X), own 58 4 (.slice bv X.length cbp) X.length (tokv X)]) [own 58 4 (.slice av X.length cap) X.length (tokv X), own 58 4 (.slice bv X.length cbp) X.length (tokv X)] w) :
    Calls Tryd.prog 15 #[.slice av X.length cap, .slice bv X.length cbp] w fun e w' => e = .returned (.bool true) ∧ Mem w (feet [own 58 4 (.slice av X.length cap) X.length (tokv X), own 58 4 (.slice bv X.length cbp) X.length (tokv X)]) [own 58 4 (.slice av X.length cap) X.length (tokv X), own 58 4 (.slice bv X.length cbp) X.length (tokv X)] w' := by
  have hM0 : True := trivial  -- have hM
  refine Calls.of_ends (vs := [.slice av X.length cap, .slice bv X.length cbp]) Tryd.func15 rfl Tryd.ntmps15 rfl ?_
  intro a hA
  replace hA : St 26 [(0, _), (1, _)] a := hA
  refine Ends.seq ?_
  refine Ends.region ?_
  refine S.val hA (R.assign rfl) rfl ?_; clear hA a; intro a hA
  refine S.done ?_
  replace hA : St 26 [(0, _), (1, _)] a := hA.sub ((.cons rfl (.cons rfl .nil)))
  refine Ends.seq ?_
  refine Ends.seq ?_
  refine Ends.region ?_
  refine S.val hA (R.move rfl) rfl ?_; clear hA a; intro a hA
  refine S.val hA (R.lenS Tryd.underlying27 rfl rfl) rfl ?_; clear hA a; intro a hA
  refine S.val hA (R.move rfl) rfl ?_; clear hA a; intro a hA
  refine S.val hA (R.lenS Tryd.underlying27 rfl rfl) rfl ?_; clear hA a; intro a hA
  refine S.val hA (R.ff (R.neq rfl rfl) (by first | decide | simp | omega)) rfl ?_; clear hA a; intro a hA
  refine S.done ?_
  replace hA : St 26 [(0, _), (1, _), (10, _)] a := hA.sub ((.cons rfl (.cons rfl (.cons rfl .nil))))
  refine Ends.condF hA rfl ?_
  refine Ends.skip ?_
  refine Ends.seq ?_
  refine Ends.seq ?_
  refine Ends.region ?_
  refine S.val hA (R.assign rfl) rfl ?_; clear hA a; intro a hA
  refine S.done ?_
  replace hA : St 26 [(0, _), (1, _), (5, _)] a := hA.sub ((.cons rfl (.cons rfl (.cons rfl .nil))))
  refine Ends.block ?_
  refine Ends.loop (σ := Nat) (fun i (a : Act) (wv : World) => St 26 [(0, .slice av X.length cap), (1, .slice bv X.length cbp), (5, .int .i64 ((i : Int)))] a ∧ Mem w (feet [own 58 4 (.slice av X.length cap) X.length (tokv X), own 58 4 (.slice bv X.length cbp) X.length (tokv X)]) [own 58 4 (.slice av X.length cap) X.length (tokv X), own 58 4 (.slice bv X.length cbp) X.length (tokv X)] wv ∧ (i ≤ X.length)) (fun i => X.length - i) 0 ⟨hA.sub ((.cons rfl (.cons rfl (.cons rfl .nil)))), hM, (Nat.zero_le _)⟩ ?_
  clear hA hM a
  rintro i a w1 ⟨hA, hM, hi⟩ hNext
  refine Ends.seq ?_
  refine Ends.seq ?_
  refine Ends.region ?_
  refine S.val hA (R.move rfl) rfl ?_; clear hA a; intro a hA
  refine S.val hA (R.move rfl) rfl ?_; clear hA a; intro a hA
  refine S.val hA (R.lenS Tryd.underlying27 rfl rfl) rfl ?_; clear hA a; intro a hA
  refine S.val hA (R.lss rfl rfl) rfl ?_; clear hA a; intro a hA
  refine S.done ?_
  replace hA : St 26 [(0, _), (1, _), (5, _), (14, _)] a := hA.sub ((.cons rfl (.cons rfl (.cons rfl (.cons rfl .nil)))))
  refine Ends.ite hA rfl (fun hc1 => ?_) (fun hc1 => ?_)
  ·
    refine Ends.skip ?_
    refine Ends.seq ?_
    refine Ends.block ?_
    refine Ends.seq ?_
    obtain ⟨g2, hg2⟩ := hM.ownAt (k := 0) rfl (by omega)
    subst hg2
    replace hM : Mem _ _ [own 58 4 (.slice (some ⟨g2, 0, none⟩) X.length cap) X.length (tokv X), own 58 4 (.slice bv X.length cbp) X.length (tokv X)] _ := hM
    obtain ⟨g3, hg3⟩ := hM.ownAt (k := 1) rfl (by omega)
    subst hg3
    replace hM : Mem _ _ [own 58 4 (.slice (some ⟨g2, 0, none⟩) X.length cap) X.length (tokv X), own 58 4 (.slice (some ⟨g3, 0, none⟩) X.length cbp) X.length (tokv X)] _ := hM
    refine Ends.drawn (Mem w (feet [own 58 4 (.slice (some ⟨g2, 0, none⟩) X.length cap) X.length (tokv X), own 58 4 (.slice (some ⟨g3, 0, none⟩) X.length cbp) X.length (tokv X)]) [own 58 4 (.slice (some ⟨g2, 0, none⟩) X.length cap) X.length (tokv X), own 58 4 (.slice (some ⟨g3, 0, none⟩) X.length cbp) X.length (tokv X)]) (.cons (0, true) (.cons (1, true) (.cons (2, true) (.cons (3, true) (.cons (4, true) (.cons (5, true) (.cons (6, true) (.cons (7, true) (.cons (8, true) .nil))))))))) 9 mixed (by kernel_rfl) (by kernel_rfl) (by kernel_rfl) hM.drew ?_
    replace hM := hM.drew
    refine D.valF hA rfl (fun _ => R.move rfl) rfl ?_; clear hA a; intro a hA
    refine D.valF hA rfl (fun _ => R.move rfl) rfl ?_; clear hA a; intro a hA
    refine D.valF hA rfl (fun _ => R.indexAddr (q := i * 4) sl27 rfl rfl (by omega) (by omega)) rfl ?_; clear hA a; intro a hA
    refine D.val hA rfl (by kernel_rfl) (fun _ hM => R.loadA sz58 rfl (hM.tokRow (k := 0) rfl (i := i) (by omega)) rfl) rfl ?_; clear hA a; intro a hA
    refine D.valF hA rfl (fun _ => R.move rfl) rfl ?_; clear hA a; intro a hA
    refine D.valF hA rfl (fun _ => R.move rfl) rfl ?_; clear hA a; intro a hA
    refine D.valF hA rfl (fun _ => R.indexAddr (q := i * 4) sl27 rfl rfl (by omega) (by omega)) rfl ?_; clear hA a; intro a hA
    refine D.val hA rfl (by kernel_rfl) (fun _ hM => R.loadA sz58 rfl (hM.tokRow (k := 1) rfl (i := i) (by omega)) rfl) rfl ?_; clear hA a; intro a hA
    refine D.valF hA rfl (fun _ => R.to (v := .bool false) (R.neqS (b := true) Tryd.eqGuardType58 (fun w => eq_rtok _ _ _ _ w) rfl rfl) rfl) rfl ?_; clear hA a; intro a hA
    refine D.done ?_
    replace hA : St 26 [(0, _), (1, _), (5, _), (25, _)] a := hA.sub ((.cons rfl (.cons rfl (.cons rfl (.cons rfl .nil)))))
    refine Ends.condF hA rfl ?_
    refine Ends.skip ?_
    refine Ends.inBlock ?_
    refine Ends.region ?_
    refine S.val hA (R.move rfl) rfl ?_; clear hA a; intro a hA
    refine S.val hA (R.addI rfl rfl (r := ((i : Int)) + 1) rfl (by omega)) rfl ?_; clear hA a; intro a hA
    refine S.val hA (R.assign rfl) rfl ?_; clear hA a; intro a hA
    refine S.done ?_
    replace hA : St 26 [(0, _), (1, _), (5, _)] a := hA.sub ((.cons rfl (.cons rfl (.cons rfl .nil))))
    exact hNext ((i + 1)) _ _ ((by show X.length - (i + 1) < X.length - i; omega)) ⟨hA.sub ((.cons rfl (.cons rfl (.cons rfl .nil)))), hM, (by omega)⟩
  ·
    refine Ends.exit rfl ?_
    replace hA : St 26 [] a := hA.sub (.nil)
    refine Ends.seq ?_
    refine Ends.region ?_
    refine S.val hA (R.assign rfl) rfl ?_; clear hA a; intro a hA
    refine S.done ?_
    replace hA : St 26 [(4, _)] a := hA.sub ((.cons rfl .nil))
    refine Ends.ret1 Tryd.func15 Tryd.results15 hA rfl ?_
    exact ⟨rfl, hM⟩
theorem scF_len (s : ByteArray) : ∀ f p X, X.length + (s.size - p) ≤ 900000 → X.length ≤ p → p ≤ s.size → s.size ≤ 900000 → (scF s f p X).1.length ≤ 1000000
  | 0, p, X, h, _, _, _ => by simp [scF]; omega
  | f + 1, p, X, h, h2, h3, h4 => by
    rw [scF]
    split
    · rename_i hp
      have hbd := lst_bd hp
      split
      · simp
      · rename_i he
        have he' : (lst s p).1 = 0 := Classical.byContradiction he
        have := hbd.2.2.1 he'
        exact scF_len s f _ _ (by rw [List.length_append]; omega) (by rw [List.length_append]; omega) hbd.2.1 h4
    · simp; omega
theorem scan_len (s : ByteArray) : (scan s).1.length ≤ 1000000 := by
  unfold scan
  split
  · simp
  · exact scF_len s _ _ _ (by simp; omega) (by simp) (by omega) (by omega)
set_option maxRecDepth 100000 in
set_option maxHeartbeats 400000 in
theorem lexScans_w (s : ByteArray) (hs : s.size ≤ 9223372036854775807) (w : World) (htab : U8T w) :
    Calls Tryd.prog 3 #[.string s] w fun e w' => e = .returned (.bool true) ∧ Below w.heap.size w w' := by
  have hM := Mem.start w
  refine Calls.of_ends (vs := [.string s]) Tryd.func3 rfl Tryd.ntmps3 rfl ?_
  intro a hA
  replace hA : St 42 [(0, _)] a := hA
  refine Ends.seq ?_
  refine Ends.region ?_
  refine S.val hA (R.assign rfl) rfl ?_; clear hA a; intro a hA
  refine S.done ?_
  replace hA : St 42 [(0, _)] a := hA.sub ((.cons rfl .nil))
  refine Ends.seq ?_
  refine Ends.seq ?_
  refine Ends.region ?_
  refine S.val hA (R.move rfl) rfl ?_; clear hA a; intro a hA
  refine S.val hA (R.lenStr Tryd.underlying9 rfl rfl) rfl ?_; clear hA a; intro a hA
  refine S.val hA (R.gtr rfl rfl) rfl ?_; clear hA a; intro a hA
  refine S.done ?_
  replace hA : St 42 [(0, _), (11, _)] a := hA.sub ((.cons rfl (.cons rfl .nil)))
  refine Ends.ite hA rfl (fun hc1 => ?_) (fun hc1 => ?_)
  ·
    refine Ends.seq ?_
    refine Ends.region ?_
    refine S.call hA (R.callF Tryd.func12 rfl rfl rfl) rfl (lexes_any _ (htab.mem hM OffT.nof)) ?_; clear hA a
    rintro e w1 ⟨rfl, hb⟩
    replace hM := hM.callB hb; clear hb
    refine ⟨.bool true, rfl, fun a hA => ?_⟩
    refine S.val hA (R.assign rfl) rfl ?_; clear hA a; intro a hA
    refine S.done ?_
    replace hA : St 42 [(0, _), (2, _)] a := hA.sub ((.cons rfl (.cons rfl .nil)))
    refine Ends.ret1 Tryd.func3 Tryd.results3 hA rfl ?_
    exact ⟨rfl, hM.nilL.below⟩
  ·
    refine Ends.skip ?_
    refine Ends.seq ?_
    refine Ends.region ?_
    refine S.val hA (R.move rfl) rfl ?_; clear hA a; intro a hA
    refine S.call hA (R.callF Tryd.func13 rfl rfl rfl) rfl (scan_any s (by omega) _ (htab.mem hM OffT.nof)) ?_; clear hA a
    rintro e w2 ⟨a2, c3, rfl, hn⟩
    replace hM : Mem _ _ [own 36 4 (.slice a2 (((scan s).1).length) c3) (((scan s).1).length) (tokv ((scan s).1))] _ := hM.call hn; clear hn
    refine ⟨.tuple #[.slice a2 ((scan s).1.length) c3, .int .i64 ((scan s).2.1), .int .i64 ((scan s).2.2)], rfl, fun a hA => ?_⟩
    refine S.val hA (R.move rfl) rfl ?_; clear hA a; intro a hA
    refine S.val hA (R.extract (v := .slice a2 ((scan s).1.length) c3) rfl rfl) rfl ?_; clear hA a; intro a hA
    refine S.val hA (R.extract (v := .int .i64 ((scan s).2.1)) rfl rfl) rfl ?_; clear hA a; intro a hA
    refine S.val hA (R.extract (v := .int .i64 ((scan s).2.2)) rfl rfl) rfl ?_; clear hA a; intro a hA
    refine S.val hA (R.assign rfl) rfl ?_; clear hA a; intro a hA
    refine S.val hA (R.assign rfl) rfl ?_; clear hA a; intro a hA
    refine S.val hA (R.assign rfl) rfl ?_; clear hA a; intro a hA
    refine S.done ?_
    replace hA : St 42 [(0, _), (3, _), (4, _), (5, _)] a := hA.sub ((.cons rfl (.cons rfl (.cons rfl (.cons rfl .nil)))))
    refine Ends.seq ?_
    have hlen := scan_len s
    refine Ends.region ?_
    refine S.val hA (R.move rfl) rfl ?_; clear hA a; intro a hA
    refine S.call hA (R.callF Tryd.func14 rfl rfl rfl) rfl (rscan_any s (by omega) _) ?_; clear hA a
    rintro e w3 ⟨a4, c5, rfl, hn⟩
    replace hM : Mem _ _ [own 58 4 (.slice a4 (((scan s).1).length) c5) (((scan s).1).length) (tokv ((scan s).1)), own 36 4 (.slice a2 (((scan s).1).length) c3) (((scan s).1).length) (tokv ((scan s).1))] _ := hM.call hn; clear hn
    refine ⟨.tuple #[.slice a4 ((scan s).1.length) c5, .int .i64 ((scan s).2.1), .int .i64 ((scan s).2.2)], rfl, fun a hA => ?_⟩
    refine S.val hA (R.move rfl) rfl ?_; clear hA a; intro a hA
    refine S.val hA (R.extract (v := .slice a4 ((scan s).1.length) c5) rfl rfl) rfl ?_; clear hA a; intro a hA
    refine S.val hA (R.extract (v := .int .i64 ((scan s).2.1)) rfl rfl) rfl ?_; clear hA a; intro a hA
    refine S.val hA (R.extract (v := .int .i64 ((scan s).2.2)) rfl rfl) rfl ?_; clear hA a; intro a hA
    refine S.val hA (R.assign rfl) rfl ?_; clear hA a; intro a hA
    refine S.val hA (R.assign rfl) rfl ?_; clear hA a; intro a hA
    refine S.val hA (R.assign rfl) rfl ?_; clear hA a; intro a hA
    refine S.done ?_
    replace hA : St 42 [(3, _), (4, _), (5, _), (6, _), (7, _), (8, _)] a := hA.sub ((.cons rfl (.cons rfl (.cons rfl (.cons rfl (.cons rfl (.cons rfl .nil)))))))
    refine Ends.seq ?_
    refine Ends.region ?_
    refine S.call hA (R.callF Tryd.func12 rfl rfl rfl) rfl (lexes_any _ (htab.mem hM OffT.nof)) ?_; clear hA a
    rintro e w4 ⟨rfl, hb⟩
    replace hM := hM.callB hb; clear hb
    refine ⟨.bool true, rfl, fun a hA => ?_⟩
    refine S.val hA (R.move rfl) rfl ?_; clear hA a; intro a hA
    refine S.valg (dj := 26) hA (by kernel_rfl) rfl (R.move rfl) rfl ?_; clear hA a; intro a hA
    refine S.valg (dj := 26) hA (by kernel_rfl) rfl (R.move rfl) rfl ?_; clear hA a; intro a hA
    refine S.valg (dj := 26) hA (by kernel_rfl) rfl (R.tt (R.eql rfl rfl) (by first | decide | simp | omega)) rfl ?_; clear hA a; intro a hA
    refine S.val hA (R.pickT rfl rfl) rfl ?_; clear hA a; intro a hA
    refine S.val hA (R.move rfl) rfl ?_; clear hA a; intro a hA
    refine S.valg (dj := 31) hA (by kernel_rfl) rfl (R.move rfl) rfl ?_; clear hA a; intro a hA
    refine S.valg (dj := 31) hA (by kernel_rfl) rfl (R.move rfl) rfl ?_; clear hA a; intro a hA
    refine S.valg (dj := 31) hA (by kernel_rfl) rfl (R.tt (R.eql rfl rfl) (by first | decide | simp | omega)) rfl ?_; clear hA a; intro a hA
    refine S.val hA (R.pickT rfl rfl) rfl ?_; clear hA a; intro a hA
    refine S.val hA (R.move rfl) rfl ?_; clear hA a; intro a hA
    refine S.valg (dj := 36) hA (by kernel_rfl) rfl (R.move rfl) rfl ?_; clear hA a; intro a hA
    replace hM := hM.front (k := 1) rfl
    replace hM : Mem _ _ [own 36 4 (.slice a2 (((scan s).1).length) c3) (((scan s).1).length) (tokv ((scan s).1)), own 58 4 (.slice a4 (((scan s).1).length) c5) (((scan s).1).length) (tokv ((scan s).1))] _ := hM
    refine S.callg (dj := 36) hA (by kernel_rfl) rfl (R.callF Tryd.func16 rfl rfl rfl) rfl (from_any a2 c3 ((scan s).1) hlen _ (hM.hereN 1)) ?_; clear hA a
    rintro e w5 ⟨a6, c7, rfl, hn⟩
    replace hM : Mem _ _ [own 58 4 (.slice a6 (((scan s).1).length) c7) (((scan s).1).length) (tokv ((scan s).1)), own 36 4 (.slice a2 (((scan s).1).length) c3) (((scan s).1).length) (tokv ((scan s).1)), own 58 4 (.slice a4 (((scan s).1).length) c5) (((scan s).1).length) (tokv ((scan s).1))] _ := hM.callL 1 hn; clear hn
    refine ⟨.slice a6 (((scan s).1).length) c7, rfl, fun a hA => ?_⟩
    refine S.valg (dj := 36) hA (by kernel_rfl) rfl (R.move rfl) rfl ?_; clear hA a; intro a hA
    replace hM := hM.front (k := 2) rfl
    replace hM := hM.front (k := 1) rfl
    replace hM : Mem _ _ [own 58 4 (.slice a6 (((scan s).1).length) c7) (((scan s).1).length) (tokv ((scan s).1)), own 58 4 (.slice a4 (((scan s).1).length) c5) (((scan s).1).length) (tokv ((scan s).1)), own 36 4 (.slice a2 (((scan s).1).length) c3) (((scan s).1).length) (tokv ((scan s).1))] _ := hM
    refine S.callg (dj := 36) hA (by kernel_rfl) rfl (R.callF Tryd.func15 rfl rfl rfl) rfl (rsame_any a6 a4 c7 c5 ((scan s).1) hlen _ (hM.hereN 2)) ?_; clear hA a
    rintro e w6 ⟨rfl, hn⟩
    replace hM : Mem _ _ [own 58 4 (.slice a6 (((scan s).1).length) c7) (((scan s).1).length) (tokv ((scan s).1)), own 58 4 (.slice a4 (((scan s).1).length) c5) (((scan s).1).length) (tokv ((scan s).1)), own 36 4 (.slice a2 (((scan s).1).length) c3) (((scan s).1).length) (tokv ((scan s).1))] _ := hM.callL 2 hn; clear hn
    refine ⟨.bool true, rfl, fun a hA => ?_⟩
    refine S.val hA (R.pickT rfl rfl) rfl ?_; clear hA a; intro a hA
    refine S.val hA (R.assign rfl) rfl ?_; clear hA a; intro a hA
    refine S.done ?_
    replace hA : St 42 [(2, _)] a := hA.sub ((.cons rfl .nil))
    refine Ends.ret1 Tryd.func3 Tryd.results3 hA rfl ?_
    exact ⟨rfl, hM.nilL.below⟩
theorem lexScans_any (s : ByteArray) (hs : s.size ≤ maxLen) (w : World) (htab : U8T w) : Calls Tryd.prog 3 #[.string s] w fun e w' => e = .returned (.bool true) ∧ Below w.heap.size w w' := lexScans_w s hs w htab
end Go.Proofs.YtdbbigjoloinpaaDoor
