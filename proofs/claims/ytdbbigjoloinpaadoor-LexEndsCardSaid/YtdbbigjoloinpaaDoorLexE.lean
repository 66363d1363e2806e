/-
  The law LexEnds.
-/
import Derived.Test.YtdbbigjoloinpaaDoorLexL
import Derived.Test.YtdbbigjoloinpaaDoorLex2
namespace Go.Proofs.YtdbbigjoloinpaaDoor
open Go.RowKit
theorem eq_ltok (k n a : Int) (x : ByteArray) (w : World) : (Op.equalIn 10000 36 (.agg #[.int .i64 k, .string x, .int .i64 n, .int .i64 a]) (.agg #[.int .i64 k, .string x, .int .i64 n, .int .i64 a])).run Tryd.prog w = .ok true w := by
  have u3 := Tryd.underlying3
  have q3 := Tryd.isAgg3
  have z3 := Tryd.sizeOf3
  have u4 := Tryd.underlying9
  have q4 := Tryd.isAgg9
  have z4 := Tryd.sizeOf9
  have hS : Tryd.prog.underlying 36 = some (.struct (Tryd.prog.fieldsOf 36)) := by kernel_rfl
  have hp : Tryd.prog.stoodInHeld 36 = false := by kernel_rfl
  rw [show (10000 : Nat) = 9999 + 1 from rfl, run_equalIn_struct w 9999 36 _ _ hS hp]
  simp only [Program.fieldsOf, Tryd.underlying36]
  go_simp

set_option maxRecDepth 100000 in
set_option maxHeartbeats 400000 in
theorem lexEnds_w (s : ByteArray) (hs : s.size ≤ 9223372036854775807) (w : World) (htab : U8T w) :
    Calls Tryd.prog 5 #[.string s] w fun e w' => e = .returned (.bool true) ∧ Below w.heap.size w w' := by
  have hM := Mem.start w
  refine Calls.of_ends (vs := [.string s]) Tryd.func5 rfl Tryd.ntmps5 rfl ?_
  intro a hA
  replace hA : St 106 [(0, _)] a := hA
  refine Ends.seq ?_
  refine Ends.region ?_
  refine S.val hA (R.assign rfl) rfl ?_; clear hA a; intro a hA
  refine S.done ?_
  replace hA : St 106 [(0, _)] a := hA.sub ((.cons rfl .nil))
  refine Ends.seq ?_
  refine Ends.seq ?_
  refine Ends.region ?_
  refine S.val hA (R.move rfl) rfl ?_; clear hA a; intro a hA
  refine S.val hA (R.lenStr Tryd.underlying9 rfl rfl) rfl ?_; clear hA a; intro a hA
  refine S.val hA (R.gtr rfl rfl) rfl ?_; clear hA a; intro a hA
  refine S.done ?_
  replace hA : St 106 [(0, _), (9, _)] a := hA.sub ((.cons rfl (.cons rfl .nil)))
  refine Ends.ite hA rfl (fun hc1 => ?_) (fun hc1 => ?_)
  ·
    refine Ends.seq ?_
    refine Ends.region ?_
    refine S.call hA (R.callF Tryd.func12 rfl rfl rfl) rfl (lexes_any _ (htab.mem hM OffT.nof)) ?_; clear hA a
    rintro e w1 ⟨rfl, hb⟩
    replace hM := hM.callB hb; clear hb
    refine ⟨.bool true, rfl, fun a hA => ?_⟩
    refine S.val hA (R.assign rfl) rfl ?_; clear hA a; intro a hA
    refine S.done ?_
    replace hA : St 106 [(0, _), (2, _)] a := hA.sub ((.cons rfl (.cons rfl .nil)))
    refine Ends.ret1 Tryd.func5 Tryd.results5 hA rfl ?_
    exact ⟨rfl, hM.nilL.below⟩
  ·
    refine Ends.skip ?_
    refine Ends.seq ?_
    refine Ends.region ?_
    refine S.val hA (R.move rfl) rfl ?_; clear hA a; intro a hA
    refine S.call hA (R.callF Tryd.func13 rfl rfl rfl) rfl (scan_any s (by omega) _ (htab.mem hM OffT.nof)) ?_; clear hA a
    rintro e w2 ⟨a2, c3, rfl, hn⟩
    replace hM : Mem _ _ [own 36 4 (.slice a2 (((scan s).1).length) c3) (((scan s).1).length) (tokv ((scan s).1))] _ := hM.call hn; clear hn
    refine ⟨.tuple #[.slice a2 ((scan s).1.length) c3, .int .i64 ((scan s).2.1), .int .i64 ((scan s).2.2)], rfl, fun a hA => ?_⟩
    refine S.val hA (R.move rfl) rfl ?_; clear hA a; intro a hA
    refine S.val hA (R.extract (v := .slice a2 ((scan s).1.length) c3) rfl rfl) rfl ?_; clear hA a; intro a hA
    refine S.val hA (R.extract (v := .int .i64 ((scan s).2.1)) rfl rfl) rfl ?_; clear hA a; intro a hA
    refine S.val hA (R.extract (v := .int .i64 ((scan s).2.2)) rfl rfl) rfl ?_; clear hA a; intro a hA
    refine S.val hA (R.assign rfl) rfl ?_; clear hA a; intro a hA
    refine S.val hA (R.assign rfl) rfl ?_; clear hA a; intro a hA
    refine S.val hA (R.assign rfl) rfl ?_; clear hA a; intro a hA
    refine S.done ?_
    replace hA : St 106 [(0, _), (3, _), (5, _)] a := hA.sub ((.cons rfl (.cons rfl (.cons rfl .nil))))
    refine Ends.seq ?_
    refine Ends.seq ?_
    have hlen := scan_len s
    refine Ends.region ?_
    refine S.call hA (R.callF Tryd.func12 rfl rfl rfl) rfl (lexes_any _ (htab.mem hM OffT.nof)) ?_; clear hA a
    rintro e w3 ⟨rfl, hb⟩
    replace hM := hM.callB hb; clear hb
    refine ⟨.bool true, rfl, fun a hA => ?_⟩
    refine S.val hA (R.not rfl) rfl ?_; clear hA a; intro a hA
    refine S.val hA (R.move rfl) rfl ?_; clear hA a; intro a hA
    refine S.valg (dj := 19) hA (by kernel_rfl) rfl (R.move rfl) rfl ?_; clear hA a; intro a hA
    refine S.valg (dj := 19) hA (by kernel_rfl) rfl (R.neq rfl rfl) rfl ?_; clear hA a; intro a hA
    refine S.val hA (R.pickF rfl rfl) rfl ?_; clear hA a; intro a hA
    refine S.done ?_
    replace hA : St 106 [(0, _), (3, _), (22, _)] a := hA.sub ((.cons rfl (.cons rfl (.cons rfl .nil))))
    refine Ends.ite hA rfl (fun hc4 => ?_) (fun hc4 => ?_)
    ·
      refine Ends.seq ?_
      have hnil := (scan_TI s).2 hc4
      refine Ends.region ?_
      refine S.call hA (R.callF Tryd.func12 rfl rfl rfl) rfl (lexes_any _ (htab.mem hM OffT.nof)) ?_; clear hA a
      rintro e w4 ⟨rfl, hb⟩
      replace hM := hM.callB hb; clear hb
      refine ⟨.bool true, rfl, fun a hA => ?_⟩
      refine S.val hA (R.move rfl) rfl ?_; clear hA a; intro a hA
      refine S.valg (dj := 24) hA (by kernel_rfl) rfl (R.move rfl) rfl ?_; clear hA a; intro a hA
      refine S.valg (dj := 24) hA (by kernel_rfl) rfl (R.lenS Tryd.underlying23 rfl rfl) rfl ?_; clear hA a; intro a hA
      refine S.valg (dj := 24) hA (by kernel_rfl) rfl (R.tt (R.eql rfl rfl) (by rw [hnil]; rfl)) rfl ?_; clear hA a; intro a hA
      refine S.val hA (R.pickT rfl rfl) rfl ?_; clear hA a; intro a hA
      refine S.val hA (R.assign rfl) rfl ?_; clear hA a; intro a hA
      refine S.done ?_
      replace hA : St 106 [(0, _), (2, _), (3, _)] a := hA.sub ((.cons rfl (.cons rfl (.cons rfl .nil))))
      refine Ends.ret1 Tryd.func5 Tryd.results5 hA rfl ?_
      exact ⟨rfl, hM.nilL.below⟩
    ·
      refine Ends.skip ?_
      refine Ends.seq ?_
      refine Ends.seq ?_
      have he := Classical.byContradiction hc4
      have hlast := scan_last he
      refine Ends.region ?_
      refine S.val hA (R.assign rfl) rfl ?_; clear hA a; intro a hA
      refine S.done ?_
      replace hA : St 106 [(0, _), (3, _), (6, _)] a := hA.sub ((.cons rfl (.cons rfl (.cons rfl .nil))))
      refine Ends.block ?_
      refine Ends.loop (σ := Nat) (fun i (a : Act) (wv : World) => St 106 [(0, .string s), (3, .slice a2 ((scan s).1.length) c3), (6, .int .i64 ((i : Int)))] a ∧ Mem w nof [own 36 4 (.slice a2 (((scan s).1).length) c3) (((scan s).1).length) (tokv ((scan s).1))] wv ∧ (i + 1 ≤ (scan s).1.length)) (fun i => (scan s).1.length - i) 0 ⟨hA.sub ((.cons rfl (.cons rfl (.cons rfl .nil)))), hM, (by omega)⟩ ?_
      clear hA hM a
      rintro i a w5 ⟨hA, hM, hi⟩ hNext
      refine Ends.seq ?_
      refine Ends.seq ?_
      refine Ends.region ?_
      refine S.val hA (R.move rfl) rfl ?_; clear hA a; intro a hA
      refine S.val hA (R.move rfl) rfl ?_; clear hA a; intro a hA
      refine S.val hA (R.lenS Tryd.underlying23 rfl rfl) rfl ?_; clear hA a; intro a hA
      refine S.val hA (R.subI rfl rfl (r := (((scan s).1.length : Int)) - 1) rfl (by omega)) rfl ?_; clear hA a; intro a hA
      refine S.val hA (R.lss rfl rfl) rfl ?_; clear hA a; intro a hA
      refine S.done ?_
      replace hA : St 106 [(0, _), (3, _), (6, _), (33, _)] a := hA.sub ((.cons rfl (.cons rfl (.cons rfl (.cons rfl .nil)))))
      refine Ends.ite hA rfl (fun hc5 => ?_) (fun hc5 => ?_)
      ·
        refine Ends.skip ?_
        refine Ends.seq ?_
        refine Ends.block ?_
        refine Ends.seq ?_
        have hil : i + 1 < (scan s).1.length := by omega
        obtain ⟨⟨hkk, ha0, has, hax⟩, har⟩ := scan_rise he hil
        obtain ⟨g6, hg6⟩ := hM.ownAt (k := 0) rfl (by omega)
        subst hg6
        replace hM : Mem _ _ [own 36 4 (.slice (some ⟨g6, 0, none⟩) (((scan s).1).length) c3) (((scan s).1).length) (tokv ((scan s).1))] _ := hM
        skip
        by_cases hs7 : ((scan s).1.getD i tz).k = 1
        ·
          refine Ends.drawn (Mem w nof [own 36 4 (.slice (some ⟨g6, 0, none⟩) (((scan s).1).length) c3) (((scan s).1).length) (tokv ((scan s).1))]) (.cons (0, true) (.cons (1, true) (.cons (2, true) (.cons (3, true) (.cons (4, true) (.cons (5, true) (.cons (6, true) (.cons (7, true) (.cons (8, true) (.cons (9, true) (.cons (10, true) (.cons (11, true) (.cons (12, true) (.cons (13, true) (.cons (14, true) (.cons (15, true) (.cons (16, true) (.cons (17, true) (.cons (18, true) (.cons (19, true) (.cons (20, true) (.cons (21, true) (.cons (22, true) (.cons (23, true) (.cons (24, true) (.cons (25, true) (.cons (26, true) (.cons (27, true) (.cons (28, true) (.cons (29, true) (.cons (30, true) (.cons (31, true) (.cons (32, true) (.cons (33, true) (.cons (34, true) (.cons (35, true) (.cons (36, true) (.cons (37, true) (.cons (38, true) (.cons (39, true) (.cons (40, true) (.cons (41, true) (.cons (42, true) (.cons (43, true) (.cons (44, true) (.cons (45, true) (.cons (46, true) (.cons (47, true) (.cons (48, true) (.cons (49, true) (.cons (50, true) (.cons (51, true) (.cons (52, true) (.cons (53, true) (.cons (54, true) .nil))))))))))))))))))))))))))))))))))))))))))))))))))))))) 55 mixed (by kernel_rfl) (by kernel_rfl) (by kernel_rfl) hM.drew ?_
          replace hM := hM.drew
          refine D.valF hA rfl (fun _ => R.move rfl) rfl ?_; clear hA a; intro a hA
          refine D.valF hA rfl (fun _ => R.move rfl) rfl ?_; clear hA a; intro a hA
          refine D.valF hA rfl (fun _ => R.indexAddr (q := i * 4) sl23 rfl rfl (by omega) (by omega)) rfl ?_; clear hA a; intro a hA
          refine D.valF hA rfl (fun _ => R.fieldAddr (q := i * 4 + 3) fi36_3 rfl rfl rfl) rfl ?_; clear hA a; intro a hA
          refine D.val hA rfl (by kernel_rfl) (fun _ hM => R.load sz3 rfl (hM.tokRow (k := 0) rfl (i := i) (by omega) 3 _ rfl)) rfl ?_; clear hA a; intro a hA
          refine D.valF hA rfl (fun _ => R.move rfl) rfl ?_; clear hA a; intro a hA
          refine D.valF hA rfl (fun _ => R.move rfl) rfl ?_; clear hA a; intro a hA
          refine D.valF hA rfl (fun _ => R.addI rfl rfl (r := ((i : Int)) + 1) rfl (by omega)) rfl ?_; clear hA a; intro a hA
          refine D.valF hA rfl (fun _ => R.indexAddr (q := (i + 1) * 4) sl23 rfl rfl (by omega) (by omega)) rfl ?_; clear hA a; intro a hA
          refine D.valF hA rfl (fun _ => R.fieldAddr (q := (i + 1) * 4 + 3) fi36_3 rfl rfl rfl) rfl ?_; clear hA a; intro a hA
          refine D.val hA rfl (by kernel_rfl) (fun _ hM => R.load sz3 rfl (hM.tokRow (k := 0) rfl (i := (i + 1)) (by omega) 3 _ rfl)) rfl ?_; clear hA a; intro a hA
          refine D.valF hA rfl (fun _ => R.ff (R.geq rfl rfl) (by omega)) rfl ?_; clear hA a; intro a hA
          refine D.valF hA rfl (fun _ => R.move rfl) rfl ?_; clear hA a; intro a hA
          refine D.valgF (dj := 48) hA rfl (by kernel_rfl) rfl (fun _ => R.move rfl) rfl ?_; clear hA a; intro a hA
          refine D.valgF (dj := 48) hA rfl (by kernel_rfl) rfl (fun _ => R.move rfl) rfl ?_; clear hA a; intro a hA
          refine D.valgF (dj := 48) hA rfl (by kernel_rfl) rfl (fun _ => R.indexAddr (q := i * 4) sl23 rfl rfl (by omega) (by omega)) rfl ?_; clear hA a; intro a hA
          refine D.valgF (dj := 48) hA rfl (by kernel_rfl) rfl (fun _ => R.fieldAddr (q := i * 4 + 0) fi36_0 rfl rfl rfl) rfl ?_; clear hA a; intro a hA
          refine D.valg (dj := 48) hA rfl (by kernel_rfl) (by kernel_rfl) rfl (fun _ hM => R.load sz3 rfl (hM.tokRow (k := 0) rfl (i := i) (by omega) 0 _ rfl)) rfl ?_; clear hA a; intro a hA
          refine D.valgF (dj := 48) hA rfl (by kernel_rfl) rfl (fun _ => R.ff (R.eql rfl rfl) (by rcases hkk with h | h <;> omega)) rfl ?_; clear hA a; intro a hA
          refine D.valF hA rfl (fun _ => R.pickF rfl rfl) rfl ?_; clear hA a; intro a hA
          refine D.valF hA rfl (fun _ => R.move rfl) rfl ?_; clear hA a; intro a hA
          refine D.valgF (dj := 56) hA rfl (by kernel_rfl) rfl (fun _ => R.move rfl) rfl ?_; clear hA a; intro a hA
          refine D.valgF (dj := 56) hA rfl (by kernel_rfl) rfl (fun _ => R.move rfl) rfl ?_; clear hA a; intro a hA
          refine D.valgF (dj := 56) hA rfl (by kernel_rfl) rfl (fun _ => R.indexAddr (q := i * 4) sl23 rfl rfl (by omega) (by omega)) rfl ?_; clear hA a; intro a hA
          refine D.valgF (dj := 56) hA rfl (by kernel_rfl) rfl (fun _ => R.fieldAddr (q := i * 4 + 0) fi36_0 rfl rfl rfl) rfl ?_; clear hA a; intro a hA
          refine D.valg (dj := 56) hA rfl (by kernel_rfl) (by kernel_rfl) rfl (fun _ hM => R.load sz3 rfl (hM.tokRow (k := 0) rfl (i := i) (by omega) 0 _ rfl)) rfl ?_; clear hA a; intro a hA
          refine D.valgF (dj := 56) hA rfl (by kernel_rfl) rfl (fun _ => R.tt (R.eql rfl rfl) (hs7)) rfl ?_; clear hA a; intro a hA
          refine D.valgF (dj := 56) hA rfl (by kernel_rfl) rfl (fun _ => R.move rfl) rfl ?_; clear hA a; intro a hA
          refine D.valgF (dj := 63) hA rfl (by kernel_rfl) rfl (fun _ => R.move rfl) rfl ?_; clear hA a; intro a hA
          refine D.valgF (dj := 63) hA rfl (by kernel_rfl) rfl (fun _ => R.move rfl) rfl ?_; clear hA a; intro a hA
          refine D.valgF (dj := 63) hA rfl (by kernel_rfl) rfl (fun _ => R.move rfl) rfl ?_; clear hA a; intro a hA
          refine D.valgF (dj := 63) hA rfl (by kernel_rfl) rfl (fun _ => R.indexAddr (q := i * 4) sl23 rfl rfl (by omega) (by omega)) rfl ?_; clear hA a; intro a hA
          refine D.valgF (dj := 63) hA rfl (by kernel_rfl) rfl (fun _ => R.fieldAddr (q := i * 4 + 3) fi36_3 rfl rfl rfl) rfl ?_; clear hA a; intro a hA
          refine D.valg (dj := 63) hA rfl (by kernel_rfl) (by kernel_rfl) rfl (fun _ hM => R.load sz3 rfl (hM.tokRow (k := 0) rfl (i := i) (by omega) 3 _ rfl)) rfl ?_; clear hA a; intro a hA
          refine D.valgF (dj := 63) hA rfl (by kernel_rfl) rfl (fun _ => R.move rfl) rfl ?_; clear hA a; intro a hA
          refine D.valgF (dj := 63) hA rfl (by kernel_rfl) rfl (fun _ => R.move rfl) rfl ?_; clear hA a; intro a hA
          refine D.valgF (dj := 63) hA rfl (by kernel_rfl) rfl (fun _ => R.indexAddr (q := i * 4) sl23 rfl rfl (by omega) (by omega)) rfl ?_; clear hA a; intro a hA
          refine D.valgF (dj := 63) hA rfl (by kernel_rfl) rfl (fun _ => R.fieldAddr (q := i * 4 + 3) fi36_3 rfl rfl rfl) rfl ?_; clear hA a; intro a hA
          refine D.valg (dj := 63) hA rfl (by kernel_rfl) (by kernel_rfl) rfl (fun _ hM => R.load sz3 rfl (hM.tokRow (k := 0) rfl (i := i) (by omega) 3 _ rfl)) rfl ?_; clear hA a; intro a hA
          refine D.valgF (dj := 63) hA rfl (by kernel_rfl) rfl (fun _ => R.move rfl) rfl ?_; clear hA a; intro a hA
          refine D.valgF (dj := 63) hA rfl (by kernel_rfl) rfl (fun _ => R.move rfl) rfl ?_; clear hA a; intro a hA
          refine D.valgF (dj := 63) hA rfl (by kernel_rfl) rfl (fun _ => R.indexAddr (q := i * 4) sl23 rfl rfl (by omega) (by omega)) rfl ?_; clear hA a; intro a hA
          refine D.valgF (dj := 63) hA rfl (by kernel_rfl) rfl (fun _ => R.fieldAddr (q := i * 4 + 1) fi36_1 rfl rfl rfl) rfl ?_; clear hA a; intro a hA
          refine D.valg (dj := 63) hA rfl (by kernel_rfl) (by kernel_rfl) rfl (fun _ hM => R.load sz9 rfl (hM.tokRow (k := 0) rfl (i := i) (by omega) 1 _ rfl)) rfl ?_; clear hA a; intro a hA
          refine D.valgF (dj := 63) hA rfl (by kernel_rfl) rfl (fun _ => R.lenStr Tryd.underlying9 rfl rfl) rfl ?_; clear hA a; intro a hA
          refine D.valgF (dj := 63) hA rfl (by kernel_rfl) rfl (fun _ => R.addI rfl rfl (r := ((scan s).1.getD i tz).a + (((scan s).1.getD i tz).x.size : Int)) rfl (by omega)) rfl ?_; clear hA a; intro a hA
          refine D.valgF (dj := 63) hA rfl (by kernel_rfl) rfl (fun _ => R.to (v := .string ((scan s).1.getD i tz).x) (R.sliceSS Tryd.underlying9 rfl rfl rfl ⟨ha0, by omega, has⟩) (congrArg Value.string (hax hs7))) rfl ?_; clear hA a; intro a hA
          refine D.valgF (dj := 63) hA rfl (by kernel_rfl) rfl (fun _ => R.move rfl) rfl ?_; clear hA a; intro a hA
          refine D.valgF (dj := 63) hA rfl (by kernel_rfl) rfl (fun _ => R.move rfl) rfl ?_; clear hA a; intro a hA
          refine D.valgF (dj := 63) hA rfl (by kernel_rfl) rfl (fun _ => R.indexAddr (q := i * 4) sl23 rfl rfl (by omega) (by omega)) rfl ?_; clear hA a; intro a hA
          refine D.valgF (dj := 63) hA rfl (by kernel_rfl) rfl (fun _ => R.fieldAddr (q := i * 4 + 1) fi36_1 rfl rfl rfl) rfl ?_; clear hA a; intro a hA
          refine D.valg (dj := 63) hA rfl (by kernel_rfl) (by kernel_rfl) rfl (fun _ hM => R.load sz9 rfl (hM.tokRow (k := 0) rfl (i := i) (by omega) 1 _ rfl)) rfl ?_; clear hA a; intro a hA
          refine D.valgF (dj := 63) hA rfl (by kernel_rfl) rfl (fun _ => R.ff (R.neqStr rfl rfl) (fun h => h rfl)) rfl ?_; clear hA a; intro a hA
          refine D.valgF (dj := 56) hA rfl (by kernel_rfl) rfl (fun _ => R.pickT rfl rfl) rfl ?_; clear hA a; intro a hA
          refine D.valF hA rfl (fun _ => R.pickF rfl rfl) rfl ?_; clear hA a; intro a hA
          refine D.done ?_
          replace hA : St 106 [(0, _), (3, _), (6, _), (90, _)] a := hA.sub ((.cons rfl (.cons rfl (.cons rfl (.cons rfl .nil)))))
          refine Ends.condF hA rfl ?_
          refine Ends.skip ?_
          refine Ends.inBlock ?_
          refine Ends.region ?_
          refine S.val hA (R.move rfl) rfl ?_; clear hA a; intro a hA
          refine S.val hA (R.addI rfl rfl (r := ((i : Int)) + 1) rfl (by omega)) rfl ?_; clear hA a; intro a hA
          refine S.val hA (R.assign rfl) rfl ?_; clear hA a; intro a hA
          refine S.done ?_
          replace hA : St 106 [(0, _), (3, _), (6, _)] a := hA.sub ((.cons rfl (.cons rfl (.cons rfl .nil))))
          exact hNext ((i + 1)) _ _ ((by show (scan s).1.length - (i + 1) < (scan s).1.length - i; omega)) ⟨hA.sub ((.cons rfl (.cons rfl (.cons rfl .nil)))), hM, (by omega)⟩
        ·
          refine Ends.drawn (Mem w nof [own 36 4 (.slice (some ⟨g6, 0, none⟩) (((scan s).1).length) c3) (((scan s).1).length) (tokv ((scan s).1))]) (.cons (0, true) (.cons (1, true) (.cons (2, true) (.cons (3, true) (.cons (4, true) (.cons (5, true) (.cons (6, true) (.cons (7, true) (.cons (8, true) (.cons (9, true) (.cons (10, true) (.cons (11, true) (.cons (12, true) (.cons (13, true) (.cons (14, true) (.cons (15, true) (.cons (16, true) (.cons (17, true) (.cons (18, true) (.cons (19, true) (.cons (20, true) (.cons (21, true) (.cons (22, true) (.cons (23, true) (.cons (24, true) (.cons (25, true) (.cons (26, true) (.cons (27, true) (.cons (28, true) (.cons (29, true) (.cons (30, true) (.cons (31, true) (.cons (32, true) (.cons (33, true) (.cons (34, true) (.cons (35, true) (.cons (36, true) (.cons (37, true) (.cons (38, true) (.cons (39, true) (.cons (40, true) (.cons (41, true) (.cons (42, true) (.cons (43, true) (.cons (44, true) (.cons (45, true) (.cons (46, true) (.cons (47, true) (.cons (48, true) (.cons (49, true) (.cons (50, true) (.cons (51, true) (.cons (52, true) (.cons (53, true) (.cons (54, true) .nil))))))))))))))))))))))))))))))))))))))))))))))))))))))) 55 mixed (by kernel_rfl) (by kernel_rfl) (by kernel_rfl) hM.drew ?_
          replace hM := hM.drew
          refine D.valF hA rfl (fun _ => R.move rfl) rfl ?_; clear hA a; intro a hA
          refine D.valF hA rfl (fun _ => R.move rfl) rfl ?_; clear hA a; intro a hA
          refine D.valF hA rfl (fun _ => R.indexAddr (q := i * 4) sl23 rfl rfl (by omega) (by omega)) rfl ?_; clear hA a; intro a hA
          refine D.valF hA rfl (fun _ => R.fieldAddr (q := i * 4 + 3) fi36_3 rfl rfl rfl) rfl ?_; clear hA a; intro a hA
          refine D.val hA rfl (by kernel_rfl) (fun _ hM => R.load sz3 rfl (hM.tokRow (k := 0) rfl (i := i) (by omega) 3 _ rfl)) rfl ?_; clear hA a; intro a hA
          refine D.valF hA rfl (fun _ => R.move rfl) rfl ?_; clear hA a; intro a hA
          refine D.valF hA rfl (fun _ => R.move rfl) rfl ?_; clear hA a; intro a hA
          refine D.valF hA rfl (fun _ => R.addI rfl rfl (r := ((i : Int)) + 1) rfl (by omega)) rfl ?_; clear hA a; intro a hA
          refine D.valF hA rfl (fun _ => R.indexAddr (q := (i + 1) * 4) sl23 rfl rfl (by omega) (by omega)) rfl ?_; clear hA a; intro a hA
          refine D.valF hA rfl (fun _ => R.fieldAddr (q := (i + 1) * 4 + 3) fi36_3 rfl rfl rfl) rfl ?_; clear hA a; intro a hA
          refine D.val hA rfl (by kernel_rfl) (fun _ hM => R.load sz3 rfl (hM.tokRow (k := 0) rfl (i := (i + 1)) (by omega) 3 _ rfl)) rfl ?_; clear hA a; intro a hA
          refine D.valF hA rfl (fun _ => R.ff (R.geq rfl rfl) (by omega)) rfl ?_; clear hA a; intro a hA
          refine D.valF hA rfl (fun _ => R.move rfl) rfl ?_; clear hA a; intro a hA
          refine D.valgF (dj := 48) hA rfl (by kernel_rfl) rfl (fun _ => R.move rfl) rfl ?_; clear hA a; intro a hA
          refine D.valgF (dj := 48) hA rfl (by kernel_rfl) rfl (fun _ => R.move rfl) rfl ?_; clear hA a; intro a hA
          refine D.valgF (dj := 48) hA rfl (by kernel_rfl) rfl (fun _ => R.indexAddr (q := i * 4) sl23 rfl rfl (by omega) (by omega)) rfl ?_; clear hA a; intro a hA
          refine D.valgF (dj := 48) hA rfl (by kernel_rfl) rfl (fun _ => R.fieldAddr (q := i * 4 + 0) fi36_0 rfl rfl rfl) rfl ?_; clear hA a; intro a hA
          refine D.valg (dj := 48) hA rfl (by kernel_rfl) (by kernel_rfl) rfl (fun _ hM => R.load sz3 rfl (hM.tokRow (k := 0) rfl (i := i) (by omega) 0 _ rfl)) rfl ?_; clear hA a; intro a hA
          refine D.valgF (dj := 48) hA rfl (by kernel_rfl) rfl (fun _ => R.ff (R.eql rfl rfl) (by rcases hkk with h | h <;> omega)) rfl ?_; clear hA a; intro a hA
          refine D.valF hA rfl (fun _ => R.pickF rfl rfl) rfl ?_; clear hA a; intro a hA
          refine D.valF hA rfl (fun _ => R.move rfl) rfl ?_; clear hA a; intro a hA
          refine D.valgF (dj := 56) hA rfl (by kernel_rfl) rfl (fun _ => R.move rfl) rfl ?_; clear hA a; intro a hA
          refine D.valgF (dj := 56) hA rfl (by kernel_rfl) rfl (fun _ => R.move rfl) rfl ?_; clear hA a; intro a hA
          refine D.valgF (dj := 56) hA rfl (by kernel_rfl) rfl (fun _ => R.indexAddr (q := i * 4) sl23 rfl rfl (by omega) (by omega)) rfl ?_; clear hA a; intro a hA
          refine D.valgF (dj := 56) hA rfl (by kernel_rfl) rfl (fun _ => R.fieldAddr (q := i * 4 + 0) fi36_0 rfl rfl rfl) rfl ?_; clear hA a; intro a hA
          refine D.valg (dj := 56) hA rfl (by kernel_rfl) (by kernel_rfl) rfl (fun _ hM => R.load sz3 rfl (hM.tokRow (k := 0) rfl (i := i) (by omega) 0 _ rfl)) rfl ?_; clear hA a; intro a hA
          refine D.valgF (dj := 56) hA rfl (by kernel_rfl) rfl (fun _ => R.ff (R.eql rfl rfl) (hs7)) rfl ?_; clear hA a; intro a hA
          refine D.valgF (dj := 56) hA rfl (by kernel_rfl) rfl (fun _ => R.move rfl) rfl ?_; clear hA a; intro a hA
          refine D.no (dj := 63) hA rfl (by kernel_rfl) rfl rfl rfl ?_; clear hA a; intro a hA
          refine D.no (dj := 63) hA rfl (by kernel_rfl) rfl rfl rfl ?_; clear hA a; intro a hA
          refine D.no (dj := 63) hA rfl (by kernel_rfl) rfl rfl rfl ?_; clear hA a; intro a hA
          refine D.no (dj := 63) hA rfl (by kernel_rfl) rfl rfl rfl ?_; clear hA a; intro a hA
          refine D.no (dj := 63) hA rfl (by kernel_rfl) rfl rfl rfl ?_; clear hA a; intro a hA
          refine D.no (dj := 63) hA rfl (by kernel_rfl) rfl rfl rfl ?_; clear hA a; intro a hA
          refine D.no (dj := 63) hA rfl (by kernel_rfl) rfl rfl rfl ?_; clear hA a; intro a hA
          refine D.no (dj := 63) hA rfl (by kernel_rfl) rfl rfl rfl ?_; clear hA a; intro a hA
          refine D.no (dj := 63) hA rfl (by kernel_rfl) rfl rfl rfl ?_; clear hA a; intro a hA
          refine D.no (dj := 63) hA rfl (by kernel_rfl) rfl rfl rfl ?_; clear hA a; intro a hA
          refine D.no (dj := 63) hA rfl (by kernel_rfl) rfl rfl rfl ?_; clear hA a; intro a hA
          refine D.no (dj := 63) hA rfl (by kernel_rfl) rfl rfl rfl ?_; clear hA a; intro a hA
          refine D.no (dj := 63) hA rfl (by kernel_rfl) rfl rfl rfl ?_; clear hA a; intro a hA
          refine D.no (dj := 63) hA rfl (by kernel_rfl) rfl rfl rfl ?_; clear hA a; intro a hA
          refine D.no (dj := 63) hA rfl (by kernel_rfl) rfl rfl rfl ?_; clear hA a; intro a hA
          refine D.no (dj := 63) hA rfl (by kernel_rfl) rfl rfl rfl ?_; clear hA a; intro a hA
          refine D.no (dj := 63) hA rfl (by kernel_rfl) rfl rfl rfl ?_; clear hA a; intro a hA
          refine D.no (dj := 63) hA rfl (by kernel_rfl) rfl rfl rfl ?_; clear hA a; intro a hA
          refine D.no (dj := 63) hA rfl (by kernel_rfl) rfl rfl rfl ?_; clear hA a; intro a hA
          refine D.no (dj := 63) hA rfl (by kernel_rfl) rfl rfl rfl ?_; clear hA a; intro a hA
          refine D.no (dj := 63) hA rfl (by kernel_rfl) rfl rfl rfl ?_; clear hA a; intro a hA
          refine D.no (dj := 63) hA rfl (by kernel_rfl) rfl rfl rfl ?_; clear hA a; intro a hA
          refine D.no (dj := 63) hA rfl (by kernel_rfl) rfl rfl rfl ?_; clear hA a; intro a hA
          refine D.no (dj := 63) hA rfl (by kernel_rfl) rfl rfl rfl ?_; clear hA a; intro a hA
          refine D.no (dj := 63) hA rfl (by kernel_rfl) rfl rfl rfl ?_; clear hA a; intro a hA
          refine D.valgF (dj := 56) hA rfl (by kernel_rfl) rfl (fun _ => R.pickF rfl rfl) rfl ?_; clear hA a; intro a hA
          refine D.valF hA rfl (fun _ => R.pickF rfl rfl) rfl ?_; clear hA a; intro a hA
          refine D.done ?_
          replace hA : St 106 [(0, _), (3, _), (6, _), (90, _)] a := hA.sub ((.cons rfl (.cons rfl (.cons rfl (.cons rfl .nil)))))
          refine Ends.condF hA rfl ?_
          refine Ends.skip ?_
          refine Ends.inBlock ?_
          refine Ends.region ?_
          refine S.val hA (R.move rfl) rfl ?_; clear hA a; intro a hA
          refine S.val hA (R.addI rfl rfl (r := ((i : Int)) + 1) rfl (by omega)) rfl ?_; clear hA a; intro a hA
          refine S.val hA (R.assign rfl) rfl ?_; clear hA a; intro a hA
          refine S.done ?_
          replace hA : St 106 [(0, _), (3, _), (6, _)] a := hA.sub ((.cons rfl (.cons rfl (.cons rfl .nil))))
          exact hNext ((i + 1)) _ _ ((by show (scan s).1.length - (i + 1) < (scan s).1.length - i; omega)) ⟨hA.sub ((.cons rfl (.cons rfl (.cons rfl .nil)))), hM, (by omega)⟩
      ·
        refine Ends.exit rfl ?_
        replace hA : St 106 [(0, _), (3, _)] a := hA.sub ((.cons rfl (.cons rfl .nil)))
        refine Ends.seq ?_
        obtain ⟨g8, hg8⟩ := hM.ownAt (k := 0) rfl (by omega)
        subst hg8
        replace hM : Mem _ _ [own 36 4 (.slice (some ⟨g8, 0, none⟩) (((scan s).1).length) c3) (((scan s).1).length) (tokv ((scan s).1))] _ := hM
        refine Ends.region ?_
        refine S.val hA (R.move rfl) rfl ?_; clear hA a; intro a hA
        refine S.val hA (R.lenS Tryd.underlying23 rfl rfl) rfl ?_; clear hA a; intro a hA
        refine S.val hA (R.tt (R.gtr rfl rfl) (by omega)) rfl ?_; clear hA a; intro a hA
        refine S.val hA (R.move rfl) rfl ?_; clear hA a; intro a hA
        refine S.valg (dj := 94) hA (by kernel_rfl) rfl (R.move rfl) rfl ?_; clear hA a; intro a hA
        refine S.valg (dj := 94) hA (by kernel_rfl) rfl (R.move rfl) rfl ?_; clear hA a; intro a hA
        refine S.valg (dj := 94) hA (by kernel_rfl) rfl (R.lenS Tryd.underlying23 rfl rfl) rfl ?_; clear hA a; intro a hA
        refine S.valg (dj := 94) hA (by kernel_rfl) rfl (R.subI rfl rfl (r := (((scan s).1.length : Int)) - 1) rfl (by omega)) rfl ?_; clear hA a; intro a hA
        refine S.valg (dj := 94) hA (by kernel_rfl) rfl (R.indexAddr (q := ((scan s).1.length - 1) * 4) sl23 rfl rfl (by omega) (by omega)) rfl ?_; clear hA a; intro a hA
        refine S.valg (dj := 94) hA (by kernel_rfl) rfl (R.to (v := .agg #[.int .i64 3, .string ⟨#[]⟩, .int .i64 0, .int .i64 (s.size : Int)]) (R.loadA sz36 rfl (hM.tokRow (k := 0) rfl (i := ((scan s).1.length - 1)) (by omega)) rfl) (by rw [hlast.2]; rfl)) rfl ?_; clear hA a; intro a hA
        refine S.valg (dj := 94) hA (by kernel_rfl) rfl (R.move rfl) rfl ?_; clear hA a; intro a hA
        refine S.valg (dj := 94) hA (by kernel_rfl) rfl (R.lenStr Tryd.underlying9 rfl rfl) rfl ?_; clear hA a; intro a hA
        refine S.valg (dj := 94) hA (by kernel_rfl) rfl (R.build (cells := #[.int .i64 3, .string (⟨#[]⟩), .int .i64 0, .int .i64 ((s.size : Int))]) rfl (by kernel_rfl)) rfl ?_; clear hA a; intro a hA
        refine S.valg (dj := 94) hA (by kernel_rfl) rfl (R.eqlS (b := true) Tryd.eqGuardType36 (fun w => eq_ltok _ _ _ _ w) rfl rfl) rfl ?_; clear hA a; intro a hA
        refine S.val hA (R.pickT rfl rfl) rfl ?_; clear hA a; intro a hA
        refine S.val hA (R.assign rfl) rfl ?_; clear hA a; intro a hA
        refine S.done ?_
        replace hA : St 106 [(2, _)] a := hA.sub ((.cons rfl .nil))
        refine Ends.ret1 Tryd.func5 Tryd.results5 hA rfl ?_
        exact ⟨rfl, hM.nilL.below⟩
theorem lexEnds_any (s : ByteArray) (hs : s.size ≤ maxLen) (w : World) (htab : U8T w) : Calls Tryd.prog 5 #[.string s] w fun e w' => e = .returned (.bool true) ∧ Below w.heap.size w w' := lexEnds_w s hs w htab
end Go.Proofs.YtdbbigjoloinpaaDoor
