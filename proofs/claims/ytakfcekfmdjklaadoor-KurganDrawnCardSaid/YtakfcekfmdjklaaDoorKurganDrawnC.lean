/-
  KurganDrawn, part 3 of 5: what the code computes, and plain laws; no condition beside those that each theorem tells.
-/
import Derived.Test.YtakfcekfmdjklaaDoorKurganDrawnB
namespace Go.Proofs.YtakfcekfmdjklaaDoor
open Go.RowKit
section
variable {P : Program} {l : List (Nat × Value)} {w : World} {ty : TypeId} {x y z : Operand} {k k' : IntKind} {m n : Int} {t yt : TypeId}
theorem R.sliceR1 {e : TypeId} {g o o2 len cap sz : Nat} {j : TypeInfo} (ht : P.underlying t = some (.slice e)) (hj : P.info? e = some j) (h1 : j.size = sz) (hx : opv l x = some (.slice (some ⟨g, o, none⟩) len cap)) (hy : opv l y = some (.int k 1)) (hc : 1 < len) (hcc : len ≤ cap) (ho : o + sz = o2) :
    Run P l w (.slice t x (some y) none none) ty (.slice (some ⟨g, o2, none⟩) (len - 1) (cap - 1)) w := fun ev hev _ _ _ _ => by
  subst ho
  have h1' : (Instr.slice t (.slice (some ⟨g, o, none⟩) len cap) (some (.int k 1)) none none).run P w = .ok (.slice (some ⟨g, o + sz, none⟩) (len - 1) (cap - 1)) w := by
    simp only [Instr.slice, Sem.run_bind, run_underlying ht, Result.andThen_ok, Instr.sliceBounds, Instr.sliceBound, asIntOf, Sem.run_pure]
    have e1 : (1 : Nat) ≤ len := by omega
    have e2 : (1 : Nat) ≤ cap := by omega
    have e3 : ¬ cap = 1 := by omega
    simp [e1, e2, e3, hcc, run_sizeOf_of hj, h1, Addr.add]
    repeat' split
    all_goals first | rfl | omega | (simp_all; done)
  have h2 : (Instr.sliceAt t (.slice (some ⟨g, o, none⟩) len cap) (some (.int k 1)) none none).run P w = .ok (.slice (some ⟨g, o + sz, none⟩) (len - 1) (cap - 1)) w := by
    unfold Instr.sliceAt
    simp only [Sem.run_bind, run_underlying ht, Result.andThen_ok]
    exact h1'
  simp [execOp, hev _ _ hx, hev _ _ hy, h2]
end
set_option maxRecDepth 100000 in
set_option maxHeartbeats 400000 in
theorem next06 (g rb j cap : Nat) (at0 : Int) (X : List Tok) (hX : Toks X) (hj : j < X.length) (hcap : X.length ≤ cap) (w : World) (hM : Mem w (feet [pt rb #[.slice (some ⟨g, j * 4, none⟩) (X.length - j) (cap - j), .int .i64 at0] 62, own 77 4 (.slice ((some ⟨g, 0, none⟩)) X.length cap) X.length (tokv X)]) [pt rb #[.slice (some ⟨g, j * 4, none⟩) (X.length - j) (cap - j), .int .i64 at0] 62, own 77 4 (.slice ((some ⟨g, 0, none⟩)) X.length cap) X.length (tokv X)] w) :
    Calls Tryd.prog 79 #[.pointer (some ⟨rb, 0, none⟩)] w fun e w' => e = .returned (.agg #[.int .i64 ((X.getD j tz).k), .string ((X.getD j tz).x), .int .i64 ((X.getD j tz).n), .int .i64 ((X.getD j tz).a)]) ∧ Mem w (feet [pt rb #[.slice (some ⟨g, j * 4, none⟩) (X.length - j) (cap - j), .int .i64 at0] 62, own 77 4 (.slice ((some ⟨g, 0, none⟩)) X.length cap) X.length (tokv X)]) [pt rb #[.slice (some ⟨g, j * 4, none⟩) (X.length - j) (cap - j), .int .i64 at0] 62, own 77 4 (.slice ((some ⟨g, 0, none⟩)) X.length cap) X.length (tokv X)] w' := by
  have hbs := Below.refl (B := w.heap.size) w
  have hlX := hX.len
  refine Calls.of_ends (vs := [.pointer (some ⟨rb, 0, none⟩)]) Tryd.func79 rfl Tryd.ntmps79 rfl ?_
  intro a hA
  replace hA : St 9 [(0, _)] a := hA
  refine Ends.seq (Ends.region ?_)
  refine S.alloc hA hM info77 rfl rfl ?_; clear hA hM a; intro b1 w1 hb2 hM a hA
  replace hM : Mem _ _ [pt b1 #[.int .i64 0, .string (⟨#[]⟩), .int .i64 0, .int .i64 0] 77, pt rb #[.slice (some ⟨g, j * 4, none⟩) (X.length - j) (cap - j), .int .i64 at0] 62, own 77 4 (.slice ((some ⟨g, 0, none⟩)) X.length cap) X.length (tokv X)] _ := hM
  refine S.done ?_
  refine Ends.seq (Ends.region ?_)
  refine S.val hA (R.move rfl) rfl ?_; clear hA a; intro a hA
  refine S.val hA (R.nilCheck rfl) rfl ?_; clear hA a; intro a hA
  refine S.val hA (R.fieldAddr (q := 0) fi62_0 rfl rfl rfl) rfl ?_; clear hA a; intro a hA
  refine S.val hA (R.load sz48 rfl (hM.cell (k := 1) rfl rfl)) rfl ?_; clear hA a; intro a hA
  refine S.val hA (R.indexAddr (q := j * 4) sl48 rfl rfl (by omega) (by omega)) rfl ?_; clear hA a; intro a hA
  refine S.val hA (R.loadA sz77 rfl (hM.tokRow (k := 2) rfl (i := j) (by omega)) rfl) rfl ?_; clear hA a; intro a hA
  refine S.storeA (k := 0) hA hM sz77 rfl rfl rfl rfl rfl rfl ?_; clear hM
  intro w2 hM
  replace hM : Mem _ _ [pt b1 #[.int .i64 ((X.getD j tz).k), .string ((X.getD j tz).x), .int .i64 ((X.getD j tz).n), .int .i64 ((X.getD j tz).a)] 77, pt rb #[.slice (some ⟨g, j * 4, none⟩) (X.length - j) (cap - j), .int .i64 at0] 62, own 77 4 (.slice ((some ⟨g, 0, none⟩)) X.length cap) X.length (tokv X)] _ := hM
  refine S.done ?_
  replace hA : St 9 [(2, _)] a := hA.sub ((.cons rfl .nil))
  refine Ends.retC (k := 0) Tryd.func79 Tryd.results79 hA hM rfl rfl sz77 rfl ?_
  replace hM := hM.front (k := 2) rfl
  replace hM := hM.front (k := 2) rfl
  replace hM : Mem _ _ [pt rb #[.slice (some ⟨g, j * 4, none⟩) (X.length - j) (cap - j), .int .i64 at0] 62, own 77 4 (.slice ((some ⟨g, 0, none⟩)) X.length cap) X.length (tokv X), pt b1 #[.int .i64 ((X.getD j tz).k), .string ((X.getD j tz).x), .int .i64 ((X.getD j tz).n), .int .i64 ((X.getD j tz).a)] 77] _ := hM
  replace hM := hM.firstN 2
  replace hM : Mem _ _ [pt rb #[.slice (some ⟨g, j * 4, none⟩) (X.length - j) (cap - j), .int .i64 at0] 62, own 77 4 (.slice ((some ⟨g, 0, none⟩)) X.length cap) X.length (tokv X)] _ := hM
  exact ⟨rfl, hM⟩
set_option maxRecDepth 100000 in
set_option maxHeartbeats 400000 in
theorem take06 (g rb j cap : Nat) (at0 : Int) (X : List Tok) (hX : Toks X) (hj : j < X.length) (hcap : X.length ≤ cap) (hj1 : j + 1 < X.length) (w : World) (hM : Mem w (feet [pt rb #[.slice (some ⟨g, j * 4, none⟩) (X.length - j) (cap - j), .int .i64 at0] 62, own 77 4 (.slice ((some ⟨g, 0, none⟩)) X.length cap) X.length (tokv X)]) [pt rb #[.slice (some ⟨g, j * 4, none⟩) (X.length - j) (cap - j), .int .i64 at0] 62, own 77 4 (.slice ((some ⟨g, 0, none⟩)) X.length cap) X.length (tokv X)] w) :
    Calls Tryd.prog 80 #[.pointer (some ⟨rb, 0, none⟩)] w fun e w' => e = .returned (.tuple #[]) ∧ Mem w (feet [pt rb #[.slice (some ⟨g, j * 4, none⟩) (X.length - j) (cap - j), .int .i64 at0] 62, own 77 4 (.slice ((some ⟨g, 0, none⟩)) X.length cap) X.length (tokv X)]) [pt rb #[.slice (some ⟨g, (j + 1) * 4, none⟩) (X.length - (j + 1)) (cap - (j + 1)), .int .i64 at0] 62, own 77 4 (.slice ((some ⟨g, 0, none⟩)) X.length cap) X.length (tokv X)] w' := by
  have hbs := Below.refl (B := w.heap.size) w
  have hlX := hX.len
  refine Calls.of_ends (vs := [.pointer (some ⟨rb, 0, none⟩)]) Tryd.func80 rfl Tryd.ntmps80 rfl ?_
  intro a hA
  replace hA : St 10 [(0, _)] a := hA
  refine Ends.region ?_
  refine S.val hA (R.move rfl) rfl ?_; clear hA a; intro a hA
  refine S.val hA (R.move rfl) rfl ?_; clear hA a; intro a hA
  refine S.val hA (R.nilCheck rfl) rfl ?_; clear hA a; intro a hA
  refine S.val hA (R.fieldAddr (q := 0) fi62_0 rfl rfl rfl) rfl ?_; clear hA a; intro a hA
  refine S.val hA (R.load sz48 rfl (hM.cell (k := 0) rfl rfl)) rfl ?_; clear hA a; intro a hA
  refine S.val hA (R.to (v := .slice (some ⟨g, (j + 1) * 4, none⟩) (X.length - (j + 1)) (cap - (j + 1))) (R.sliceR1 (sz := 4) (o2 := (j + 1) * 4) Tryd.underlying48 info77 rfl rfl rfl (by omega) (by omega) (by omega)) (by rw [Nat.sub_sub, Nat.sub_sub])) rfl ?_; clear hA a; intro a hA
  refine S.val hA (R.nilCheck rfl) rfl ?_; clear hA a; intro a hA
  refine S.val hA (R.fieldAddr (q := 0) fi62_0 rfl rfl rfl) rfl ?_; clear hA a; intro a hA
  refine S.store (k := 0) hA hM sz48 rfl rfl rfl rfl rfl ?_; clear hM
  intro w1 hM
  replace hM : Mem _ _ [pt rb #[.slice (some ⟨g, (j + 1) * 4, none⟩) (X.length - (j + 1)) (cap - (j + 1)), .int .i64 at0] 62, own 77 4 (.slice ((some ⟨g, 0, none⟩)) X.length cap) X.length (tokv X)] _ := hM
  refine S.done ?_
  replace hA : St 10 [] a := hA.sub (.nil)
  refine Ends.end0 Tryd.func80 Tryd.results80 hA ?_
  replace hM := hM.firstN 2
  replace hM : Mem _ _ [pt rb #[.slice (some ⟨g, (j + 1) * 4, none⟩) (X.length - (j + 1)) (cap - (j + 1)), .int .i64 at0] 62, own 77 4 (.slice ((some ⟨g, 0, none⟩)) X.length cap) X.length (tokv X)] _ := hM
  exact ⟨rfl, hM⟩
set_option maxRecDepth 100000 in
set_option maxHeartbeats 400000 in
theorem number06 (g rb j cap : Nat) (at0 : Int) (X : List Tok) (hX : Toks X) (hj : j < X.length) (hcap : X.length ≤ cap) (most : Int) (w : World) (hM : Mem w (feet [pt rb #[.slice (some ⟨g, j * 4, none⟩) (X.length - j) (cap - j), .int .i64 at0] 62, own 77 4 (.slice ((some ⟨g, 0, none⟩)) X.length cap) X.length (tokv X)]) [pt rb #[.slice (some ⟨g, j * 4, none⟩) (X.length - j) (cap - j), .int .i64 at0] 62, own 77 4 (.slice ((some ⟨g, 0, none⟩)) X.length cap) X.length (tokv X)] w) :
  Calls Tryd.prog 81 #[.pointer (some ⟨rb, 0, none⟩), .int .i64 most] w fun e w' => e = .returned (.tuple #[.int .i64 (numN (X.getD j tz) most), .int .i64 (numR (X.getD j tz) most)]) ∧ Mem w (feet [pt rb #[.slice (some ⟨g, j * 4, none⟩) (X.length - j) (cap - j), .int .i64 at0] 62, own 77 4 (.slice ((some ⟨g, 0, none⟩)) X.length cap) X.length (tokv X)]) [pt rb #[.slice (some ⟨g, (nxJ j (numR (X.getD j tz) most)) * 4, none⟩) (X.length - (nxJ j (numR (X.getD j tz) most))) (cap - (nxJ j (numR (X.getD j tz) most))), .int .i64 ((X.getD j tz).a)] 62, own 77 4 (.slice ((some ⟨g, 0, none⟩)) X.length cap) X.length (tokv X)] w' := by
 have hbs := Below.refl (B := w.heap.size) w
 have hlX := hX.len
 refine Calls.of_ends (vs := [.pointer (some ⟨rb, 0, none⟩), .int .i64 most]) Tryd.func81 rfl Tryd.ntmps81 rfl ?_
 intro a hA
 replace hA : St 31 [(0, _), (1, _)] a := hA
 refine Ends.seq (Ends.region ?_)
 refine S.val hA (R.assign rfl) rfl ?_; clear hA a; intro a hA
 refine S.val hA (R.assign rfl) rfl ?_; clear hA a; intro a hA
 refine S.done ?_
 refine Ends.seq (Ends.region ?_)
 refine S.val hA (R.move rfl) rfl ?_; clear hA a; intro a hA
 refine S.call hA (R.callF Tryd.func79 rfl rfl rfl) rfl (next06 g rb j cap at0 X hX (by omega) hcap _ (hM.hereN 2)) ?_; clear hA a
 rintro e w1 ⟨rfl, hn⟩
 replace hM : Mem _ _ [pt rb #[.slice (some ⟨g, j * 4, none⟩) (X.length - j) (cap - j), .int .i64 at0] 62, own 77 4 (.slice ((some ⟨g, 0, none⟩)) X.length cap) X.length (tokv X)] _ := hM.callL 2 hn; clear hn
 refine ⟨.agg #[.int .i64 ((X.getD j tz).k), .string ((X.getD j tz).x), .int .i64 ((X.getD j tz).n), .int .i64 ((X.getD j tz).a)], rfl, fun a hA => ?_⟩
 refine S.alloc hA hM info77 rfl rfl ?_; clear hA hM a; intro b1 w2 hb2 hM a hA
 replace hM : Mem _ _ [pt b1 #[.int .i64 0, .string (⟨#[]⟩), .int .i64 0, .int .i64 0] 77, pt rb #[.slice (some ⟨g, j * 4, none⟩) (X.length - j) (cap - j), .int .i64 at0] 62, own 77 4 (.slice ((some ⟨g, 0, none⟩)) X.length cap) X.length (tokv X)] _ := hM
 refine S.storeA (k := 0) hA hM sz77 rfl rfl rfl rfl rfl rfl ?_; clear hM
 intro w3 hM
 replace hM : Mem _ _ [pt b1 #[.int .i64 ((X.getD j tz).k), .string ((X.getD j tz).x), .int .i64 ((X.getD j tz).n), .int .i64 ((X.getD j tz).a)] 77, pt rb #[.slice (some ⟨g, j * 4, none⟩) (X.length - j) (cap - j), .int .i64 at0] 62, own 77 4 (.slice ((some ⟨g, 0, none⟩)) X.length cap) X.length (tokv X)] _ := hM
 refine S.done ?_
 replace hA : St 31 [(0, _), (1, _), (6, _)] a := hA.sub ((.cons rfl (.cons rfl (.cons rfl .nil))))
 refine Ends.seq (Ends.region ?_)
 refine S.val hA (R.move rfl) rfl ?_; clear hA a; intro a hA
 refine S.val hA (R.fieldAddr (q := 3) fi77_3 rfl rfl rfl) rfl ?_; clear hA a; intro a hA
 refine S.val hA (R.load sz3 rfl (hM.cell (k := 0) rfl rfl)) rfl ?_; clear hA a; intro a hA
 refine S.val hA (R.nilCheck rfl) rfl ?_; clear hA a; intro a hA
 refine S.val hA (R.fieldAddr (q := 1) fi62_1 rfl rfl rfl) rfl ?_; clear hA a; intro a hA
 refine S.store (k := 1) hA hM sz3 rfl rfl rfl rfl rfl ?_; clear hM
 intro w4 hM
 replace hM : Mem _ _ [pt b1 #[.int .i64 ((X.getD j tz).k), .string ((X.getD j tz).x), .int .i64 ((X.getD j tz).n), .int .i64 ((X.getD j tz).a)] 77, pt rb #[.slice (some ⟨g, j * 4, none⟩) (X.length - j) (cap - j), .int .i64 ((X.getD j tz).a)] 62, own 77 4 (.slice ((some ⟨g, 0, none⟩)) X.length cap) X.length (tokv X)] _ := hM
 refine S.done ?_
 replace hA : St 31 [(0, _), (1, _), (6, _)] a := hA.sub ((.cons rfl (.cons rfl (.cons rfl .nil))))
 refine Ends.seq (Ends.block (Ends.seq (Ends.region ?_)))
 refine S.val hA (R.fieldAddr (q := 0) fi77_0 rfl rfl rfl) rfl ?_; clear hA a; intro a hA
 refine S.val hA (R.load sz3 rfl (hM.cell (k := 0) rfl rfl)) rfl ?_; clear hA a; intro a hA
 refine S.val hA (R.eql rfl rfl) rfl ?_; clear hA a; intro a hA
 refine S.val hA (R.assign rfl) rfl ?_; clear hA a; intro a hA
 refine S.done ?_
 refine Ends.ite hA rfl (fun hc3 => ?_) (fun hc3 => ?_)
 ·
  refine Ends.seq (Ends.region ?_)
  refine S.val hA (R.assign rfl) rfl ?_; clear hA a; intro a hA
  refine S.val hA (R.assign rfl) rfl ?_; clear hA a; intro a hA
  refine S.done ?_
  replace hA : St 31 [(0, _), (4, _), (5, _), (6, _)] a := hA.sub ((.cons rfl (.cons rfl (.cons rfl (.cons rfl .nil)))))
  refine Ends.ret2 Tryd.func81 Tryd.results81 hA rfl rfl ?_
  replace hM := hM.front (k := 2) rfl
  replace hM := hM.front (k := 2) rfl
  replace hM : Mem _ _ [pt rb #[.slice (some ⟨g, j * 4, none⟩) (X.length - j) (cap - j), .int .i64 ((X.getD j tz).a)] 62, own 77 4 (.slice ((some ⟨g, 0, none⟩)) X.length cap) X.length (tokv X), pt b1 #[.int .i64 ((X.getD j tz).k), .string ((X.getD j tz).x), .int .i64 ((X.getD j tz).n), .int .i64 ((X.getD j tz).a)] 77] _ := hM
  replace hM := hM.firstN 2
  replace hM : Mem _ _ [pt rb #[.slice (some ⟨g, j * 4, none⟩) (X.length - j) (cap - j), .int .i64 ((X.getD j tz).a)] 62, own 77 4 (.slice ((some ⟨g, 0, none⟩)) X.length cap) X.length (tokv X)] _ := hM
  obtain ⟨e1, e2⟩ := numR_end (m := most) hc3
  have e3 : nxJ j (numR (X.getD j tz) most) = j := by rw [e1]; rfl
  rw [e1] at e3
  exact ⟨by rw [e1, e2] <;> rfl, by rw [e1, e3]; exact hM⟩
 ·
  have hj1 := hX.next j hj hc3
  refine Ends.seq (Ends.region ?_)
  refine S.val hA (R.fieldAddr (q := 0) fi77_0 rfl rfl rfl) rfl ?_; clear hA a; intro a hA
  refine S.val hA (R.load sz3 rfl (hM.cell (k := 0) rfl rfl)) rfl ?_; clear hA a; intro a hA
  refine S.val hA (R.eql rfl rfl) rfl ?_; clear hA a; intro a hA
  refine S.val hA (R.assign rfl) rfl ?_; clear hA a; intro a hA
  refine S.done ?_
  replace hA : St 31 [(0, _), (1, _), (6, _), (18, _)] a := hA.sub ((.cons rfl (.cons rfl (.cons rfl (.cons rfl .nil)))))
  refine Ends.ite hA rfl (fun hc4 => ?_) (fun hc4 => ?_)
  ·
   refine Ends.seq (Ends.region ?_)
   refine S.val hA (R.assign rfl) rfl ?_; clear hA a; intro a hA
   refine S.val hA (R.assign rfl) rfl ?_; clear hA a; intro a hA
   refine S.done ?_
   refine Ends.ret2 Tryd.func81 Tryd.results81 hA rfl rfl ?_
   replace hM := hM.front (k := 2) rfl
   replace hM := hM.front (k := 2) rfl
   replace hM : Mem _ _ [pt rb #[.slice (some ⟨g, j * 4, none⟩) (X.length - j) (cap - j), .int .i64 ((X.getD j tz).a)] 62, own 77 4 (.slice ((some ⟨g, 0, none⟩)) X.length cap) X.length (tokv X), pt b1 #[.int .i64 ((X.getD j tz).k), .string ((X.getD j tz).x), .int .i64 ((X.getD j tz).n), .int .i64 ((X.getD j tz).a)] 77] _ := hM
   replace hM := hM.firstN 2
   replace hM : Mem _ _ [pt rb #[.slice (some ⟨g, j * 4, none⟩) (X.length - j) (cap - j), .int .i64 ((X.getD j tz).a)] 62, own 77 4 (.slice ((some ⟨g, 0, none⟩)) X.length cap) X.length (tokv X)] _ := hM
   obtain ⟨e1, e2⟩ := numR_word (m := most) hc3 hc4
   have e3 : nxJ j (numR (X.getD j tz) most) = j := by rw [e1]; rfl
   rw [e1] at e3
   exact ⟨by rw [e1, e2] <;> rfl, by rw [e1, e3]; exact hM⟩
  ·
   refine Ends.seq (Ends.region ?_)
   refine S.val hA (R.fieldAddr (q := 2) fi77_2 rfl rfl rfl) rfl ?_; clear hA a; intro a hA
   refine S.val hA (R.load sz3 rfl (hM.cell (k := 0) rfl rfl)) rfl ?_; clear hA a; intro a hA
   refine S.val hA (R.move rfl) rfl ?_; clear hA a; intro a hA
   refine S.val hA (R.gtr rfl rfl) rfl ?_; clear hA a; intro a hA
   refine S.val hA (R.assign rfl) rfl ?_; clear hA a; intro a hA
   refine S.done ?_
   replace hA : St 31 [(0, _), (6, _), (22, _)] a := hA.sub ((.cons rfl (.cons rfl (.cons rfl .nil))))
   refine Ends.ite hA rfl (fun hc5 => ?_) (fun hc5 => ?_)
   ·
    refine Ends.seq (Ends.region ?_)
    refine S.val hA (R.assign rfl) rfl ?_; clear hA a; intro a hA
    refine S.val hA (R.assign rfl) rfl ?_; clear hA a; intro a hA
    refine S.done ?_
    refine Ends.ret2 Tryd.func81 Tryd.results81 hA rfl rfl ?_
    replace hM := hM.front (k := 2) rfl
    replace hM := hM.front (k := 2) rfl
    replace hM : Mem _ _ [pt rb #[.slice (some ⟨g, j * 4, none⟩) (X.length - j) (cap - j), .int .i64 ((X.getD j tz).a)] 62, own 77 4 (.slice ((some ⟨g, 0, none⟩)) X.length cap) X.length (tokv X), pt b1 #[.int .i64 ((X.getD j tz).k), .string ((X.getD j tz).x), .int .i64 ((X.getD j tz).n), .int .i64 ((X.getD j tz).a)] 77] _ := hM
    replace hM := hM.firstN 2
    replace hM : Mem _ _ [pt rb #[.slice (some ⟨g, j * 4, none⟩) (X.length - j) (cap - j), .int .i64 ((X.getD j tz).a)] 62, own 77 4 (.slice ((some ⟨g, 0, none⟩)) X.length cap) X.length (tokv X)] _ := hM
    obtain ⟨e1, e2⟩ := numR_big hc3 hc4 hc5
    have e3 : nxJ j (numR (X.getD j tz) most) = j := by rw [e1]; rfl
    rw [e1] at e3
    exact ⟨by rw [e1, e2] <;> rfl, by rw [e1, e3]; exact hM⟩
   ·
    refine Ends.skip (Ends.inBlock (Ends.seq (Ends.region ?_)))
    refine S.val hA (R.move rfl) rfl ?_; clear hA a; intro a hA
    replace hM := hM.front (k := 2) rfl
    replace hM := hM.front (k := 2) rfl
    replace hM : Mem _ _ [pt rb #[.slice (some ⟨g, j * 4, none⟩) (X.length - j) (cap - j), .int .i64 ((X.getD j tz).a)] 62, own 77 4 (.slice ((some ⟨g, 0, none⟩)) X.length cap) X.length (tokv X), pt b1 #[.int .i64 ((X.getD j tz).k), .string ((X.getD j tz).x), .int .i64 ((X.getD j tz).n), .int .i64 ((X.getD j tz).a)] 77] _ := hM
    refine S.call hA (R.callF Tryd.func80 rfl rfl rfl) rfl (take06 g rb j cap ((X.getD j tz).a) X hX (by omega) hcap hj1 _ (hM.hereN 2)) ?_; clear hA a
    rintro e w5 ⟨rfl, hn⟩
    replace hM : Mem _ _ [pt rb #[.slice (some ⟨g, (j + 1) * 4, none⟩) (X.length - (j + 1)) (cap - (j + 1)), .int .i64 ((X.getD j tz).a)] 62, own 77 4 (.slice ((some ⟨g, 0, none⟩)) X.length cap) X.length (tokv X), pt b1 #[.int .i64 ((X.getD j tz).k), .string ((X.getD j tz).x), .int .i64 ((X.getD j tz).n), .int .i64 ((X.getD j tz).a)] 77] _ := hM.callL 2 hn; clear hn
    refine ⟨undef, rfl, fun a hA => ?_⟩
    refine S.done ?_
    replace hA : St 31 [(6, _)] a := hA.sub ((.cons rfl .nil))
    refine Ends.seq (Ends.region ?_)
    refine S.val hA (R.fieldAddr (q := 2) fi77_2 rfl rfl rfl) rfl ?_; clear hA a; intro a hA
    refine S.val hA (R.load sz3 rfl (hM.cell (k := 2) rfl rfl)) rfl ?_; clear hA a; intro a hA
    refine S.val hA (R.assign rfl) rfl ?_; clear hA a; intro a hA
    refine S.val hA (R.assign rfl) rfl ?_; clear hA a; intro a hA
    refine S.done ?_
    refine Ends.ret2 Tryd.func81 Tryd.results81 hA rfl rfl ?_
    replace hM := hM.firstN 2
    replace hM : Mem _ _ [pt rb #[.slice (some ⟨g, (j + 1) * 4, none⟩) (X.length - (j + 1)) (cap - (j + 1)), .int .i64 ((X.getD j tz).a)] 62, own 77 4 (.slice ((some ⟨g, 0, none⟩)) X.length cap) X.length (tokv X)] _ := hM
    obtain ⟨e1, e2⟩ := numR_ok hc3 hc4 hc5
    have e3 : nxJ j (numR (X.getD j tz) most) = j + 1 := by rw [e1]; rfl
    rw [e1] at e3
    exact ⟨by rw [e1, e2] <;> rfl, by rw [e1, e3]; exact hM⟩
set_option maxRecDepth 100000 in
set_option maxHeartbeats 400000 in
theorem count06 (g rb j cap : Nat) (at0 : Int) (X : List Tok) (hX : Toks X) (hj : j < X.length) (hcap : X.length ≤ cap) (most : Int) (w : World) (hM : Mem w (feet [pt rb #[.slice (some ⟨g, j * 4, none⟩) (X.length - j) (cap - j), .int .i64 at0] 62, own 77 4 (.slice ((some ⟨g, 0, none⟩)) X.length cap) X.length (tokv X)]) [pt rb #[.slice (some ⟨g, j * 4, none⟩) (X.length - j) (cap - j), .int .i64 at0] 62, own 77 4 (.slice ((some ⟨g, 0, none⟩)) X.length cap) X.length (tokv X)] w) :
  Calls Tryd.prog 64 #[.pointer (some ⟨rb, 0, none⟩), .int .i64 most] w fun e w' => e = .returned (.tuple #[.int .i64 (numN (X.getD j tz) most), .int .i64 (cntR (X.getD j tz) most)]) ∧ Mem w (feet [pt rb #[.slice (some ⟨g, j * 4, none⟩) (X.length - j) (cap - j), .int .i64 at0] 62, own 77 4 (.slice ((some ⟨g, 0, none⟩)) X.length cap) X.length (tokv X)]) [pt rb #[.slice (some ⟨g, (nxJ j (numR (X.getD j tz) most)) * 4, none⟩) (X.length - (nxJ j (numR (X.getD j tz) most))) (cap - (nxJ j (numR (X.getD j tz) most))), .int .i64 ((X.getD j tz).a)] 62, own 77 4 (.slice ((some ⟨g, 0, none⟩)) X.length cap) X.length (tokv X)] w' := by
 have hbs := Below.refl (B := w.heap.size) w
 have hlX := hX.len
 refine Calls.of_ends (vs := [.pointer (some ⟨rb, 0, none⟩), .int .i64 most]) Tryd.func64 rfl Tryd.ntmps64 rfl ?_
 intro a hA
 replace hA : St 22 [(0, _), (1, _)] a := hA
 refine Ends.seq (Ends.region ?_)
 refine S.val hA (R.assign rfl) rfl ?_; clear hA a; intro a hA
 refine S.val hA (R.assign rfl) rfl ?_; clear hA a; intro a hA
 refine S.done ?_
 refine Ends.seq (Ends.region ?_)
 refine S.val hA (R.move rfl) rfl ?_; clear hA a; intro a hA
 refine S.val hA (R.move rfl) rfl ?_; clear hA a; intro a hA
 refine S.call hA (R.callF Tryd.func81 rfl rfl rfl) rfl (number06 g rb j cap at0 X hX (by omega) hcap most _ (hM.hereN 2)) ?_; clear hA a
 rintro e w1 ⟨rfl, hn⟩
 replace hM : Mem _ _ [pt rb #[.slice (some ⟨g, (nxJ j (numR (X.getD j tz) most)) * 4, none⟩) (X.length - (nxJ j (numR (X.getD j tz) most))) (cap - (nxJ j (numR (X.getD j tz) most))), .int .i64 ((X.getD j tz).a)] 62, own 77 4 (.slice ((some ⟨g, 0, none⟩)) X.length cap) X.length (tokv X)] _ := hM.callL 2 hn; clear hn
 refine ⟨.tuple #[.int .i64 ((numN (X.getD j tz) most)), .int .i64 ((numR (X.getD j tz) most))], rfl, fun a hA => ?_⟩
 refine S.val hA (R.move rfl) rfl ?_; clear hA a; intro a hA
 refine S.val hA (R.extract (v := .int .i64 ((numN (X.getD j tz) most))) rfl rfl) rfl ?_; clear hA a; intro a hA
 refine S.val hA (R.extract (v := .int .i64 ((numR (X.getD j tz) most))) rfl rfl) rfl ?_; clear hA a; intro a hA
 refine S.val hA (R.assign rfl) rfl ?_; clear hA a; intro a hA
 refine S.val hA (R.assign rfl) rfl ?_; clear hA a; intro a hA
 refine S.done ?_
 replace hA : St 22 [(6, _), (7, _)] a := hA.sub ((.cons rfl (.cons rfl .nil)))
 refine Ends.seq (Ends.seq ?_)
 refine Ends.cut (fun (a : Act) (wv : World) => St 22 [(6, .int .i64 ((numN (X.getD j tz) most))), (7, .int .i64 ((numR (X.getD j tz) most))), (19, .bool (decide ((((numR (X.getD j tz) most)) = 0 ∧ ((numN (X.getD j tz) most)) = 0))))] a ∧ Mem w (feet [pt rb #[.slice (some ⟨g, j * 4, none⟩) (X.length - j) (cap - j), .int .i64 at0] 62, own 77 4 (.slice ((some ⟨g, 0, none⟩)) X.length cap) X.length (tokv X)]) [pt rb #[.slice (some ⟨g, (nxJ j (numR (X.getD j tz) most)) * 4, none⟩) (X.length - (nxJ j (numR (X.getD j tz) most))) (cap - (nxJ j (numR (X.getD j tz) most))), .int .i64 ((X.getD j tz).a)] 62, own 77 4 (.slice ((some ⟨g, 0, none⟩)) X.length cap) X.length (tokv X)] wv) ?_ (fun k2 hJ => ?_)
 ·
  clear hA hM a; rintro a w2 ⟨hA, hM⟩
  refine Ends.ite hA rfl (fun hc1 => ?_) (fun hc1 => ?_)
  ·
   refine Ends.region ?_
   refine S.val hA (R.assign rfl) rfl ?_; clear hA a; intro a hA
   refine S.done ?_
   refine Ends.seq (Ends.region ?_)
   refine S.val hA (R.move rfl) rfl ?_; clear hA a; intro a hA
   refine S.val hA (R.move rfl) rfl ?_; clear hA a; intro a hA
   refine S.val hA (R.assign rfl) rfl ?_; clear hA a; intro a hA
   refine S.val hA (R.assign rfl) rfl ?_; clear hA a; intro a hA
   refine S.done ?_
   replace hA : St 22 [(4, _), (5, _)] a := hA.sub ((.cons rfl (.cons rfl .nil)))
   refine Ends.ret2 Tryd.func64 Tryd.results64 hA rfl rfl ?_
   replace hM := hM.firstN 2
   replace hM : Mem _ _ [pt rb #[.slice (some ⟨g, (nxJ j (numR (X.getD j tz) most)) * 4, none⟩) (X.length - (nxJ j (numR (X.getD j tz) most))) (cap - (nxJ j (numR (X.getD j tz) most))), .int .i64 ((X.getD j tz).a)] 62, own 77 4 (.slice ((some ⟨g, 0, none⟩)) X.length cap) X.length (tokv X)] _ := hM
   have e1 := cntR_pos hc1
   exact ⟨by rw [e1] <;> rfl, hM⟩
  ·
   refine Ends.skip (Ends.seq (Ends.region ?_))
   refine S.val hA (R.move rfl) rfl ?_; clear hA a; intro a hA
   refine S.val hA (R.move rfl) rfl ?_; clear hA a; intro a hA
   refine S.val hA (R.assign rfl) rfl ?_; clear hA a; intro a hA
   refine S.val hA (R.assign rfl) rfl ?_; clear hA a; intro a hA
   refine S.done ?_
   replace hA : St 22 [(4, _), (5, _)] a := hA.sub ((.cons rfl (.cons rfl .nil)))
   refine Ends.ret2 Tryd.func64 Tryd.results64 hA rfl rfl ?_
   replace hM := hM.firstN 2
   replace hM : Mem _ _ [pt rb #[.slice (some ⟨g, (nxJ j (numR (X.getD j tz) most)) * 4, none⟩) (X.length - (nxJ j (numR (X.getD j tz) most))) (cap - (nxJ j (numR (X.getD j tz) most))), .int .i64 ((X.getD j tz).a)] 62, own 77 4 (.slice ((some ⟨g, 0, none⟩)) X.length cap) X.length (tokv X)] _ := hM
   have e1 := cntR_neg hc1
   exact ⟨by rw [e1] <;> rfl, hM⟩
 ·
  refine Ends.region ?_
  refine S.val hA (R.move rfl) rfl ?_; clear hA a; intro a hA
  refine S.val hA (R.eql rfl rfl) rfl ?_; clear hA a; intro a hA
  refine S.val hA (R.move rfl) rfl ?_; clear hA a; intro a hA
  refine hA.split (d := 16) rfl ?_ ?_
  ·
   clear hA; intro hg2 hA
   refine S.valg (dj := 16) hA (by kernel_rfl) rfl (R.move rfl) rfl ?_; clear hA a; intro a hA
   refine S.valg (dj := 16) hA (by kernel_rfl) rfl (R.eql rfl rfl) rfl ?_; clear hA a; intro a hA
   refine S.val hA (R.pickT rfl rfl) rfl ?_; clear hA a; intro a hA
   refine S.done ?_
   replace hA : St 22 [(6, _), (7, _), (19, _)] a := hA.sub ((.cons rfl (.cons rfl (.cons rfl .nil))))
   exact hJ _ _ ⟨hA.sub (.cons rfl (.cons rfl (.cons (by first | rfl | exact congrArg (fun b => some (Value.bool b)) (by first | exact decide_eq_decide.2 (by omega) | exact or_bool (by omega) | exact and_bool (by omega) | (simp; done) | (simp [hg2]; done) | (have h80 := hg2; (try simp at h80); simp [h80]; done) | exact (decide_eq_false (fun h9 => hg2 h9.1)).symm)) .nil))), hM⟩
  ·
   clear hA; intro hg2 hA
   refine S.no (dj := 16) hA (by kernel_rfl) rfl rfl rfl ?_; clear hA a; intro a hA
   refine S.no (dj := 16) hA (by kernel_rfl) rfl rfl rfl ?_; clear hA a; intro a hA
   refine S.val hA (R.pickF rfl rfl) rfl ?_; clear hA a; intro a hA
   refine S.done ?_
   replace hA : St 22 [(6, _), (7, _), (19, _)] a := hA.sub ((.cons rfl (.cons rfl (.cons rfl .nil))))
   exact hJ _ _ ⟨hA.sub (.cons rfl (.cons rfl (.cons (by first | rfl | exact congrArg (fun b => some (Value.bool b)) (by first | exact decide_eq_decide.2 (by omega) | exact or_bool (by omega) | exact and_bool (by omega) | (simp; done) | (simp [hg2]; done) | (have h80 := hg2; (try simp at h80); simp [h80]; done) | exact (decide_eq_false (fun h9 => hg2 h9.1)).symm)) .nil))), hM⟩
set_option maxRecDepth 100000 in
set_option maxHeartbeats 400000 in
theorem end06 (g rb j cap : Nat) (at0 : Int) (X : List Tok) (hX : Toks X) (hj : j < X.length) (hcap : X.length ≤ cap) (w : World) (hM : Mem w (feet [pt rb #[.slice (some ⟨g, j * 4, none⟩) (X.length - j) (cap - j), .int .i64 at0] 62, own 77 4 (.slice ((some ⟨g, 0, none⟩)) X.length cap) X.length (tokv X)]) [pt rb #[.slice (some ⟨g, j * 4, none⟩) (X.length - j) (cap - j), .int .i64 at0] 62, own 77 4 (.slice ((some ⟨g, 0, none⟩)) X.length cap) X.length (tokv X)] w) :
  Calls Tryd.prog 66 #[.pointer (some ⟨rb, 0, none⟩)] w fun e w' => e = .returned (.int .i64 (endR (X.getD j tz))) ∧ Mem w (feet [pt rb #[.slice (some ⟨g, j * 4, none⟩) (X.length - j) (cap - j), .int .i64 at0] 62, own 77 4 (.slice ((some ⟨g, 0, none⟩)) X.length cap) X.length (tokv X)]) [pt rb #[.slice (some ⟨g, j * 4, none⟩) (X.length - j) (cap - j), .int .i64 ((X.getD j tz).a)] 62, own 77 4 (.slice ((some ⟨g, 0, none⟩)) X.length cap) X.length (tokv X)] w' := by
 have hbs := Below.refl (B := w.heap.size) w
 have hlX := hX.len
 refine Calls.of_ends (vs := [.pointer (some ⟨rb, 0, none⟩)]) Tryd.func66 rfl Tryd.ntmps66 rfl ?_
 intro a hA
 replace hA : St 14 [(0, _)] a := hA
 refine Ends.seq (Ends.region ?_)
 refine S.val hA (R.assign rfl) rfl ?_; clear hA a; intro a hA
 refine S.done ?_
 refine Ends.seq (Ends.region ?_)
 refine S.val hA (R.move rfl) rfl ?_; clear hA a; intro a hA
 refine S.call hA (R.callF Tryd.func79 rfl rfl rfl) rfl (next06 g rb j cap at0 X hX (by omega) hcap _ (hM.hereN 2)) ?_; clear hA a
 rintro e w1 ⟨rfl, hn⟩
 replace hM : Mem _ _ [pt rb #[.slice (some ⟨g, j * 4, none⟩) (X.length - j) (cap - j), .int .i64 at0] 62, own 77 4 (.slice ((some ⟨g, 0, none⟩)) X.length cap) X.length (tokv X)] _ := hM.callL 2 hn; clear hn
 refine ⟨.agg #[.int .i64 ((X.getD j tz).k), .string ((X.getD j tz).x), .int .i64 ((X.getD j tz).n), .int .i64 ((X.getD j tz).a)], rfl, fun a hA => ?_⟩
 refine S.alloc hA hM info77 rfl rfl ?_; clear hA hM a; intro b1 w2 hb2 hM a hA
 replace hM : Mem _ _ [pt b1 #[.int .i64 0, .string (⟨#[]⟩), .int .i64 0, .int .i64 0] 77, pt rb #[.slice (some ⟨g, j * 4, none⟩) (X.length - j) (cap - j), .int .i64 at0] 62, own 77 4 (.slice ((some ⟨g, 0, none⟩)) X.length cap) X.length (tokv X)] _ := hM
 refine S.storeA (k := 0) hA hM sz77 rfl rfl rfl rfl rfl rfl ?_; clear hM
 intro w3 hM
 replace hM : Mem _ _ [pt b1 #[.int .i64 ((X.getD j tz).k), .string ((X.getD j tz).x), .int .i64 ((X.getD j tz).n), .int .i64 ((X.getD j tz).a)] 77, pt rb #[.slice (some ⟨g, j * 4, none⟩) (X.length - j) (cap - j), .int .i64 at0] 62, own 77 4 (.slice ((some ⟨g, 0, none⟩)) X.length cap) X.length (tokv X)] _ := hM
 refine S.done ?_
 refine Ends.seq (Ends.region ?_)
 refine S.val hA (R.move rfl) rfl ?_; clear hA a; intro a hA
 refine S.val hA (R.fieldAddr (q := 3) fi77_3 rfl rfl rfl) rfl ?_; clear hA a; intro a hA
 refine S.val hA (R.load sz3 rfl (hM.cell (k := 0) rfl rfl)) rfl ?_; clear hA a; intro a hA
 refine S.val hA (R.nilCheck rfl) rfl ?_; clear hA a; intro a hA
 refine S.val hA (R.fieldAddr (q := 1) fi62_1 rfl rfl rfl) rfl ?_; clear hA a; intro a hA
 refine S.store (k := 1) hA hM sz3 rfl rfl rfl rfl rfl ?_; clear hM
 intro w4 hM
 replace hM : Mem _ _ [pt b1 #[.int .i64 ((X.getD j tz).k), .string ((X.getD j tz).x), .int .i64 ((X.getD j tz).n), .int .i64 ((X.getD j tz).a)] 77, pt rb #[.slice (some ⟨g, j * 4, none⟩) (X.length - j) (cap - j), .int .i64 ((X.getD j tz).a)] 62, own 77 4 (.slice ((some ⟨g, 0, none⟩)) X.length cap) X.length (tokv X)] _ := hM
 refine S.done ?_
 replace hA : St 14 [(3, _)] a := hA.sub ((.cons rfl .nil))
 refine Ends.seq (Ends.seq (Ends.region ?_))
 refine S.val hA (R.fieldAddr (q := 0) fi77_0 rfl rfl rfl) rfl ?_; clear hA a; intro a hA
 refine S.val hA (R.load sz3 rfl (hM.cell (k := 0) rfl rfl)) rfl ?_; clear hA a; intro a hA
 refine S.val hA (R.neq rfl rfl) rfl ?_; clear hA a; intro a hA
 refine S.done ?_
 refine Ends.ite hA rfl (fun hc3 => ?_) (fun hc3 => ?_)
 ·
  refine Ends.seq (Ends.region ?_)
  refine S.val hA (R.assign rfl) rfl ?_; clear hA a; intro a hA
  refine S.done ?_
  replace hA : St 14 [(2, _)] a := hA.sub ((.cons rfl .nil))
  refine Ends.ret1 Tryd.func66 Tryd.results66 hA rfl ?_
  replace hM := hM.front (k := 2) rfl
  replace hM := hM.front (k := 2) rfl
  replace hM : Mem _ _ [pt rb #[.slice (some ⟨g, j * 4, none⟩) (X.length - j) (cap - j), .int .i64 ((X.getD j tz).a)] 62, own 77 4 (.slice ((some ⟨g, 0, none⟩)) X.length cap) X.length (tokv X), pt b1 #[.int .i64 ((X.getD j tz).k), .string ((X.getD j tz).x), .int .i64 ((X.getD j tz).n), .int .i64 ((X.getD j tz).a)] 77] _ := hM
  replace hM := hM.firstN 2
  replace hM : Mem _ _ [pt rb #[.slice (some ⟨g, j * 4, none⟩) (X.length - j) (cap - j), .int .i64 ((X.getD j tz).a)] 62, own 77 4 (.slice ((some ⟨g, 0, none⟩)) X.length cap) X.length (tokv X)] _ := hM
  have e1 : endR (X.getD j tz) = 7 := if_pos hc3
  exact ⟨by rw [e1] <;> rfl, hM⟩
 ·
  refine Ends.skip (Ends.seq (Ends.region ?_))
  refine S.val hA (R.assign rfl) rfl ?_; clear hA a; intro a hA
  refine S.done ?_
  replace hA : St 14 [(2, _)] a := hA.sub ((.cons rfl .nil))
  refine Ends.ret1 Tryd.func66 Tryd.results66 hA rfl ?_
  replace hM := hM.front (k := 2) rfl
  replace hM := hM.front (k := 2) rfl
  replace hM : Mem _ _ [pt rb #[.slice (some ⟨g, j * 4, none⟩) (X.length - j) (cap - j), .int .i64 ((X.getD j tz).a)] 62, own 77 4 (.slice ((some ⟨g, 0, none⟩)) X.length cap) X.length (tokv X), pt b1 #[.int .i64 ((X.getD j tz).k), .string ((X.getD j tz).x), .int .i64 ((X.getD j tz).n), .int .i64 ((X.getD j tz).a)] 77] _ := hM
  replace hM := hM.firstN 2
  replace hM : Mem _ _ [pt rb #[.slice (some ⟨g, j * 4, none⟩) (X.length - j) (cap - j), .int .i64 ((X.getD j tz).a)] 62, own 77 4 (.slice ((some ⟨g, 0, none⟩)) X.length cap) X.length (tokv X)] _ := hM
  have e1 : endR (X.getD j tz) = 0 := if_neg hc3
  exact ⟨by rw [e1] <;> rfl, hM⟩
set_option maxRecDepth 100000 in
set_option maxHeartbeats 400000 in
theorem word06_3 (g rb j cap : Nat) (at0 : Int) (X : List Tok) (hX : Toks X) (hj : j < X.length) (hcap : X.length ≤ cap) (sb : Nat) (s1 s2 s3 : ByteArray) (w : World) (hM : Mem w (feet [pt rb #[.slice (some ⟨g, j * 4, none⟩) (X.length - j) (cap - j), .int .i64 at0] 62, own 77 4 (.slice ((some ⟨g, 0, none⟩)) X.length cap) X.length (tokv X), pt sb #[.string s1, .string s2, .string s3] 9]) [pt rb #[.slice (some ⟨g, j * 4, none⟩) (X.length - j) (cap - j), .int .i64 at0] 62, own 77 4 (.slice ((some ⟨g, 0, none⟩)) X.length cap) X.length (tokv X), pt sb #[.string s1, .string s2, .string s3] 9] w) :
  Calls Tryd.prog 61 #[.pointer (some ⟨rb, 0, none⟩), .slice (some ⟨sb, 0, none⟩) 3 3] w fun e w' => e = .returned (.tuple #[.int .i64 (wordR (X.getD j tz) [s1, s2, s3]).1, .int .i64 (wordR (X.getD j tz) [s1, s2, s3]).2]) ∧ Mem w (feet [pt rb #[.slice (some ⟨g, j * 4, none⟩) (X.length - j) (cap - j), .int .i64 at0] 62, own 77 4 (.slice ((some ⟨g, 0, none⟩)) X.length cap) X.length (tokv X), pt sb #[.string s1, .string s2, .string s3] 9]) [pt rb #[.slice (some ⟨g, (nxJ j (wordR (X.getD j tz) [s1, s2, s3]).2) * 4, none⟩) (X.length - (nxJ j (wordR (X.getD j tz) [s1, s2, s3]).2)) (cap - (nxJ j (wordR (X.getD j tz) [s1, s2, s3]).2)), .int .i64 ((X.getD j tz).a)] 62, own 77 4 (.slice ((some ⟨g, 0, none⟩)) X.length cap) X.length (tokv X), pt sb #[.string s1, .string s2, .string s3] 9] w' := by
 have hbs := Below.refl (B := w.heap.size) w
 have hlX := hX.len
 refine Calls.of_ends (vs := [.pointer (some ⟨rb, 0, none⟩), .slice (some ⟨sb, 0, none⟩) 3 3]) Tryd.func61 rfl Tryd.ntmps61 rfl ?_
 intro a hA
 replace hA : St 39 [(0, _), (1, _)] a := hA
 refine Ends.seq (Ends.region ?_)
 refine S.val hA (R.assign rfl) rfl ?_; clear hA a; intro a hA
 refine S.val hA (R.assign rfl) rfl ?_; clear hA a; intro a hA
 refine S.done ?_
 refine Ends.seq (Ends.region ?_)
 refine S.val hA (R.move rfl) rfl ?_; clear hA a; intro a hA
 refine S.call hA (R.callF Tryd.func79 rfl rfl rfl) rfl (next06 g rb j cap at0 X hX (by omega) hcap _ (hM.hereN 2)) ?_; clear hA a
 rintro e w1 ⟨rfl, hn⟩
 replace hM : Mem _ _ [pt rb #[.slice (some ⟨g, j * 4, none⟩) (X.length - j) (cap - j), .int .i64 at0] 62, own 77 4 (.slice ((some ⟨g, 0, none⟩)) X.length cap) X.length (tokv X), pt sb #[.string s1, .string s2, .string s3] 9] _ := hM.callL 2 hn; clear hn
 refine ⟨.agg #[.int .i64 ((X.getD j tz).k), .string ((X.getD j tz).x), .int .i64 ((X.getD j tz).n), .int .i64 ((X.getD j tz).a)], rfl, fun a hA => ?_⟩
 refine S.alloc hA hM info77 rfl rfl ?_; clear hA hM a; intro b1 w2 hb2 hM a hA
 replace hM : Mem _ _ [pt b1 #[.int .i64 0, .string (⟨#[]⟩), .int .i64 0, .int .i64 0] 77, pt rb #[.slice (some ⟨g, j * 4, none⟩) (X.length - j) (cap - j), .int .i64 at0] 62, own 77 4 (.slice ((some ⟨g, 0, none⟩)) X.length cap) X.length (tokv X), pt sb #[.string s1, .string s2, .string s3] 9] _ := hM
 refine S.storeA (k := 0) hA hM sz77 rfl rfl rfl rfl rfl rfl ?_; clear hM
 intro w3 hM
 replace hM : Mem _ _ [pt b1 #[.int .i64 ((X.getD j tz).k), .string ((X.getD j tz).x), .int .i64 ((X.getD j tz).n), .int .i64 ((X.getD j tz).a)] 77, pt rb #[.slice (some ⟨g, j * 4, none⟩) (X.length - j) (cap - j), .int .i64 at0] 62, own 77 4 (.slice ((some ⟨g, 0, none⟩)) X.length cap) X.length (tokv X), pt sb #[.string s1, .string s2, .string s3] 9] _ := hM
 refine S.done ?_
 replace hA : St 39 [(0, _), (1, _), (6, _)] a := hA.sub ((.cons rfl (.cons rfl (.cons rfl .nil))))
 refine Ends.seq (Ends.region ?_)
 refine S.val hA (R.move rfl) rfl ?_; clear hA a; intro a hA
 refine S.val hA (R.fieldAddr (q := 3) fi77_3 rfl rfl rfl) rfl ?_; clear hA a; intro a hA
 refine S.val hA (R.load sz3 rfl (hM.cell (k := 0) rfl rfl)) rfl ?_; clear hA a; intro a hA
 refine S.val hA (R.nilCheck rfl) rfl ?_; clear hA a; intro a hA
 refine S.val hA (R.fieldAddr (q := 1) fi62_1 rfl rfl rfl) rfl ?_; clear hA a; intro a hA
 refine S.store (k := 1) hA hM sz3 rfl rfl rfl rfl rfl ?_; clear hM
 intro w4 hM
 replace hM : Mem _ _ [pt b1 #[.int .i64 ((X.getD j tz).k), .string ((X.getD j tz).x), .int .i64 ((X.getD j tz).n), .int .i64 ((X.getD j tz).a)] 77, pt rb #[.slice (some ⟨g, j * 4, none⟩) (X.length - j) (cap - j), .int .i64 ((X.getD j tz).a)] 62, own 77 4 (.slice ((some ⟨g, 0, none⟩)) X.length cap) X.length (tokv X), pt sb #[.string s1, .string s2, .string s3] 9] _ := hM
 refine S.done ?_
 replace hA : St 39 [(0, _), (1, _), (6, _)] a := hA.sub ((.cons rfl (.cons rfl (.cons rfl .nil))))
 refine Ends.seq (Ends.seq (Ends.region ?_))
 refine S.val hA (R.fieldAddr (q := 0) fi77_0 rfl rfl rfl) rfl ?_; clear hA a; intro a hA
 refine S.val hA (R.load sz3 rfl (hM.cell (k := 0) rfl rfl)) rfl ?_; clear hA a; intro a hA
 refine S.val hA (R.eql rfl rfl) rfl ?_; clear hA a; intro a hA
 refine S.done ?_
 refine Ends.ite hA rfl (fun hc3 => ?_) (fun hc3 => ?_)
 ·
  refine Ends.seq (Ends.region ?_)
  refine S.val hA (R.assign rfl) rfl ?_; clear hA a; intro a hA
  refine S.val hA (R.assign rfl) rfl ?_; clear hA a; intro a hA
  refine S.done ?_
  refine Ends.ret2 Tryd.func61 Tryd.results61 hA rfl rfl ?_
  replace hM := hM.front (k := 3) rfl
  replace hM := hM.front (k := 3) rfl
  replace hM := hM.front (k := 3) rfl
  replace hM : Mem _ _ [pt rb #[.slice (some ⟨g, j * 4, none⟩) (X.length - j) (cap - j), .int .i64 ((X.getD j tz).a)] 62, own 77 4 (.slice ((some ⟨g, 0, none⟩)) X.length cap) X.length (tokv X), pt sb #[.string s1, .string s2, .string s3] 9, pt b1 #[.int .i64 ((X.getD j tz).k), .string ((X.getD j tz).x), .int .i64 ((X.getD j tz).n), .int .i64 ((X.getD j tz).a)] 77] _ := hM
  replace hM := hM.firstN 3
  replace hM : Mem _ _ [pt rb #[.slice (some ⟨g, j * 4, none⟩) (X.length - j) (cap - j), .int .i64 ((X.getD j tz).a)] 62, own 77 4 (.slice ((some ⟨g, 0, none⟩)) X.length cap) X.length (tokv X), pt sb #[.string s1, .string s2, .string s3] 9] _ := hM
  have e1 : (wordR (X.getD j tz) [s1, s2, s3]) = (0, 6) := wordR_end hc3
  have e2 : nxJ j (wordR (X.getD j tz) [s1, s2, s3]).2 = j := by rw [e1]; rfl
  rw [e1] at e2
  exact ⟨by rw [e1] <;> rfl, by rw [e1, e2]; exact hM⟩
 ·
  have hj1 := hX.next j hj hc3
  refine Ends.skip (Ends.seq (Ends.seq (Ends.region ?_)))
  refine S.val hA (R.move rfl) rfl ?_; clear hA a; intro a hA
  refine S.val hA (R.lenS Tryd.underlying34 rfl rfl) rfl ?_; clear hA a; intro a hA
  refine S.val hA (R.move rfl) rfl ?_; clear hA a; intro a hA
  refine S.done ?_
  replace hA : St 39 [(0, _), (6, _), (19, _), (20, _), (21, _)] a := hA.sub ((.cons rfl (.cons rfl (.cons rfl (.cons rfl (.cons rfl .nil))))))
  refine Ends.block ?_
  refine Ends.unroll ?_
  refine Ends.seq (Ends.region ?_)
  refine S.val hA (R.tt (R.lss rfl rfl) (by first | decide | simp | omega)) rfl ?_; clear hA a; intro a hA
  refine S.done ?_
  refine Ends.seq ?_
  refine Ends.condT hA rfl ?_
  refine Ends.skip (Ends.seq (Ends.block (Ends.seq (Ends.region ?_))))
  refine S.val hA (R.move rfl) rfl ?_; clear hA a; intro a hA
  refine S.val hA (R.indexAddr (q := 0) sl34 rfl rfl (by omega) (rfl)) rfl ?_; clear hA a; intro a hA
  refine S.val hA (R.load sz9 rfl (hM.cell (k := 3) rfl rfl)) rfl ?_; clear hA a; intro a hA
  refine S.val hA (R.assign rfl) rfl ?_; clear hA a; intro a hA
  refine S.val hA (R.assign rfl) rfl ?_; clear hA a; intro a hA
  refine S.done ?_
  replace hA : St 39 [(0, _), (6, _), (7, _), (8, _), (19, _), (20, _), (21, _)] a := hA.sub ((.cons rfl (.cons rfl (.cons rfl (.cons rfl (.cons rfl (.cons rfl (.cons rfl .nil))))))))
  refine Ends.seq ?_
  refine Ends.cut (fun (a : Act) (wv : World) => St 39 [(0, .pointer (some ⟨rb, 0, none⟩)), (6, .pointer (some ⟨b1, 0, none⟩)), (7, .int .i64 0), (19, .slice (some ⟨sb, 0, none⟩) 3 3), (20, .int .i64 3), (21, .int .i64 0), (34, .bool (decide ((((X.getD j tz).k) = 1 ∧ (X.getD j tz).x = s1))))] a ∧ Mem w (feet [pt rb #[.slice (some ⟨g, j * 4, none⟩) (X.length - j) (cap - j), .int .i64 at0] 62, own 77 4 (.slice ((some ⟨g, 0, none⟩)) X.length cap) X.length (tokv X), pt sb #[.string s1, .string s2, .string s3] 9]) [pt b1 #[.int .i64 ((X.getD j tz).k), .string ((X.getD j tz).x), .int .i64 ((X.getD j tz).n), .int .i64 ((X.getD j tz).a)] 77, pt rb #[.slice (some ⟨g, j * 4, none⟩) (X.length - j) (cap - j), .int .i64 ((X.getD j tz).a)] 62, own 77 4 (.slice ((some ⟨g, 0, none⟩)) X.length cap) X.length (tokv X), pt sb #[.string s1, .string s2, .string s3] 9] wv) ?_ (fun k2 hJ => ?_)
  ·
   clear hA hM a; rintro a w5 ⟨hA, hM⟩
   refine Ends.ite hA rfl (fun hc4 => ?_) (fun hc4 => ?_)
   ·
    refine Ends.seq (Ends.region ?_)
    refine S.val hA (R.move rfl) rfl ?_; clear hA a; intro a hA
    replace hM := hM.front (k := 2) rfl
    replace hM := hM.front (k := 2) rfl
    replace hM : Mem _ _ [pt rb #[.slice (some ⟨g, j * 4, none⟩) (X.length - j) (cap - j), .int .i64 ((X.getD j tz).a)] 62, own 77 4 (.slice ((some ⟨g, 0, none⟩)) X.length cap) X.length (tokv X), pt b1 #[.int .i64 ((X.getD j tz).k), .string ((X.getD j tz).x), .int .i64 ((X.getD j tz).n), .int .i64 ((X.getD j tz).a)] 77, pt sb #[.string s1, .string s2, .string s3] 9] _ := hM
    refine S.call hA (R.callF Tryd.func80 rfl rfl rfl) rfl (take06 g rb j cap ((X.getD j tz).a) X hX (by omega) hcap hj1 _ (hM.hereN 2)) ?_; clear hA a
    rintro e w6 ⟨rfl, hn⟩
    replace hM : Mem _ _ [pt rb #[.slice (some ⟨g, (j + 1) * 4, none⟩) (X.length - (j + 1)) (cap - (j + 1)), .int .i64 ((X.getD j tz).a)] 62, own 77 4 (.slice ((some ⟨g, 0, none⟩)) X.length cap) X.length (tokv X), pt b1 #[.int .i64 ((X.getD j tz).k), .string ((X.getD j tz).x), .int .i64 ((X.getD j tz).n), .int .i64 ((X.getD j tz).a)] 77, pt sb #[.string s1, .string s2, .string s3] 9] _ := hM.callL 2 hn; clear hn
    refine ⟨undef, rfl, fun a hA => ?_⟩
    refine S.done ?_
    refine Ends.seq (Ends.region ?_)
    refine S.val hA (R.move rfl) rfl ?_; clear hA a; intro a hA
    refine S.val hA (R.assign rfl) rfl ?_; clear hA a; intro a hA
    refine S.val hA (R.assign rfl) rfl ?_; clear hA a; intro a hA
    refine S.done ?_
    replace hA : St 39 [(0, _), (4, _), (5, _), (6, _), (19, _), (20, _), (21, _)] a := hA.sub ((.cons rfl (.cons rfl (.cons rfl (.cons rfl (.cons rfl (.cons rfl (.cons rfl .nil))))))))
    refine Ends.ret2 Tryd.func61 Tryd.results61 hA rfl rfl ?_
    replace hM := hM.front (k := 3) rfl
    replace hM := hM.front (k := 2) rfl
    replace hM := hM.front (k := 2) rfl
    replace hM : Mem _ _ [pt rb #[.slice (some ⟨g, (j + 1) * 4, none⟩) (X.length - (j + 1)) (cap - (j + 1)), .int .i64 ((X.getD j tz).a)] 62, own 77 4 (.slice ((some ⟨g, 0, none⟩)) X.length cap) X.length (tokv X), pt sb #[.string s1, .string s2, .string s3] 9, pt b1 #[.int .i64 ((X.getD j tz).k), .string ((X.getD j tz).x), .int .i64 ((X.getD j tz).n), .int .i64 ((X.getD j tz).a)] 77] _ := hM
    replace hM := hM.firstN 3
    replace hM : Mem _ _ [pt rb #[.slice (some ⟨g, (j + 1) * 4, none⟩) (X.length - (j + 1)) (cap - (j + 1)), .int .i64 ((X.getD j tz).a)] 62, own 77 4 (.slice ((some ⟨g, 0, none⟩)) X.length cap) X.length (tokv X), pt sb #[.string s1, .string s2, .string s3] 9] _ := hM
    have e1 : (wordR (X.getD j tz) [s1, s2, s3]) = (0, 0) := by
     rw [wordR_in hc3, wdI_hit hc4] <;> rfl
    have e2 : nxJ j (wordR (X.getD j tz) [s1, s2, s3]).2 = j + 1 := by rw [e1]; rfl
    rw [e1] at e2
    exact ⟨by rw [e1] <;> rfl, by rw [e1, e2]; exact hM⟩
   ·
    refine Ends.skip (Ends.inBlock (Ends.region ?_))
    refine S.val hA (R.addI rfl rfl (r := 1) rfl (by omega)) rfl ?_; clear hA a; intro a hA
    refine S.val hA (R.move rfl) rfl ?_; clear hA a; intro a hA
    refine S.done ?_
    refine Ends.inLoop ?_
    refine Ends.seq (Ends.region ?_)
    refine S.val hA (R.tt (R.lss rfl rfl) (by first | decide | simp | omega)) rfl ?_; clear hA a; intro a hA
    refine S.done ?_
    refine Ends.seq ?_
    refine Ends.condT hA rfl ?_
    refine Ends.skip (Ends.seq (Ends.block (Ends.seq (Ends.region ?_))))
    refine S.val hA (R.move rfl) rfl ?_; clear hA a; intro a hA
    refine S.val hA (R.indexAddr (q := 1) sl34 rfl rfl (by omega) (rfl)) rfl ?_; clear hA a; intro a hA
    refine S.val hA (R.load sz9 rfl (hM.cell (k := 3) rfl rfl)) rfl ?_; clear hA a; intro a hA
    refine S.val hA (R.assign rfl) rfl ?_; clear hA a; intro a hA
    refine S.val hA (R.assign rfl) rfl ?_; clear hA a; intro a hA
    refine S.done ?_
    replace hA : St 39 [(0, _), (6, _), (7, _), (8, _), (19, _), (20, _), (21, _)] a := hA.sub ((.cons rfl (.cons rfl (.cons rfl (.cons rfl (.cons rfl (.cons rfl (.cons rfl .nil))))))))
    refine Ends.seq ?_
    refine Ends.cut (fun (a : Act) (wv : World) => St 39 [(0, .pointer (some ⟨rb, 0, none⟩)), (6, .pointer (some ⟨b1, 0, none⟩)), (7, .int .i64 1), (19, .slice (some ⟨sb, 0, none⟩) 3 3), (20, .int .i64 3), (21, .int .i64 1), (34, .bool (decide ((((X.getD j tz).k) = 1 ∧ (X.getD j tz).x = s2))))] a ∧ Mem w (feet [pt rb #[.slice (some ⟨g, j * 4, none⟩) (X.length - j) (cap - j), .int .i64 at0] 62, own 77 4 (.slice ((some ⟨g, 0, none⟩)) X.length cap) X.length (tokv X), pt sb #[.string s1, .string s2, .string s3] 9]) [pt b1 #[.int .i64 ((X.getD j tz).k), .string ((X.getD j tz).x), .int .i64 ((X.getD j tz).n), .int .i64 ((X.getD j tz).a)] 77, pt rb #[.slice (some ⟨g, j * 4, none⟩) (X.length - j) (cap - j), .int .i64 ((X.getD j tz).a)] 62, own 77 4 (.slice ((some ⟨g, 0, none⟩)) X.length cap) X.length (tokv X), pt sb #[.string s1, .string s2, .string s3] 9] wv) ?_ (fun k2 hJ => ?_)
    ·
     clear hA hM a; rintro a w7 ⟨hA, hM⟩
     refine Ends.ite hA rfl (fun hc5 => ?_) (fun hc5 => ?_)
     ·
      refine Ends.seq (Ends.region ?_)
      refine S.val hA (R.move rfl) rfl ?_; clear hA a; intro a hA
      replace hM := hM.front (k := 2) rfl
      replace hM := hM.front (k := 2) rfl
      replace hM : Mem _ _ [pt rb #[.slice (some ⟨g, j * 4, none⟩) (X.length - j) (cap - j), .int .i64 ((X.getD j tz).a)] 62, own 77 4 (.slice ((some ⟨g, 0, none⟩)) X.length cap) X.length (tokv X), pt b1 #[.int .i64 ((X.getD j tz).k), .string ((X.getD j tz).x), .int .i64 ((X.getD j tz).n), .int .i64 ((X.getD j tz).a)] 77, pt sb #[.string s1, .string s2, .string s3] 9] _ := hM
      refine S.call hA (R.callF Tryd.func80 rfl rfl rfl) rfl (take06 g rb j cap ((X.getD j tz).a) X hX (by omega) hcap hj1 _ (hM.hereN 2)) ?_; clear hA a
      rintro e w8 ⟨rfl, hn⟩
      replace hM : Mem _ _ [pt rb #[.slice (some ⟨g, (j + 1) * 4, none⟩) (X.length - (j + 1)) (cap - (j + 1)), .int .i64 ((X.getD j tz).a)] 62, own 77 4 (.slice ((some ⟨g, 0, none⟩)) X.length cap) X.length (tokv X), pt b1 #[.int .i64 ((X.getD j tz).k), .string ((X.getD j tz).x), .int .i64 ((X.getD j tz).n), .int .i64 ((X.getD j tz).a)] 77, pt sb #[.string s1, .string s2, .string s3] 9] _ := hM.callL 2 hn; clear hn
      refine ⟨undef, rfl, fun a hA => ?_⟩
      refine S.done ?_
      refine Ends.seq (Ends.region ?_)
      refine S.val hA (R.move rfl) rfl ?_; clear hA a; intro a hA
      refine S.val hA (R.assign rfl) rfl ?_; clear hA a; intro a hA
      refine S.val hA (R.assign rfl) rfl ?_; clear hA a; intro a hA
      refine S.done ?_
      replace hA : St 39 [(0, _), (4, _), (5, _), (6, _), (19, _), (20, _), (21, _)] a := hA.sub ((.cons rfl (.cons rfl (.cons rfl (.cons rfl (.cons rfl (.cons rfl (.cons rfl .nil))))))))
      refine Ends.ret2 Tryd.func61 Tryd.results61 hA rfl rfl ?_
      replace hM := hM.front (k := 3) rfl
      replace hM := hM.front (k := 2) rfl
      replace hM := hM.front (k := 2) rfl
      replace hM : Mem _ _ [pt rb #[.slice (some ⟨g, (j + 1) * 4, none⟩) (X.length - (j + 1)) (cap - (j + 1)), .int .i64 ((X.getD j tz).a)] 62, own 77 4 (.slice ((some ⟨g, 0, none⟩)) X.length cap) X.length (tokv X), pt sb #[.string s1, .string s2, .string s3] 9, pt b1 #[.int .i64 ((X.getD j tz).k), .string ((X.getD j tz).x), .int .i64 ((X.getD j tz).n), .int .i64 ((X.getD j tz).a)] 77] _ := hM
      replace hM := hM.firstN 3
      replace hM : Mem _ _ [pt rb #[.slice (some ⟨g, (j + 1) * 4, none⟩) (X.length - (j + 1)) (cap - (j + 1)), .int .i64 ((X.getD j tz).a)] 62, own 77 4 (.slice ((some ⟨g, 0, none⟩)) X.length cap) X.length (tokv X), pt sb #[.string s1, .string s2, .string s3] 9] _ := hM
      have e1 : (wordR (X.getD j tz) [s1, s2, s3]) = (1, 0) := by
       rw [wordR_in hc3, wdI_miss hc4, wdI_hit hc5] <;> rfl
      have e2 : nxJ j (wordR (X.getD j tz) [s1, s2, s3]).2 = j + 1 := by rw [e1]; rfl
      rw [e1] at e2
      exact ⟨by rw [e1] <;> rfl, by rw [e1, e2]; exact hM⟩
     ·
      refine Ends.skip (Ends.inBlock (Ends.region ?_))
      refine S.val hA (R.addI rfl rfl (r := 2) rfl (by omega)) rfl ?_; clear hA a; intro a hA
      refine S.val hA (R.move rfl) rfl ?_; clear hA a; intro a hA
      refine S.done ?_
      refine Ends.inLoop ?_
      refine Ends.seq (Ends.region ?_)
      refine S.val hA (R.tt (R.lss rfl rfl) (by first | decide | simp | omega)) rfl ?_; clear hA a; intro a hA
      refine S.done ?_
      refine Ends.seq ?_
      refine Ends.condT hA rfl ?_
      refine Ends.skip (Ends.seq (Ends.block (Ends.seq (Ends.region ?_))))
      refine S.val hA (R.move rfl) rfl ?_; clear hA a; intro a hA
      refine S.val hA (R.indexAddr (q := 2) sl34 rfl rfl (by omega) (rfl)) rfl ?_; clear hA a; intro a hA
      refine S.val hA (R.load sz9 rfl (hM.cell (k := 3) rfl rfl)) rfl ?_; clear hA a; intro a hA
      refine S.val hA (R.assign rfl) rfl ?_; clear hA a; intro a hA
      refine S.val hA (R.assign rfl) rfl ?_; clear hA a; intro a hA
      refine S.done ?_
      replace hA : St 39 [(0, _), (6, _), (7, _), (8, _), (19, _), (20, _), (21, _)] a := hA.sub ((.cons rfl (.cons rfl (.cons rfl (.cons rfl (.cons rfl (.cons rfl (.cons rfl .nil))))))))
      refine Ends.seq ?_
      refine Ends.cut (fun (a : Act) (wv : World) => St 39 [(0, .pointer (some ⟨rb, 0, none⟩)), (6, .pointer (some ⟨b1, 0, none⟩)), (7, .int .i64 2), (19, .slice (some ⟨sb, 0, none⟩) 3 3), (20, .int .i64 3), (21, .int .i64 2), (34, .bool (decide ((((X.getD j tz).k) = 1 ∧ (X.getD j tz).x = s3))))] a ∧ Mem w (feet [pt rb #[.slice (some ⟨g, j * 4, none⟩) (X.length - j) (cap - j), .int .i64 at0] 62, own 77 4 (.slice ((some ⟨g, 0, none⟩)) X.length cap) X.length (tokv X), pt sb #[.string s1, .string s2, .string s3] 9]) [pt b1 #[.int .i64 ((X.getD j tz).k), .string ((X.getD j tz).x), .int .i64 ((X.getD j tz).n), .int .i64 ((X.getD j tz).a)] 77, pt rb #[.slice (some ⟨g, j * 4, none⟩) (X.length - j) (cap - j), .int .i64 ((X.getD j tz).a)] 62, own 77 4 (.slice ((some ⟨g, 0, none⟩)) X.length cap) X.length (tokv X), pt sb #[.string s1, .string s2, .string s3] 9] wv) ?_ (fun k2 hJ => ?_)
      ·
       clear hA hM a; rintro a w9 ⟨hA, hM⟩
       refine Ends.ite hA rfl (fun hc6 => ?_) (fun hc6 => ?_)
       ·
        refine Ends.seq (Ends.region ?_)
        refine S.val hA (R.move rfl) rfl ?_; clear hA a; intro a hA
        replace hM := hM.front (k := 2) rfl
        replace hM := hM.front (k := 2) rfl
        replace hM : Mem _ _ [pt rb #[.slice (some ⟨g, j * 4, none⟩) (X.length - j) (cap - j), .int .i64 ((X.getD j tz).a)] 62, own 77 4 (.slice ((some ⟨g, 0, none⟩)) X.length cap) X.length (tokv X), pt b1 #[.int .i64 ((X.getD j tz).k), .string ((X.getD j tz).x), .int .i64 ((X.getD j tz).n), .int .i64 ((X.getD j tz).a)] 77, pt sb #[.string s1, .string s2, .string s3] 9] _ := hM
        refine S.call hA (R.callF Tryd.func80 rfl rfl rfl) rfl (take06 g rb j cap ((X.getD j tz).a) X hX (by omega) hcap hj1 _ (hM.hereN 2)) ?_; clear hA a
        rintro e w10 ⟨rfl, hn⟩
        replace hM : Mem _ _ [pt rb #[.slice (some ⟨g, (j + 1) * 4, none⟩) (X.length - (j + 1)) (cap - (j + 1)), .int .i64 ((X.getD j tz).a)] 62, own 77 4 (.slice ((some ⟨g, 0, none⟩)) X.length cap) X.length (tokv X), pt b1 #[.int .i64 ((X.getD j tz).k), .string ((X.getD j tz).x), .int .i64 ((X.getD j tz).n), .int .i64 ((X.getD j tz).a)] 77, pt sb #[.string s1, .string s2, .string s3] 9] _ := hM.callL 2 hn; clear hn
        refine ⟨undef, rfl, fun a hA => ?_⟩
        refine S.done ?_
        refine Ends.seq (Ends.region ?_)
        refine S.val hA (R.move rfl) rfl ?_; clear hA a; intro a hA
        refine S.val hA (R.assign rfl) rfl ?_; clear hA a; intro a hA
        refine S.val hA (R.assign rfl) rfl ?_; clear hA a; intro a hA
        refine S.done ?_
        replace hA : St 39 [(0, _), (4, _), (5, _), (6, _), (19, _), (20, _), (21, _)] a := hA.sub ((.cons rfl (.cons rfl (.cons rfl (.cons rfl (.cons rfl (.cons rfl (.cons rfl .nil))))))))
        refine Ends.ret2 Tryd.func61 Tryd.results61 hA rfl rfl ?_
        replace hM := hM.front (k := 3) rfl
        replace hM := hM.front (k := 2) rfl
        replace hM := hM.front (k := 2) rfl
        replace hM : Mem _ _ [pt rb #[.slice (some ⟨g, (j + 1) * 4, none⟩) (X.length - (j + 1)) (cap - (j + 1)), .int .i64 ((X.getD j tz).a)] 62, own 77 4 (.slice ((some ⟨g, 0, none⟩)) X.length cap) X.length (tokv X), pt sb #[.string s1, .string s2, .string s3] 9, pt b1 #[.int .i64 ((X.getD j tz).k), .string ((X.getD j tz).x), .int .i64 ((X.getD j tz).n), .int .i64 ((X.getD j tz).a)] 77] _ := hM
        replace hM := hM.firstN 3
        replace hM : Mem _ _ [pt rb #[.slice (some ⟨g, (j + 1) * 4, none⟩) (X.length - (j + 1)) (cap - (j + 1)), .int .i64 ((X.getD j tz).a)] 62, own 77 4 (.slice ((some ⟨g, 0, none⟩)) X.length cap) X.length (tokv X), pt sb #[.string s1, .string s2, .string s3] 9] _ := hM
        have e1 : (wordR (X.getD j tz) [s1, s2, s3]) = (2, 0) := by
         rw [wordR_in hc3, wdI_miss hc4, wdI_miss hc5, wdI_hit hc6] <;> rfl
        have e2 : nxJ j (wordR (X.getD j tz) [s1, s2, s3]).2 = j + 1 := by rw [e1]; rfl
        rw [e1] at e2
        exact ⟨by rw [e1] <;> rfl, by rw [e1, e2]; exact hM⟩
       ·
        refine Ends.skip (Ends.inBlock (Ends.region ?_))
        refine S.val hA (R.addI rfl rfl (r := 3) rfl (by omega)) rfl ?_; clear hA a; intro a hA
        refine S.val hA (R.move rfl) rfl ?_; clear hA a; intro a hA
        refine S.done ?_
        refine Ends.inLoop ?_
        refine Ends.seq (Ends.region ?_)
        refine S.val hA (R.ff (R.lss rfl rfl) (by first | decide | simp | omega)) rfl ?_; clear hA a; intro a hA
        refine S.done ?_
        refine Ends.seq ?_
        refine Ends.condF hA rfl ?_
        refine Ends.exit rfl ?_
        replace hA : St 39 [] a := hA.sub (.nil)
        refine Ends.seq (Ends.region ?_)
        refine S.val hA (R.assign rfl) rfl ?_; clear hA a; intro a hA
        refine S.val hA (R.assign rfl) rfl ?_; clear hA a; intro a hA
        refine S.done ?_
        refine Ends.ret2 Tryd.func61 Tryd.results61 hA rfl rfl ?_
        replace hM := hM.front (k := 3) rfl
        replace hM := hM.front (k := 3) rfl
        replace hM := hM.front (k := 3) rfl
        replace hM : Mem _ _ [pt rb #[.slice (some ⟨g, j * 4, none⟩) (X.length - j) (cap - j), .int .i64 ((X.getD j tz).a)] 62, own 77 4 (.slice ((some ⟨g, 0, none⟩)) X.length cap) X.length (tokv X), pt sb #[.string s1, .string s2, .string s3] 9, pt b1 #[.int .i64 ((X.getD j tz).k), .string ((X.getD j tz).x), .int .i64 ((X.getD j tz).n), .int .i64 ((X.getD j tz).a)] 77] _ := hM
        replace hM := hM.firstN 3
        replace hM : Mem _ _ [pt rb #[.slice (some ⟨g, j * 4, none⟩) (X.length - j) (cap - j), .int .i64 ((X.getD j tz).a)] 62, own 77 4 (.slice ((some ⟨g, 0, none⟩)) X.length cap) X.length (tokv X), pt sb #[.string s1, .string s2, .string s3] 9] _ := hM
        have e1 : (wordR (X.getD j tz) [s1, s2, s3]) = (0, 3) := by
         rw [wordR_in hc3, wdI_miss hc4, wdI_miss hc5, wdI_miss hc6] <;> rfl
        have e2 : nxJ j (wordR (X.getD j tz) [s1, s2, s3]).2 = j := by rw [e1]; rfl
        rw [e1] at e2
        exact ⟨by rw [e1] <;> rfl, by rw [e1, e2]; exact hM⟩
      ·
       refine Ends.region ?_
       refine S.val hA (R.fieldAddr (q := 0) fi77_0 rfl rfl rfl) rfl ?_; clear hA a; intro a hA
       refine S.val hA (R.load sz3 rfl (hM.cell (k := 0) rfl rfl)) rfl ?_; clear hA a; intro a hA
       refine S.val hA (R.eql rfl rfl) rfl ?_; clear hA a; intro a hA
       refine S.val hA (R.move rfl) rfl ?_; clear hA a; intro a hA
       refine hA.split (d := 29) rfl ?_ ?_
       ·
        clear hA; intro hg7 hA
        refine S.valg (dj := 29) hA (by kernel_rfl) rfl (R.fieldAddr (q := 1) fi77_1 rfl rfl rfl) rfl ?_; clear hA a; intro a hA
        refine S.valg (dj := 29) hA (by kernel_rfl) rfl (R.load sz9 rfl (hM.cell (k := 0) rfl rfl)) rfl ?_; clear hA a; intro a hA
        refine S.valg (dj := 29) hA (by kernel_rfl) rfl (R.move rfl) rfl ?_; clear hA a; intro a hA
        refine S.valg (dj := 29) hA (by kernel_rfl) rfl (R.eqlStr rfl rfl) rfl ?_; clear hA a; intro a hA
        refine S.val hA (R.pickT rfl rfl) rfl ?_; clear hA a; intro a hA
        refine S.done ?_
        replace hA : St 39 [(0, _), (6, _), (7, _), (19, _), (20, _), (21, _), (34, _)] a := hA.sub ((.cons rfl (.cons rfl (.cons rfl (.cons rfl (.cons rfl (.cons rfl (.cons rfl .nil))))))))
        exact hJ _ _ ⟨hA.sub (.cons rfl (.cons rfl (.cons rfl (.cons rfl (.cons rfl (.cons rfl (.cons (by first | rfl | exact congrArg (fun b => some (Value.bool b)) (by first | exact decide_eq_decide.2 (by omega) | exact or_bool (by omega) | exact and_bool (by omega) | (simp; done) | (simp [hg7]; done) | (have h80 := hg7; (try simp at h80); simp [h80]; done) | exact (decide_eq_false (fun h9 => hg7 h9.1)).symm)) .nil))))))), hM⟩
       ·
        clear hA; intro hg7 hA
        refine S.no (dj := 29) hA (by kernel_rfl) rfl rfl rfl ?_; clear hA a; intro a hA
        refine S.no (dj := 29) hA (by kernel_rfl) rfl rfl rfl ?_; clear hA a; intro a hA
        refine S.no (dj := 29) hA (by kernel_rfl) rfl rfl rfl ?_; clear hA a; intro a hA
        refine S.no (dj := 29) hA (by kernel_rfl) rfl rfl rfl ?_; clear hA a; intro a hA
        refine S.val hA (R.pickF rfl rfl) rfl ?_; clear hA a; intro a hA
        refine S.done ?_
        replace hA : St 39 [(0, _), (6, _), (7, _), (19, _), (20, _), (21, _), (34, _)] a := hA.sub ((.cons rfl (.cons rfl (.cons rfl (.cons rfl (.cons rfl (.cons rfl (.cons rfl .nil))))))))
        exact hJ _ _ ⟨hA.sub (.cons rfl (.cons rfl (.cons rfl (.cons rfl (.cons rfl (.cons rfl (.cons (by first | rfl | exact congrArg (fun b => some (Value.bool b)) (by first | exact decide_eq_decide.2 (by omega) | exact or_bool (by omega) | exact and_bool (by omega) | (simp; done) | (simp [hg7]; done) | (have h80 := hg7; (try simp at h80); simp [h80]; done) | exact (decide_eq_false (fun h9 => hg7 h9.1)).symm)) .nil))))))), hM⟩
    ·
     refine Ends.region ?_
     refine S.val hA (R.fieldAddr (q := 0) fi77_0 rfl rfl rfl) rfl ?_; clear hA a; intro a hA
     refine S.val hA (R.load sz3 rfl (hM.cell (k := 0) rfl rfl)) rfl ?_; clear hA a; intro a hA
     refine S.val hA (R.eql rfl rfl) rfl ?_; clear hA a; intro a hA
     refine S.val hA (R.move rfl) rfl ?_; clear hA a; intro a hA
     refine hA.split (d := 29) rfl ?_ ?_
     ·
      clear hA; intro hg8 hA
      refine S.valg (dj := 29) hA (by kernel_rfl) rfl (R.fieldAddr (q := 1) fi77_1 rfl rfl rfl) rfl ?_; clear hA a; intro a hA
      refine S.valg (dj := 29) hA (by kernel_rfl) rfl (R.load sz9 rfl (hM.cell (k := 0) rfl rfl)) rfl ?_; clear hA a; intro a hA
      refine S.valg (dj := 29) hA (by kernel_rfl) rfl (R.move rfl) rfl ?_; clear hA a; intro a hA
      refine S.valg (dj := 29) hA (by kernel_rfl) rfl (R.eqlStr rfl rfl) rfl ?_; clear hA a; intro a hA
      refine S.val hA (R.pickT rfl rfl) rfl ?_; clear hA a; intro a hA
      refine S.done ?_
      replace hA : St 39 [(0, _), (6, _), (7, _), (19, _), (20, _), (21, _), (34, _)] a := hA.sub ((.cons rfl (.cons rfl (.cons rfl (.cons rfl (.cons rfl (.cons rfl (.cons rfl .nil))))))))
      exact hJ _ _ ⟨hA.sub (.cons rfl (.cons rfl (.cons rfl (.cons rfl (.cons rfl (.cons rfl (.cons (by first | rfl | exact congrArg (fun b => some (Value.bool b)) (by first | exact decide_eq_decide.2 (by omega) | exact or_bool (by omega) | exact and_bool (by omega) | (simp; done) | (simp [hg8]; done) | (have h80 := hg8; (try simp at h80); simp [h80]; done) | exact (decide_eq_false (fun h9 => hg8 h9.1)).symm)) .nil))))))), hM⟩
     ·
      clear hA; intro hg8 hA
      refine S.no (dj := 29) hA (by kernel_rfl) rfl rfl rfl ?_; clear hA a; intro a hA
      refine S.no (dj := 29) hA (by kernel_rfl) rfl rfl rfl ?_; clear hA a; intro a hA
      refine S.no (dj := 29) hA (by kernel_rfl) rfl rfl rfl ?_; clear hA a; intro a hA
      refine S.no (dj := 29) hA (by kernel_rfl) rfl rfl rfl ?_; clear hA a; intro a hA
      refine S.val hA (R.pickF rfl rfl) rfl ?_; clear hA a; intro a hA
      refine S.done ?_
      replace hA : St 39 [(0, _), (6, _), (7, _), (19, _), (20, _), (21, _), (34, _)] a := hA.sub ((.cons rfl (.cons rfl (.cons rfl (.cons rfl (.cons rfl (.cons rfl (.cons rfl .nil))))))))
      exact hJ _ _ ⟨hA.sub (.cons rfl (.cons rfl (.cons rfl (.cons rfl (.cons rfl (.cons rfl (.cons (by first | rfl | exact congrArg (fun b => some (Value.bool b)) (by first | exact decide_eq_decide.2 (by omega) | exact or_bool (by omega) | exact and_bool (by omega) | (simp; done) | (simp [hg8]; done) | (have h80 := hg8; (try simp at h80); simp [h80]; done) | exact (decide_eq_false (fun h9 => hg8 h9.1)).symm)) .nil))))))), hM⟩
  ·
   refine Ends.region ?_
   refine S.val hA (R.fieldAddr (q := 0) fi77_0 rfl rfl rfl) rfl ?_; clear hA a; intro a hA
   refine S.val hA (R.load sz3 rfl (hM.cell (k := 0) rfl rfl)) rfl ?_; clear hA a; intro a hA
   refine S.val hA (R.eql rfl rfl) rfl ?_; clear hA a; intro a hA
   refine S.val hA (R.move rfl) rfl ?_; clear hA a; intro a hA
   refine hA.split (d := 29) rfl ?_ ?_
   ·
    clear hA; intro hg9 hA
    refine S.valg (dj := 29) hA (by kernel_rfl) rfl (R.fieldAddr (q := 1) fi77_1 rfl rfl rfl) rfl ?_; clear hA a; intro a hA
    refine S.valg (dj := 29) hA (by kernel_rfl) rfl (R.load sz9 rfl (hM.cell (k := 0) rfl rfl)) rfl ?_; clear hA a; intro a hA
    refine S.valg (dj := 29) hA (by kernel_rfl) rfl (R.move rfl) rfl ?_; clear hA a; intro a hA
    refine S.valg (dj := 29) hA (by kernel_rfl) rfl (R.eqlStr rfl rfl) rfl ?_; clear hA a; intro a hA
    refine S.val hA (R.pickT rfl rfl) rfl ?_; clear hA a; intro a hA
    refine S.done ?_
    replace hA : St 39 [(0, _), (6, _), (7, _), (19, _), (20, _), (21, _), (34, _)] a := hA.sub ((.cons rfl (.cons rfl (.cons rfl (.cons rfl (.cons rfl (.cons rfl (.cons rfl .nil))))))))
    exact hJ _ _ ⟨hA.sub (.cons rfl (.cons rfl (.cons rfl (.cons rfl (.cons rfl (.cons rfl (.cons (by first | rfl | exact congrArg (fun b => some (Value.bool b)) (by first | exact decide_eq_decide.2 (by omega) | exact or_bool (by omega) | exact and_bool (by omega) | (simp; done) | (simp [hg9]; done) | (have h80 := hg9; (try simp at h80); simp [h80]; done) | exact (decide_eq_false (fun h9 => hg9 h9.1)).symm)) .nil))))))), hM⟩
   ·
    clear hA; intro hg9 hA
    refine S.no (dj := 29) hA (by kernel_rfl) rfl rfl rfl ?_; clear hA a; intro a hA
    refine S.no (dj := 29) hA (by kernel_rfl) rfl rfl rfl ?_; clear hA a; intro a hA
    refine S.no (dj := 29) hA (by kernel_rfl) rfl rfl rfl ?_; clear hA a; intro a hA
    refine S.no (dj := 29) hA (by kernel_rfl) rfl rfl rfl ?_; clear hA a; intro a hA
    refine S.val hA (R.pickF rfl rfl) rfl ?_; clear hA a; intro a hA
    refine S.done ?_
    replace hA : St 39 [(0, _), (6, _), (7, _), (19, _), (20, _), (21, _), (34, _)] a := hA.sub ((.cons rfl (.cons rfl (.cons rfl (.cons rfl (.cons rfl (.cons rfl (.cons rfl .nil))))))))
    exact hJ _ _ ⟨hA.sub (.cons rfl (.cons rfl (.cons rfl (.cons rfl (.cons rfl (.cons rfl (.cons (by first | rfl | exact congrArg (fun b => some (Value.bool b)) (by first | exact decide_eq_decide.2 (by omega) | exact or_bool (by omega) | exact and_bool (by omega) | (simp; done) | (simp [hg9]; done) | (have h80 := hg9; (try simp at h80); simp [h80]; done) | exact (decide_eq_false (fun h9 => hg9 h9.1)).symm)) .nil))))))), hM⟩
set_option maxRecDepth 100000 in
set_option maxHeartbeats 400000 in
theorem word06_2 (g rb j cap : Nat) (at0 : Int) (X : List Tok) (hX : Toks X) (hj : j < X.length) (hcap : X.length ≤ cap) (sb : Nat) (s1 s2 : ByteArray) (w : World) (hM : Mem w (feet [pt rb #[.slice (some ⟨g, j * 4, none⟩) (X.length - j) (cap - j), .int .i64 at0] 62, own 77 4 (.slice ((some ⟨g, 0, none⟩)) X.length cap) X.length (tokv X), pt sb #[.string s1, .string s2] 9]) [pt rb #[.slice (some ⟨g, j * 4, none⟩) (X.length - j) (cap - j), .int .i64 at0] 62, own 77 4 (.slice ((some ⟨g, 0, none⟩)) X.length cap) X.length (tokv X), pt sb #[.string s1, .string s2] 9] w) :
  Calls Tryd.prog 61 #[.pointer (some ⟨rb, 0, none⟩), .slice (some ⟨sb, 0, none⟩) 2 2] w fun e w' => e = .returned (.tuple #[.int .i64 (wordR (X.getD j tz) [s1, s2]).1, .int .i64 (wordR (X.getD j tz) [s1, s2]).2]) ∧ Mem w (feet [pt rb #[.slice (some ⟨g, j * 4, none⟩) (X.length - j) (cap - j), .int .i64 at0] 62, own 77 4 (.slice ((some ⟨g, 0, none⟩)) X.length cap) X.length (tokv X), pt sb #[.string s1, .string s2] 9]) [pt rb #[.slice (some ⟨g, (nxJ j (wordR (X.getD j tz) [s1, s2]).2) * 4, none⟩) (X.length - (nxJ j (wordR (X.getD j tz) [s1, s2]).2)) (cap - (nxJ j (wordR (X.getD j tz) [s1, s2]).2)), .int .i64 ((X.getD j tz).a)] 62, own 77 4 (.slice ((some ⟨g, 0, none⟩)) X.length cap) X.length (tokv X), pt sb #[.string s1, .string s2] 9] w' := by
 have hbs := Below.refl (B := w.heap.size) w
 have hlX := hX.len
 refine Calls.of_ends (vs := [.pointer (some ⟨rb, 0, none⟩), .slice (some ⟨sb, 0, none⟩) 2 2]) Tryd.func61 rfl Tryd.ntmps61 rfl ?_
 intro a hA
 replace hA : St 39 [(0, _), (1, _)] a := hA
 refine Ends.seq (Ends.region ?_)
 refine S.val hA (R.assign rfl) rfl ?_; clear hA a; intro a hA
 refine S.val hA (R.assign rfl) rfl ?_; clear hA a; intro a hA
 refine S.done ?_
 refine Ends.seq (Ends.region ?_)
 refine S.val hA (R.move rfl) rfl ?_; clear hA a; intro a hA
 refine S.call hA (R.callF Tryd.func79 rfl rfl rfl) rfl (next06 g rb j cap at0 X hX (by omega) hcap _ (hM.hereN 2)) ?_; clear hA a
 rintro e w1 ⟨rfl, hn⟩
 replace hM : Mem _ _ [pt rb #[.slice (some ⟨g, j * 4, none⟩) (X.length - j) (cap - j), .int .i64 at0] 62, own 77 4 (.slice ((some ⟨g, 0, none⟩)) X.length cap) X.length (tokv X), pt sb #[.string s1, .string s2] 9] _ := hM.callL 2 hn; clear hn
 refine ⟨.agg #[.int .i64 ((X.getD j tz).k), .string ((X.getD j tz).x), .int .i64 ((X.getD j tz).n), .int .i64 ((X.getD j tz).a)], rfl, fun a hA => ?_⟩
 refine S.alloc hA hM info77 rfl rfl ?_; clear hA hM a; intro b1 w2 hb2 hM a hA
 replace hM : Mem _ _ [pt b1 #[.int .i64 0, .string (⟨#[]⟩), .int .i64 0, .int .i64 0] 77, pt rb #[.slice (some ⟨g, j * 4, none⟩) (X.length - j) (cap - j), .int .i64 at0] 62, own 77 4 (.slice ((some ⟨g, 0, none⟩)) X.length cap) X.length (tokv X), pt sb #[.string s1, .string s2] 9] _ := hM
 refine S.storeA (k := 0) hA hM sz77 rfl rfl rfl rfl rfl rfl ?_; clear hM
 intro w3 hM
 replace hM : Mem _ _ [pt b1 #[.int .i64 ((X.getD j tz).k), .string ((X.getD j tz).x), .int .i64 ((X.getD j tz).n), .int .i64 ((X.getD j tz).a)] 77, pt rb #[.slice (some ⟨g, j * 4, none⟩) (X.length - j) (cap - j), .int .i64 at0] 62, own 77 4 (.slice ((some ⟨g, 0, none⟩)) X.length cap) X.length (tokv X), pt sb #[.string s1, .string s2] 9] _ := hM
 refine S.done ?_
 replace hA : St 39 [(0, _), (1, _), (6, _)] a := hA.sub ((.cons rfl (.cons rfl (.cons rfl .nil))))
 refine Ends.seq (Ends.region ?_)
 refine S.val hA (R.move rfl) rfl ?_; clear hA a; intro a hA
 refine S.val hA (R.fieldAddr (q := 3) fi77_3 rfl rfl rfl) rfl ?_; clear hA a; intro a hA
 refine S.val hA (R.load sz3 rfl (hM.cell (k := 0) rfl rfl)) rfl ?_; clear hA a; intro a hA
 refine S.val hA (R.nilCheck rfl) rfl ?_; clear hA a; intro a hA
 refine S.val hA (R.fieldAddr (q := 1) fi62_1 rfl rfl rfl) rfl ?_; clear hA a; intro a hA
 refine S.store (k := 1) hA hM sz3 rfl rfl rfl rfl rfl ?_; clear hM
 intro w4 hM
 replace hM : Mem _ _ [pt b1 #[.int .i64 ((X.getD j tz).k), .string ((X.getD j tz).x), .int .i64 ((X.getD j tz).n), .int .i64 ((X.getD j tz).a)] 77, pt rb #[.slice (some ⟨g, j * 4, none⟩) (X.length - j) (cap - j), .int .i64 ((X.getD j tz).a)] 62, own 77 4 (.slice ((some ⟨g, 0, none⟩)) X.length cap) X.length (tokv X), pt sb #[.string s1, .string s2] 9] _ := hM
 refine S.done ?_
 replace hA : St 39 [(0, _), (1, _), (6, _)] a := hA.sub ((.cons rfl (.cons rfl (.cons rfl .nil))))
 refine Ends.seq (Ends.seq (Ends.region ?_))
 refine S.val hA (R.fieldAddr (q := 0) fi77_0 rfl rfl rfl) rfl ?_; clear hA a; intro a hA
 refine S.val hA (R.load sz3 rfl (hM.cell (k := 0) rfl rfl)) rfl ?_; clear hA a; intro a hA
 refine S.val hA (R.eql rfl rfl) rfl ?_; clear hA a; intro a hA
 refine S.done ?_
 refine Ends.ite hA rfl (fun hc3 => ?_) (fun hc3 => ?_)
 ·
  refine Ends.seq (Ends.region ?_)
  refine S.val hA (R.assign rfl) rfl ?_; clear hA a; intro a hA
  refine S.val hA (R.assign rfl) rfl ?_; clear hA a; intro a hA
  refine S.done ?_
  refine Ends.ret2 Tryd.func61 Tryd.results61 hA rfl rfl ?_
  replace hM := hM.front (k := 3) rfl
  replace hM := hM.front (k := 3) rfl
  replace hM := hM.front (k := 3) rfl
  replace hM : Mem _ _ [pt rb #[.slice (some ⟨g, j * 4, none⟩) (X.length - j) (cap - j), .int .i64 ((X.getD j tz).a)] 62, own 77 4 (.slice ((some ⟨g, 0, none⟩)) X.length cap) X.length (tokv X), pt sb #[.string s1, .string s2] 9, pt b1 #[.int .i64 ((X.getD j tz).k), .string ((X.getD j tz).x), .int .i64 ((X.getD j tz).n), .int .i64 ((X.getD j tz).a)] 77] _ := hM
  replace hM := hM.firstN 3
  replace hM : Mem _ _ [pt rb #[.slice (some ⟨g, j * 4, none⟩) (X.length - j) (cap - j), .int .i64 ((X.getD j tz).a)] 62, own 77 4 (.slice ((some ⟨g, 0, none⟩)) X.length cap) X.length (tokv X), pt sb #[.string s1, .string s2] 9] _ := hM
  have e1 : (wordR (X.getD j tz) [s1, s2]) = (0, 6) := wordR_end hc3
  have e2 : nxJ j (wordR (X.getD j tz) [s1, s2]).2 = j := by rw [e1]; rfl
  rw [e1] at e2
  exact ⟨by rw [e1] <;> rfl, by rw [e1, e2]; exact hM⟩
 ·
  have hj1 := hX.next j hj hc3
  refine Ends.skip (Ends.seq (Ends.seq (Ends.region ?_)))
  refine S.val hA (R.move rfl) rfl ?_; clear hA a; intro a hA
  refine S.val hA (R.lenS Tryd.underlying34 rfl rfl) rfl ?_; clear hA a; intro a hA
  refine S.val hA (R.move rfl) rfl ?_; clear hA a; intro a hA
  refine S.done ?_
  replace hA : St 39 [(0, _), (6, _), (19, _), (20, _), (21, _)] a := hA.sub ((.cons rfl (.cons rfl (.cons rfl (.cons rfl (.cons rfl .nil))))))
  refine Ends.block ?_
  refine Ends.unroll ?_
  refine Ends.seq (Ends.region ?_)
  refine S.val hA (R.tt (R.lss rfl rfl) (by first | decide | simp | omega)) rfl ?_; clear hA a; intro a hA
  refine S.done ?_
  refine Ends.seq ?_
  refine Ends.condT hA rfl ?_
  refine Ends.skip (Ends.seq (Ends.block (Ends.seq (Ends.region ?_))))
  refine S.val hA (R.move rfl) rfl ?_; clear hA a; intro a hA
  refine S.val hA (R.indexAddr (q := 0) sl34 rfl rfl (by omega) (rfl)) rfl ?_; clear hA a; intro a hA
  refine S.val hA (R.load sz9 rfl (hM.cell (k := 3) rfl rfl)) rfl ?_; clear hA a; intro a hA
  refine S.val hA (R.assign rfl) rfl ?_; clear hA a; intro a hA
  refine S.val hA (R.assign rfl) rfl ?_; clear hA a; intro a hA
  refine S.done ?_
  replace hA : St 39 [(0, _), (6, _), (7, _), (8, _), (19, _), (20, _), (21, _)] a := hA.sub ((.cons rfl (.cons rfl (.cons rfl (.cons rfl (.cons rfl (.cons rfl (.cons rfl .nil))))))))
  refine Ends.seq ?_
  refine Ends.cut (fun (a : Act) (wv : World) => St 39 [(0, .pointer (some ⟨rb, 0, none⟩)), (6, .pointer (some ⟨b1, 0, none⟩)), (7, .int .i64 0), (19, .slice (some ⟨sb, 0, none⟩) 2 2), (20, .int .i64 2), (21, .int .i64 0), (34, .bool (decide ((((X.getD j tz).k) = 1 ∧ (X.getD j tz).x = s1))))] a ∧ Mem w (feet [pt rb #[.slice (some ⟨g, j * 4, none⟩) (X.length - j) (cap - j), .int .i64 at0] 62, own 77 4 (.slice ((some ⟨g, 0, none⟩)) X.length cap) X.length (tokv X), pt sb #[.string s1, .string s2] 9]) [pt b1 #[.int .i64 ((X.getD j tz).k), .string ((X.getD j tz).x), .int .i64 ((X.getD j tz).n), .int .i64 ((X.getD j tz).a)] 77, pt rb #[.slice (some ⟨g, j * 4, none⟩) (X.length - j) (cap - j), .int .i64 ((X.getD j tz).a)] 62, own 77 4 (.slice ((some ⟨g, 0, none⟩)) X.length cap) X.length (tokv X), pt sb #[.string s1, .string s2] 9] wv) ?_ (fun k2 hJ => ?_)
  ·
   clear hA hM a; rintro a w5 ⟨hA, hM⟩
   refine Ends.ite hA rfl (fun hc4 => ?_) (fun hc4 => ?_)
   ·
    refine Ends.seq (Ends.region ?_)
    refine S.val hA (R.move rfl) rfl ?_; clear hA a; intro a hA
    replace hM := hM.front (k := 2) rfl
    replace hM := hM.front (k := 2) rfl
    replace hM : Mem _ _ [pt rb #[.slice (some ⟨g, j * 4, none⟩) (X.length - j) (cap - j), .int .i64 ((X.getD j tz).a)] 62, own 77 4 (.slice ((some ⟨g, 0, none⟩)) X.length cap) X.length (tokv X), pt b1 #[.int .i64 ((X.getD j tz).k), .string ((X.getD j tz).x), .int .i64 ((X.getD j tz).n), .int .i64 ((X.getD j tz).a)] 77, pt sb #[.string s1, .string s2] 9] _ := hM
    refine S.call hA (R.callF Tryd.func80 rfl rfl rfl) rfl (take06 g rb j cap ((X.getD j tz).a) X hX (by omega) hcap hj1 _ (hM.hereN 2)) ?_; clear hA a
    rintro e w6 ⟨rfl, hn⟩
    replace hM : Mem _ _ [pt rb #[.slice (some ⟨g, (j + 1) * 4, none⟩) (X.length - (j + 1)) (cap - (j + 1)), .int .i64 ((X.getD j tz).a)] 62, own 77 4 (.slice ((some ⟨g, 0, none⟩)) X.length cap) X.length (tokv X), pt b1 #[.int .i64 ((X.getD j tz).k), .string ((X.getD j tz).x), .int .i64 ((X.getD j tz).n), .int .i64 ((X.getD j tz).a)] 77, pt sb #[.string s1, .string s2] 9] _ := hM.callL 2 hn; clear hn
    refine ⟨undef, rfl, fun a hA => ?_⟩
    refine S.done ?_
    refine Ends.seq (Ends.region ?_)
    refine S.val hA (R.move rfl) rfl ?_; clear hA a; intro a hA
    refine S.val hA (R.assign rfl) rfl ?_; clear hA a; intro a hA
    refine S.val hA (R.assign rfl) rfl ?_; clear hA a; intro a hA
    refine S.done ?_
    replace hA : St 39 [(0, _), (4, _), (5, _), (6, _), (19, _), (20, _), (21, _)] a := hA.sub ((.cons rfl (.cons rfl (.cons rfl (.cons rfl (.cons rfl (.cons rfl (.cons rfl .nil))))))))
    refine Ends.ret2 Tryd.func61 Tryd.results61 hA rfl rfl ?_
    replace hM := hM.front (k := 3) rfl
    replace hM := hM.front (k := 2) rfl
    replace hM := hM.front (k := 2) rfl
    replace hM : Mem _ _ [pt rb #[.slice (some ⟨g, (j + 1) * 4, none⟩) (X.length - (j + 1)) (cap - (j + 1)), .int .i64 ((X.getD j tz).a)] 62, own 77 4 (.slice ((some ⟨g, 0, none⟩)) X.length cap) X.length (tokv X), pt sb #[.string s1, .string s2] 9, pt b1 #[.int .i64 ((X.getD j tz).k), .string ((X.getD j tz).x), .int .i64 ((X.getD j tz).n), .int .i64 ((X.getD j tz).a)] 77] _ := hM
    replace hM := hM.firstN 3
    replace hM : Mem _ _ [pt rb #[.slice (some ⟨g, (j + 1) * 4, none⟩) (X.length - (j + 1)) (cap - (j + 1)), .int .i64 ((X.getD j tz).a)] 62, own 77 4 (.slice ((some ⟨g, 0, none⟩)) X.length cap) X.length (tokv X), pt sb #[.string s1, .string s2] 9] _ := hM
    have e1 : (wordR (X.getD j tz) [s1, s2]) = (0, 0) := by
     rw [wordR_in hc3, wdI_hit hc4] <;> rfl
    have e2 : nxJ j (wordR (X.getD j tz) [s1, s2]).2 = j + 1 := by rw [e1]; rfl
    rw [e1] at e2
    exact ⟨by rw [e1] <;> rfl, by rw [e1, e2]; exact hM⟩
   ·
    refine Ends.skip (Ends.inBlock (Ends.region ?_))
    refine S.val hA (R.addI rfl rfl (r := 1) rfl (by omega)) rfl ?_; clear hA a; intro a hA
    refine S.val hA (R.move rfl) rfl ?_; clear hA a; intro a hA
    refine S.done ?_
    refine Ends.inLoop ?_
    refine Ends.seq (Ends.region ?_)
    refine S.val hA (R.tt (R.lss rfl rfl) (by first | decide | simp | omega)) rfl ?_; clear hA a; intro a hA
    refine S.done ?_
    refine Ends.seq ?_
    refine Ends.condT hA rfl ?_
    refine Ends.skip (Ends.seq (Ends.block (Ends.seq (Ends.region ?_))))
    refine S.val hA (R.move rfl) rfl ?_; clear hA a; intro a hA
    refine S.val hA (R.indexAddr (q := 1) sl34 rfl rfl (by omega) (rfl)) rfl ?_; clear hA a; intro a hA
    refine S.val hA (R.load sz9 rfl (hM.cell (k := 3) rfl rfl)) rfl ?_; clear hA a; intro a hA
    refine S.val hA (R.assign rfl) rfl ?_; clear hA a; intro a hA
    refine S.val hA (R.assign rfl) rfl ?_; clear hA a; intro a hA
    refine S.done ?_
    replace hA : St 39 [(0, _), (6, _), (7, _), (8, _), (19, _), (20, _), (21, _)] a := hA.sub ((.cons rfl (.cons rfl (.cons rfl (.cons rfl (.cons rfl (.cons rfl (.cons rfl .nil))))))))
    refine Ends.seq ?_
    refine Ends.cut (fun (a : Act) (wv : World) => St 39 [(0, .pointer (some ⟨rb, 0, none⟩)), (6, .pointer (some ⟨b1, 0, none⟩)), (7, .int .i64 1), (19, .slice (some ⟨sb, 0, none⟩) 2 2), (20, .int .i64 2), (21, .int .i64 1), (34, .bool (decide ((((X.getD j tz).k) = 1 ∧ (X.getD j tz).x = s2))))] a ∧ Mem w (feet [pt rb #[.slice (some ⟨g, j * 4, none⟩) (X.length - j) (cap - j), .int .i64 at0] 62, own 77 4 (.slice ((some ⟨g, 0, none⟩)) X.length cap) X.length (tokv X), pt sb #[.string s1, .string s2] 9]) [pt b1 #[.int .i64 ((X.getD j tz).k), .string ((X.getD j tz).x), .int .i64 ((X.getD j tz).n), .int .i64 ((X.getD j tz).a)] 77, pt rb #[.slice (some ⟨g, j * 4, none⟩) (X.length - j) (cap - j), .int .i64 ((X.getD j tz).a)] 62, own 77 4 (.slice ((some ⟨g, 0, none⟩)) X.length cap) X.length (tokv X), pt sb #[.string s1, .string s2] 9] wv) ?_ (fun k2 hJ => ?_)
    ·
     clear hA hM a; rintro a w7 ⟨hA, hM⟩
     refine Ends.ite hA rfl (fun hc5 => ?_) (fun hc5 => ?_)
     ·
      refine Ends.seq (Ends.region ?_)
      refine S.val hA (R.move rfl) rfl ?_; clear hA a; intro a hA
      replace hM := hM.front (k := 2) rfl
      replace hM := hM.front (k := 2) rfl
      replace hM : Mem _ _ [pt rb #[.slice (some ⟨g, j * 4, none⟩) (X.length - j) (cap - j), .int .i64 ((X.getD j tz).a)] 62, own 77 4 (.slice ((some ⟨g, 0, none⟩)) X.length cap) X.length (tokv X), pt b1 #[.int .i64 ((X.getD j tz).k), .string ((X.getD j tz).x), .int .i64 ((X.getD j tz).n), .int .i64 ((X.getD j tz).a)] 77, pt sb #[.string s1, .string s2] 9] _ := hM
      refine S.call hA (R.callF Tryd.func80 rfl rfl rfl) rfl (take06 g rb j cap ((X.getD j tz).a) X hX (by omega) hcap hj1 _ (hM.hereN 2)) ?_; clear hA a
      rintro e w8 ⟨rfl, hn⟩
      replace hM : Mem _ _ [pt rb #[.slice (some ⟨g, (j + 1) * 4, none⟩) (X.length - (j + 1)) (cap - (j + 1)), .int .i64 ((X.getD j tz).a)] 62, own 77 4 (.slice ((some ⟨g, 0, none⟩)) X.length cap) X.length (tokv X), pt b1 #[.int .i64 ((X.getD j tz).k), .string ((X.getD j tz).x), .int .i64 ((X.getD j tz).n), .int .i64 ((X.getD j tz).a)] 77, pt sb #[.string s1, .string s2] 9] _ := hM.callL 2 hn; clear hn
      refine ⟨undef, rfl, fun a hA => ?_⟩
      refine S.done ?_
      refine Ends.seq (Ends.region ?_)
      refine S.val hA (R.move rfl) rfl ?_; clear hA a; intro a hA
      refine S.val hA (R.assign rfl) rfl ?_; clear hA a; intro a hA
      refine S.val hA (R.assign rfl) rfl ?_; clear hA a; intro a hA
      refine S.done ?_
      replace hA : St 39 [(0, _), (4, _), (5, _), (6, _), (19, _), (20, _), (21, _)] a := hA.sub ((.cons rfl (.cons rfl (.cons rfl (.cons rfl (.cons rfl (.cons rfl (.cons rfl .nil))))))))
      refine Ends.ret2 Tryd.func61 Tryd.results61 hA rfl rfl ?_
      replace hM := hM.front (k := 3) rfl
      replace hM := hM.front (k := 2) rfl
      replace hM := hM.front (k := 2) rfl
      replace hM : Mem _ _ [pt rb #[.slice (some ⟨g, (j + 1) * 4, none⟩) (X.length - (j + 1)) (cap - (j + 1)), .int .i64 ((X.getD j tz).a)] 62, own 77 4 (.slice ((some ⟨g, 0, none⟩)) X.length cap) X.length (tokv X), pt sb #[.string s1, .string s2] 9, pt b1 #[.int .i64 ((X.getD j tz).k), .string ((X.getD j tz).x), .int .i64 ((X.getD j tz).n), .int .i64 ((X.getD j tz).a)] 77] _ := hM
      replace hM := hM.firstN 3
      replace hM : Mem _ _ [pt rb #[.slice (some ⟨g, (j + 1) * 4, none⟩) (X.length - (j + 1)) (cap - (j + 1)), .int .i64 ((X.getD j tz).a)] 62, own 77 4 (.slice ((some ⟨g, 0, none⟩)) X.length cap) X.length (tokv X), pt sb #[.string s1, .string s2] 9] _ := hM
      have e1 : (wordR (X.getD j tz) [s1, s2]) = (1, 0) := by
       rw [wordR_in hc3, wdI_miss hc4, wdI_hit hc5] <;> rfl
      have e2 : nxJ j (wordR (X.getD j tz) [s1, s2]).2 = j + 1 := by rw [e1]; rfl
      rw [e1] at e2
      exact ⟨by rw [e1] <;> rfl, by rw [e1, e2]; exact hM⟩
     ·
      refine Ends.skip (Ends.inBlock (Ends.region ?_))
      refine S.val hA (R.addI rfl rfl (r := 2) rfl (by omega)) rfl ?_; clear hA a; intro a hA
      refine S.val hA (R.move rfl) rfl ?_; clear hA a; intro a hA
      refine S.done ?_
      refine Ends.inLoop ?_
      refine Ends.seq (Ends.region ?_)
      refine S.val hA (R.ff (R.lss rfl rfl) (by first | decide | simp | omega)) rfl ?_; clear hA a; intro a hA
      refine S.done ?_
      refine Ends.seq ?_
      refine Ends.condF hA rfl ?_
      refine Ends.exit rfl ?_
      replace hA : St 39 [] a := hA.sub (.nil)
      refine Ends.seq (Ends.region ?_)
      refine S.val hA (R.assign rfl) rfl ?_; clear hA a; intro a hA
      refine S.val hA (R.assign rfl) rfl ?_; clear hA a; intro a hA
      refine S.done ?_
      refine Ends.ret2 Tryd.func61 Tryd.results61 hA rfl rfl ?_
      replace hM := hM.front (k := 3) rfl
      replace hM := hM.front (k := 3) rfl
      replace hM := hM.front (k := 3) rfl
      replace hM : Mem _ _ [pt rb #[.slice (some ⟨g, j * 4, none⟩) (X.length - j) (cap - j), .int .i64 ((X.getD j tz).a)] 62, own 77 4 (.slice ((some ⟨g, 0, none⟩)) X.length cap) X.length (tokv X), pt sb #[.string s1, .string s2] 9, pt b1 #[.int .i64 ((X.getD j tz).k), .string ((X.getD j tz).x), .int .i64 ((X.getD j tz).n), .int .i64 ((X.getD j tz).a)] 77] _ := hM
      replace hM := hM.firstN 3
      replace hM : Mem _ _ [pt rb #[.slice (some ⟨g, j * 4, none⟩) (X.length - j) (cap - j), .int .i64 ((X.getD j tz).a)] 62, own 77 4 (.slice ((some ⟨g, 0, none⟩)) X.length cap) X.length (tokv X), pt sb #[.string s1, .string s2] 9] _ := hM
      have e1 : (wordR (X.getD j tz) [s1, s2]) = (0, 3) := by
       rw [wordR_in hc3, wdI_miss hc4, wdI_miss hc5] <;> rfl
      have e2 : nxJ j (wordR (X.getD j tz) [s1, s2]).2 = j := by rw [e1]; rfl
      rw [e1] at e2
      exact ⟨by rw [e1] <;> rfl, by rw [e1, e2]; exact hM⟩
    ·
     refine Ends.region ?_
     refine S.val hA (R.fieldAddr (q := 0) fi77_0 rfl rfl rfl) rfl ?_; clear hA a; intro a hA
     refine S.val hA (R.load sz3 rfl (hM.cell (k := 0) rfl rfl)) rfl ?_; clear hA a; intro a hA
     refine S.val hA (R.eql rfl rfl) rfl ?_; clear hA a; intro a hA
     refine S.val hA (R.move rfl) rfl ?_; clear hA a; intro a hA
     refine hA.split (d := 29) rfl ?_ ?_
     ·
      clear hA; intro hg6 hA
      refine S.valg (dj := 29) hA (by kernel_rfl) rfl (R.fieldAddr (q := 1) fi77_1 rfl rfl rfl) rfl ?_; clear hA a; intro a hA
      refine S.valg (dj := 29) hA (by kernel_rfl) rfl (R.load sz9 rfl (hM.cell (k := 0) rfl rfl)) rfl ?_; clear hA a; intro a hA
      refine S.valg (dj := 29) hA (by kernel_rfl) rfl (R.move rfl) rfl ?_; clear hA a; intro a hA
      refine S.valg (dj := 29) hA (by kernel_rfl) rfl (R.eqlStr rfl rfl) rfl ?_; clear hA a; intro a hA
      refine S.val hA (R.pickT rfl rfl) rfl ?_; clear hA a; intro a hA
      refine S.done ?_
      replace hA : St 39 [(0, _), (6, _), (7, _), (19, _), (20, _), (21, _), (34, _)] a := hA.sub ((.cons rfl (.cons rfl (.cons rfl (.cons rfl (.cons rfl (.cons rfl (.cons rfl .nil))))))))
      exact hJ _ _ ⟨hA.sub (.cons rfl (.cons rfl (.cons rfl (.cons rfl (.cons rfl (.cons rfl (.cons (by first | rfl | exact congrArg (fun b => some (Value.bool b)) (by first | exact decide_eq_decide.2 (by omega) | exact or_bool (by omega) | exact and_bool (by omega) | (simp; done) | (simp [hg6]; done) | (have h80 := hg6; (try simp at h80); simp [h80]; done) | exact (decide_eq_false (fun h9 => hg6 h9.1)).symm)) .nil))))))), hM⟩
     ·
      clear hA; intro hg6 hA
      refine S.no (dj := 29) hA (by kernel_rfl) rfl rfl rfl ?_; clear hA a; intro a hA
      refine S.no (dj := 29) hA (by kernel_rfl) rfl rfl rfl ?_; clear hA a; intro a hA
      refine S.no (dj := 29) hA (by kernel_rfl) rfl rfl rfl ?_; clear hA a; intro a hA
      refine S.no (dj := 29) hA (by kernel_rfl) rfl rfl rfl ?_; clear hA a; intro a hA
      refine S.val hA (R.pickF rfl rfl) rfl ?_; clear hA a; intro a hA
      refine S.done ?_
      replace hA : St 39 [(0, _), (6, _), (7, _), (19, _), (20, _), (21, _), (34, _)] a := hA.sub ((.cons rfl (.cons rfl (.cons rfl (.cons rfl (.cons rfl (.cons rfl (.cons rfl .nil))))))))
      exact hJ _ _ ⟨hA.sub (.cons rfl (.cons rfl (.cons rfl (.cons rfl (.cons rfl (.cons rfl (.cons (by first | rfl | exact congrArg (fun b => some (Value.bool b)) (by first | exact decide_eq_decide.2 (by omega) | exact or_bool (by omega) | exact and_bool (by omega) | (simp; done) | (simp [hg6]; done) | (have h80 := hg6; (try simp at h80); simp [h80]; done) | exact (decide_eq_false (fun h9 => hg6 h9.1)).symm)) .nil))))))), hM⟩
  ·
   refine Ends.region ?_
   refine S.val hA (R.fieldAddr (q := 0) fi77_0 rfl rfl rfl) rfl ?_; clear hA a; intro a hA
   refine S.val hA (R.load sz3 rfl (hM.cell (k := 0) rfl rfl)) rfl ?_; clear hA a; intro a hA
   refine S.val hA (R.eql rfl rfl) rfl ?_; clear hA a; intro a hA
   refine S.val hA (R.move rfl) rfl ?_; clear hA a; intro a hA
   refine hA.split (d := 29) rfl ?_ ?_
   ·
    clear hA; intro hg7 hA
    refine S.valg (dj := 29) hA (by kernel_rfl) rfl (R.fieldAddr (q := 1) fi77_1 rfl rfl rfl) rfl ?_; clear hA a; intro a hA
    refine S.valg (dj := 29) hA (by kernel_rfl) rfl (R.load sz9 rfl (hM.cell (k := 0) rfl rfl)) rfl ?_; clear hA a; intro a hA
    refine S.valg (dj := 29) hA (by kernel_rfl) rfl (R.move rfl) rfl ?_; clear hA a; intro a hA
    refine S.valg (dj := 29) hA (by kernel_rfl) rfl (R.eqlStr rfl rfl) rfl ?_; clear hA a; intro a hA
    refine S.val hA (R.pickT rfl rfl) rfl ?_; clear hA a; intro a hA
    refine S.done ?_
    replace hA : St 39 [(0, _), (6, _), (7, _), (19, _), (20, _), (21, _), (34, _)] a := hA.sub ((.cons rfl (.cons rfl (.cons rfl (.cons rfl (.cons rfl (.cons rfl (.cons rfl .nil))))))))
    exact hJ _ _ ⟨hA.sub (.cons rfl (.cons rfl (.cons rfl (.cons rfl (.cons rfl (.cons rfl (.cons (by first | rfl | exact congrArg (fun b => some (Value.bool b)) (by first | exact decide_eq_decide.2 (by omega) | exact or_bool (by omega) | exact and_bool (by omega) | (simp; done) | (simp [hg7]; done) | (have h80 := hg7; (try simp at h80); simp [h80]; done) | exact (decide_eq_false (fun h9 => hg7 h9.1)).symm)) .nil))))))), hM⟩
   ·
    clear hA; intro hg7 hA
    refine S.no (dj := 29) hA (by kernel_rfl) rfl rfl rfl ?_; clear hA a; intro a hA
    refine S.no (dj := 29) hA (by kernel_rfl) rfl rfl rfl ?_; clear hA a; intro a hA
    refine S.no (dj := 29) hA (by kernel_rfl) rfl rfl rfl ?_; clear hA a; intro a hA
    refine S.no (dj := 29) hA (by kernel_rfl) rfl rfl rfl ?_; clear hA a; intro a hA
    refine S.val hA (R.pickF rfl rfl) rfl ?_; clear hA a; intro a hA
    refine S.done ?_
    replace hA : St 39 [(0, _), (6, _), (7, _), (19, _), (20, _), (21, _), (34, _)] a := hA.sub ((.cons rfl (.cons rfl (.cons rfl (.cons rfl (.cons rfl (.cons rfl (.cons rfl .nil))))))))
    exact hJ _ _ ⟨hA.sub (.cons rfl (.cons rfl (.cons rfl (.cons rfl (.cons rfl (.cons rfl (.cons (by first | rfl | exact congrArg (fun b => some (Value.bool b)) (by first | exact decide_eq_decide.2 (by omega) | exact or_bool (by omega) | exact and_bool (by omega) | (simp; done) | (simp [hg7]; done) | (have h80 := hg7; (try simp at h80); simp [h80]; done) | exact (decide_eq_false (fun h9 => hg7 h9.1)).symm)) .nil))))))), hM⟩
end Go.Proofs.YtakfcekfmdjklaaDoor
namespace Go.Proofs.YtakfcekfmdjklaaDoor
open Go.RowKit
set_option maxRecDepth 100000 in
set_option maxHeartbeats 400000 in
theorem items06 (g rb ib j cap : Nat) (at0 : Int) (X : List Tok) (hX : Toks X) (hj : j < X.length) (hcap : X.length ≤ cap) (kd : Int) (w : World) (hM : Mem w (feet [pt rb #[.slice (some ⟨g, j * 4, none⟩) (X.length - j) (cap - j), .int .i64 at0] 62, own 77 4 (.slice ((some ⟨g, 0, none⟩)) X.length cap) X.length (tokv X), pt ib #[.int .i64 kd, .int .i64 0, .int .i64 0, .slice none 0 0, .slice none 0 0, .slice none 0 0] 25]) [pt rb #[.slice (some ⟨g, j * 4, none⟩) (X.length - j) (cap - j), .int .i64 at0] 62, own 77 4 (.slice ((some ⟨g, 0, none⟩)) X.length cap) X.length (tokv X), pt ib #[.int .i64 kd, .int .i64 0, .int .i64 0, .slice none 0 0, .slice none 0 0, .slice none 0 0] 25] w) :
  Calls Tryd.prog 62 #[.pointer (some ⟨rb, 0, none⟩), .pointer (some ⟨ib, 0, none⟩)] w fun e w' => e = .returned (.int .i64 (itR X j).1) ∧ (((itR X j).1 ≠ 0 ∧ ∃ jx, Mem w (feet [pt rb #[.slice (some ⟨g, j * 4, none⟩) (X.length - j) (cap - j), .int .i64 at0] 62, own 77 4 (.slice ((some ⟨g, 0, none⟩)) X.length cap) X.length (tokv X), pt ib #[.int .i64 kd, .int .i64 0, .int .i64 0, .slice none 0 0, .slice none 0 0, .slice none 0 0] 25]) [pt rb #[.slice (some ⟨g, jx * 4, none⟩) (X.length - jx) (cap - jx), .int .i64 (((X.getD (itR X j).2 tz).a))] 62, own 77 4 (.slice ((some ⟨g, 0, none⟩)) X.length cap) X.length (tokv X)] w') ∨ ((itR X j).1 = 0 ∧ ∃ at1 wa wc va vc, ∃ n : Nat, ctN X j 64 = n ∧ 1 ≤ n ∧ (n : Int) ≤ 64 ∧ Mem w (feet [pt rb #[.slice (some ⟨g, j * 4, none⟩) (X.length - j) (cap - j), .int .i64 at0] 62, own 77 4 (.slice ((some ⟨g, 0, none⟩)) X.length cap) X.length (tokv X), pt ib #[.int .i64 kd, .int .i64 0, .int .i64 0, .slice none 0 0, .slice none 0 0, .slice none 0 0] 25]) [pt rb #[.slice (some ⟨g, (itR X j).2 * 4, none⟩) (X.length - (itR X j).2) (cap - (itR X j).2), .int .i64 at1] 62, own 77 4 (.slice ((some ⟨g, 0, none⟩)) X.length cap) X.length (tokv X), pt ib #[.int .i64 kd, .int .i64 ((n : Int)), .int .i64 ((X.getD (j + 1) tz).n), .slice wa ((itI X (j + 2) n).length) wc, .slice va ((itI X (j + 3) n).length) vc, .slice none 0 0] 25, own 3 1 (.slice wa (((itI X (j + 2) n)).length) wc) (((itI X (j + 2) n)).length) (((itI X (j + 2) n)).map (Value.int .i64)), own 3 1 (.slice va (((itI X (j + 3) n)).length) vc) (((itI X (j + 3) n)).length) (((itI X (j + 3) n)).map (Value.int .i64))] w')) := by
 have hbs := Below.refl (B := w.heap.size) w
 have hlX := hX.len
 refine Calls.of_ends (vs := [.pointer (some ⟨rb, 0, none⟩), .pointer (some ⟨ib, 0, none⟩)]) Tryd.func62 rfl Tryd.ntmps62 rfl ?_
 intro a hA
 replace hA : St 74 [(0, _), (1, _)] a := hA
 refine Ends.seq (Ends.region ?_)
 refine S.val hA (R.assign rfl) rfl ?_; clear hA a; intro a hA
 refine S.done ?_
 refine Ends.seq (Ends.region ?_)
 refine S.val hA (R.assign rfl) rfl ?_; clear hA a; intro a hA
 refine S.done ?_
 refine Ends.seq (Ends.seq (Ends.region ?_))
 refine S.val hA (R.move rfl) rfl ?_; clear hA a; intro a hA
 refine S.val hA (R.move rfl) rfl ?_; clear hA a; intro a hA
 refine S.call hA (R.callF Tryd.func64 rfl rfl rfl) rfl (count06 g rb j cap at0 X hX (by omega) hcap 64 _ (hM.hereN 2)) ?_; clear hA a
 rintro e w1 ⟨rfl, hn⟩
 replace hM : Mem _ _ [pt rb #[.slice (some ⟨g, (nxJ j (numR (X.getD j tz) 64)) * 4, none⟩) (X.length - (nxJ j (numR (X.getD j tz) 64))) (cap - (nxJ j (numR (X.getD j tz) 64))), .int .i64 ((X.getD j tz).a)] 62, own 77 4 (.slice ((some ⟨g, 0, none⟩)) X.length cap) X.length (tokv X), pt ib #[.int .i64 kd, .int .i64 0, .int .i64 0, .slice none 0 0, .slice none 0 0, .slice none 0 0] 25] _ := hM.callL 2 hn; clear hn
 refine ⟨.tuple #[.int .i64 ((numN (X.getD j tz) 64)), .int .i64 ((cntR (X.getD j tz) 64))], rfl, fun a hA => ?_⟩
 refine S.val hA (R.move rfl) rfl ?_; clear hA a; intro a hA
 refine S.val hA (R.extract (v := .int .i64 ((numN (X.getD j tz) 64))) rfl rfl) rfl ?_; clear hA a; intro a hA
 refine S.val hA (R.extract (v := .int .i64 ((cntR (X.getD j tz) 64))) rfl rfl) rfl ?_; clear hA a; intro a hA
 refine S.val hA (R.nilCheck rfl) rfl ?_; clear hA a; intro a hA
 refine S.val hA (R.fieldAddr (q := 1) fi25_1 rfl rfl rfl) rfl ?_; clear hA a; intro a hA
 refine S.store (k := 2) hA hM sz3 rfl rfl rfl rfl rfl ?_; clear hM
 intro w2 hM
 replace hM : Mem _ _ [pt rb #[.slice (some ⟨g, (nxJ j (numR (X.getD j tz) 64)) * 4, none⟩) (X.length - (nxJ j (numR (X.getD j tz) 64))) (cap - (nxJ j (numR (X.getD j tz) 64))), .int .i64 ((X.getD j tz).a)] 62, own 77 4 (.slice ((some ⟨g, 0, none⟩)) X.length cap) X.length (tokv X), pt ib #[.int .i64 kd, .int .i64 ((numN (X.getD j tz) 64)), .int .i64 0, .slice none 0 0, .slice none 0 0, .slice none 0 0] 25] _ := hM
 refine S.val hA (R.assign rfl) rfl ?_; clear hA a; intro a hA
 refine S.done ?_
 replace hA : St 74 [(0, _), (1, _), (5, _)] a := hA.sub ((.cons rfl (.cons rfl (.cons rfl .nil))))
 refine Ends.seq (Ends.region ?_)
 refine S.val hA (R.move rfl) rfl ?_; clear hA a; intro a hA
 refine S.val hA (R.neq rfl rfl) rfl ?_; clear hA a; intro a hA
 refine S.done ?_
 refine Ends.ite hA rfl (fun hc1 => ?_) (fun hc1 => ?_)
 ·
  refine Ends.seq (Ends.region ?_)
  refine S.val hA (R.move rfl) rfl ?_; clear hA a; intro a hA
  refine S.val hA (R.assign rfl) rfl ?_; clear hA a; intro a hA
  refine S.done ?_
  replace hA : St 74 [(0, _), (1, _), (4, _)] a := hA.sub ((.cons rfl (.cons rfl (.cons rfl .nil))))
  refine Ends.ret1 Tryd.func62 Tryd.results62 hA rfl ?_
  replace hM := hM.firstN 2
  replace hM : Mem _ _ [pt rb #[.slice (some ⟨g, (nxJ j (numR (X.getD j tz) 64)) * 4, none⟩) (X.length - (nxJ j (numR (X.getD j tz) 64))) (cap - (nxJ j (numR (X.getD j tz) 64))), .int .i64 ((X.getD j tz).a)] 62, own 77 4 (.slice ((some ⟨g, 0, none⟩)) X.length cap) X.length (tokv X)] _ := hM
  have e1 := itR_cnt hc1
  exact ⟨by rw [e1], .inl ⟨by rw [e1]; exact hc1, _, by rw [e1]; exact hM⟩⟩
 ·
  obtain ⟨n, hn, hcn, hn1, hn64, hr0⟩ := hX.ct (Decidable.not_not.1 hc1)
  have hc0 := Decidable.not_not.1 hc1
  have hj1 := hX.ok hj hr0
  rw [hn] at hM
  rw [nxJ_ok hr0] at hM
  replace hM : Mem _ _ [pt rb #[.slice (some ⟨g, (j + 1) * 4, none⟩) (X.length - (j + 1)) (cap - (j + 1)), .int .i64 ((X.getD j tz).a)] 62, own 77 4 (.slice ((some ⟨g, 0, none⟩)) X.length cap) X.length (tokv X), pt ib #[.int .i64 kd, .int .i64 ((n : Int)), .int .i64 0, .slice none 0 0, .slice none 0 0, .slice none 0 0] 25] _ := hM
  have hall0 : ∀ r, r < 0 → nuE (ff r) (X.getD (j + 1 + r) tz) = 0 := fun r h => absurd h (Nat.not_lt_zero r)
  refine Ends.skip (Ends.seq (Ends.seq (Ends.region ?_)))
  refine S.val hA (R.move rfl) rfl ?_; clear hA a; intro a hA
  refine S.val hA (R.move rfl) rfl ?_; clear hA a; intro a hA
  refine S.call hA (R.callF Tryd.func81 rfl rfl rfl) rfl (number06 g rb ((j + 1)) cap ((X.getD j tz).a) X hX (by omega) hcap 2147483647 _ (hM.hereN 2)) ?_; clear hA a
  rintro e w3 ⟨rfl, hn⟩
  replace hM : Mem _ _ [pt rb #[.slice (some ⟨g, (nxJ ((j + 1)) (numR (X.getD ((j + 1)) tz) 2147483647)) * 4, none⟩) (X.length - (nxJ ((j + 1)) (numR (X.getD ((j + 1)) tz) 2147483647))) (cap - (nxJ ((j + 1)) (numR (X.getD ((j + 1)) tz) 2147483647))), .int .i64 ((X.getD ((j + 1)) tz).a)] 62, own 77 4 (.slice ((some ⟨g, 0, none⟩)) X.length cap) X.length (tokv X), pt ib #[.int .i64 kd, .int .i64 ((n : Int)), .int .i64 0, .slice none 0 0, .slice none 0 0, .slice none 0 0] 25] _ := hM.callL 2 hn; clear hn
  refine ⟨.tuple #[.int .i64 ((numN (X.getD ((j + 1)) tz) 2147483647)), .int .i64 ((numR (X.getD ((j + 1)) tz) 2147483647))], rfl, fun a hA => ?_⟩
  refine S.val hA (R.move rfl) rfl ?_; clear hA a; intro a hA
  refine S.val hA (R.extract (v := .int .i64 ((numN (X.getD ((j + 1)) tz) 2147483647))) rfl rfl) rfl ?_; clear hA a; intro a hA
  refine S.val hA (R.extract (v := .int .i64 ((numR (X.getD ((j + 1)) tz) 2147483647))) rfl rfl) rfl ?_; clear hA a; intro a hA
  refine S.val hA (R.nilCheck rfl) rfl ?_; clear hA a; intro a hA
  refine S.val hA (R.fieldAddr (q := 2) fi25_2 rfl rfl rfl) rfl ?_; clear hA a; intro a hA
  refine S.store (k := 2) hA hM sz3 rfl rfl rfl rfl rfl ?_; clear hM
  intro w4 hM
  replace hM : Mem _ _ [pt rb #[.slice (some ⟨g, (nxJ ((j + 1)) (numR (X.getD ((j + 1)) tz) 2147483647)) * 4, none⟩) (X.length - (nxJ ((j + 1)) (numR (X.getD ((j + 1)) tz) 2147483647))) (cap - (nxJ ((j + 1)) (numR (X.getD ((j + 1)) tz) 2147483647))), .int .i64 ((X.getD ((j + 1)) tz).a)] 62, own 77 4 (.slice ((some ⟨g, 0, none⟩)) X.length cap) X.length (tokv X), pt ib #[.int .i64 kd, .int .i64 ((n : Int)), .int .i64 ((numN (X.getD ((j + 1)) tz) 2147483647)), .slice none 0 0, .slice none 0 0, .slice none 0 0] 25] _ := hM
  refine S.val hA (R.assign rfl) rfl ?_; clear hA a; intro a hA
  refine S.done ?_
  replace hA : St 74 [(0, _), (1, _), (5, _)] a := hA.sub ((.cons rfl (.cons rfl (.cons rfl .nil))))
  refine Ends.seq (Ends.region ?_)
  refine S.val hA (R.move rfl) rfl ?_; clear hA a; intro a hA
  refine S.val hA (R.neq rfl rfl) rfl ?_; clear hA a; intro a hA
  refine S.done ?_
  refine Ends.ite hA rfl (fun hc2 => ?_) (fun hc2 => ?_)
  ·
   refine Ends.seq (Ends.region ?_)
   refine S.val hA (R.move rfl) rfl ?_; clear hA a; intro a hA
   refine S.val hA (R.assign rfl) rfl ?_; clear hA a; intro a hA
   refine S.done ?_
   replace hA : St 74 [(0, _), (1, _), (4, _)] a := hA.sub ((.cons rfl (.cons rfl (.cons rfl .nil))))
   refine Ends.ret1 Tryd.func62 Tryd.results62 hA rfl ?_
   replace hM := hM.firstN 2
   replace hM : Mem _ _ [pt rb #[.slice (some ⟨g, (nxJ ((j + 1)) (numR (X.getD ((j + 1)) tz) 2147483647)) * 4, none⟩) (X.length - (nxJ ((j + 1)) (numR (X.getD ((j + 1)) tz) 2147483647))) (cap - (nxJ ((j + 1)) (numR (X.getD ((j + 1)) tz) 2147483647))), .int .i64 ((X.getD ((j + 1)) tz).a)] 62, own 77 4 (.slice ((some ⟨g, 0, none⟩)) X.length cap) X.length (tokv X)] _ := hM
   have e1 := (itR_num hc0 hcn).trans (nuR_badP hall0 (q := 0) rfl hc2 (by omega))
   exact ⟨by rw [e1], .inl ⟨by rw [e1]; exact hc2, _, by rw [e1]; exact hM⟩⟩
  ·
   have hr1 := Decidable.not_not.1 hc2
   have hj2 := hX.ok hj1 hr1
   rw [(numN_eq hr1).1] at hM
   rw [nxJ_ok hr1] at hM
   replace hM : Mem _ _ [pt rb #[.slice (some ⟨g, ((j + 1) + 1) * 4, none⟩) (X.length - ((j + 1) + 1)) (cap - ((j + 1) + 1)), .int .i64 ((X.getD ((j + 1)) tz).a)] 62, own 77 4 (.slice ((some ⟨g, 0, none⟩)) X.length cap) X.length (tokv X), pt ib #[.int .i64 kd, .int .i64 ((n : Int)), .int .i64 ((X.getD (j + 1) tz).n), .slice none 0 0, .slice none 0 0, .slice none 0 0] 25] _ := hM
   have hall1 := nuE_step hall0 (q := 0) (p := j + 1) rfl hr1 ff_no
   refine Ends.skip (Ends.seq (Ends.seq (Ends.region ?_)))
   refine S.val hA (R.move rfl) rfl ?_; clear hA a; intro a hA
   refine S.val hA (R.nilCheck rfl) rfl ?_; clear hA a; intro a hA
   refine S.val hA (R.fieldAddr (q := 1) fi25_1 rfl rfl rfl) rfl ?_; clear hA a; intro a hA
   refine S.val hA (R.load sz3 rfl (hM.cell (k := 2) rfl rfl)) rfl ?_; clear hA a; intro a hA
   refine S.val hA (R.move rfl) rfl ?_; clear hA a; intro a hA
   refine S.done ?_
   replace hA : St 74 [(0, _), (1, _), (34, _), (35, _)] a := hA.sub ((.cons rfl (.cons rfl (.cons rfl (.cons rfl .nil)))))
   refine Ends.block ?_
   replace hM := (hM.ownNil 3 1).ownNil 3 1
   replace hM : Mem _ _ [own 3 1 (.slice none ((([] : List Int)).length) 0) ((([] : List Int)).length) ((([] : List Int)).map (Value.int .i64)), own 3 1 (.slice none ((([] : List Int)).length) 0) ((([] : List Int)).length) ((([] : List Int)).map (Value.int .i64)), pt rb #[.slice (some ⟨g, ((j + 1) + 1) * 4, none⟩) (X.length - ((j + 1) + 1)) (cap - ((j + 1) + 1)), .int .i64 ((X.getD ((j + 1)) tz).a)] 62, own 77 4 (.slice ((some ⟨g, 0, none⟩)) X.length cap) X.length (tokv X), pt ib #[.int .i64 kd, .int .i64 ((n : Int)), .int .i64 ((X.getD (j + 1) tz).n), .slice none 0 0, .slice none 0 0, .slice none 0 0] 25] _ := hM
   replace hM := hM.front (k := 4) rfl
   replace hM := hM.front (k := 4) rfl
   replace hM := hM.front (k := 4) rfl
   replace hM : Mem _ _ [pt rb #[.slice (some ⟨g, (j + 2 + 2 * 0) * 4, none⟩) (X.length - (j + 2 + 2 * 0)) (cap - (j + 2 + 2 * 0)), .int .i64 ((X.getD ((j + 1)) tz).a)] 62, own 77 4 (.slice ((some ⟨g, 0, none⟩)) X.length cap) X.length (tokv X), pt ib #[.int .i64 kd, .int .i64 ((n : Int)), .int .i64 ((X.getD (j + 1) tz).n), .slice none ((itI X (j + 2) 0).length) 0, .slice none ((itI X (j + 3) 0).length) 0, .slice none 0 0] 25, own 3 1 (.slice none (((itI X (j + 2) 0)).length) 0) (((itI X (j + 2) 0)).length) (((itI X (j + 2) 0)).map (Value.int .i64)), own 3 1 (.slice none (((itI X (j + 3) 0)).length) 0) (((itI X (j + 3) 0)).length) (((itI X (j + 3) 0)).map (Value.int .i64))] _ := hM
   refine Ends.loop (σ := Nat × Option Addr × Nat × Option Addr × Nat × Int) (fun (k, wa, wc, va, vc, at1) (a : Act) (wv : World) => St 74 [(0, .pointer (some ⟨rb, 0, none⟩)), (1, .pointer (some ⟨ib, 0, none⟩)), (34, .int .i64 ((n : Int))), (35, .int .i64 ((k : Int)))] a ∧ Mem w (feet [pt rb #[.slice (some ⟨g, j * 4, none⟩) (X.length - j) (cap - j), .int .i64 at0] 62, own 77 4 (.slice ((some ⟨g, 0, none⟩)) X.length cap) X.length (tokv X), pt ib #[.int .i64 kd, .int .i64 0, .int .i64 0, .slice none 0 0, .slice none 0 0, .slice none 0 0] 25]) [pt rb #[.slice (some ⟨g, (j + 2 + 2 * k) * 4, none⟩) (X.length - (j + 2 + 2 * k)) (cap - (j + 2 + 2 * k)), .int .i64 at1] 62, own 77 4 (.slice ((some ⟨g, 0, none⟩)) X.length cap) X.length (tokv X), pt ib #[.int .i64 kd, .int .i64 ((n : Int)), .int .i64 ((X.getD (j + 1) tz).n), .slice wa ((itI X (j + 2) k).length) wc, .slice va ((itI X (j + 3) k).length) vc, .slice none 0 0] 25, own 3 1 (.slice wa (((itI X (j + 2) k)).length) wc) (((itI X (j + 2) k)).length) (((itI X (j + 2) k)).map (Value.int .i64)), own 3 1 (.slice va (((itI X (j + 3) k)).length) vc) (((itI X (j + 3) k)).length) (((itI X (j + 3) k)).map (Value.int .i64))] wv ∧ (k ≤ n) ∧ (j + 2 + 2 * k < X.length) ∧ (∀ r, r < 1 + 2 * k → nuE (ff r) (X.getD (j + 1 + r) tz) = 0)) (fun (k, wa, wc, va, vc, at1) => n - k) ((0, none, 0, none, 0, (X.getD ((j + 1)) tz).a)) ⟨hA.sub ((.cons rfl (.cons rfl (.cons rfl (.cons rfl .nil))))), hM, (Nat.zero_le _), (by omega), (fun r hr => hall1 r (by omega))⟩ ?_
   clear hA hM a
   rintro ⟨k, wa, wc, va, vc, at1⟩ a w5 ⟨hA, hM, hk, hjk, hall⟩ hNext
   refine Ends.seq (Ends.region ?_)
   refine S.val hA (R.lss rfl rfl) rfl ?_; clear hA a; intro a hA
   refine S.done ?_
   refine Ends.seq ?_
   refine Ends.ite hA rfl (fun hc3 => ?_) (fun hc3 => ?_)
   ·
    refine Ends.skip (Ends.seq (Ends.block (Ends.seq (Ends.region ?_))))
    refine S.val hA (R.move rfl) rfl ?_; clear hA a; intro a hA
    refine S.call hA (R.callF Tryd.func81 rfl rfl rfl) rfl (number06 g rb ((j + 2 + 2 * k)) cap at1 X hX (by omega) hcap 2147483647 _ (hM.hereN 2)) ?_; clear hA a
    rintro e w6 ⟨rfl, hn⟩
    replace hM : Mem _ _ [pt rb #[.slice (some ⟨g, (nxJ ((j + 2 + 2 * k)) (numR (X.getD ((j + 2 + 2 * k)) tz) 2147483647)) * 4, none⟩) (X.length - (nxJ ((j + 2 + 2 * k)) (numR (X.getD ((j + 2 + 2 * k)) tz) 2147483647))) (cap - (nxJ ((j + 2 + 2 * k)) (numR (X.getD ((j + 2 + 2 * k)) tz) 2147483647))), .int .i64 ((X.getD ((j + 2 + 2 * k)) tz).a)] 62, own 77 4 (.slice ((some ⟨g, 0, none⟩)) X.length cap) X.length (tokv X), pt ib #[.int .i64 kd, .int .i64 ((n : Int)), .int .i64 ((X.getD (j + 1) tz).n), .slice wa ((itI X (j + 2) k).length) wc, .slice va ((itI X (j + 3) k).length) vc, .slice none 0 0] 25, own 3 1 (.slice wa (((itI X (j + 2) k)).length) wc) (((itI X (j + 2) k)).length) (((itI X (j + 2) k)).map (Value.int .i64)), own 3 1 (.slice va (((itI X (j + 3) k)).length) vc) (((itI X (j + 3) k)).length) (((itI X (j + 3) k)).map (Value.int .i64))] _ := hM.callL 2 hn; clear hn
    refine ⟨.tuple #[.int .i64 ((numN (X.getD ((j + 2 + 2 * k)) tz) 2147483647)), .int .i64 ((numR (X.getD ((j + 2 + 2 * k)) tz) 2147483647))], rfl, fun a hA => ?_⟩
    refine S.val hA (R.move rfl) rfl ?_; clear hA a; intro a hA
    refine S.val hA (R.extract (v := .int .i64 ((numN (X.getD ((j + 2 + 2 * k)) tz) 2147483647))) rfl rfl) rfl ?_; clear hA a; intro a hA
    refine S.val hA (R.extract (v := .int .i64 ((numR (X.getD ((j + 2 + 2 * k)) tz) 2147483647))) rfl rfl) rfl ?_; clear hA a; intro a hA
    refine S.val hA (R.assign rfl) rfl ?_; clear hA a; intro a hA
    refine S.val hA (R.assign rfl) rfl ?_; clear hA a; intro a hA
    refine S.done ?_
    replace hA : St 74 [(0, _), (1, _), (6, _), (7, _), (34, _), (35, _)] a := hA.sub ((.cons rfl (.cons rfl (.cons rfl (.cons rfl (.cons rfl (.cons rfl .nil)))))))
    refine Ends.seq (Ends.seq (Ends.region ?_))
    refine S.val hA (R.move rfl) rfl ?_; clear hA a; intro a hA
    refine S.val hA (R.neq rfl rfl) rfl ?_; clear hA a; intro a hA
    refine S.done ?_
    refine Ends.ite hA rfl (fun hc4 => ?_) (fun hc4 => ?_)
    ·
     refine Ends.seq (Ends.region ?_)
     refine S.val hA (R.move rfl) rfl ?_; clear hA a; intro a hA
     refine S.val hA (R.assign rfl) rfl ?_; clear hA a; intro a hA
     refine S.done ?_
     replace hA : St 74 [(0, _), (1, _), (4, _), (6, _), (34, _), (35, _)] a := hA.sub ((.cons rfl (.cons rfl (.cons rfl (.cons rfl (.cons rfl (.cons rfl .nil)))))))
     refine Ends.ret1 Tryd.func62 Tryd.results62 hA rfl ?_
     replace hM := hM.firstN 2
     replace hM : Mem _ _ [pt rb #[.slice (some ⟨g, (nxJ ((j + 2 + 2 * k)) (numR (X.getD ((j + 2 + 2 * k)) tz) 2147483647)) * 4, none⟩) (X.length - (nxJ ((j + 2 + 2 * k)) (numR (X.getD ((j + 2 + 2 * k)) tz) 2147483647))) (cap - (nxJ ((j + 2 + 2 * k)) (numR (X.getD ((j + 2 + 2 * k)) tz) 2147483647))), .int .i64 ((X.getD ((j + 2 + 2 * k)) tz).a)] 62, own 77 4 (.slice ((some ⟨g, 0, none⟩)) X.length cap) X.length (tokv X)] _ := hM
     have e1 := (itR_num hc0 hcn).trans (nuR_badP hall (q := 1 + 2 * k) (by omega) hc4 (by omega))
     exact ⟨by rw [e1], .inl ⟨by rw [e1]; exact hc4, _, by rw [e1]; exact hM⟩⟩
    ·
     have hrw := Decidable.not_not.1 hc4
     have hjw := hX.ok hjk hrw
     rw [nxJ_ok hrw] at hM
     replace hM : Mem _ _ [pt rb #[.slice (some ⟨g, ((j + 2 + 2 * k) + 1) * 4, none⟩) (X.length - ((j + 2 + 2 * k) + 1)) (cap - ((j + 2 + 2 * k) + 1)), .int .i64 ((X.getD ((j + 2 + 2 * k)) tz).a)] 62, own 77 4 (.slice ((some ⟨g, 0, none⟩)) X.length cap) X.length (tokv X), pt ib #[.int .i64 kd, .int .i64 ((n : Int)), .int .i64 ((X.getD (j + 1) tz).n), .slice wa ((itI X (j + 2) k).length) wc, .slice va ((itI X (j + 3) k).length) vc, .slice none 0 0] 25, own 3 1 (.slice wa (((itI X (j + 2) k)).length) wc) (((itI X (j + 2) k)).length) (((itI X (j + 2) k)).map (Value.int .i64)), own 3 1 (.slice va (((itI X (j + 3) k)).length) vc) (((itI X (j + 3) k)).length) (((itI X (j + 3) k)).map (Value.int .i64))] _ := hM
     have hallw := nuE_step hall (q := 1 + 2 * k) (p := j + 2 + 2 * k) (by omega) hrw ff_no
     refine Ends.skip (Ends.seq (Ends.region ?_))
     refine S.val hA (R.move rfl) rfl ?_; clear hA a; intro a hA
     refine S.call hA (R.callF Tryd.func81 rfl rfl rfl) rfl (number06 g rb (((j + 2 + 2 * k) + 1)) cap ((X.getD ((j + 2 + 2 * k)) tz).a) X hX (by omega) hcap 2147483647 _ (hM.hereN 2)) ?_; clear hA a
     rintro e w7 ⟨rfl, hn⟩
     replace hM : Mem _ _ [pt rb #[.slice (some ⟨g, (nxJ (((j + 2 + 2 * k) + 1)) (numR (X.getD (((j + 2 + 2 * k) + 1)) tz) 2147483647)) * 4, none⟩) (X.length - (nxJ (((j + 2 + 2 * k) + 1)) (numR (X.getD (((j + 2 + 2 * k) + 1)) tz) 2147483647))) (cap - (nxJ (((j + 2 + 2 * k) + 1)) (numR (X.getD (((j + 2 + 2 * k) + 1)) tz) 2147483647))), .int .i64 ((X.getD (((j + 2 + 2 * k) + 1)) tz).a)] 62, own 77 4 (.slice ((some ⟨g, 0, none⟩)) X.length cap) X.length (tokv X), pt ib #[.int .i64 kd, .int .i64 ((n : Int)), .int .i64 ((X.getD (j + 1) tz).n), .slice wa ((itI X (j + 2) k).length) wc, .slice va ((itI X (j + 3) k).length) vc, .slice none 0 0] 25, own 3 1 (.slice wa (((itI X (j + 2) k)).length) wc) (((itI X (j + 2) k)).length) (((itI X (j + 2) k)).map (Value.int .i64)), own 3 1 (.slice va (((itI X (j + 3) k)).length) vc) (((itI X (j + 3) k)).length) (((itI X (j + 3) k)).map (Value.int .i64))] _ := hM.callL 2 hn; clear hn
     refine ⟨.tuple #[.int .i64 ((numN (X.getD (((j + 2 + 2 * k) + 1)) tz) 2147483647)), .int .i64 ((numR (X.getD (((j + 2 + 2 * k) + 1)) tz) 2147483647))], rfl, fun a hA => ?_⟩
     refine S.val hA (R.move rfl) rfl ?_; clear hA a; intro a hA
     refine S.val hA (R.extract (v := .int .i64 ((numN (X.getD (((j + 2 + 2 * k) + 1)) tz) 2147483647))) rfl rfl) rfl ?_; clear hA a; intro a hA
     refine S.val hA (R.extract (v := .int .i64 ((numR (X.getD (((j + 2 + 2 * k) + 1)) tz) 2147483647))) rfl rfl) rfl ?_; clear hA a; intro a hA
     refine S.val hA (R.assign rfl) rfl ?_; clear hA a; intro a hA
     refine S.val hA (R.assign rfl) rfl ?_; clear hA a; intro a hA
     refine S.done ?_
     replace hA : St 74 [(0, _), (1, _), (6, _), (7, _), (8, _), (34, _), (35, _)] a := hA.sub ((.cons rfl (.cons rfl (.cons rfl (.cons rfl (.cons rfl (.cons rfl (.cons rfl .nil))))))))
     refine Ends.seq (Ends.seq (Ends.region ?_))
     refine S.val hA (R.move rfl) rfl ?_; clear hA a; intro a hA
     refine S.val hA (R.neq rfl rfl) rfl ?_; clear hA a; intro a hA
     refine S.done ?_
     refine Ends.ite hA rfl (fun hc5 => ?_) (fun hc5 => ?_)
     ·
      refine Ends.seq (Ends.region ?_)
      refine S.val hA (R.move rfl) rfl ?_; clear hA a; intro a hA
      refine S.val hA (R.assign rfl) rfl ?_; clear hA a; intro a hA
      refine S.done ?_
      replace hA : St 74 [(0, _), (1, _), (4, _), (6, _), (8, _), (34, _), (35, _)] a := hA.sub ((.cons rfl (.cons rfl (.cons rfl (.cons rfl (.cons rfl (.cons rfl (.cons rfl .nil))))))))
      refine Ends.ret1 Tryd.func62 Tryd.results62 hA rfl ?_
      replace hM := hM.firstN 2
      replace hM : Mem _ _ [pt rb #[.slice (some ⟨g, (nxJ (((j + 2 + 2 * k) + 1)) (numR (X.getD (((j + 2 + 2 * k) + 1)) tz) 2147483647)) * 4, none⟩) (X.length - (nxJ (((j + 2 + 2 * k) + 1)) (numR (X.getD (((j + 2 + 2 * k) + 1)) tz) 2147483647))) (cap - (nxJ (((j + 2 + 2 * k) + 1)) (numR (X.getD (((j + 2 + 2 * k) + 1)) tz) 2147483647))), .int .i64 ((X.getD (((j + 2 + 2 * k) + 1)) tz).a)] 62, own 77 4 (.slice ((some ⟨g, 0, none⟩)) X.length cap) X.length (tokv X)] _ := hM
      have e1 := (itR_num hc0 hcn).trans (nuR_badP hallw (q := 1 + 2 * k + 1) (by omega) hc5 (by omega))
      exact ⟨by rw [e1], .inl ⟨by rw [e1]; exact hc5, _, by rw [e1]; exact hM⟩⟩
     ·
      have hrv := Decidable.not_not.1 hc5
      have hjv := hX.ok hjw hrv
      rw [nxJ_ok hrv] at hM
      replace hM : Mem _ _ [pt rb #[.slice (some ⟨g, ((j + 2 + 2 * k + 1) + 1) * 4, none⟩) (X.length - ((j + 2 + 2 * k + 1) + 1)) (cap - ((j + 2 + 2 * k + 1) + 1)), .int .i64 ((X.getD (((j + 2 + 2 * k) + 1)) tz).a)] 62, own 77 4 (.slice ((some ⟨g, 0, none⟩)) X.length cap) X.length (tokv X), pt ib #[.int .i64 kd, .int .i64 ((n : Int)), .int .i64 ((X.getD (j + 1) tz).n), .slice wa ((itI X (j + 2) k).length) wc, .slice va ((itI X (j + 3) k).length) vc, .slice none 0 0] 25, own 3 1 (.slice wa (((itI X (j + 2) k)).length) wc) (((itI X (j + 2) k)).length) (((itI X (j + 2) k)).map (Value.int .i64)), own 3 1 (.slice va (((itI X (j + 3) k)).length) vc) (((itI X (j + 3) k)).length) (((itI X (j + 3) k)).map (Value.int .i64))] _ := hM
      have hallv := nuE_step hallw (q := 1 + 2 * k + 1) (p := j + 2 + 2 * k + 1) (by omega) hrv ff_no
      refine Ends.skip ?_
      refine Ends.drawn (Mem w (feet [pt rb #[.slice (some ⟨g, j * 4, none⟩) (X.length - j) (cap - j), .int .i64 at0] 62, own 77 4 (.slice ((some ⟨g, 0, none⟩)) X.length cap) X.length (tokv X), pt ib #[.int .i64 kd, .int .i64 0, .int .i64 0, .slice none 0 0, .slice none 0 0, .slice none 0 0] 25]) [pt rb #[.slice (some ⟨g, ((j + 2 + 2 * k + 1) + 1) * 4, none⟩) (X.length - ((j + 2 + 2 * k + 1) + 1)) (cap - ((j + 2 + 2 * k + 1) + 1)), .int .i64 ((X.getD (((j + 2 + 2 * k) + 1)) tz).a)] 62, pt ib #[.int .i64 kd, .int .i64 ((n : Int)), .int .i64 ((X.getD (j + 1) tz).n), .slice wa ((itI X (j + 2) k).length) wc, .slice va ((itI X (j + 3) k).length) vc, .slice none 0 0] 25]) (.cons (0, true) (.cons (1, true) (.cons (2, true) (.cons (3, true) (.cons (4, true) (.cons (5, true) (.cons (6, true) (.cons (9, true) (.cons (10, true) (.cons (11, true) (.cons (12, true) (.cons (13, true) (.fork 7 14 (.fork 8 14 (.cons (14, false) (.cons (15, false) (.cons (16, true) (.cons (17, true) (.cons (18, false) (.cons (19, true) (.cons (20, true) (.cons (21, false) .nil)))))))) (.cons (8, false) (.cons (15, false) (.cons (16, true) (.cons (17, true) (.cons (18, false) (.cons (19, true) (.cons (20, true) (.cons (21, false) .nil))))))))) (.cons (7, false) (.cons (8, false) (.cons (15, false) (.cons (16, true) (.cons (17, true) (.cons (18, false) (.cons (19, true) (.cons (20, true) (.cons (21, false) .nil)))))))))))))))))))))) 18 mixed (by kernel_rfl) (by kernel_rfl) (by kernel_rfl) (((hM.drop 4).drop 3).drop 1).drew ?_
      replace hM := hM.drew
      refine D.valF hA rfl (fun _ => R.move rfl) rfl ?_; clear hA a; intro a hA
      refine D.valF hA rfl (fun _ => R.move rfl) rfl ?_; clear hA a; intro a hA
      refine D.valF hA rfl (fun _ => R.move rfl) rfl ?_; clear hA a; intro a hA
      refine D.valF hA rfl (fun _ => R.nilCheck rfl) rfl ?_; clear hA a; intro a hA
      refine D.valF hA rfl (fun _ => R.fieldAddr (q := 3) fi25_3 rfl rfl rfl) rfl ?_; clear hA a; intro a hA
      refine D.val hA rfl (by kernel_rfl) (fun _ hM => R.load sz22 rfl (hM.cell (k := 1) rfl rfl)) rfl ?_; clear hA a; intro a hA
      refine D.valF hA rfl (fun _ => R.move rfl) rfl ?_; clear hA a; intro a hA
      refine D.valF hA rfl (fun _ => R.move rfl) rfl ?_; clear hA a; intro a hA
      refine D.valF hA rfl (fun _ => R.nilCheck rfl) rfl ?_; clear hA a; intro a hA
      refine D.valF hA rfl (fun _ => R.fieldAddr (q := 4) fi25_4 rfl rfl rfl) rfl ?_; clear hA a; intro a hA
      refine D.val hA rfl (by kernel_rfl) (fun _ hM => R.load sz22 rfl (hM.cell (k := 1) rfl rfl)) rfl ?_; clear hA a; intro a hA
      refine D.valF hA rfl (fun _ => R.move rfl) rfl ?_; clear hA a; intro a hA
      refine D.fork rfl rfl ?_ ?_
      ·
       refine D.buildSl (cells := #[.int .i64 ((numN (X.getD ((j + 2 + 2 * k)) tz) 2147483647))]) hA hM rfl Tryd.underlying22 info3 rfl rfl rfl rfl (by kernel_rfl) rfl ?_; clear hA hM a; intro b6 w8 hb7 hM; refine ⟨(fun hM => (((hM.drop 4).drop 3).drop 1)) hM.tail, fun a hA => ?_⟩
       replace hM : Mem _ _ [pt b6 #[.int .i64 ((numN (X.getD ((j + 2 + 2 * k)) tz) 2147483647))] 3, pt rb #[.slice (some ⟨g, ((j + 2 + 2 * k + 1) + 1) * 4, none⟩) (X.length - ((j + 2 + 2 * k + 1) + 1)) (cap - ((j + 2 + 2 * k + 1) + 1)), .int .i64 ((X.getD (((j + 2 + 2 * k) + 1)) tz).a)] 62, own 77 4 (.slice ((some ⟨g, 0, none⟩)) X.length cap) X.length (tokv X), pt ib #[.int .i64 kd, .int .i64 ((n : Int)), .int .i64 ((X.getD (j + 1) tz).n), .slice wa ((itI X (j + 2) k).length) wc, .slice va ((itI X (j + 3) k).length) vc, .slice none 0 0] 25, own 3 1 (.slice wa (((itI X (j + 2) k)).length) wc) (((itI X (j + 2) k)).length) (((itI X (j + 2) k)).map (Value.int .i64)), own 3 1 (.slice va (((itI X (j + 3) k)).length) vc) (((itI X (j + 3) k)).length) (((itI X (j + 3) k)).map (Value.int .i64))] _ := hM
       refine D.fork rfl rfl ?_ ?_
       ·
        refine D.append (k := 4) (k2 := 0) hA hM rfl rfl rfl Tryd.underlying22 info3 rfl rfl rfl rfl rfl rfl rfl rfl rfl (by rw [itI_len]; first | (unfold maxLen; omega) | (show (k + 1) * 8 ≤ 140737488355328; omega)) (by rw [itI_len]; first | (unfold maxLen; omega) | (show (k + 1) * 8 ≤ 140737488355328; omega)) rfl ?_; clear hA hM a; intro a8 c9 w9 hM
        replace hM : Mem _ _ [pt b6 #[.int .i64 ((numN (X.getD ((j + 2 + 2 * k)) tz) 2147483647))] 3, pt rb #[.slice (some ⟨g, ((j + 2 + 2 * k + 1) + 1) * 4, none⟩) (X.length - ((j + 2 + 2 * k + 1) + 1)) (cap - ((j + 2 + 2 * k + 1) + 1)), .int .i64 ((X.getD (((j + 2 + 2 * k) + 1)) tz).a)] 62, own 77 4 (.slice ((some ⟨g, 0, none⟩)) X.length cap) X.length (tokv X), pt ib #[.int .i64 kd, .int .i64 ((n : Int)), .int .i64 ((X.getD (j + 1) tz).n), .slice wa ((itI X (j + 2) k).length) wc, .slice va ((itI X (j + 3) k).length) vc, .slice none 0 0] 25, own 3 1 (.slice a8 ((((itI X (j + 2) k)).length) + 1) c9) ((((itI X (j + 2) k)).length) + 1) (((itI X (j + 2) k)).map (Value.int .i64) ++ [.int .i64 ((numN (X.getD ((j + 2 + 2 * k)) tz) 2147483647))]), own 3 1 (.slice va (((itI X (j + 3) k)).length) vc) (((itI X (j + 3) k)).length) (((itI X (j + 3) k)).map (Value.int .i64))] _ := hM
        have hl10 : (((itI X (j + 2) k)).length) + 1 = ((itI X (j + 2) k) ++ [(numN (X.getD ((j + 2 + 2 * k)) tz) 2147483647)]).length := by simp
        rw [hl10, show ((itI X (j + 2) k)).map (Value.int .i64) ++ [.int .i64 ((numN (X.getD ((j + 2 + 2 * k)) tz) 2147483647))] = ((itI X (j + 2) k) ++ [(numN (X.getD ((j + 2 + 2 * k)) tz) 2147483647)]).map (Value.int .i64) by simp] at hM
        replace hM := hM.drop 0
        replace hM : Mem _ _ [pt rb #[.slice (some ⟨g, ((j + 2 + 2 * k + 1) + 1) * 4, none⟩) (X.length - ((j + 2 + 2 * k + 1) + 1)) (cap - ((j + 2 + 2 * k + 1) + 1)), .int .i64 ((X.getD (((j + 2 + 2 * k) + 1)) tz).a)] 62, own 77 4 (.slice ((some ⟨g, 0, none⟩)) X.length cap) X.length (tokv X), pt ib #[.int .i64 kd, .int .i64 ((n : Int)), .int .i64 ((X.getD (j + 1) tz).n), .slice wa ((itI X (j + 2) k).length) wc, .slice va ((itI X (j + 3) k).length) vc, .slice none 0 0] 25, own 3 1 (.slice a8 ((((itI X (j + 2) k) ++ [(numN (X.getD ((j + 2 + 2 * k)) tz) 2147483647)])).length) c9) ((((itI X (j + 2) k) ++ [(numN (X.getD ((j + 2 + 2 * k)) tz) 2147483647)])).length) ((((itI X (j + 2) k) ++ [(numN (X.getD ((j + 2 + 2 * k)) tz) 2147483647)])).map (Value.int .i64)), own 3 1 (.slice va (((itI X (j + 3) k)).length) vc) (((itI X (j + 3) k)).length) (((itI X (j + 3) k)).map (Value.int .i64))] _ := hM
        refine ⟨(((hM.drop 4).drop 3).drop 1), fun a hA => ?_⟩; rw [hl10] at hA; clear hl10
        refine D.buildSl (cells := #[.int .i64 ((numN (X.getD (((j + 2 + 2 * k) + 1)) tz) 2147483647))]) hA hM rfl Tryd.underlying22 info3 rfl rfl rfl rfl (by kernel_rfl) rfl ?_; clear hA hM a; intro b11 w10 hb12 hM; refine ⟨(fun hM => (((hM.drop 4).drop 3).drop 1)) hM.tail, fun a hA => ?_⟩
        replace hM : Mem _ _ [pt b11 #[.int .i64 ((numN (X.getD (((j + 2 + 2 * k) + 1)) tz) 2147483647))] 3, pt rb #[.slice (some ⟨g, ((j + 2 + 2 * k + 1) + 1) * 4, none⟩) (X.length - ((j + 2 + 2 * k + 1) + 1)) (cap - ((j + 2 + 2 * k + 1) + 1)), .int .i64 ((X.getD (((j + 2 + 2 * k) + 1)) tz).a)] 62, own 77 4 (.slice ((some ⟨g, 0, none⟩)) X.length cap) X.length (tokv X), pt ib #[.int .i64 kd, .int .i64 ((n : Int)), .int .i64 ((X.getD (j + 1) tz).n), .slice wa ((itI X (j + 2) k).length) wc, .slice va ((itI X (j + 3) k).length) vc, .slice none 0 0] 25, own 3 1 (.slice a8 ((((itI X (j + 2) k) ++ [(numN (X.getD ((j + 2 + 2 * k)) tz) 2147483647)])).length) c9) ((((itI X (j + 2) k) ++ [(numN (X.getD ((j + 2 + 2 * k)) tz) 2147483647)])).length) ((((itI X (j + 2) k) ++ [(numN (X.getD ((j + 2 + 2 * k)) tz) 2147483647)])).map (Value.int .i64)), own 3 1 (.slice va (((itI X (j + 3) k)).length) vc) (((itI X (j + 3) k)).length) (((itI X (j + 3) k)).map (Value.int .i64))] _ := hM
        refine D.append (k := 5) (k2 := 0) hA hM rfl rfl rfl Tryd.underlying22 info3 rfl rfl rfl rfl rfl rfl rfl rfl rfl (by rw [itI_len]; first | (unfold maxLen; omega) | (show (k + 1) * 8 ≤ 140737488355328; omega)) (by rw [itI_len]; first | (unfold maxLen; omega) | (show (k + 1) * 8 ≤ 140737488355328; omega)) rfl ?_; clear hA hM a; intro a13 c14 w11 hM
        replace hM : Mem _ _ [pt b11 #[.int .i64 ((numN (X.getD (((j + 2 + 2 * k) + 1)) tz) 2147483647))] 3, pt rb #[.slice (some ⟨g, ((j + 2 + 2 * k + 1) + 1) * 4, none⟩) (X.length - ((j + 2 + 2 * k + 1) + 1)) (cap - ((j + 2 + 2 * k + 1) + 1)), .int .i64 ((X.getD (((j + 2 + 2 * k) + 1)) tz).a)] 62, own 77 4 (.slice ((some ⟨g, 0, none⟩)) X.length cap) X.length (tokv X), pt ib #[.int .i64 kd, .int .i64 ((n : Int)), .int .i64 ((X.getD (j + 1) tz).n), .slice wa ((itI X (j + 2) k).length) wc, .slice va ((itI X (j + 3) k).length) vc, .slice none 0 0] 25, own 3 1 (.slice a8 ((((itI X (j + 2) k) ++ [(numN (X.getD ((j + 2 + 2 * k)) tz) 2147483647)])).length) c9) ((((itI X (j + 2) k) ++ [(numN (X.getD ((j + 2 + 2 * k)) tz) 2147483647)])).length) ((((itI X (j + 2) k) ++ [(numN (X.getD ((j + 2 + 2 * k)) tz) 2147483647)])).map (Value.int .i64)), own 3 1 (.slice a13 ((((itI X (j + 3) k)).length) + 1) c14) ((((itI X (j + 3) k)).length) + 1) (((itI X (j + 3) k)).map (Value.int .i64) ++ [.int .i64 ((numN (X.getD (((j + 2 + 2 * k) + 1)) tz) 2147483647))])] _ := hM
        have hl15 : (((itI X (j + 3) k)).length) + 1 = ((itI X (j + 3) k) ++ [(numN (X.getD (((j + 2 + 2 * k) + 1)) tz) 2147483647)]).length := by simp
        rw [hl15, show ((itI X (j + 3) k)).map (Value.int .i64) ++ [.int .i64 ((numN (X.getD (((j + 2 + 2 * k) + 1)) tz) 2147483647))] = ((itI X (j + 3) k) ++ [(numN (X.getD (((j + 2 + 2 * k) + 1)) tz) 2147483647)]).map (Value.int .i64) by simp] at hM
        replace hM := hM.drop 0
        replace hM : Mem _ _ [pt rb #[.slice (some ⟨g, ((j + 2 + 2 * k + 1) + 1) * 4, none⟩) (X.length - ((j + 2 + 2 * k + 1) + 1)) (cap - ((j + 2 + 2 * k + 1) + 1)), .int .i64 ((X.getD (((j + 2 + 2 * k) + 1)) tz).a)] 62, own 77 4 (.slice ((some ⟨g, 0, none⟩)) X.length cap) X.length (tokv X), pt ib #[.int .i64 kd, .int .i64 ((n : Int)), .int .i64 ((X.getD (j + 1) tz).n), .slice wa ((itI X (j + 2) k).length) wc, .slice va ((itI X (j + 3) k).length) vc, .slice none 0 0] 25, own 3 1 (.slice a8 ((((itI X (j + 2) k) ++ [(numN (X.getD ((j + 2 + 2 * k)) tz) 2147483647)])).length) c9) ((((itI X (j + 2) k) ++ [(numN (X.getD ((j + 2 + 2 * k)) tz) 2147483647)])).length) ((((itI X (j + 2) k) ++ [(numN (X.getD ((j + 2 + 2 * k)) tz) 2147483647)])).map (Value.int .i64)), own 3 1 (.slice a13 ((((itI X (j + 3) k) ++ [(numN (X.getD (((j + 2 + 2 * k) + 1)) tz) 2147483647)])).length) c14) ((((itI X (j + 3) k) ++ [(numN (X.getD (((j + 2 + 2 * k) + 1)) tz) 2147483647)])).length) ((((itI X (j + 3) k) ++ [(numN (X.getD (((j + 2 + 2 * k) + 1)) tz) 2147483647)])).map (Value.int .i64))] _ := hM
        refine ⟨(((hM.drop 4).drop 3).drop 1), fun a hA => ?_⟩; rw [hl15] at hA; clear hl15
        refine D.valF hA rfl (fun _ => R.nilCheck rfl) rfl ?_; clear hA a; intro a hA
        refine D.valF hA rfl (fun _ => R.fieldAddr (q := 3) fi25_3 rfl rfl rfl) rfl ?_; clear hA a; intro a hA
        refine D.store (k := 2) hA hM rfl sz22 rfl rfl rfl rfl rfl ?_; clear hM
        intro w12 hM; refine ⟨fun _ hne => absurd rfl hne, ?_⟩
        replace hM : Mem _ _ [pt rb #[.slice (some ⟨g, ((j + 2 + 2 * k + 1) + 1) * 4, none⟩) (X.length - ((j + 2 + 2 * k + 1) + 1)) (cap - ((j + 2 + 2 * k + 1) + 1)), .int .i64 ((X.getD (((j + 2 + 2 * k) + 1)) tz).a)] 62, own 77 4 (.slice ((some ⟨g, 0, none⟩)) X.length cap) X.length (tokv X), pt ib #[.int .i64 kd, .int .i64 ((n : Int)), .int .i64 ((X.getD (j + 1) tz).n), .slice a8 ((((itI X (j + 2) k) ++ [(numN (X.getD ((j + 2 + 2 * k)) tz) 2147483647)])).length) c9, .slice va ((itI X (j + 3) k).length) vc, .slice none 0 0] 25, own 3 1 (.slice a8 ((((itI X (j + 2) k) ++ [(numN (X.getD ((j + 2 + 2 * k)) tz) 2147483647)])).length) c9) ((((itI X (j + 2) k) ++ [(numN (X.getD ((j + 2 + 2 * k)) tz) 2147483647)])).length) ((((itI X (j + 2) k) ++ [(numN (X.getD ((j + 2 + 2 * k)) tz) 2147483647)])).map (Value.int .i64)), own 3 1 (.slice a13 ((((itI X (j + 3) k) ++ [(numN (X.getD (((j + 2 + 2 * k) + 1)) tz) 2147483647)])).length) c14) ((((itI X (j + 3) k) ++ [(numN (X.getD (((j + 2 + 2 * k) + 1)) tz) 2147483647)])).length) ((((itI X (j + 3) k) ++ [(numN (X.getD (((j + 2 + 2 * k) + 1)) tz) 2147483647)])).map (Value.int .i64))] _ := hM
        refine D.valF hA rfl (fun _ => R.nilCheck rfl) rfl ?_; clear hA a; intro a hA
        refine D.valF hA rfl (fun _ => R.fieldAddr (q := 4) fi25_4 rfl rfl rfl) rfl ?_; clear hA a; intro a hA
        refine D.store (k := 2) hA hM rfl sz22 rfl rfl rfl rfl rfl ?_; clear hM
        intro w13 hM; refine ⟨fun hb0 => absurd hb0 (by decide), ?_⟩
        replace hM : Mem _ _ [pt rb #[.slice (some ⟨g, ((j + 2 + 2 * k + 1) + 1) * 4, none⟩) (X.length - ((j + 2 + 2 * k + 1) + 1)) (cap - ((j + 2 + 2 * k + 1) + 1)), .int .i64 ((X.getD (((j + 2 + 2 * k) + 1)) tz).a)] 62, own 77 4 (.slice ((some ⟨g, 0, none⟩)) X.length cap) X.length (tokv X), pt ib #[.int .i64 kd, .int .i64 ((n : Int)), .int .i64 ((X.getD (j + 1) tz).n), .slice a8 ((((itI X (j + 2) k) ++ [(numN (X.getD ((j + 2 + 2 * k)) tz) 2147483647)])).length) c9, .slice a13 ((((itI X (j + 3) k) ++ [(numN (X.getD (((j + 2 + 2 * k) + 1)) tz) 2147483647)])).length) c14, .slice none 0 0] 25, own 3 1 (.slice a8 ((((itI X (j + 2) k) ++ [(numN (X.getD ((j + 2 + 2 * k)) tz) 2147483647)])).length) c9) ((((itI X (j + 2) k) ++ [(numN (X.getD ((j + 2 + 2 * k)) tz) 2147483647)])).length) ((((itI X (j + 2) k) ++ [(numN (X.getD ((j + 2 + 2 * k)) tz) 2147483647)])).map (Value.int .i64)), own 3 1 (.slice a13 ((((itI X (j + 3) k) ++ [(numN (X.getD (((j + 2 + 2 * k) + 1)) tz) 2147483647)])).length) c14) ((((itI X (j + 3) k) ++ [(numN (X.getD (((j + 2 + 2 * k) + 1)) tz) 2147483647)])).length) ((((itI X (j + 3) k) ++ [(numN (X.getD (((j + 2 + 2 * k) + 1)) tz) 2147483647)])).map (Value.int .i64))] _ := hM
        refine D.done ?_
        replace hA : St 74 [(0, _), (1, _), (34, _), (35, _)] a := hA.sub ((.cons rfl (.cons rfl (.cons rfl (.cons rfl .nil)))))
        refine Ends.inBlock (Ends.region ?_)
        refine S.val hA (R.addI rfl rfl (r := ((k : Int)) + 1) rfl (by omega)) rfl ?_; clear hA a; intro a hA
        refine S.val hA (R.move rfl) rfl ?_; clear hA a; intro a hA
        refine S.done ?_
        rw [show ((itI X (j + 2) k) ++ [(numN (X.getD ((j + 2 + 2 * k)) tz) 2147483647)]) = itI X (j + 2) (k + 1) by rw [(numN_eq hrw).1]; exact itI_snoc X (j + 2) k, show ((itI X (j + 3) k) ++ [(numN (X.getD (((j + 2 + 2 * k) + 1)) tz) 2147483647)]) = itI X (j + 3) (k + 1) by rw [(numN_eq hrv).1, show j + 2 + 2 * k + 1 = j + 3 + 2 * k by omega]; exact itI_snoc X (j + 3) k, show j + 2 + 2 * k + 1 + 1 = j + 2 + 2 * (k + 1) by omega] at hM
        exact hNext ((k + 1, a8, c9, a13, c14, (X.getD (((j + 2 + 2 * k) + 1)) tz).a)) _ _ ((by show n - (k + 1) < n - k; omega)) ⟨hA.sub ((.cons rfl (.cons rfl (.cons rfl (.cons rfl .nil))))), hM, (by omega), (by omega), (fun r hr => hallv r (by omega))⟩
       ·
        refine D.buildSl (cells := #[.int .i64 ((numN (X.getD (((j + 2 + 2 * k) + 1)) tz) 2147483647))]) hA hM rfl Tryd.underlying22 info3 rfl rfl rfl rfl (by kernel_rfl) rfl ?_; clear hA hM a; intro b16 w14 hb17 hM; refine ⟨(fun hM => ((((hM.drop 5).drop 4).drop 2).drop 0)) hM.tail, fun a hA => ?_⟩
        replace hM : Mem _ _ [pt b16 #[.int .i64 ((numN (X.getD (((j + 2 + 2 * k) + 1)) tz) 2147483647))] 3, pt b6 #[.int .i64 ((numN (X.getD ((j + 2 + 2 * k)) tz) 2147483647))] 3, pt rb #[.slice (some ⟨g, ((j + 2 + 2 * k + 1) + 1) * 4, none⟩) (X.length - ((j + 2 + 2 * k + 1) + 1)) (cap - ((j + 2 + 2 * k + 1) + 1)), .int .i64 ((X.getD (((j + 2 + 2 * k) + 1)) tz).a)] 62, own 77 4 (.slice ((some ⟨g, 0, none⟩)) X.length cap) X.length (tokv X), pt ib #[.int .i64 kd, .int .i64 ((n : Int)), .int .i64 ((X.getD (j + 1) tz).n), .slice wa ((itI X (j + 2) k).length) wc, .slice va ((itI X (j + 3) k).length) vc, .slice none 0 0] 25, own 3 1 (.slice wa (((itI X (j + 2) k)).length) wc) (((itI X (j + 2) k)).length) (((itI X (j + 2) k)).map (Value.int .i64)), own 3 1 (.slice va (((itI X (j + 3) k)).length) vc) (((itI X (j + 3) k)).length) (((itI X (j + 3) k)).map (Value.int .i64))] _ := hM
        refine D.append (k := 5) (k2 := 1) hA hM rfl rfl rfl Tryd.underlying22 info3 rfl rfl rfl rfl rfl rfl rfl rfl rfl (by rw [itI_len]; first | (unfold maxLen; omega) | (show (k + 1) * 8 ≤ 140737488355328; omega)) (by rw [itI_len]; first | (unfold maxLen; omega) | (show (k + 1) * 8 ≤ 140737488355328; omega)) rfl ?_; clear hA hM a; intro a18 c19 w15 hM
        replace hM : Mem _ _ [pt b16 #[.int .i64 ((numN (X.getD (((j + 2 + 2 * k) + 1)) tz) 2147483647))] 3, pt b6 #[.int .i64 ((numN (X.getD ((j + 2 + 2 * k)) tz) 2147483647))] 3, pt rb #[.slice (some ⟨g, ((j + 2 + 2 * k + 1) + 1) * 4, none⟩) (X.length - ((j + 2 + 2 * k + 1) + 1)) (cap - ((j + 2 + 2 * k + 1) + 1)), .int .i64 ((X.getD (((j + 2 + 2 * k) + 1)) tz).a)] 62, own 77 4 (.slice ((some ⟨g, 0, none⟩)) X.length cap) X.length (tokv X), pt ib #[.int .i64 kd, .int .i64 ((n : Int)), .int .i64 ((X.getD (j + 1) tz).n), .slice wa ((itI X (j + 2) k).length) wc, .slice va ((itI X (j + 3) k).length) vc, .slice none 0 0] 25, own 3 1 (.slice a18 ((((itI X (j + 2) k)).length) + 1) c19) ((((itI X (j + 2) k)).length) + 1) (((itI X (j + 2) k)).map (Value.int .i64) ++ [.int .i64 ((numN (X.getD ((j + 2 + 2 * k)) tz) 2147483647))]), own 3 1 (.slice va (((itI X (j + 3) k)).length) vc) (((itI X (j + 3) k)).length) (((itI X (j + 3) k)).map (Value.int .i64))] _ := hM
        have hl20 : (((itI X (j + 2) k)).length) + 1 = ((itI X (j + 2) k) ++ [(numN (X.getD ((j + 2 + 2 * k)) tz) 2147483647)]).length := by simp
        rw [hl20, show ((itI X (j + 2) k)).map (Value.int .i64) ++ [.int .i64 ((numN (X.getD ((j + 2 + 2 * k)) tz) 2147483647))] = ((itI X (j + 2) k) ++ [(numN (X.getD ((j + 2 + 2 * k)) tz) 2147483647)]).map (Value.int .i64) by simp] at hM
        replace hM := hM.drop 1
        replace hM : Mem _ _ [pt b16 #[.int .i64 ((numN (X.getD (((j + 2 + 2 * k) + 1)) tz) 2147483647))] 3, pt rb #[.slice (some ⟨g, ((j + 2 + 2 * k + 1) + 1) * 4, none⟩) (X.length - ((j + 2 + 2 * k + 1) + 1)) (cap - ((j + 2 + 2 * k + 1) + 1)), .int .i64 ((X.getD (((j + 2 + 2 * k) + 1)) tz).a)] 62, own 77 4 (.slice ((some ⟨g, 0, none⟩)) X.length cap) X.length (tokv X), pt ib #[.int .i64 kd, .int .i64 ((n : Int)), .int .i64 ((X.getD (j + 1) tz).n), .slice wa ((itI X (j + 2) k).length) wc, .slice va ((itI X (j + 3) k).length) vc, .slice none 0 0] 25, own 3 1 (.slice a18 ((((itI X (j + 2) k) ++ [(numN (X.getD ((j + 2 + 2 * k)) tz) 2147483647)])).length) c19) ((((itI X (j + 2) k) ++ [(numN (X.getD ((j + 2 + 2 * k)) tz) 2147483647)])).length) ((((itI X (j + 2) k) ++ [(numN (X.getD ((j + 2 + 2 * k)) tz) 2147483647)])).map (Value.int .i64)), own 3 1 (.slice va (((itI X (j + 3) k)).length) vc) (((itI X (j + 3) k)).length) (((itI X (j + 3) k)).map (Value.int .i64))] _ := hM
        refine ⟨((((hM.drop 5).drop 4).drop 2).drop 0), fun a hA => ?_⟩; rw [hl20] at hA; clear hl20
        refine D.append (k := 5) (k2 := 0) hA hM rfl rfl rfl Tryd.underlying22 info3 rfl rfl rfl rfl rfl rfl rfl rfl rfl (by rw [itI_len]; first | (unfold maxLen; omega) | (show (k + 1) * 8 ≤ 140737488355328; omega)) (by rw [itI_len]; first | (unfold maxLen; omega) | (show (k + 1) * 8 ≤ 140737488355328; omega)) rfl ?_; clear hA hM a; intro a21 c22 w16 hM
        replace hM : Mem _ _ [pt b16 #[.int .i64 ((numN (X.getD (((j + 2 + 2 * k) + 1)) tz) 2147483647))] 3, pt rb #[.slice (some ⟨g, ((j + 2 + 2 * k + 1) + 1) * 4, none⟩) (X.length - ((j + 2 + 2 * k + 1) + 1)) (cap - ((j + 2 + 2 * k + 1) + 1)), .int .i64 ((X.getD (((j + 2 + 2 * k) + 1)) tz).a)] 62, own 77 4 (.slice ((some ⟨g, 0, none⟩)) X.length cap) X.length (tokv X), pt ib #[.int .i64 kd, .int .i64 ((n : Int)), .int .i64 ((X.getD (j + 1) tz).n), .slice wa ((itI X (j + 2) k).length) wc, .slice va ((itI X (j + 3) k).length) vc, .slice none 0 0] 25, own 3 1 (.slice a18 ((((itI X (j + 2) k) ++ [(numN (X.getD ((j + 2 + 2 * k)) tz) 2147483647)])).length) c19) ((((itI X (j + 2) k) ++ [(numN (X.getD ((j + 2 + 2 * k)) tz) 2147483647)])).length) ((((itI X (j + 2) k) ++ [(numN (X.getD ((j + 2 + 2 * k)) tz) 2147483647)])).map (Value.int .i64)), own 3 1 (.slice a21 ((((itI X (j + 3) k)).length) + 1) c22) ((((itI X (j + 3) k)).length) + 1) (((itI X (j + 3) k)).map (Value.int .i64) ++ [.int .i64 ((numN (X.getD (((j + 2 + 2 * k) + 1)) tz) 2147483647))])] _ := hM
        have hl23 : (((itI X (j + 3) k)).length) + 1 = ((itI X (j + 3) k) ++ [(numN (X.getD (((j + 2 + 2 * k) + 1)) tz) 2147483647)]).length := by simp
        rw [hl23, show ((itI X (j + 3) k)).map (Value.int .i64) ++ [.int .i64 ((numN (X.getD (((j + 2 + 2 * k) + 1)) tz) 2147483647))] = ((itI X (j + 3) k) ++ [(numN (X.getD (((j + 2 + 2 * k) + 1)) tz) 2147483647)]).map (Value.int .i64) by simp] at hM
        replace hM := hM.drop 0
        replace hM : Mem _ _ [pt rb #[.slice (some ⟨g, ((j + 2 + 2 * k + 1) + 1) * 4, none⟩) (X.length - ((j + 2 + 2 * k + 1) + 1)) (cap - ((j + 2 + 2 * k + 1) + 1)), .int .i64 ((X.getD (((j + 2 + 2 * k) + 1)) tz).a)] 62, own 77 4 (.slice ((some ⟨g, 0, none⟩)) X.length cap) X.length (tokv X), pt ib #[.int .i64 kd, .int .i64 ((n : Int)), .int .i64 ((X.getD (j + 1) tz).n), .slice wa ((itI X (j + 2) k).length) wc, .slice va ((itI X (j + 3) k).length) vc, .slice none 0 0] 25, own 3 1 (.slice a18 ((((itI X (j + 2) k) ++ [(numN (X.getD ((j + 2 + 2 * k)) tz) 2147483647)])).length) c19) ((((itI X (j + 2) k) ++ [(numN (X.getD ((j + 2 + 2 * k)) tz) 2147483647)])).length) ((((itI X (j + 2) k) ++ [(numN (X.getD ((j + 2 + 2 * k)) tz) 2147483647)])).map (Value.int .i64)), own 3 1 (.slice a21 ((((itI X (j + 3) k) ++ [(numN (X.getD (((j + 2 + 2 * k) + 1)) tz) 2147483647)])).length) c22) ((((itI X (j + 3) k) ++ [(numN (X.getD (((j + 2 + 2 * k) + 1)) tz) 2147483647)])).length) ((((itI X (j + 3) k) ++ [(numN (X.getD (((j + 2 + 2 * k) + 1)) tz) 2147483647)])).map (Value.int .i64))] _ := hM
        refine ⟨(((hM.drop 4).drop 3).drop 1), fun a hA => ?_⟩; rw [hl23] at hA; clear hl23
        refine D.valF hA rfl (fun _ => R.nilCheck rfl) rfl ?_; clear hA a; intro a hA
        refine D.valF hA rfl (fun _ => R.fieldAddr (q := 3) fi25_3 rfl rfl rfl) rfl ?_; clear hA a; intro a hA
        refine D.store (k := 2) hA hM rfl sz22 rfl rfl rfl rfl rfl ?_; clear hM
        intro w17 hM; refine ⟨fun _ hne => absurd rfl hne, ?_⟩
        replace hM : Mem _ _ [pt rb #[.slice (some ⟨g, ((j + 2 + 2 * k + 1) + 1) * 4, none⟩) (X.length - ((j + 2 + 2 * k + 1) + 1)) (cap - ((j + 2 + 2 * k + 1) + 1)), .int .i64 ((X.getD (((j + 2 + 2 * k) + 1)) tz).a)] 62, own 77 4 (.slice ((some ⟨g, 0, none⟩)) X.length cap) X.length (tokv X), pt ib #[.int .i64 kd, .int .i64 ((n : Int)), .int .i64 ((X.getD (j + 1) tz).n), .slice a18 ((((itI X (j + 2) k) ++ [(numN (X.getD ((j + 2 + 2 * k)) tz) 2147483647)])).length) c19, .slice va ((itI X (j + 3) k).length) vc, .slice none 0 0] 25, own 3 1 (.slice a18 ((((itI X (j + 2) k) ++ [(numN (X.getD ((j + 2 + 2 * k)) tz) 2147483647)])).length) c19) ((((itI X (j + 2) k) ++ [(numN (X.getD ((j + 2 + 2 * k)) tz) 2147483647)])).length) ((((itI X (j + 2) k) ++ [(numN (X.getD ((j + 2 + 2 * k)) tz) 2147483647)])).map (Value.int .i64)), own 3 1 (.slice a21 ((((itI X (j + 3) k) ++ [(numN (X.getD (((j + 2 + 2 * k) + 1)) tz) 2147483647)])).length) c22) ((((itI X (j + 3) k) ++ [(numN (X.getD (((j + 2 + 2 * k) + 1)) tz) 2147483647)])).length) ((((itI X (j + 3) k) ++ [(numN (X.getD (((j + 2 + 2 * k) + 1)) tz) 2147483647)])).map (Value.int .i64))] _ := hM
        refine D.valF hA rfl (fun _ => R.nilCheck rfl) rfl ?_; clear hA a; intro a hA
        refine D.valF hA rfl (fun _ => R.fieldAddr (q := 4) fi25_4 rfl rfl rfl) rfl ?_; clear hA a; intro a hA
        refine D.store (k := 2) hA hM rfl sz22 rfl rfl rfl rfl rfl ?_; clear hM
        intro w18 hM; refine ⟨fun hb0 => absurd hb0 (by decide), ?_⟩
        replace hM : Mem _ _ [pt rb #[.slice (some ⟨g, ((j + 2 + 2 * k + 1) + 1) * 4, none⟩) (X.length - ((j + 2 + 2 * k + 1) + 1)) (cap - ((j + 2 + 2 * k + 1) + 1)), .int .i64 ((X.getD (((j + 2 + 2 * k) + 1)) tz).a)] 62, own 77 4 (.slice ((some ⟨g, 0, none⟩)) X.length cap) X.length (tokv X), pt ib #[.int .i64 kd, .int .i64 ((n : Int)), .int .i64 ((X.getD (j + 1) tz).n), .slice a18 ((((itI X (j + 2) k) ++ [(numN (X.getD ((j + 2 + 2 * k)) tz) 2147483647)])).length) c19, .slice a21 ((((itI X (j + 3) k) ++ [(numN (X.getD (((j + 2 + 2 * k) + 1)) tz) 2147483647)])).length) c22, .slice none 0 0] 25, own 3 1 (.slice a18 ((((itI X (j + 2) k) ++ [(numN (X.getD ((j + 2 + 2 * k)) tz) 2147483647)])).length) c19) ((((itI X (j + 2) k) ++ [(numN (X.getD ((j + 2 + 2 * k)) tz) 2147483647)])).length) ((((itI X (j + 2) k) ++ [(numN (X.getD ((j + 2 + 2 * k)) tz) 2147483647)])).map (Value.int .i64)), own 3 1 (.slice a21 ((((itI X (j + 3) k) ++ [(numN (X.getD (((j + 2 + 2 * k) + 1)) tz) 2147483647)])).length) c22) ((((itI X (j + 3) k) ++ [(numN (X.getD (((j + 2 + 2 * k) + 1)) tz) 2147483647)])).length) ((((itI X (j + 3) k) ++ [(numN (X.getD (((j + 2 + 2 * k) + 1)) tz) 2147483647)])).map (Value.int .i64))] _ := hM
        refine D.done ?_
        replace hA : St 74 [(0, _), (1, _), (34, _), (35, _)] a := hA.sub ((.cons rfl (.cons rfl (.cons rfl (.cons rfl .nil)))))
        refine Ends.inBlock (Ends.region ?_)
        refine S.val hA (R.addI rfl rfl (r := ((k : Int)) + 1) rfl (by omega)) rfl ?_; clear hA a; intro a hA
        refine S.val hA (R.move rfl) rfl ?_; clear hA a; intro a hA
        refine S.done ?_
        rw [show ((itI X (j + 2) k) ++ [(numN (X.getD ((j + 2 + 2 * k)) tz) 2147483647)]) = itI X (j + 2) (k + 1) by rw [(numN_eq hrw).1]; exact itI_snoc X (j + 2) k, show ((itI X (j + 3) k) ++ [(numN (X.getD (((j + 2 + 2 * k) + 1)) tz) 2147483647)]) = itI X (j + 3) (k + 1) by rw [(numN_eq hrv).1, show j + 2 + 2 * k + 1 = j + 3 + 2 * k by omega]; exact itI_snoc X (j + 3) k, show j + 2 + 2 * k + 1 + 1 = j + 2 + 2 * (k + 1) by omega] at hM
        exact hNext ((k + 1, a18, c19, a21, c22, (X.getD (((j + 2 + 2 * k) + 1)) tz).a)) _ _ ((by show n - (k + 1) < n - k; omega)) ⟨hA.sub ((.cons rfl (.cons rfl (.cons rfl (.cons rfl .nil))))), hM, (by omega), (by omega), (fun r hr => hallv r (by omega))⟩
      ·
       refine D.buildSl (cells := #[.int .i64 ((numN (X.getD (((j + 2 + 2 * k) + 1)) tz) 2147483647))]) hA hM rfl Tryd.underlying22 info3 rfl rfl rfl rfl (by kernel_rfl) rfl ?_; clear hA hM a; intro b24 w19 hb25 hM; refine ⟨(fun hM => (((hM.drop 4).drop 3).drop 1)) hM.tail, fun a hA => ?_⟩
       replace hM : Mem _ _ [pt b24 #[.int .i64 ((numN (X.getD (((j + 2 + 2 * k) + 1)) tz) 2147483647))] 3, pt rb #[.slice (some ⟨g, ((j + 2 + 2 * k + 1) + 1) * 4, none⟩) (X.length - ((j + 2 + 2 * k + 1) + 1)) (cap - ((j + 2 + 2 * k + 1) + 1)), .int .i64 ((X.getD (((j + 2 + 2 * k) + 1)) tz).a)] 62, own 77 4 (.slice ((some ⟨g, 0, none⟩)) X.length cap) X.length (tokv X), pt ib #[.int .i64 kd, .int .i64 ((n : Int)), .int .i64 ((X.getD (j + 1) tz).n), .slice wa ((itI X (j + 2) k).length) wc, .slice va ((itI X (j + 3) k).length) vc, .slice none 0 0] 25, own 3 1 (.slice wa (((itI X (j + 2) k)).length) wc) (((itI X (j + 2) k)).length) (((itI X (j + 2) k)).map (Value.int .i64)), own 3 1 (.slice va (((itI X (j + 3) k)).length) vc) (((itI X (j + 3) k)).length) (((itI X (j + 3) k)).map (Value.int .i64))] _ := hM
       refine D.buildSl (cells := #[.int .i64 ((numN (X.getD ((j + 2 + 2 * k)) tz) 2147483647))]) hA hM rfl Tryd.underlying22 info3 rfl rfl rfl rfl (by kernel_rfl) rfl ?_; clear hA hM a; intro b26 w20 hb27 hM; refine ⟨(fun hM => ((((hM.drop 5).drop 4).drop 2).drop 0)) hM.tail, fun a hA => ?_⟩
       replace hM : Mem _ _ [pt b26 #[.int .i64 ((numN (X.getD ((j + 2 + 2 * k)) tz) 2147483647))] 3, pt b24 #[.int .i64 ((numN (X.getD (((j + 2 + 2 * k) + 1)) tz) 2147483647))] 3, pt rb #[.slice (some ⟨g, ((j + 2 + 2 * k + 1) + 1) * 4, none⟩) (X.length - ((j + 2 + 2 * k + 1) + 1)) (cap - ((j + 2 + 2 * k + 1) + 1)), .int .i64 ((X.getD (((j + 2 + 2 * k) + 1)) tz).a)] 62, own 77 4 (.slice ((some ⟨g, 0, none⟩)) X.length cap) X.length (tokv X), pt ib #[.int .i64 kd, .int .i64 ((n : Int)), .int .i64 ((X.getD (j + 1) tz).n), .slice wa ((itI X (j + 2) k).length) wc, .slice va ((itI X (j + 3) k).length) vc, .slice none 0 0] 25, own 3 1 (.slice wa (((itI X (j + 2) k)).length) wc) (((itI X (j + 2) k)).length) (((itI X (j + 2) k)).map (Value.int .i64)), own 3 1 (.slice va (((itI X (j + 3) k)).length) vc) (((itI X (j + 3) k)).length) (((itI X (j + 3) k)).map (Value.int .i64))] _ := hM
       refine D.append (k := 5) (k2 := 0) hA hM rfl rfl rfl Tryd.underlying22 info3 rfl rfl rfl rfl rfl rfl rfl rfl rfl (by rw [itI_len]; first | (unfold maxLen; omega) | (show (k + 1) * 8 ≤ 140737488355328; omega)) (by rw [itI_len]; first | (unfold maxLen; omega) | (show (k + 1) * 8 ≤ 140737488355328; omega)) rfl ?_; clear hA hM a; intro a28 c29 w21 hM
       replace hM : Mem _ _ [pt b26 #[.int .i64 ((numN (X.getD ((j + 2 + 2 * k)) tz) 2147483647))] 3, pt b24 #[.int .i64 ((numN (X.getD (((j + 2 + 2 * k) + 1)) tz) 2147483647))] 3, pt rb #[.slice (some ⟨g, ((j + 2 + 2 * k + 1) + 1) * 4, none⟩) (X.length - ((j + 2 + 2 * k + 1) + 1)) (cap - ((j + 2 + 2 * k + 1) + 1)), .int .i64 ((X.getD (((j + 2 + 2 * k) + 1)) tz).a)] 62, own 77 4 (.slice ((some ⟨g, 0, none⟩)) X.length cap) X.length (tokv X), pt ib #[.int .i64 kd, .int .i64 ((n : Int)), .int .i64 ((X.getD (j + 1) tz).n), .slice wa ((itI X (j + 2) k).length) wc, .slice va ((itI X (j + 3) k).length) vc, .slice none 0 0] 25, own 3 1 (.slice a28 ((((itI X (j + 2) k)).length) + 1) c29) ((((itI X (j + 2) k)).length) + 1) (((itI X (j + 2) k)).map (Value.int .i64) ++ [.int .i64 ((numN (X.getD ((j + 2 + 2 * k)) tz) 2147483647))]), own 3 1 (.slice va (((itI X (j + 3) k)).length) vc) (((itI X (j + 3) k)).length) (((itI X (j + 3) k)).map (Value.int .i64))] _ := hM
       have hl30 : (((itI X (j + 2) k)).length) + 1 = ((itI X (j + 2) k) ++ [(numN (X.getD ((j + 2 + 2 * k)) tz) 2147483647)]).length := by simp
       rw [hl30, show ((itI X (j + 2) k)).map (Value.int .i64) ++ [.int .i64 ((numN (X.getD ((j + 2 + 2 * k)) tz) 2147483647))] = ((itI X (j + 2) k) ++ [(numN (X.getD ((j + 2 + 2 * k)) tz) 2147483647)]).map (Value.int .i64) by simp] at hM
       replace hM := hM.drop 0
       replace hM : Mem _ _ [pt b24 #[.int .i64 ((numN (X.getD (((j + 2 + 2 * k) + 1)) tz) 2147483647))] 3, pt rb #[.slice (some ⟨g, ((j + 2 + 2 * k + 1) + 1) * 4, none⟩) (X.length - ((j + 2 + 2 * k + 1) + 1)) (cap - ((j + 2 + 2 * k + 1) + 1)), .int .i64 ((X.getD (((j + 2 + 2 * k) + 1)) tz).a)] 62, own 77 4 (.slice ((some ⟨g, 0, none⟩)) X.length cap) X.length (tokv X), pt ib #[.int .i64 kd, .int .i64 ((n : Int)), .int .i64 ((X.getD (j + 1) tz).n), .slice wa ((itI X (j + 2) k).length) wc, .slice va ((itI X (j + 3) k).length) vc, .slice none 0 0] 25, own 3 1 (.slice a28 ((((itI X (j + 2) k) ++ [(numN (X.getD ((j + 2 + 2 * k)) tz) 2147483647)])).length) c29) ((((itI X (j + 2) k) ++ [(numN (X.getD ((j + 2 + 2 * k)) tz) 2147483647)])).length) ((((itI X (j + 2) k) ++ [(numN (X.getD ((j + 2 + 2 * k)) tz) 2147483647)])).map (Value.int .i64)), own 3 1 (.slice va (((itI X (j + 3) k)).length) vc) (((itI X (j + 3) k)).length) (((itI X (j + 3) k)).map (Value.int .i64))] _ := hM
       refine ⟨((((hM.drop 5).drop 4).drop 2).drop 0), fun a hA => ?_⟩; rw [hl30] at hA; clear hl30
       refine D.append (k := 5) (k2 := 0) hA hM rfl rfl rfl Tryd.underlying22 info3 rfl rfl rfl rfl rfl rfl rfl rfl rfl (by rw [itI_len]; first | (unfold maxLen; omega) | (show (k + 1) * 8 ≤ 140737488355328; omega)) (by rw [itI_len]; first | (unfold maxLen; omega) | (show (k + 1) * 8 ≤ 140737488355328; omega)) rfl ?_; clear hA hM a; intro a31 c32 w22 hM
       replace hM : Mem _ _ [pt b24 #[.int .i64 ((numN (X.getD (((j + 2 + 2 * k) + 1)) tz) 2147483647))] 3, pt rb #[.slice (some ⟨g, ((j + 2 + 2 * k + 1) + 1) * 4, none⟩) (X.length - ((j + 2 + 2 * k + 1) + 1)) (cap - ((j + 2 + 2 * k + 1) + 1)), .int .i64 ((X.getD (((j + 2 + 2 * k) + 1)) tz).a)] 62, own 77 4 (.slice ((some ⟨g, 0, none⟩)) X.length cap) X.length (tokv X), pt ib #[.int .i64 kd, .int .i64 ((n : Int)), .int .i64 ((X.getD (j + 1) tz).n), .slice wa ((itI X (j + 2) k).length) wc, .slice va ((itI X (j + 3) k).length) vc, .slice none 0 0] 25, own 3 1 (.slice a28 ((((itI X (j + 2) k) ++ [(numN (X.getD ((j + 2 + 2 * k)) tz) 2147483647)])).length) c29) ((((itI X (j + 2) k) ++ [(numN (X.getD ((j + 2 + 2 * k)) tz) 2147483647)])).length) ((((itI X (j + 2) k) ++ [(numN (X.getD ((j + 2 + 2 * k)) tz) 2147483647)])).map (Value.int .i64)), own 3 1 (.slice a31 ((((itI X (j + 3) k)).length) + 1) c32) ((((itI X (j + 3) k)).length) + 1) (((itI X (j + 3) k)).map (Value.int .i64) ++ [.int .i64 ((numN (X.getD (((j + 2 + 2 * k) + 1)) tz) 2147483647))])] _ := hM
       have hl33 : (((itI X (j + 3) k)).length) + 1 = ((itI X (j + 3) k) ++ [(numN (X.getD (((j + 2 + 2 * k) + 1)) tz) 2147483647)]).length := by simp
       rw [hl33, show ((itI X (j + 3) k)).map (Value.int .i64) ++ [.int .i64 ((numN (X.getD (((j + 2 + 2 * k) + 1)) tz) 2147483647))] = ((itI X (j + 3) k) ++ [(numN (X.getD (((j + 2 + 2 * k) + 1)) tz) 2147483647)]).map (Value.int .i64) by simp] at hM
       replace hM := hM.drop 0
       replace hM : Mem _ _ [pt rb #[.slice (some ⟨g, ((j + 2 + 2 * k + 1) + 1) * 4, none⟩) (X.length - ((j + 2 + 2 * k + 1) + 1)) (cap - ((j + 2 + 2 * k + 1) + 1)), .int .i64 ((X.getD (((j + 2 + 2 * k) + 1)) tz).a)] 62, own 77 4 (.slice ((some ⟨g, 0, none⟩)) X.length cap) X.length (tokv X), pt ib #[.int .i64 kd, .int .i64 ((n : Int)), .int .i64 ((X.getD (j + 1) tz).n), .slice wa ((itI X (j + 2) k).length) wc, .slice va ((itI X (j + 3) k).length) vc, .slice none 0 0] 25, own 3 1 (.slice a28 ((((itI X (j + 2) k) ++ [(numN (X.getD ((j + 2 + 2 * k)) tz) 2147483647)])).length) c29) ((((itI X (j + 2) k) ++ [(numN (X.getD ((j + 2 + 2 * k)) tz) 2147483647)])).length) ((((itI X (j + 2) k) ++ [(numN (X.getD ((j + 2 + 2 * k)) tz) 2147483647)])).map (Value.int .i64)), own 3 1 (.slice a31 ((((itI X (j + 3) k) ++ [(numN (X.getD (((j + 2 + 2 * k) + 1)) tz) 2147483647)])).length) c32) ((((itI X (j + 3) k) ++ [(numN (X.getD (((j + 2 + 2 * k) + 1)) tz) 2147483647)])).length) ((((itI X (j + 3) k) ++ [(numN (X.getD (((j + 2 + 2 * k) + 1)) tz) 2147483647)])).map (Value.int .i64))] _ := hM
       refine ⟨(((hM.drop 4).drop 3).drop 1), fun a hA => ?_⟩; rw [hl33] at hA; clear hl33
       refine D.valF hA rfl (fun _ => R.nilCheck rfl) rfl ?_; clear hA a; intro a hA
       refine D.valF hA rfl (fun _ => R.fieldAddr (q := 3) fi25_3 rfl rfl rfl) rfl ?_; clear hA a; intro a hA
       refine D.store (k := 2) hA hM rfl sz22 rfl rfl rfl rfl rfl ?_; clear hM
       intro w23 hM; refine ⟨fun _ hne => absurd rfl hne, ?_⟩
       replace hM : Mem _ _ [pt rb #[.slice (some ⟨g, ((j + 2 + 2 * k + 1) + 1) * 4, none⟩) (X.length - ((j + 2 + 2 * k + 1) + 1)) (cap - ((j + 2 + 2 * k + 1) + 1)), .int .i64 ((X.getD (((j + 2 + 2 * k) + 1)) tz).a)] 62, own 77 4 (.slice ((some ⟨g, 0, none⟩)) X.length cap) X.length (tokv X), pt ib #[.int .i64 kd, .int .i64 ((n : Int)), .int .i64 ((X.getD (j + 1) tz).n), .slice a28 ((((itI X (j + 2) k) ++ [(numN (X.getD ((j + 2 + 2 * k)) tz) 2147483647)])).length) c29, .slice va ((itI X (j + 3) k).length) vc, .slice none 0 0] 25, own 3 1 (.slice a28 ((((itI X (j + 2) k) ++ [(numN (X.getD ((j + 2 + 2 * k)) tz) 2147483647)])).length) c29) ((((itI X (j + 2) k) ++ [(numN (X.getD ((j + 2 + 2 * k)) tz) 2147483647)])).length) ((((itI X (j + 2) k) ++ [(numN (X.getD ((j + 2 + 2 * k)) tz) 2147483647)])).map (Value.int .i64)), own 3 1 (.slice a31 ((((itI X (j + 3) k) ++ [(numN (X.getD (((j + 2 + 2 * k) + 1)) tz) 2147483647)])).length) c32) ((((itI X (j + 3) k) ++ [(numN (X.getD (((j + 2 + 2 * k) + 1)) tz) 2147483647)])).length) ((((itI X (j + 3) k) ++ [(numN (X.getD (((j + 2 + 2 * k) + 1)) tz) 2147483647)])).map (Value.int .i64))] _ := hM
       refine D.valF hA rfl (fun _ => R.nilCheck rfl) rfl ?_; clear hA a; intro a hA
       refine D.valF hA rfl (fun _ => R.fieldAddr (q := 4) fi25_4 rfl rfl rfl) rfl ?_; clear hA a; intro a hA
       refine D.store (k := 2) hA hM rfl sz22 rfl rfl rfl rfl rfl ?_; clear hM
       intro w24 hM; refine ⟨fun hb0 => absurd hb0 (by decide), ?_⟩
       replace hM : Mem _ _ [pt rb #[.slice (some ⟨g, ((j + 2 + 2 * k + 1) + 1) * 4, none⟩) (X.length - ((j + 2 + 2 * k + 1) + 1)) (cap - ((j + 2 + 2 * k + 1) + 1)), .int .i64 ((X.getD (((j + 2 + 2 * k) + 1)) tz).a)] 62, own 77 4 (.slice ((some ⟨g, 0, none⟩)) X.length cap) X.length (tokv X), pt ib #[.int .i64 kd, .int .i64 ((n : Int)), .int .i64 ((X.getD (j + 1) tz).n), .slice a28 ((((itI X (j + 2) k) ++ [(numN (X.getD ((j + 2 + 2 * k)) tz) 2147483647)])).length) c29, .slice a31 ((((itI X (j + 3) k) ++ [(numN (X.getD (((j + 2 + 2 * k) + 1)) tz) 2147483647)])).length) c32, .slice none 0 0] 25, own 3 1 (.slice a28 ((((itI X (j + 2) k) ++ [(numN (X.getD ((j + 2 + 2 * k)) tz) 2147483647)])).length) c29) ((((itI X (j + 2) k) ++ [(numN (X.getD ((j + 2 + 2 * k)) tz) 2147483647)])).length) ((((itI X (j + 2) k) ++ [(numN (X.getD ((j + 2 + 2 * k)) tz) 2147483647)])).map (Value.int .i64)), own 3 1 (.slice a31 ((((itI X (j + 3) k) ++ [(numN (X.getD (((j + 2 + 2 * k) + 1)) tz) 2147483647)])).length) c32) ((((itI X (j + 3) k) ++ [(numN (X.getD (((j + 2 + 2 * k) + 1)) tz) 2147483647)])).length) ((((itI X (j + 3) k) ++ [(numN (X.getD (((j + 2 + 2 * k) + 1)) tz) 2147483647)])).map (Value.int .i64))] _ := hM
       refine D.done ?_
       replace hA : St 74 [(0, _), (1, _), (34, _), (35, _)] a := hA.sub ((.cons rfl (.cons rfl (.cons rfl (.cons rfl .nil)))))
       refine Ends.inBlock (Ends.region ?_)
       refine S.val hA (R.addI rfl rfl (r := ((k : Int)) + 1) rfl (by omega)) rfl ?_; clear hA a; intro a hA
       refine S.val hA (R.move rfl) rfl ?_; clear hA a; intro a hA
       refine S.done ?_
       rw [show ((itI X (j + 2) k) ++ [(numN (X.getD ((j + 2 + 2 * k)) tz) 2147483647)]) = itI X (j + 2) (k + 1) by rw [(numN_eq hrw).1]; exact itI_snoc X (j + 2) k, show ((itI X (j + 3) k) ++ [(numN (X.getD (((j + 2 + 2 * k) + 1)) tz) 2147483647)]) = itI X (j + 3) (k + 1) by rw [(numN_eq hrv).1, show j + 2 + 2 * k + 1 = j + 3 + 2 * k by omega]; exact itI_snoc X (j + 3) k, show j + 2 + 2 * k + 1 + 1 = j + 2 + 2 * (k + 1) by omega] at hM
       exact hNext ((k + 1, a28, c29, a31, c32, (X.getD (((j + 2 + 2 * k) + 1)) tz).a)) _ _ ((by show n - (k + 1) < n - k; omega)) ⟨hA.sub ((.cons rfl (.cons rfl (.cons rfl (.cons rfl .nil))))), hM, (by omega), (by omega), (fun r hr => hallv r (by omega))⟩
   ·
    refine Ends.exit rfl ?_
    replace hA : St 74 [] a := hA.sub (.nil)
    refine Ends.seq (Ends.region ?_)
    refine S.val hA (R.assign rfl) rfl ?_; clear hA a; intro a hA
    refine S.done ?_
    refine Ends.ret1 Tryd.func62 Tryd.results62 hA rfl ?_
    have hkn : k = n := by omega
    subst hkn
    have e1 := (itR_num hc0 hcn).trans (nuR_ok hall)
    have e2 : j + 1 + (1 + 2 * k) = j + 2 + 2 * k := by omega
    rw [e2] at e1
    exact ⟨by rw [e1], .inr ⟨by rw [e1], _, _, _, _, _, k, hcn, hn1, hn64, by rw [e1]; exact hM⟩⟩
set_option maxRecDepth 100000 in
set_option maxHeartbeats 400000 in
theorem blank06 (n : Nat) (hn : n ≤ 1000) (w : World) :
  Calls Tryd.prog 83 #[.int .i64 ((n : Int))] w fun e w' => ∃ (gb : Nat) (rs : List OwR), e = .returned (.slice (some ⟨gb, 0, none⟩) n n) ∧ rs.map (·.Y) = mat n (fun _ _ => 0) ∧ Mem w nof [own 22 1 (.slice ((some ⟨gb, 0, none⟩)) n n) n ((rs.map orV)), bundle (rs.map (orC 3))] w' := by
 have hbs := Below.refl (B := w.heap.size) w
 have hM := Mem.start w
 refine Calls.of_ends (vs := [.int .i64 ((n : Int))]) Tryd.func83 rfl Tryd.ntmps83 rfl ?_
 intro a hA
 replace hA : St 19 [(0, _)] a := hA
 refine Ends.seq (Ends.region ?_)
 refine S.val hA (R.assign rfl) rfl ?_; clear hA a; intro a hA
 refine S.done ?_
 refine Ends.seq (Ends.region ?_)
 refine S.val hA (R.move rfl) rfl ?_; clear hA a; intro a hA
 refine S.make hA hM Tryd.underlying23 info22 rfl rfl rfl (by omega) (by show (24 : Int) * _ ≤ _; omega) (by omega) rfl ?_; clear hA hM a; intro b1 w1 hb2 hM a hA
 replace hM : Mem _ _ [pt b1 (madeCells #[.slice none 0 0] (n * 1)) 22] _ := hM
 rw [Nat.mul_one, made_vals] at hM
 replace hM : Mem _ _ [pt b1 ((vals (nils n))) 22] _ := hM
 refine S.val hA (R.assign rfl) rfl ?_; clear hA a; intro a hA
 refine S.done ?_
 refine Ends.seq (Ends.seq (Ends.region ?_))
 refine S.val hA (R.move rfl) rfl ?_; clear hA a; intro a hA
 refine S.val hA (R.lenS Tryd.underlying23 rfl rfl) rfl ?_; clear hA a; intro a hA
 refine S.val hA (R.move rfl) rfl ?_; clear hA a; intro a hA
 refine S.done ?_
 replace hA : St 19 [(0, _), (3, _), (8, _), (9, _)] a := hA.sub ((.cons rfl (.cons rfl (.cons rfl (.cons rfl .nil)))))
 refine Ends.block ?_
 replace hM := hM.bundleNil (e := 3)
 rw [show nils n = (([] : List OwR).map orV) ++ nils (n - 0) from rfl] at hM
 replace hM : Mem _ _ [bundle (([] : List OwR).map (orC 3)), pt b1 ((vals (([] : List OwR).map orV ++ nils (n - 0)))) 22] _ := hM
 refine Ends.loop (σ := Nat × List OwR) (fun (k, rs) (a : Act) (wv : World) => St 19 [(0, .int .i64 ((n : Int))), (3, .slice (some ⟨b1, 0, none⟩) n n), (8, .int .i64 ((n : Int))), (9, .int .i64 ((k : Int)))] a ∧ Mem w nof [bundle (rs.map (orC 3)), pt b1 ((vals (rs.map orV ++ nils (n - k)))) 22] wv ∧ (k ≤ n) ∧ (rs.length = k) ∧ (rs.map (·.Y) = List.replicate k (List.replicate n 0))) (fun (k, rs) => n - k) ((0, [])) ⟨hA.sub ((.cons rfl (.cons rfl (.cons rfl (.cons rfl .nil))))), hM, (Nat.zero_le _), rfl, rfl⟩ ?_
 clear hA hM a
 rintro ⟨k, rs⟩ a w2 ⟨hA, hM, hk, hlr, hYr⟩ hNext
 refine Ends.seq (Ends.region ?_)
 refine S.val hA (R.lss rfl rfl) rfl ?_; clear hA a; intro a hA
 refine S.done ?_
 refine Ends.seq ?_
 refine Ends.ite hA rfl (fun hc3 => ?_) (fun hc3 => ?_)
 ·
  have hlt : k < n := by omega
  have hlv : (rs.map orV ++ nils (n - k)).length = n := by simp [nils, hlr]; omega
  refine Ends.skip (Ends.seq (Ends.block (Ends.seq (Ends.region ?_))))
  refine S.val hA (R.move rfl) rfl ?_; clear hA a; intro a hA
  refine S.val hA (R.assign rfl) rfl ?_; clear hA a; intro a hA
  refine S.done ?_
  refine Ends.region ?_
  refine S.val hA (R.move rfl) rfl ?_; clear hA a; intro a hA
  refine S.val hA (R.move rfl) rfl ?_; clear hA a; intro a hA
  refine S.val hA (R.move rfl) rfl ?_; clear hA a; intro a hA
  refine S.make hA hM Tryd.underlying22 info3 rfl rfl rfl (by omega) (by show (8 : Int) * _ ≤ _; omega) (by omega) rfl ?_; clear hA hM a; intro b4 w3 hb5 hM a hA
  replace hM : Mem _ _ [pt b4 (madeCells #[.int .i64 0] (n * 1)) 3, bundle (rs.map (orC 3)), pt b1 ((vals (rs.map orV ++ nils (n - k)))) 22] _ := hM
  rw [Nat.mul_one, made_ints] at hM
  replace hM : Mem _ _ [pt b4 ((ints (List.replicate n 0))) 3, bundle (rs.map (orC 3)), pt b1 ((vals (rs.map orV ++ nils (n - k)))) 22] _ := hM
  refine S.val hA (R.indexAddr (q := k) sl23 rfl rfl (by omega) (by omega)) rfl ?_; clear hA a; intro a hA
  refine S.store (k := 2) hA hM sz22 rfl rfl rfl rfl (vals_get _ _ ((by rw [hlv]; exact hlt))) ?_; clear hM
  intro w4 hM
  rw [vals_set] at hM
  replace hM : Mem _ _ [pt b4 ((ints (List.replicate n 0))) 3, bundle (rs.map (orC 3)), pt b1 ((vals (((rs.map orV ++ nils (n - k))).set k (.slice (some ⟨b4, 0, none⟩) n n)))) 22] _ := hM
  refine S.done ?_
  replace hA : St 19 [(0, _), (3, _), (8, _), (9, _)] a := hA.sub ((.cons rfl (.cons rfl (.cons rfl (.cons rfl .nil)))))
  refine Ends.inBlock (Ends.region ?_)
  refine S.val hA (R.addI rfl rfl (r := ((k : Int)) + 1) rfl (by omega)) rfl ?_; clear hA a; intro a hA
  refine S.val hA (R.move rfl) rfl ?_; clear hA a; intro a hA
  refine S.done ?_
  replace hM := hM.ptOwn (n := n) ((by simp)) (by omega)
  replace hM : Mem _ _ [own 3 1 (.slice ((some ⟨b4, 0, none⟩)) (((List.replicate n (0 : Int))).length) n) (((List.replicate n (0 : Int))).length) (((List.replicate n (0 : Int))).map (Value.int .i64)), bundle (rs.map (orC 3)), pt b1 ((vals (((rs.map orV ++ nils (n - k))).set k (.slice (some ⟨b4, 0, none⟩) n n)))) 22] _ := hM
  have hln : (List.replicate n (0 : Int)).length = n := List.length_replicate
  replace hM := Mem.bundleSnoc (e := 3) (o := (⟨List.replicate n (0 : Int), (some ⟨b4, 0, none⟩), n⟩ : OwR)) (rs := rs) hM
  rw [show (((rs.map orV ++ nils (n - k))).set k (.slice (some ⟨b4, 0, none⟩) n n)) = (rs ++ [(⟨List.replicate n (0 : Int), (some ⟨b4, 0, none⟩), n⟩ : OwR)]).map orV ++ nils (n - (k + 1)) by rw [← nils_set hlr hlt]; show _ = List.set _ _ (Value.slice _ (List.replicate n (0 : Int)).length _); rw [hln]] at hM
  exact hNext ((k + 1, rs ++ [(⟨List.replicate n (0 : Int), (some ⟨b4, 0, none⟩), n⟩ : OwR)])) _ _ ((by show n - (k + 1) < n - k; omega)) ⟨hA.sub ((.cons rfl (.cons rfl (.cons rfl (.cons rfl .nil))))), hM, (by omega), (by rw [List.length_append, hlr]; rfl), (by rw [List.map_append, hYr]; simp [List.replicate_succ'])⟩
 ·
  have hkn : k = n := by omega
  refine Ends.exit rfl ?_
  replace hA : St 19 [(3, _)] a := hA.sub ((.cons rfl .nil))
  refine Ends.seq (Ends.region ?_)
  refine S.val hA (R.move rfl) rfl ?_; clear hA a; intro a hA
  refine S.val hA (R.assign rfl) rfl ?_; clear hA a; intro a hA
  refine S.done ?_
  refine Ends.ret1 Tryd.func83 Tryd.results83 hA rfl ?_
  replace hM := hM.front (k := 1) rfl
  replace hM : Mem _ _ [pt b1 ((vals (rs.map orV ++ nils (n - k)))) 22, bundle (rs.map (orC 3))] _ := hM
  rw [hkn, show rs.map orV ++ nils (n - n) = rs.map orV by rw [Nat.sub_self]; exact List.append_nil _] at hM
  replace hM := hM.ptVals (n := n) (by rw [List.length_map]; omega) (by omega)
  exact ⟨b1, rs, rfl, by rw [hYr, hkn, rep_mat], hM⟩
set_option maxRecDepth 100000 in
set_option maxHeartbeats 400000 in
theorem rows06 (g rb ib j cap : Nat) (at0 : Int) (X : List Tok) (hX : Toks X) (hj : j < X.length) (hcap : X.length ≤ cap) (kd : Int) (n : Nat) (hn1 : 1 ≤ n) (hn24 : n ≤ 24) (w : World) (hM : Mem w (feet [pt rb #[.slice (some ⟨g, j * 4, none⟩) (X.length - j) (cap - j), .int .i64 at0] 62, own 77 4 (.slice ((some ⟨g, 0, none⟩)) X.length cap) X.length (tokv X), pt ib #[.int .i64 kd, .int .i64 ((n : Int)), .int .i64 0, .slice none 0 0, .slice none 0 0, .slice none 0 0] 25]) [pt rb #[.slice (some ⟨g, j * 4, none⟩) (X.length - j) (cap - j), .int .i64 at0] 62, own 77 4 (.slice ((some ⟨g, 0, none⟩)) X.length cap) X.length (tokv X), pt ib #[.int .i64 kd, .int .i64 ((n : Int)), .int .i64 0, .slice none 0 0, .slice none 0 0, .slice none 0 0] 25] w) :
  Calls Tryd.prog 65 #[.pointer (some ⟨rb, 0, none⟩), .pointer (some ⟨ib, 0, none⟩)] w fun e w' => e = .returned (.int .i64 (nuR (dgk kd n) X j (n * n)).1) ∧ (((nuR (dgk kd n) X j (n * n)).1 ≠ 0 ∧ ∃ jx, Mem w (feet [pt rb #[.slice (some ⟨g, j * 4, none⟩) (X.length - j) (cap - j), .int .i64 at0] 62, own 77 4 (.slice ((some ⟨g, 0, none⟩)) X.length cap) X.length (tokv X), pt ib #[.int .i64 kd, .int .i64 ((n : Int)), .int .i64 0, .slice none 0 0, .slice none 0 0, .slice none 0 0] 25]) [pt rb #[.slice (some ⟨g, jx * 4, none⟩) (X.length - jx) (cap - jx), .int .i64 (((X.getD (nuR (dgk kd n) X j (n * n)).2 tz).a))] 62, own 77 4 (.slice ((some ⟨g, 0, none⟩)) X.length cap) X.length (tokv X)] w') ∨ ((nuR (dgk kd n) X j (n * n)).1 = 0 ∧ ∃ (at1 : Int) (gb : Nat) (rs : List OwR), rs.map (·.Y) = mat n (rwI X j n) ∧ Mem w (feet [pt rb #[.slice (some ⟨g, j * 4, none⟩) (X.length - j) (cap - j), .int .i64 at0] 62, own 77 4 (.slice ((some ⟨g, 0, none⟩)) X.length cap) X.length (tokv X), pt ib #[.int .i64 kd, .int .i64 ((n : Int)), .int .i64 0, .slice none 0 0, .slice none 0 0, .slice none 0 0] 25]) [pt rb #[.slice (some ⟨g, (nuR (dgk kd n) X j (n * n)).2 * 4, none⟩) (X.length - (nuR (dgk kd n) X j (n * n)).2) (cap - (nuR (dgk kd n) X j (n * n)).2), .int .i64 at1] 62, own 77 4 (.slice ((some ⟨g, 0, none⟩)) X.length cap) X.length (tokv X), pt ib #[.int .i64 kd, .int .i64 ((n : Int)), .int .i64 0, .slice none 0 0, .slice none 0 0, .slice ((some ⟨gb, 0, none⟩)) n n] 25, own 22 1 (.slice ((some ⟨gb, 0, none⟩)) n n) n ((rs.map orV)), bundle (rs.map (orC 3))] w')) := by
 have hbs := Below.refl (B := w.heap.size) w
 have hlX := hX.len
 refine Calls.of_ends (vs := [.pointer (some ⟨rb, 0, none⟩), .pointer (some ⟨ib, 0, none⟩)]) Tryd.func65 rfl Tryd.ntmps65 rfl ?_
 intro a hA
 replace hA : St 65 [(0, _), (1, _)] a := hA
 refine Ends.seq (Ends.region ?_)
 refine S.val hA (R.assign rfl) rfl ?_; clear hA a; intro a hA
 refine S.done ?_
 refine Ends.seq (Ends.region ?_)
 refine S.val hA (R.move rfl) rfl ?_; clear hA a; intro a hA
 refine S.val hA (R.move rfl) rfl ?_; clear hA a; intro a hA
 refine S.val hA (R.nilCheck rfl) rfl ?_; clear hA a; intro a hA
 refine S.val hA (R.fieldAddr (q := 1) fi25_1 rfl rfl rfl) rfl ?_; clear hA a; intro a hA
 refine S.val hA (R.load sz3 rfl (hM.cell (k := 2) rfl rfl)) rfl ?_; clear hA a; intro a hA
 refine S.call hA (R.callF Tryd.func83 rfl rfl rfl) rfl (blank06 n (by omega) _) ?_; clear hA a
 rintro e w1 ⟨gb1, rs2, rfl, hYz, hn⟩
 replace hM : Mem _ _ [own 22 1 (.slice ((some ⟨gb1, 0, none⟩)) n n) n ((rs2.map orV)), bundle (rs2.map (orC 3)), pt rb #[.slice (some ⟨g, j * 4, none⟩) (X.length - j) (cap - j), .int .i64 at0] 62, own 77 4 (.slice ((some ⟨g, 0, none⟩)) X.length cap) X.length (tokv X), pt ib #[.int .i64 kd, .int .i64 ((n : Int)), .int .i64 0, .slice none 0 0, .slice none 0 0, .slice none 0 0] 25] _ := hM.call hn; clear hn
 refine ⟨.slice (some ⟨gb1, 0, none⟩) n n, rfl, fun a hA => ?_⟩
 refine S.val hA (R.nilCheck rfl) rfl ?_; clear hA a; intro a hA
 refine S.val hA (R.fieldAddr (q := 5) fi25_5 rfl rfl rfl) rfl ?_; clear hA a; intro a hA
 refine S.store (k := 4) hA hM sz23 rfl rfl rfl rfl rfl ?_; clear hM
 intro w2 hM
 replace hM : Mem _ _ [own 22 1 (.slice ((some ⟨gb1, 0, none⟩)) n n) n ((rs2.map orV)), bundle (rs2.map (orC 3)), pt rb #[.slice (some ⟨g, j * 4, none⟩) (X.length - j) (cap - j), .int .i64 at0] 62, own 77 4 (.slice ((some ⟨g, 0, none⟩)) X.length cap) X.length (tokv X), pt ib #[.int .i64 kd, .int .i64 ((n : Int)), .int .i64 0, .slice none 0 0, .slice none 0 0, .slice (some ⟨gb1, 0, none⟩) n n] 25] _ := hM
 refine S.done ?_
 replace hA : St 65 [(0, _), (1, _)] a := hA.sub ((.cons rfl (.cons rfl .nil)))
 refine Ends.seq (Ends.seq ?_)
 rw [rwQ_zero X j] at hYz
 refine Ends.region ?_
 refine S.val hA (R.move rfl) rfl ?_; clear hA a; intro a hA
 refine S.val hA (R.nilCheck rfl) rfl ?_; clear hA a; intro a hA
 refine S.val hA (R.fieldAddr (q := 5) fi25_5 rfl rfl rfl) rfl ?_; clear hA a; intro a hA
 refine S.val hA (R.load sz23 rfl (hM.cell (k := 4) rfl rfl)) rfl ?_; clear hA a; intro a hA
 refine S.val hA (R.lenS Tryd.underlying23 rfl rfl) rfl ?_; clear hA a; intro a hA
 refine S.val hA (R.move rfl) rfl ?_; clear hA a; intro a hA
 refine S.done ?_
 refine Ends.block ?_
 replace hM := hM.front (k := 1) rfl
 replace hM := hM.front (k := 1) rfl
 replace hM := hM.front (k := 4) rfl
 replace hM := hM.front (k := 4) rfl
 replace hM := hM.front (k := 4) rfl
 replace hM : Mem _ _ [pt rb #[.slice (some ⟨g, j * 4, none⟩) (X.length - j) (cap - j), .int .i64 at0] 62, own 77 4 (.slice ((some ⟨g, 0, none⟩)) X.length cap) X.length (tokv X), pt ib #[.int .i64 kd, .int .i64 ((n : Int)), .int .i64 0, .slice none 0 0, .slice none 0 0, .slice (some ⟨gb1, 0, none⟩) n n] 25, own 22 1 (.slice ((some ⟨gb1, 0, none⟩)) n n) n ((rs2.map orV)), bundle (rs2.map (orC 3))] _ := hM
 replace hM := Mem.eqL (L2 := [pt rb #[.slice (some ⟨g, (j + 0 * n) * 4, none⟩) (X.length - (j + 0 * n)) (cap - (j + 0 * n)), .int .i64 at0] 62, own 77 4 (.slice ((some ⟨g, 0, none⟩)) X.length cap) X.length (tokv X), pt ib #[.int .i64 kd, .int .i64 ((n : Int)), .int .i64 0, .slice none 0 0, .slice none 0 0, .slice ((some ⟨gb1, 0, none⟩)) n n] 25, own 22 1 (.slice ((some ⟨gb1, 0, none⟩)) n n) n ((rs2.map orV)), bundle (rs2.map (orC 3))]) hM (by simp only [Nat.zero_mul, Nat.add_zero])
 refine Ends.loop (σ := Nat × List OwR × Int) (fun (z, rs, at1) (a : Act) (wv : World) => St 65 [(0, .pointer (some ⟨rb, 0, none⟩)), (1, .pointer (some ⟨ib, 0, none⟩)), (21, .slice ((some ⟨gb1, 0, none⟩)) n n), (22, .int .i64 ((n : Int))), (23, .int .i64 ((z : Int)))] a ∧ Mem w (feet [pt rb #[.slice (some ⟨g, j * 4, none⟩) (X.length - j) (cap - j), .int .i64 at0] 62, own 77 4 (.slice ((some ⟨g, 0, none⟩)) X.length cap) X.length (tokv X), pt ib #[.int .i64 kd, .int .i64 ((n : Int)), .int .i64 0, .slice none 0 0, .slice none 0 0, .slice none 0 0] 25]) [pt rb #[.slice (some ⟨g, (j + z * n) * 4, none⟩) (X.length - (j + z * n)) (cap - (j + z * n)), .int .i64 at1] 62, own 77 4 (.slice ((some ⟨g, 0, none⟩)) X.length cap) X.length (tokv X), pt ib #[.int .i64 kd, .int .i64 ((n : Int)), .int .i64 0, .slice none 0 0, .slice none 0 0, .slice ((some ⟨gb1, 0, none⟩)) n n] 25, own 22 1 (.slice ((some ⟨gb1, 0, none⟩)) n n) n ((rs.map orV)), bundle (rs.map (orC 3))] wv ∧ (z ≤ n) ∧ (rs.map (·.Y) = mat n (rwQ X j n z)) ∧ (j + z * n < X.length) ∧ (∀ r, r < z * n → nuE (dgk kd n r) (X.getD (j + r) tz) = 0)) (fun (z, rs, at1) => n - z) ((0, rs2, at0)) ⟨hA.sub ((.cons rfl (.cons rfl (.cons rfl (.cons rfl (.cons rfl .nil)))))), hM, (Nat.zero_le _), hYz, (by rw [Nat.zero_mul]; exact hj), (fun r hr => absurd hr (by rw [Nat.zero_mul]; exact Nat.not_lt_zero r))⟩ ?_
 clear hA hM a
 rintro ⟨z, rs, at1⟩ a w3 ⟨hA, hM, ha, hYs, hja, halla⟩ hNext
 refine Ends.seq (Ends.region ?_)
 refine S.val hA (R.lss rfl rfl) rfl ?_; clear hA a; intro a hA
 refine S.done ?_
 refine Ends.seq ?_
 refine Ends.ite hA rfl (fun hc3 => ?_) (fun hc3 => ?_)
 ·
  refine Ends.skip (Ends.seq (Ends.block (Ends.seq ?_)))
  obtain ⟨Yr, ar, cr, hxr, hYr, hYl⟩ := row_of hYs (show z < n by omega)
  replace hM := hM.front (k := 4) rfl
  replace hM : Mem _ _ [bundle (rs.map (orC 3)), pt rb #[.slice (some ⟨g, (j + z * n) * 4, none⟩) (X.length - (j + z * n)) (cap - (j + z * n)), .int .i64 at1] 62, own 77 4 (.slice ((some ⟨g, 0, none⟩)) X.length cap) X.length (tokv X), pt ib #[.int .i64 kd, .int .i64 ((n : Int)), .int .i64 0, .slice none 0 0, .slice none 0 0, .slice ((some ⟨gb1, 0, none⟩)) n n] 25, own 22 1 (.slice ((some ⟨gb1, 0, none⟩)) n n) n ((rs.map orV))] _ := hM
  replace hM := hM.openB hxr
  replace hM : Mem _ _ [own 3 1 (.slice ar Yr.length cr) Yr.length (Yr.map (Value.int .i64)), bundle ((rs.eraseIdx z).map (orC 3)), pt rb #[.slice (some ⟨g, (j + z * n) * 4, none⟩) (X.length - (j + z * n)) (cap - (j + z * n)), .int .i64 at1] 62, own 77 4 (.slice ((some ⟨g, 0, none⟩)) X.length cap) X.length (tokv X), pt ib #[.int .i64 kd, .int .i64 ((n : Int)), .int .i64 0, .slice none 0 0, .slice none 0 0, .slice ((some ⟨gb1, 0, none⟩)) n n] 25, own 22 1 (.slice ((some ⟨gb1, 0, none⟩)) n n) n ((rs.map orV))] _ := hM
  obtain ⟨gr, hgr⟩ := hM.ownAt (k := 0) rfl (by omega)
  subst hgr
  replace hM : Mem _ _ [own 3 1 (.slice ((some ⟨gr, 0, none⟩)) Yr.length cr) Yr.length (Yr.map (Value.int .i64)), bundle ((rs.eraseIdx z).map (orC 3)), pt rb #[.slice (some ⟨g, (j + z * n) * 4, none⟩) (X.length - (j + z * n)) (cap - (j + z * n)), .int .i64 at1] 62, own 77 4 (.slice ((some ⟨g, 0, none⟩)) X.length cap) X.length (tokv X), pt ib #[.int .i64 kd, .int .i64 ((n : Int)), .int .i64 0, .slice none 0 0, .slice none 0 0, .slice ((some ⟨gb1, 0, none⟩)) n n] 25, own 22 1 (.slice ((some ⟨gb1, 0, none⟩)) n n) n ((rs.map orV))] _ := hM
  have han : z < n := by omega
  refine Ends.region ?_
  refine S.val hA (R.move rfl) rfl ?_; clear hA a; intro a hA
  refine S.val hA (R.indexAddr (q := z) sl23 rfl rfl (by omega) (by omega)) rfl ?_; clear hA a; intro a hA
  refine S.val hA (R.load sz22 rfl (hM.ownCell (k := 5) rfl (orV_of hxr))) rfl ?_; clear hA a; intro a hA
  refine S.val hA (R.assign rfl) rfl ?_; clear hA a; intro a hA
  refine S.val hA (R.assign rfl) rfl ?_; clear hA a; intro a hA
  refine S.done ?_
  replace hA : St 65 [(0, _), (1, _), (5, _), (6, _), (21, _), (22, _), (23, _)] a := hA.sub ((.cons rfl (.cons rfl (.cons rfl (.cons rfl (.cons rfl (.cons rfl (.cons rfl .nil))))))))
  refine Ends.seq (Ends.region ?_)
  refine S.val hA (R.move rfl) rfl ?_; clear hA a; intro a hA
  refine S.val hA (R.lenS Tryd.underlying22 rfl rfl) rfl ?_; clear hA a; intro a hA
  refine S.val hA (R.move rfl) rfl ?_; clear hA a; intro a hA
  refine S.done ?_
  refine Ends.block ?_
  replace hM : Mem _ _ [own 3 1 (.slice ((some ⟨gr, 0, none⟩)) Yr.length cr) Yr.length (Yr.map (Value.int .i64)), bundle ((rs.eraseIdx z).map (orC 3)), pt rb #[.slice (some ⟨g, (j + (z * n + 0)) * 4, none⟩) (X.length - (j + (z * n + 0))) (cap - (j + (z * n + 0))), .int .i64 at1] 62, own 77 4 (.slice ((some ⟨g, 0, none⟩)) X.length cap) X.length (tokv X), pt ib #[.int .i64 kd, .int .i64 ((n : Int)), .int .i64 0, .slice none 0 0, .slice none 0 0, .slice ((some ⟨gb1, 0, none⟩)) n n] 25, own 22 1 (.slice ((some ⟨gb1, 0, none⟩)) n n) n ((rs.map orV))] _ := hM
  refine Ends.loop (σ := Nat × List Int × Int) (fun (b, Y, at2) (a : Act) (wv : World) => St 65 [(0, .pointer (some ⟨rb, 0, none⟩)), (1, .pointer (some ⟨ib, 0, none⟩)), (5, .int .i64 ((z : Int))), (6, .slice ((some ⟨gr, 0, none⟩)) Yr.length cr), (21, .slice ((some ⟨gb1, 0, none⟩)) n n), (22, .int .i64 ((n : Int))), (23, .int .i64 ((z : Int))), (29, .int .i64 ((Yr.length : Int))), (30, .int .i64 ((b : Int)))] a ∧ Mem w (feet [pt rb #[.slice (some ⟨g, j * 4, none⟩) (X.length - j) (cap - j), .int .i64 at0] 62, own 77 4 (.slice ((some ⟨g, 0, none⟩)) X.length cap) X.length (tokv X), pt ib #[.int .i64 kd, .int .i64 ((n : Int)), .int .i64 0, .slice none 0 0, .slice none 0 0, .slice none 0 0] 25]) [own 3 1 (.slice ((some ⟨gr, 0, none⟩)) Yr.length cr) Yr.length (Y.map (Value.int .i64)), bundle ((rs.eraseIdx z).map (orC 3)), pt rb #[.slice (some ⟨g, (j + (z * n + b)) * 4, none⟩) (X.length - (j + (z * n + b))) (cap - (j + (z * n + b))), .int .i64 at2] 62, own 77 4 (.slice ((some ⟨g, 0, none⟩)) X.length cap) X.length (tokv X), pt ib #[.int .i64 kd, .int .i64 ((n : Int)), .int .i64 0, .slice none 0 0, .slice none 0 0, .slice ((some ⟨gb1, 0, none⟩)) n n] 25, own 22 1 (.slice ((some ⟨gb1, 0, none⟩)) n n) n ((rs.map orV))] wv ∧ (b ≤ n) ∧ (Y = (List.range n).map fun c => if c < b then vl X j (z * n + c) else 0) ∧ (Y.length = Yr.length) ∧ (j + (z * n + b) < X.length) ∧ (∀ r, r < z * n + b → nuE (dgk kd n r) (X.getD (j + r) tz) = 0)) (fun (b, Y, at2) => n - b) ((0, Yr, at1)) ⟨hA.sub ((.cons rfl (.cons rfl (.cons rfl (.cons rfl (.cons rfl (.cons rfl (.cons rfl (.cons rfl (.cons rfl .nil)))))))))), hM, (Nat.zero_le _), (hYr.trans rwQ_row), rfl, hja, halla⟩ ?_
  clear hA hM a
  rintro ⟨b, Y, at2⟩ a w4 ⟨hA, hM, hb_, hYb, hYl2, hjb, hallb⟩ hNext1
  refine Ends.seq (Ends.region ?_)
  refine S.val hA (R.lss rfl rfl) rfl ?_; clear hA a; intro a hA
  refine S.done ?_
  refine Ends.seq ?_
  refine Ends.ite hA rfl (fun hc4 => ?_) (fun hc4 => ?_)
  ·
   have hbn : b < n := by omega
   have hidx := idx_lt han hbn
   have hdg : dgk kd n (z * n + b) = true ↔ kd = 3 ∧ z = b := by unfold dgk; rw [decide_eq_true_iff, dg_iff han hbn]
   refine Ends.skip (Ends.seq (Ends.block (Ends.seq (Ends.region ?_))))
   refine S.val hA (R.move rfl) rfl ?_; clear hA a; intro a hA
   refine S.val hA (R.assign rfl) rfl ?_; clear hA a; intro a hA
   refine S.done ?_
   refine Ends.seq (Ends.region ?_)
   refine S.val hA (R.move rfl) rfl ?_; clear hA a; intro a hA
   replace hM := hM.front (k := 3) rfl
   replace hM := hM.front (k := 3) rfl
   replace hM : Mem _ _ [pt rb #[.slice (some ⟨g, (j + (z * n + b)) * 4, none⟩) (X.length - (j + (z * n + b))) (cap - (j + (z * n + b))), .int .i64 at2] 62, own 77 4 (.slice ((some ⟨g, 0, none⟩)) X.length cap) X.length (tokv X), own 3 1 (.slice ((some ⟨gr, 0, none⟩)) Yr.length cr) Yr.length (Y.map (Value.int .i64)), bundle ((rs.eraseIdx z).map (orC 3)), pt ib #[.int .i64 kd, .int .i64 ((n : Int)), .int .i64 0, .slice none 0 0, .slice none 0 0, .slice ((some ⟨gb1, 0, none⟩)) n n] 25, own 22 1 (.slice ((some ⟨gb1, 0, none⟩)) n n) n ((rs.map orV))] _ := hM
   refine S.call hA (R.callF Tryd.func81 rfl rfl rfl) rfl (number06 g rb ((j + (z * n + b))) cap at2 X hX (by omega) hcap 2147483647 _ (hM.hereN 2)) ?_; clear hA a
   rintro e w5 ⟨rfl, hn⟩
   replace hM : Mem _ _ [pt rb #[.slice (some ⟨g, (nxJ ((j + (z * n + b))) (numR (X.getD ((j + (z * n + b))) tz) 2147483647)) * 4, none⟩) (X.length - (nxJ ((j + (z * n + b))) (numR (X.getD ((j + (z * n + b))) tz) 2147483647))) (cap - (nxJ ((j + (z * n + b))) (numR (X.getD ((j + (z * n + b))) tz) 2147483647))), .int .i64 ((X.getD ((j + (z * n + b))) tz).a)] 62, own 77 4 (.slice ((some ⟨g, 0, none⟩)) X.length cap) X.length (tokv X), own 3 1 (.slice ((some ⟨gr, 0, none⟩)) Yr.length cr) Yr.length (Y.map (Value.int .i64)), bundle ((rs.eraseIdx z).map (orC 3)), pt ib #[.int .i64 kd, .int .i64 ((n : Int)), .int .i64 0, .slice none 0 0, .slice none 0 0, .slice ((some ⟨gb1, 0, none⟩)) n n] 25, own 22 1 (.slice ((some ⟨gb1, 0, none⟩)) n n) n ((rs.map orV))] _ := hM.callL 2 hn; clear hn
   refine ⟨.tuple #[.int .i64 ((numN (X.getD ((j + (z * n + b))) tz) 2147483647)), .int .i64 ((numR (X.getD ((j + (z * n + b))) tz) 2147483647))], rfl, fun a hA => ?_⟩
   refine S.val hA (R.move rfl) rfl ?_; clear hA a; intro a hA
   refine S.val hA (R.extract (v := .int .i64 ((numN (X.getD ((j + (z * n + b))) tz) 2147483647))) rfl rfl) rfl ?_; clear hA a; intro a hA
   refine S.val hA (R.extract (v := .int .i64 ((numR (X.getD ((j + (z * n + b))) tz) 2147483647))) rfl rfl) rfl ?_; clear hA a; intro a hA
   refine S.val hA (R.assign rfl) rfl ?_; clear hA a; intro a hA
   refine S.val hA (R.assign rfl) rfl ?_; clear hA a; intro a hA
   refine S.done ?_
   replace hA : St 65 [(0, _), (1, _), (5, _), (6, _), (7, _), (8, _), (9, _), (21, _), (22, _), (23, _), (29, _), (30, _)] a := hA.sub ((.cons rfl (.cons rfl (.cons rfl (.cons rfl (.cons rfl (.cons rfl (.cons rfl (.cons rfl (.cons rfl (.cons rfl (.cons rfl (.cons rfl .nil)))))))))))))
   refine Ends.seq (Ends.seq ?_)
   refine Ends.cut (fun (a : Act) (wv : World) => St 65 [(0, .pointer (some ⟨rb, 0, none⟩)), (1, .pointer (some ⟨ib, 0, none⟩)), (5, .int .i64 ((z : Int))), (6, .slice ((some ⟨gr, 0, none⟩)) Yr.length cr), (7, .int .i64 ((b : Int))), (8, .int .i64 ((numN (X.getD ((j + (z * n + b))) tz) 2147483647))), (9, .int .i64 ((numR (X.getD ((j + (z * n + b))) tz) 2147483647))), (21, .slice ((some ⟨gb1, 0, none⟩)) n n), (22, .int .i64 ((n : Int))), (23, .int .i64 ((z : Int))), (29, .int .i64 ((Yr.length : Int))), (30, .int .i64 ((b : Int))), (55, .bool (decide ((((((numR (X.getD ((j + (z * n + b))) tz) 2147483647)) = 0 ∧ kd = 3) ∧ ((z : Int)) = ((b : Int))) ∧ ((numN (X.getD ((j + (z * n + b))) tz) 2147483647)) ≠ 0))))] a ∧ Mem w (feet [pt rb #[.slice (some ⟨g, j * 4, none⟩) (X.length - j) (cap - j), .int .i64 at0] 62, own 77 4 (.slice ((some ⟨g, 0, none⟩)) X.length cap) X.length (tokv X), pt ib #[.int .i64 kd, .int .i64 ((n : Int)), .int .i64 0, .slice none 0 0, .slice none 0 0, .slice none 0 0] 25]) [pt rb #[.slice (some ⟨g, (nxJ ((j + (z * n + b))) (numR (X.getD ((j + (z * n + b))) tz) 2147483647)) * 4, none⟩) (X.length - (nxJ ((j + (z * n + b))) (numR (X.getD ((j + (z * n + b))) tz) 2147483647))) (cap - (nxJ ((j + (z * n + b))) (numR (X.getD ((j + (z * n + b))) tz) 2147483647))), .int .i64 ((X.getD ((j + (z * n + b))) tz).a)] 62, own 77 4 (.slice ((some ⟨g, 0, none⟩)) X.length cap) X.length (tokv X), own 3 1 (.slice ((some ⟨gr, 0, none⟩)) Yr.length cr) Yr.length (Y.map (Value.int .i64)), bundle ((rs.eraseIdx z).map (orC 3)), pt ib #[.int .i64 kd, .int .i64 ((n : Int)), .int .i64 0, .slice none 0 0, .slice none 0 0, .slice ((some ⟨gb1, 0, none⟩)) n n] 25, own 22 1 (.slice ((some ⟨gb1, 0, none⟩)) n n) n ((rs.map orV))] wv) ?_ (fun k2 hJ => ?_)
   ·
    clear hA hM a; rintro a w6 ⟨hA, hM⟩
    refine Ends.ite hA rfl (fun hc5 => ?_) (fun hc5 => ?_)
    ·
     refine Ends.region ?_
     refine S.val hA (R.assign rfl) rfl ?_; clear hA a; intro a hA
     refine S.done ?_
     refine Ends.seq (Ends.seq (Ends.region ?_))
     refine S.val hA (R.move rfl) rfl ?_; clear hA a; intro a hA
     refine S.val hA (R.tt (R.neq rfl rfl) (by first | decide | simp | omega)) rfl ?_; clear hA a; intro a hA
     refine S.done ?_
     refine Ends.condT hA rfl ?_
     refine Ends.seq (Ends.region ?_)
     refine S.val hA (R.move rfl) rfl ?_; clear hA a; intro a hA
     refine S.val hA (R.assign rfl) rfl ?_; clear hA a; intro a hA
     refine S.done ?_
     replace hA : St 65 [(0, _), (1, _), (4, _), (5, _), (6, _), (7, _), (8, _), (21, _), (22, _), (23, _), (29, _), (30, _)] a := hA.sub ((.cons rfl (.cons rfl (.cons rfl (.cons rfl (.cons rfl (.cons rfl (.cons rfl (.cons rfl (.cons rfl (.cons rfl (.cons rfl (.cons rfl .nil)))))))))))))
     refine Ends.ret1 Tryd.func65 Tryd.results65 hA rfl ?_
     replace hM := hM.firstN 2
     replace hM : Mem _ _ [pt rb #[.slice (some ⟨g, (nxJ ((j + (z * n + b))) (numR (X.getD ((j + (z * n + b))) tz) 2147483647)) * 4, none⟩) (X.length - (nxJ ((j + (z * n + b))) (numR (X.getD ((j + (z * n + b))) tz) 2147483647))) (cap - (nxJ ((j + (z * n + b))) (numR (X.getD ((j + (z * n + b))) tz) 2147483647))), .int .i64 ((X.getD ((j + (z * n + b))) tz).a)] 62, own 77 4 (.slice ((some ⟨g, 0, none⟩)) X.length cap) X.length (tokv X)] _ := hM
     have e1 := nuR_badF hallb rfl hc5.1.1.1 (hdg.2 ⟨hc5.1.1.2, by have := hc5.1.2; omega⟩) hc5.2 hidx
     exact ⟨by rw [e1], .inl ⟨by rw [e1]; exact (show (8 : Int) ≠ 0 by decide), _, by rw [e1]; exact hM⟩⟩
    ·
     refine Ends.skip (Ends.seq (Ends.seq (Ends.region ?_)))
     refine S.val hA (R.move rfl) rfl ?_; clear hA a; intro a hA
     refine S.val hA (R.neq rfl rfl) rfl ?_; clear hA a; intro a hA
     refine S.done ?_
     refine Ends.ite hA rfl (fun hc6 => ?_) (fun hc6 => ?_)
     ·
      refine Ends.seq (Ends.region ?_)
      refine S.val hA (R.move rfl) rfl ?_; clear hA a; intro a hA
      refine S.val hA (R.assign rfl) rfl ?_; clear hA a; intro a hA
      refine S.done ?_
      replace hA : St 65 [(0, _), (1, _), (4, _), (5, _), (6, _), (7, _), (8, _), (21, _), (22, _), (23, _), (29, _), (30, _)] a := hA.sub ((.cons rfl (.cons rfl (.cons rfl (.cons rfl (.cons rfl (.cons rfl (.cons rfl (.cons rfl (.cons rfl (.cons rfl (.cons rfl (.cons rfl .nil)))))))))))))
      refine Ends.ret1 Tryd.func65 Tryd.results65 hA rfl ?_
      replace hM := hM.firstN 2
      replace hM : Mem _ _ [pt rb #[.slice (some ⟨g, (nxJ ((j + (z * n + b))) (numR (X.getD ((j + (z * n + b))) tz) 2147483647)) * 4, none⟩) (X.length - (nxJ ((j + (z * n + b))) (numR (X.getD ((j + (z * n + b))) tz) 2147483647))) (cap - (nxJ ((j + (z * n + b))) (numR (X.getD ((j + (z * n + b))) tz) 2147483647))), .int .i64 ((X.getD ((j + (z * n + b))) tz).a)] 62, own 77 4 (.slice ((some ⟨g, 0, none⟩)) X.length cap) X.length (tokv X)] _ := hM
      have e1 := nuR_badP (f := dgk kd n) hallb rfl hc6 hidx
      exact ⟨by rw [e1], .inl ⟨by rw [e1]; exact hc6, _, by rw [e1]; exact hM⟩⟩
     ·
      have hrn := Decidable.not_not.1 hc6
      have hjn := hX.ok hjb hrn
      rw [nxJ_ok hrn] at hM
      replace hM : Mem _ _ [pt rb #[.slice (some ⟨g, ((j + (z * n + b)) + 1) * 4, none⟩) (X.length - ((j + (z * n + b)) + 1)) (cap - ((j + (z * n + b)) + 1)), .int .i64 ((X.getD ((j + (z * n + b))) tz).a)] 62, own 77 4 (.slice ((some ⟨g, 0, none⟩)) X.length cap) X.length (tokv X), own 3 1 (.slice ((some ⟨gr, 0, none⟩)) Yr.length cr) Yr.length (Y.map (Value.int .i64)), bundle ((rs.eraseIdx z).map (orC 3)), pt ib #[.int .i64 kd, .int .i64 ((n : Int)), .int .i64 0, .slice none 0 0, .slice none 0 0, .slice ((some ⟨gb1, 0, none⟩)) n n] 25, own 22 1 (.slice ((some ⟨gb1, 0, none⟩)) n n) n ((rs.map orV))] _ := hM
      have hall2 := nuE_step hallb rfl hrn (fun g => hc5 ⟨⟨⟨hrn, (hdg.1 g.1).1⟩, by have := (hdg.1 g.1).2; omega⟩, g.2⟩)
      rw [show j + (z * n + b) + 1 = j + (z * n + (b + 1)) by omega] at hM
      replace hM : Mem _ _ [pt rb #[.slice (some ⟨g, (j + (z * n + (b + 1))) * 4, none⟩) (X.length - (j + (z * n + (b + 1)))) (cap - (j + (z * n + (b + 1)))), .int .i64 ((X.getD ((j + (z * n + b))) tz).a)] 62, own 77 4 (.slice ((some ⟨g, 0, none⟩)) X.length cap) X.length (tokv X), own 3 1 (.slice ((some ⟨gr, 0, none⟩)) Yr.length cr) Yr.length (Y.map (Value.int .i64)), bundle ((rs.eraseIdx z).map (orC 3)), pt ib #[.int .i64 kd, .int .i64 ((n : Int)), .int .i64 0, .slice none 0 0, .slice none 0 0, .slice ((some ⟨gb1, 0, none⟩)) n n] 25, own 22 1 (.slice ((some ⟨gb1, 0, none⟩)) n n) n ((rs.map orV))] _ := hM
      refine Ends.skip (Ends.region ?_)
      refine S.val hA (R.move rfl) rfl ?_; clear hA a; intro a hA
      refine S.val hA (R.move rfl) rfl ?_; clear hA a; intro a hA
      refine S.val hA (R.move rfl) rfl ?_; clear hA a; intro a hA
      refine S.val hA (R.indexAddr (q := b) sl22 rfl rfl (by omega) (by omega)) rfl ?_; clear hA a; intro a hA
      refine S.storeO (k := 2) hA hM sz3 rfl rfl rfl rfl (mapi_get Y b (by first | omega | (simp only [List.length_set]; omega) | (simp; done))) ?_; clear hM; intro w7 hM; rw [mapi_set] at hM
      replace hM : Mem _ _ [pt rb #[.slice (some ⟨g, (j + (z * n + (b + 1))) * 4, none⟩) (X.length - (j + (z * n + (b + 1)))) (cap - (j + (z * n + (b + 1)))), .int .i64 ((X.getD ((j + (z * n + b))) tz).a)] 62, own 77 4 (.slice ((some ⟨g, 0, none⟩)) X.length cap) X.length (tokv X), own 3 1 (.slice ((some ⟨gr, 0, none⟩)) Yr.length cr) Yr.length (((Y.set b ((numN (X.getD ((j + (z * n + b))) tz) 2147483647)))).map (Value.int .i64)), bundle ((rs.eraseIdx z).map (orC 3)), pt ib #[.int .i64 kd, .int .i64 ((n : Int)), .int .i64 0, .slice none 0 0, .slice none 0 0, .slice ((some ⟨gb1, 0, none⟩)) n n] 25, own 22 1 (.slice ((some ⟨gb1, 0, none⟩)) n n) n ((rs.map orV))] _ := hM
      refine S.done ?_
      replace hA : St 65 [(0, _), (1, _), (5, _), (6, _), (21, _), (22, _), (23, _), (29, _), (30, _)] a := hA.sub ((.cons rfl (.cons rfl (.cons rfl (.cons rfl (.cons rfl (.cons rfl (.cons rfl (.cons rfl (.cons rfl .nil))))))))))
      refine Ends.inBlock (Ends.region ?_)
      refine S.val hA (R.addI rfl rfl (r := ((b : Int)) + 1) rfl (by omega)) rfl ?_; clear hA a; intro a hA
      refine S.val hA (R.move rfl) rfl ?_; clear hA a; intro a hA
      refine S.done ?_
      replace hM := hM.front (k := 5) rfl
      replace hM := hM.front (k := 5) rfl
      replace hM := hM.front (k := 3) rfl
      replace hM := hM.front (k := 3) rfl
      replace hM := hM.front (k := 5) rfl
      replace hM := hM.front (k := 5) rfl
      replace hM : Mem _ _ [own 3 1 (.slice ((some ⟨gr, 0, none⟩)) Yr.length cr) Yr.length (((Y.set b ((numN (X.getD ((j + (z * n + b))) tz) 2147483647)))).map (Value.int .i64)), bundle ((rs.eraseIdx z).map (orC 3)), pt rb #[.slice (some ⟨g, (j + (z * n + (b + 1))) * 4, none⟩) (X.length - (j + (z * n + (b + 1)))) (cap - (j + (z * n + (b + 1)))), .int .i64 ((X.getD ((j + (z * n + b))) tz).a)] 62, own 77 4 (.slice ((some ⟨g, 0, none⟩)) X.length cap) X.length (tokv X), pt ib #[.int .i64 kd, .int .i64 ((n : Int)), .int .i64 0, .slice none 0 0, .slice none 0 0, .slice ((some ⟨gb1, 0, none⟩)) n n] 25, own 22 1 (.slice ((some ⟨gb1, 0, none⟩)) n n) n ((rs.map orV))] _ := hM
      exact hNext1 ((b + 1, (Y.set b ((numN (X.getD ((j + (z * n + b))) tz) 2147483647))), (X.getD ((j + (z * n + b))) tz).a)) _ _ ((by show n - (b + 1) < n - b; omega)) ⟨hA.sub ((.cons rfl (.cons rfl (.cons rfl (.cons rfl (.cons rfl (.cons rfl (.cons rfl (.cons rfl (.cons rfl .nil)))))))))), hM, (by omega), (rwQ_step hYb (numN_eq hrn).1), (by rw [List.length_set]; exact hYl2), (by omega), (fun r hr => hall2 r (by omega))⟩
   ·
    refine Ends.region ?_
    refine S.val hA (R.move rfl) rfl ?_; clear hA a; intro a hA
    refine S.val hA (R.eql rfl rfl) rfl ?_; clear hA a; intro a hA
    refine S.val hA (R.move rfl) rfl ?_; clear hA a; intro a hA
    refine hA.split (d := 40) rfl ?_ ?_
    ·
     clear hA; intro hg7 hA
     refine S.valg (dj := 40) hA (by kernel_rfl) rfl (R.move rfl) rfl ?_; clear hA a; intro a hA
     refine S.valg (dj := 40) hA (by kernel_rfl) rfl (R.nilCheck rfl) rfl ?_; clear hA a; intro a hA
     refine S.valg (dj := 40) hA (by kernel_rfl) rfl (R.fieldAddr (q := 0) fi25_0 rfl rfl rfl) rfl ?_; clear hA a; intro a hA
     refine S.valg (dj := 40) hA (by kernel_rfl) rfl (R.load sz3 rfl (hM.cell (k := 4) rfl rfl)) rfl ?_; clear hA a; intro a hA
     refine S.valg (dj := 40) hA (by kernel_rfl) rfl (R.eql rfl rfl) rfl ?_; clear hA a; intro a hA
     refine S.val hA (R.pickT rfl rfl) rfl ?_; clear hA a; intro a hA
     refine S.val hA (R.move rfl) rfl ?_; clear hA a; intro a hA
     refine hA.split (d := 47) rfl ?_ ?_
     ·
      clear hA; intro hg8 hA
      refine S.valg (dj := 47) hA (by kernel_rfl) rfl (R.move rfl) rfl ?_; clear hA a; intro a hA
      refine S.valg (dj := 47) hA (by kernel_rfl) rfl (R.move rfl) rfl ?_; clear hA a; intro a hA
      refine S.valg (dj := 47) hA (by kernel_rfl) rfl (R.eql rfl rfl) rfl ?_; clear hA a; intro a hA
      refine S.val hA (R.pickT rfl rfl) rfl ?_; clear hA a; intro a hA
      refine S.val hA (R.move rfl) rfl ?_; clear hA a; intro a hA
      refine hA.split (d := 52) rfl ?_ ?_
      ·
       clear hA; intro hg9 hA
       refine S.valg (dj := 52) hA (by kernel_rfl) rfl (R.move rfl) rfl ?_; clear hA a; intro a hA
       refine S.valg (dj := 52) hA (by kernel_rfl) rfl (R.neq rfl rfl) rfl ?_; clear hA a; intro a hA
       refine S.val hA (R.pickT rfl rfl) rfl ?_; clear hA a; intro a hA
       refine S.done ?_
       replace hA : St 65 [(0, _), (1, _), (5, _), (6, _), (7, _), (8, _), (9, _), (21, _), (22, _), (23, _), (29, _), (30, _), (55, _)] a := hA.sub ((.cons rfl (.cons rfl (.cons rfl (.cons rfl (.cons rfl (.cons rfl (.cons rfl (.cons rfl (.cons rfl (.cons rfl (.cons rfl (.cons rfl (.cons rfl .nil))))))))))))))
       exact hJ _ _ ⟨hA.sub (.cons rfl (.cons rfl (.cons rfl (.cons rfl (.cons rfl (.cons rfl (.cons rfl (.cons rfl (.cons rfl (.cons rfl (.cons rfl (.cons rfl (.cons (by first | rfl | exact congrArg (fun b => some (Value.bool b)) (by first | exact decide_eq_decide.2 (by omega) | exact or_bool (by omega) | exact and_bool (by omega) | (simp; done) | (simp [hg7, hg8, hg9]; done) | (have h80 := hg7; (try simp at h80); have h81 := hg8; (try simp at h81); have h82 := hg9; (try simp at h82); simp [h80, h81, h82]; done) | exact (decide_eq_false (fun h9 => hg7 h9.1)).symm | exact (decide_eq_false (fun h9 => hg8 h9.1)).symm | exact (decide_eq_false (fun h9 => hg9 h9.1)).symm)) .nil))))))))))))), hM⟩
      ·
       clear hA; intro hg9 hA
       refine S.no (dj := 52) hA (by kernel_rfl) rfl rfl rfl ?_; clear hA a; intro a hA
       refine S.no (dj := 52) hA (by kernel_rfl) rfl rfl rfl ?_; clear hA a; intro a hA
       refine S.val hA (R.pickF rfl rfl) rfl ?_; clear hA a; intro a hA
       refine S.done ?_
       replace hA : St 65 [(0, _), (1, _), (5, _), (6, _), (7, _), (8, _), (9, _), (21, _), (22, _), (23, _), (29, _), (30, _), (55, _)] a := hA.sub ((.cons rfl (.cons rfl (.cons rfl (.cons rfl (.cons rfl (.cons rfl (.cons rfl (.cons rfl (.cons rfl (.cons rfl (.cons rfl (.cons rfl (.cons rfl .nil))))))))))))))
       exact hJ _ _ ⟨hA.sub (.cons rfl (.cons rfl (.cons rfl (.cons rfl (.cons rfl (.cons rfl (.cons rfl (.cons rfl (.cons rfl (.cons rfl (.cons rfl (.cons rfl (.cons (by first | rfl | exact congrArg (fun b => some (Value.bool b)) (by first | exact decide_eq_decide.2 (by omega) | exact or_bool (by omega) | exact and_bool (by omega) | (simp; done) | (simp [hg7, hg8, hg9]; done) | (have h80 := hg7; (try simp at h80); have h81 := hg8; (try simp at h81); have h82 := hg9; (try simp at h82); simp [h80, h81, h82]; done) | exact (decide_eq_false (fun h9 => hg7 h9.1)).symm | exact (decide_eq_false (fun h9 => hg8 h9.1)).symm | exact (decide_eq_false (fun h9 => hg9 h9.1)).symm)) .nil))))))))))))), hM⟩
     ·
      clear hA; intro hg8 hA
      refine S.no (dj := 47) hA (by kernel_rfl) rfl rfl rfl ?_; clear hA a; intro a hA
      refine S.no (dj := 47) hA (by kernel_rfl) rfl rfl rfl ?_; clear hA a; intro a hA
      refine S.no (dj := 47) hA (by kernel_rfl) rfl rfl rfl ?_; clear hA a; intro a hA
      refine S.val hA (R.pickF rfl rfl) rfl ?_; clear hA a; intro a hA
      refine S.val hA (R.move rfl) rfl ?_; clear hA a; intro a hA
      refine S.no (dj := 52) hA (by kernel_rfl) rfl rfl rfl ?_; clear hA a; intro a hA
      refine S.no (dj := 52) hA (by kernel_rfl) rfl rfl rfl ?_; clear hA a; intro a hA
      refine S.val hA (R.pickF rfl rfl) rfl ?_; clear hA a; intro a hA
      refine S.done ?_
      replace hA : St 65 [(0, _), (1, _), (5, _), (6, _), (7, _), (8, _), (9, _), (21, _), (22, _), (23, _), (29, _), (30, _), (55, _)] a := hA.sub ((.cons rfl (.cons rfl (.cons rfl (.cons rfl (.cons rfl (.cons rfl (.cons rfl (.cons rfl (.cons rfl (.cons rfl (.cons rfl (.cons rfl (.cons rfl .nil))))))))))))))
      exact hJ _ _ ⟨hA.sub (.cons rfl (.cons rfl (.cons rfl (.cons rfl (.cons rfl (.cons rfl (.cons rfl (.cons rfl (.cons rfl (.cons rfl (.cons rfl (.cons rfl (.cons (by first | rfl | exact congrArg (fun b => some (Value.bool b)) (by first | exact decide_eq_decide.2 (by omega) | exact or_bool (by omega) | exact and_bool (by omega) | (simp; done) | (simp [hg7, hg8]; done) | (have h80 := hg7; (try simp at h80); have h81 := hg8; (try simp at h81); simp [h80, h81]; done) | exact (decide_eq_false (fun h9 => hg7 h9.1)).symm | exact (decide_eq_false (fun h9 => hg8 h9.1)).symm)) .nil))))))))))))), hM⟩
    ·
     clear hA; intro hg7 hA
     refine S.no (dj := 40) hA (by kernel_rfl) rfl rfl rfl ?_; clear hA a; intro a hA
     refine S.no (dj := 40) hA (by kernel_rfl) rfl rfl rfl ?_; clear hA a; intro a hA
     refine S.no (dj := 40) hA (by kernel_rfl) rfl rfl rfl ?_; clear hA a; intro a hA
     refine S.no (dj := 40) hA (by kernel_rfl) rfl rfl rfl ?_; clear hA a; intro a hA
     refine S.no (dj := 40) hA (by kernel_rfl) rfl rfl rfl ?_; clear hA a; intro a hA
     refine S.val hA (R.pickF rfl rfl) rfl ?_; clear hA a; intro a hA
     refine S.val hA (R.move rfl) rfl ?_; clear hA a; intro a hA
     refine S.no (dj := 47) hA (by kernel_rfl) rfl rfl rfl ?_; clear hA a; intro a hA
     refine S.no (dj := 47) hA (by kernel_rfl) rfl rfl rfl ?_; clear hA a; intro a hA
     refine S.no (dj := 47) hA (by kernel_rfl) rfl rfl rfl ?_; clear hA a; intro a hA
     refine S.val hA (R.pickF rfl rfl) rfl ?_; clear hA a; intro a hA
     refine S.val hA (R.move rfl) rfl ?_; clear hA a; intro a hA
     refine S.no (dj := 52) hA (by kernel_rfl) rfl rfl rfl ?_; clear hA a; intro a hA
     refine S.no (dj := 52) hA (by kernel_rfl) rfl rfl rfl ?_; clear hA a; intro a hA
     refine S.val hA (R.pickF rfl rfl) rfl ?_; clear hA a; intro a hA
     refine S.done ?_
     replace hA : St 65 [(0, _), (1, _), (5, _), (6, _), (7, _), (8, _), (9, _), (21, _), (22, _), (23, _), (29, _), (30, _), (55, _)] a := hA.sub ((.cons rfl (.cons rfl (.cons rfl (.cons rfl (.cons rfl (.cons rfl (.cons rfl (.cons rfl (.cons rfl (.cons rfl (.cons rfl (.cons rfl (.cons rfl .nil))))))))))))))
     exact hJ _ _ ⟨hA.sub (.cons rfl (.cons rfl (.cons rfl (.cons rfl (.cons rfl (.cons rfl (.cons rfl (.cons rfl (.cons rfl (.cons rfl (.cons rfl (.cons rfl (.cons (by first | rfl | exact congrArg (fun b => some (Value.bool b)) (by first | exact decide_eq_decide.2 (by omega) | exact or_bool (by omega) | exact and_bool (by omega) | (simp; done) | (simp [hg7]; done) | (have h80 := hg7; (try simp at h80); simp [h80]; done) | exact (decide_eq_false (fun h9 => hg7 h9.1)).symm)) .nil))))))))))))), hM⟩
  ·
   refine Ends.exit rfl ?_
   replace hA : St 65 [(0, _), (1, _), (21, _), (22, _), (23, _)] a := hA.sub ((.cons rfl (.cons rfl (.cons rfl (.cons rfl (.cons rfl .nil))))))
   refine Ends.inBlock (Ends.region ?_)
   refine S.val hA (R.addI rfl rfl (r := ((z : Int)) + 1) rfl (by omega)) rfl ?_; clear hA a; intro a hA
   refine S.val hA (R.move rfl) rfl ?_; clear hA a; intro a hA
   refine S.done ?_
   have hbn : b = n := by omega
   rw [hbn] at hM hYb
   rw [← hYl2] at hM
   replace hM := Mem.closeB (f := orC 3) (y := (⟨Y, (some ⟨gr, 0, none⟩), cr⟩ : OwR)) hM hxr
   rw [← setV hxr (u := (⟨Y, (some ⟨gr, 0, none⟩), cr⟩ : OwR)) (by show Value.slice _ _ _ = Value.slice _ _ _; rw [hYl2]), show j + (z * n + n) = j + (z + 1) * n by rw [Nat.add_mul, Nat.one_mul]] at hM
   replace hM : Mem _ _ [bundle ((rs.set z (⟨Y, (some ⟨gr, 0, none⟩), cr⟩ : OwR)).map (orC 3)), pt rb #[.slice (some ⟨g, (j + (z + 1) * n) * 4, none⟩) (X.length - (j + (z + 1) * n)) (cap - (j + (z + 1) * n)), .int .i64 at2] 62, own 77 4 (.slice ((some ⟨g, 0, none⟩)) X.length cap) X.length (tokv X), pt ib #[.int .i64 kd, .int .i64 ((n : Int)), .int .i64 0, .slice none 0 0, .slice none 0 0, .slice ((some ⟨gb1, 0, none⟩)) n n] 25, own 22 1 (.slice ((some ⟨gb1, 0, none⟩)) n n) n (((rs.set z (⟨Y, (some ⟨gr, 0, none⟩), cr⟩ : OwR)).map orV))] _ := hM
   replace hM := hM.front (k := 4) rfl
   replace hM := hM.front (k := 4) rfl
   replace hM := hM.front (k := 4) rfl
   replace hM := hM.front (k := 4) rfl
   replace hM : Mem _ _ [pt rb #[.slice (some ⟨g, (j + (z + 1) * n) * 4, none⟩) (X.length - (j + (z + 1) * n)) (cap - (j + (z + 1) * n)), .int .i64 at2] 62, own 77 4 (.slice ((some ⟨g, 0, none⟩)) X.length cap) X.length (tokv X), pt ib #[.int .i64 kd, .int .i64 ((n : Int)), .int .i64 0, .slice none 0 0, .slice none 0 0, .slice ((some ⟨gb1, 0, none⟩)) n n] 25, own 22 1 (.slice ((some ⟨gb1, 0, none⟩)) n n) n (((rs.set z (⟨Y, (some ⟨gr, 0, none⟩), cr⟩ : OwR)).map orV)), bundle ((rs.set z (⟨Y, (some ⟨gr, 0, none⟩), cr⟩ : OwR)).map (orC 3))] _ := hM
   exact hNext ((z + 1, (rs.set z (⟨Y, (some ⟨gr, 0, none⟩), cr⟩ : OwR)), at2)) _ _ ((by show n - (z + 1) < n - z; omega)) ⟨hA.sub ((.cons rfl (.cons rfl (.cons rfl (.cons rfl (.cons rfl .nil)))))), hM, (by omega), ((rows_setRow hYs hYb).trans rwQ_next), (by rw [Nat.add_mul, Nat.one_mul]; omega), (fun r hr => hallb r (by rw [Nat.add_mul, Nat.one_mul] at hr; omega))⟩
 ·
  refine Ends.exit rfl ?_
  replace hA : St 65 [] a := hA.sub (.nil)
  refine Ends.seq (Ends.region ?_)
  refine S.val hA (R.assign rfl) rfl ?_; clear hA a; intro a hA
  refine S.done ?_
  refine Ends.ret1 Tryd.func65 Tryd.results65 hA rfl ?_
  have han : z = n := by omega
  rw [han] at hM hYs halla
  have e1 := nuR_ok halla
  rw [rwQ_all] at hYs
  exact ⟨by rw [e1], .inr ⟨by rw [e1], _, _, rs, hYs, by rw [e1]; exact hM⟩⟩
set_option maxRecDepth 100000 in
set_option maxHeartbeats 400000 in
theorem half06 (g rb ib j cap : Nat) (at0 : Int) (X : List Tok) (hX : Toks X) (hj : j < X.length) (hcap : X.length ≤ cap) (kd : Int) (n : Nat) (hn1 : 1 ≤ n) (hn24 : n ≤ 24) (w : World) (hM : Mem w (feet [pt rb #[.slice (some ⟨g, j * 4, none⟩) (X.length - j) (cap - j), .int .i64 at0] 62, own 77 4 (.slice ((some ⟨g, 0, none⟩)) X.length cap) X.length (tokv X), pt ib #[.int .i64 kd, .int .i64 ((n : Int)), .int .i64 0, .slice none 0 0, .slice none 0 0, .slice none 0 0] 25]) [pt rb #[.slice (some ⟨g, j * 4, none⟩) (X.length - j) (cap - j), .int .i64 at0] 62, own 77 4 (.slice ((some ⟨g, 0, none⟩)) X.length cap) X.length (tokv X), pt ib #[.int .i64 kd, .int .i64 ((n : Int)), .int .i64 0, .slice none 0 0, .slice none 0 0, .slice none 0 0] 25] w) :
  Calls Tryd.prog 82 #[.pointer (some ⟨rb, 0, none⟩), .pointer (some ⟨ib, 0, none⟩)] w fun e w' => e = .returned (.int .i64 (nuR ff X j (hlf n)).1) ∧ (((nuR ff X j (hlf n)).1 ≠ 0 ∧ ∃ jx, Mem w (feet [pt rb #[.slice (some ⟨g, j * 4, none⟩) (X.length - j) (cap - j), .int .i64 at0] 62, own 77 4 (.slice ((some ⟨g, 0, none⟩)) X.length cap) X.length (tokv X), pt ib #[.int .i64 kd, .int .i64 ((n : Int)), .int .i64 0, .slice none 0 0, .slice none 0 0, .slice none 0 0] 25]) [pt rb #[.slice (some ⟨g, jx * 4, none⟩) (X.length - jx) (cap - jx), .int .i64 (((X.getD (nuR ff X j (hlf n)).2 tz).a))] 62, own 77 4 (.slice ((some ⟨g, 0, none⟩)) X.length cap) X.length (tokv X)] w') ∨ ((nuR ff X j (hlf n)).1 = 0 ∧ ∃ (at1 : Int) (gb : Nat) (rs : List OwR), rs.map (·.Y) = mat n (hfI X j n) ∧ Mem w (feet [pt rb #[.slice (some ⟨g, j * 4, none⟩) (X.length - j) (cap - j), .int .i64 at0] 62, own 77 4 (.slice ((some ⟨g, 0, none⟩)) X.length cap) X.length (tokv X), pt ib #[.int .i64 kd, .int .i64 ((n : Int)), .int .i64 0, .slice none 0 0, .slice none 0 0, .slice none 0 0] 25]) [pt rb #[.slice (some ⟨g, (nuR ff X j (hlf n)).2 * 4, none⟩) (X.length - (nuR ff X j (hlf n)).2) (cap - (nuR ff X j (hlf n)).2), .int .i64 at1] 62, own 77 4 (.slice ((some ⟨g, 0, none⟩)) X.length cap) X.length (tokv X), pt ib #[.int .i64 kd, .int .i64 ((n : Int)), .int .i64 0, .slice none 0 0, .slice none 0 0, .slice ((some ⟨gb, 0, none⟩)) n n] 25, own 22 1 (.slice ((some ⟨gb, 0, none⟩)) n n) n ((rs.map orV)), bundle (rs.map (orC 3))] w')) := by
 have hbs := Below.refl (B := w.heap.size) w
 have hlX := hX.len
 refine Calls.of_ends (vs := [.pointer (some ⟨rb, 0, none⟩), .pointer (some ⟨ib, 0, none⟩)]) Tryd.func82 rfl Tryd.ntmps82 rfl ?_
 intro a hA
 replace hA : St 63 [(0, _), (1, _)] a := hA
 refine Ends.seq (Ends.region ?_)
 refine S.val hA (R.assign rfl) rfl ?_; clear hA a; intro a hA
 refine S.done ?_
 refine Ends.seq (Ends.region ?_)
 refine S.val hA (R.move rfl) rfl ?_; clear hA a; intro a hA
 refine S.val hA (R.move rfl) rfl ?_; clear hA a; intro a hA
 refine S.val hA (R.nilCheck rfl) rfl ?_; clear hA a; intro a hA
 refine S.val hA (R.fieldAddr (q := 1) fi25_1 rfl rfl rfl) rfl ?_; clear hA a; intro a hA
 refine S.val hA (R.load sz3 rfl (hM.cell (k := 2) rfl rfl)) rfl ?_; clear hA a; intro a hA
 refine S.call hA (R.callF Tryd.func83 rfl rfl rfl) rfl (blank06 n (by omega) _) ?_; clear hA a
 rintro e w1 ⟨gb1, rs2, rfl, hYz, hn⟩
 replace hM : Mem _ _ [own 22 1 (.slice ((some ⟨gb1, 0, none⟩)) n n) n ((rs2.map orV)), bundle (rs2.map (orC 3)), pt rb #[.slice (some ⟨g, j * 4, none⟩) (X.length - j) (cap - j), .int .i64 at0] 62, own 77 4 (.slice ((some ⟨g, 0, none⟩)) X.length cap) X.length (tokv X), pt ib #[.int .i64 kd, .int .i64 ((n : Int)), .int .i64 0, .slice none 0 0, .slice none 0 0, .slice none 0 0] 25] _ := hM.call hn; clear hn
 refine ⟨.slice (some ⟨gb1, 0, none⟩) n n, rfl, fun a hA => ?_⟩
 refine S.val hA (R.nilCheck rfl) rfl ?_; clear hA a; intro a hA
 refine S.val hA (R.fieldAddr (q := 5) fi25_5 rfl rfl rfl) rfl ?_; clear hA a; intro a hA
 refine S.store (k := 4) hA hM sz23 rfl rfl rfl rfl rfl ?_; clear hM
 intro w2 hM
 replace hM : Mem _ _ [own 22 1 (.slice ((some ⟨gb1, 0, none⟩)) n n) n ((rs2.map orV)), bundle (rs2.map (orC 3)), pt rb #[.slice (some ⟨g, j * 4, none⟩) (X.length - j) (cap - j), .int .i64 at0] 62, own 77 4 (.slice ((some ⟨g, 0, none⟩)) X.length cap) X.length (tokv X), pt ib #[.int .i64 kd, .int .i64 ((n : Int)), .int .i64 0, .slice none 0 0, .slice none 0 0, .slice (some ⟨gb1, 0, none⟩) n n] 25] _ := hM
 refine S.done ?_
 replace hA : St 63 [(0, _), (1, _)] a := hA.sub ((.cons rfl (.cons rfl .nil)))
 refine Ends.seq (Ends.seq ?_)
 rw [hfQ_zero X j] at hYz
 refine Ends.region ?_
 refine S.val hA (R.move rfl) rfl ?_; clear hA a; intro a hA
 refine S.val hA (R.nilCheck rfl) rfl ?_; clear hA a; intro a hA
 refine S.val hA (R.fieldAddr (q := 1) fi25_1 rfl rfl rfl) rfl ?_; clear hA a; intro a hA
 refine S.val hA (R.load sz3 rfl (hM.cell (k := 4) rfl rfl)) rfl ?_; clear hA a; intro a hA
 refine S.val hA (R.move rfl) rfl ?_; clear hA a; intro a hA
 refine S.done ?_
 refine Ends.block ?_
 replace hM := hM.front (k := 1) rfl
 replace hM := hM.front (k := 1) rfl
 replace hM := hM.front (k := 4) rfl
 replace hM := hM.front (k := 4) rfl
 replace hM := hM.front (k := 4) rfl
 replace hM : Mem _ _ [pt rb #[.slice (some ⟨g, (j + offH n 0) * 4, none⟩) (X.length - (j + offH n 0)) (cap - (j + offH n 0)), .int .i64 at0] 62, own 77 4 (.slice ((some ⟨g, 0, none⟩)) X.length cap) X.length (tokv X), pt ib #[.int .i64 kd, .int .i64 ((n : Int)), .int .i64 0, .slice none 0 0, .slice none 0 0, .slice ((some ⟨gb1, 0, none⟩)) n n] 25, own 22 1 (.slice ((some ⟨gb1, 0, none⟩)) n n) n ((rs2.map orV)), bundle (rs2.map (orC 3))] _ := hM
 refine Ends.loop (σ := Nat × List OwR × Int) (fun (z, rs, at1) (a : Act) (wv : World) => St 63 [(0, .pointer (some ⟨rb, 0, none⟩)), (1, .pointer (some ⟨ib, 0, none⟩)), (20, .int .i64 ((n : Int))), (21, .int .i64 ((z : Int)))] a ∧ Mem w (feet [pt rb #[.slice (some ⟨g, j * 4, none⟩) (X.length - j) (cap - j), .int .i64 at0] 62, own 77 4 (.slice ((some ⟨g, 0, none⟩)) X.length cap) X.length (tokv X), pt ib #[.int .i64 kd, .int .i64 ((n : Int)), .int .i64 0, .slice none 0 0, .slice none 0 0, .slice none 0 0] 25]) [pt rb #[.slice (some ⟨g, (j + offH n z) * 4, none⟩) (X.length - (j + offH n z)) (cap - (j + offH n z)), .int .i64 at1] 62, own 77 4 (.slice ((some ⟨g, 0, none⟩)) X.length cap) X.length (tokv X), pt ib #[.int .i64 kd, .int .i64 ((n : Int)), .int .i64 0, .slice none 0 0, .slice none 0 0, .slice ((some ⟨gb1, 0, none⟩)) n n] 25, own 22 1 (.slice ((some ⟨gb1, 0, none⟩)) n n) n ((rs.map orV)), bundle (rs.map (orC 3))] wv ∧ (z ≤ n) ∧ (rs.map (·.Y) = mat n (hfQ X j n (offH n z))) ∧ (j + offH n z < X.length) ∧ (∀ r, r < offH n z → nuE (ff r) (X.getD (j + r) tz) = 0)) (fun (z, rs, at1) => n - z) ((0, rs2, at0)) ⟨hA.sub ((.cons rfl (.cons rfl (.cons rfl (.cons rfl .nil))))), hM, (Nat.zero_le _), hYz, hj, (fun r hr => absurd hr (Nat.not_lt_zero r))⟩ ?_
 clear hA hM a
 rintro ⟨z, rs, at1⟩ a w3 ⟨hA, hM, hz, hYs, hja, halla⟩ hNext
 refine Ends.seq (Ends.region ?_)
 refine S.val hA (R.lss rfl rfl) rfl ?_; clear hA a; intro a hA
 refine S.done ?_
 refine Ends.seq ?_
 refine Ends.ite hA rfl (fun hc3 => ?_) (fun hc3 => ?_)
 ·
  refine Ends.skip (Ends.seq (Ends.block (Ends.seq (Ends.region ?_))))
  refine S.val hA (R.move rfl) rfl ?_; clear hA a; intro a hA
  refine S.val hA (R.assign rfl) rfl ?_; clear hA a; intro a hA
  refine S.done ?_
  refine Ends.seq (Ends.region ?_)
  refine S.val hA (R.move rfl) rfl ?_; clear hA a; intro a hA
  refine S.val hA (R.addI rfl rfl (r := ((z + 1 : Nat) : Int)) (by omega) (by omega)) rfl ?_; clear hA a; intro a hA
  refine S.val hA (R.assign rfl) rfl ?_; clear hA a; intro a hA
  refine S.done ?_
  replace hA : St 63 [(0, _), (1, _), (5, _), (6, _), (20, _), (21, _)] a := hA.sub ((.cons rfl (.cons rfl (.cons rfl (.cons rfl (.cons rfl (.cons rfl .nil)))))))
  refine Ends.block ?_
  have hq0 : offH n z = (offH n z + ((z + 1) - z - 1)) := by omega
  have hM0_ := hM; rw [show j + offH n z = j + (offH n z + ((z + 1) - z - 1)) from congrArg (j + ·) hq0] at hM; clear hM0_
  replace hM : Mem _ _ [pt rb #[.slice (some ⟨g, (j + (offH n z + ((z + 1) - z - 1))) * 4, none⟩) (X.length - (j + (offH n z + ((z + 1) - z - 1)))) (cap - (j + (offH n z + ((z + 1) - z - 1)))), .int .i64 at1] 62, own 77 4 (.slice ((some ⟨g, 0, none⟩)) X.length cap) X.length (tokv X), pt ib #[.int .i64 kd, .int .i64 ((n : Int)), .int .i64 0, .slice none 0 0, .slice none 0 0, .slice ((some ⟨gb1, 0, none⟩)) n n] 25, own 22 1 (.slice ((some ⟨gb1, 0, none⟩)) n n) n ((rs.map orV)), bundle (rs.map (orC 3))] _ := hM
  refine Ends.loop (σ := Nat × List OwR × Int) (fun (b, rs, at2) (a : Act) (wv : World) => St 63 [(0, .pointer (some ⟨rb, 0, none⟩)), (1, .pointer (some ⟨ib, 0, none⟩)), (5, .int .i64 ((z : Int))), (6, .int .i64 ((b : Int))), (20, .int .i64 ((n : Int))), (21, .int .i64 ((z : Int)))] a ∧ Mem w (feet [pt rb #[.slice (some ⟨g, j * 4, none⟩) (X.length - j) (cap - j), .int .i64 at0] 62, own 77 4 (.slice ((some ⟨g, 0, none⟩)) X.length cap) X.length (tokv X), pt ib #[.int .i64 kd, .int .i64 ((n : Int)), .int .i64 0, .slice none 0 0, .slice none 0 0, .slice none 0 0] 25]) [pt rb #[.slice (some ⟨g, (j + (offH n z + (b - z - 1))) * 4, none⟩) (X.length - (j + (offH n z + (b - z - 1)))) (cap - (j + (offH n z + (b - z - 1)))), .int .i64 at2] 62, own 77 4 (.slice ((some ⟨g, 0, none⟩)) X.length cap) X.length (tokv X), pt ib #[.int .i64 kd, .int .i64 ((n : Int)), .int .i64 0, .slice none 0 0, .slice none 0 0, .slice ((some ⟨gb1, 0, none⟩)) n n] 25, own 22 1 (.slice ((some ⟨gb1, 0, none⟩)) n n) n ((rs.map orV)), bundle (rs.map (orC 3))] wv ∧ (z < b) ∧ (b ≤ n) ∧ (rs.map (·.Y) = mat n (hfQ X j n (offH n z + (b - z - 1)))) ∧ (j + (offH n z + (b - z - 1)) < X.length) ∧ (∀ r, r < (offH n z + (b - z - 1)) → nuE (ff r) (X.getD (j + r) tz) = 0)) (fun (b, rs, at2) => n - b) ((z + 1, rs, at1)) ⟨hA.sub ((.cons rfl (.cons rfl (.cons rfl (.cons rfl (.cons rfl (.cons rfl .nil))))))), hM, (Nat.lt_succ_self z), (by omega), (hq0 ▸ hYs), (by omega), (hq0 ▸ halla)⟩ ?_
  clear hA hM a
  rintro ⟨b, rs, at2⟩ a w4 ⟨hA, hM, hzb, hb_, hYb, hjb, hallb⟩ hNext1
  refine Ends.seq (Ends.seq (Ends.region ?_))
  refine S.val hA (R.move rfl) rfl ?_; clear hA a; intro a hA
  refine S.val hA (R.move rfl) rfl ?_; clear hA a; intro a hA
  refine S.val hA (R.nilCheck rfl) rfl ?_; clear hA a; intro a hA
  refine S.val hA (R.fieldAddr (q := 1) fi25_1 rfl rfl rfl) rfl ?_; clear hA a; intro a hA
  refine S.val hA (R.load sz3 rfl (hM.cell (k := 2) rfl rfl)) rfl ?_; clear hA a; intro a hA
  refine S.val hA (R.lss rfl rfl) rfl ?_; clear hA a; intro a hA
  refine S.done ?_
  replace hA : St 63 [(0, _), (1, _), (5, _), (6, _), (20, _), (21, _), (31, _)] a := hA.sub ((.cons rfl (.cons rfl (.cons rfl (.cons rfl (.cons rfl (.cons rfl (.cons rfl .nil))))))))
  refine Ends.ite hA rfl (fun hc4 => ?_) (fun hc4 => ?_)
  ·
   have hbn : b < n := by omega
   have hqe := hxI_lt hzb hbn
   have hqh := hxI_hlf hzb hbn
   have hq2 : (offH n z + (b - z - 1)) + 1 = (offH n z + ((b + 1) - z - 1)) := by omega
   refine Ends.skip (Ends.seq (Ends.block (Ends.seq (Ends.region ?_))))
   refine S.val hA (R.move rfl) rfl ?_; clear hA a; intro a hA
   refine S.call hA (R.callF Tryd.func81 rfl rfl rfl) rfl (number06 g rb ((j + (offH n z + (b - z - 1)))) cap at2 X hX (by omega) hcap 2147483647 _ (hM.hereN 2)) ?_; clear hA a
   rintro e w5 ⟨rfl, hn⟩
   replace hM : Mem _ _ [pt rb #[.slice (some ⟨g, (nxJ ((j + (offH n z + (b - z - 1)))) (numR (X.getD ((j + (offH n z + (b - z - 1)))) tz) 2147483647)) * 4, none⟩) (X.length - (nxJ ((j + (offH n z + (b - z - 1)))) (numR (X.getD ((j + (offH n z + (b - z - 1)))) tz) 2147483647))) (cap - (nxJ ((j + (offH n z + (b - z - 1)))) (numR (X.getD ((j + (offH n z + (b - z - 1)))) tz) 2147483647))), .int .i64 ((X.getD ((j + (offH n z + (b - z - 1)))) tz).a)] 62, own 77 4 (.slice ((some ⟨g, 0, none⟩)) X.length cap) X.length (tokv X), pt ib #[.int .i64 kd, .int .i64 ((n : Int)), .int .i64 0, .slice none 0 0, .slice none 0 0, .slice ((some ⟨gb1, 0, none⟩)) n n] 25, own 22 1 (.slice ((some ⟨gb1, 0, none⟩)) n n) n ((rs.map orV)), bundle (rs.map (orC 3))] _ := hM.callL 2 hn; clear hn
   refine ⟨.tuple #[.int .i64 ((numN (X.getD ((j + (offH n z + (b - z - 1)))) tz) 2147483647)), .int .i64 ((numR (X.getD ((j + (offH n z + (b - z - 1)))) tz) 2147483647))], rfl, fun a hA => ?_⟩
   refine S.val hA (R.move rfl) rfl ?_; clear hA a; intro a hA
   refine S.val hA (R.extract (v := .int .i64 ((numN (X.getD ((j + (offH n z + (b - z - 1)))) tz) 2147483647))) rfl rfl) rfl ?_; clear hA a; intro a hA
   refine S.val hA (R.extract (v := .int .i64 ((numR (X.getD ((j + (offH n z + (b - z - 1)))) tz) 2147483647))) rfl rfl) rfl ?_; clear hA a; intro a hA
   refine S.val hA (R.assign rfl) rfl ?_; clear hA a; intro a hA
   refine S.val hA (R.assign rfl) rfl ?_; clear hA a; intro a hA
   refine S.done ?_
   replace hA : St 63 [(0, _), (1, _), (5, _), (6, _), (7, _), (8, _), (20, _), (21, _)] a := hA.sub ((.cons rfl (.cons rfl (.cons rfl (.cons rfl (.cons rfl (.cons rfl (.cons rfl (.cons rfl .nil)))))))))
   refine Ends.seq (Ends.seq (Ends.region ?_))
   refine S.val hA (R.move rfl) rfl ?_; clear hA a; intro a hA
   refine S.val hA (R.neq rfl rfl) rfl ?_; clear hA a; intro a hA
   refine S.done ?_
   refine Ends.ite hA rfl (fun hc5 => ?_) (fun hc5 => ?_)
   ·
    refine Ends.seq (Ends.region ?_)
    refine S.val hA (R.move rfl) rfl ?_; clear hA a; intro a hA
    refine S.val hA (R.assign rfl) rfl ?_; clear hA a; intro a hA
    refine S.done ?_
    replace hA : St 63 [(0, _), (1, _), (4, _), (5, _), (6, _), (7, _), (20, _), (21, _)] a := hA.sub ((.cons rfl (.cons rfl (.cons rfl (.cons rfl (.cons rfl (.cons rfl (.cons rfl (.cons rfl .nil)))))))))
    refine Ends.ret1 Tryd.func82 Tryd.results82 hA rfl ?_
    replace hM := hM.firstN 2
    replace hM : Mem _ _ [pt rb #[.slice (some ⟨g, (nxJ ((j + (offH n z + (b - z - 1)))) (numR (X.getD ((j + (offH n z + (b - z - 1)))) tz) 2147483647)) * 4, none⟩) (X.length - (nxJ ((j + (offH n z + (b - z - 1)))) (numR (X.getD ((j + (offH n z + (b - z - 1)))) tz) 2147483647))) (cap - (nxJ ((j + (offH n z + (b - z - 1)))) (numR (X.getD ((j + (offH n z + (b - z - 1)))) tz) 2147483647))), .int .i64 ((X.getD ((j + (offH n z + (b - z - 1)))) tz).a)] 62, own 77 4 (.slice ((some ⟨g, 0, none⟩)) X.length cap) X.length (tokv X)] _ := hM
    have e1 := nuR_badP (f := ff) (m := hlf n) hallb rfl hc5 (by omega)
    exact ⟨by rw [e1], .inl ⟨by rw [e1]; exact hc5, _, by rw [e1]; exact hM⟩⟩
   ·
    have hrn := Decidable.not_not.1 hc5
    have hjn := hX.ok hjb hrn
    rw [nxJ_ok hrn] at hM
    replace hM : Mem _ _ [pt rb #[.slice (some ⟨g, ((j + (offH n z + (b - z - 1))) + 1) * 4, none⟩) (X.length - ((j + (offH n z + (b - z - 1))) + 1)) (cap - ((j + (offH n z + (b - z - 1))) + 1)), .int .i64 ((X.getD ((j + (offH n z + (b - z - 1)))) tz).a)] 62, own 77 4 (.slice ((some ⟨g, 0, none⟩)) X.length cap) X.length (tokv X), pt ib #[.int .i64 kd, .int .i64 ((n : Int)), .int .i64 0, .slice none 0 0, .slice none 0 0, .slice ((some ⟨gb1, 0, none⟩)) n n] 25, own 22 1 (.slice ((some ⟨gb1, 0, none⟩)) n n) n ((rs.map orV)), bundle (rs.map (orC 3))] _ := hM
    have hall2 := nuE_step hallb rfl hrn ff_no
    rw [show (j + (offH n z + (b - z - 1))) + 1 = j + ((offH n z + (b - z - 1)) + 1) from rfl] at hM
    replace hM : Mem _ _ [pt rb #[.slice (some ⟨g, (j + ((offH n z + (b - z - 1)) + 1)) * 4, none⟩) (X.length - (j + ((offH n z + (b - z - 1)) + 1))) (cap - (j + ((offH n z + (b - z - 1)) + 1))), .int .i64 ((X.getD ((j + (offH n z + (b - z - 1)))) tz).a)] 62, own 77 4 (.slice ((some ⟨g, 0, none⟩)) X.length cap) X.length (tokv X), pt ib #[.int .i64 kd, .int .i64 ((n : Int)), .int .i64 0, .slice none 0 0, .slice none 0 0, .slice ((some ⟨gb1, 0, none⟩)) n n] 25, own 22 1 (.slice ((some ⟨gb1, 0, none⟩)) n n) n ((rs.map orV)), bundle (rs.map (orC 3))] _ := hM
    refine Ends.skip ?_
    obtain ⟨Yb, ab, cb, hxb, hYb1, hYl1⟩ := row_of hYb hbn
    obtain ⟨Ya, aa, ca, hxa, hYa1, hYl0⟩ := row_of hYb (show z < n by omega)
    have hxa2 : (rs.eraseIdx b)[z]? = some ⟨Ya, aa, ca⟩ := by rw [List.getElem?_eraseIdx, if_pos hzb]; exact hxa
    replace hM := hM.front (k := 4) rfl
    replace hM : Mem _ _ [bundle (rs.map (orC 3)), pt rb #[.slice (some ⟨g, (j + ((offH n z + (b - z - 1)) + 1)) * 4, none⟩) (X.length - (j + ((offH n z + (b - z - 1)) + 1))) (cap - (j + ((offH n z + (b - z - 1)) + 1))), .int .i64 ((X.getD ((j + (offH n z + (b - z - 1)))) tz).a)] 62, own 77 4 (.slice ((some ⟨g, 0, none⟩)) X.length cap) X.length (tokv X), pt ib #[.int .i64 kd, .int .i64 ((n : Int)), .int .i64 0, .slice none 0 0, .slice none 0 0, .slice ((some ⟨gb1, 0, none⟩)) n n] 25, own 22 1 (.slice ((some ⟨gb1, 0, none⟩)) n n) n ((rs.map orV))] _ := hM
    replace hM := ((hM.openB hxb).front (k := 1) rfl).openB hxa2
    replace hM : Mem _ _ [own 3 1 (.slice aa Ya.length ca) Ya.length (Ya.map (Value.int .i64)), bundle (((rs.eraseIdx b).eraseIdx z).map (orC 3)), own 3 1 (.slice ab Yb.length cb) Yb.length (Yb.map (Value.int .i64)), pt rb #[.slice (some ⟨g, (j + ((offH n z + (b - z - 1)) + 1)) * 4, none⟩) (X.length - (j + ((offH n z + (b - z - 1)) + 1))) (cap - (j + ((offH n z + (b - z - 1)) + 1))), .int .i64 ((X.getD ((j + (offH n z + (b - z - 1)))) tz).a)] 62, own 77 4 (.slice ((some ⟨g, 0, none⟩)) X.length cap) X.length (tokv X), pt ib #[.int .i64 kd, .int .i64 ((n : Int)), .int .i64 0, .slice none 0 0, .slice none 0 0, .slice ((some ⟨gb1, 0, none⟩)) n n] 25, own 22 1 (.slice ((some ⟨gb1, 0, none⟩)) n n) n ((rs.map orV))] _ := hM
    obtain ⟨ga, hga⟩ := hM.ownAt (k := 0) rfl (by omega)
    obtain ⟨gB, hgB⟩ := hM.ownAt (k := 2) rfl (by omega)
    subst hga
    subst hgB
    replace hM : Mem _ _ [own 3 1 (.slice ((some ⟨ga, 0, none⟩)) Ya.length ca) Ya.length (Ya.map (Value.int .i64)), bundle (((rs.eraseIdx b).eraseIdx z).map (orC 3)), own 3 1 (.slice ((some ⟨gB, 0, none⟩)) Yb.length cb) Yb.length (Yb.map (Value.int .i64)), pt rb #[.slice (some ⟨g, (j + ((offH n z + (b - z - 1)) + 1)) * 4, none⟩) (X.length - (j + ((offH n z + (b - z - 1)) + 1))) (cap - (j + ((offH n z + (b - z - 1)) + 1))), .int .i64 ((X.getD ((j + (offH n z + (b - z - 1)))) tz).a)] 62, own 77 4 (.slice ((some ⟨g, 0, none⟩)) X.length cap) X.length (tokv X), pt ib #[.int .i64 kd, .int .i64 ((n : Int)), .int .i64 0, .slice none 0 0, .slice none 0 0, .slice ((some ⟨gb1, 0, none⟩)) n n] 25, own 22 1 (.slice ((some ⟨gb1, 0, none⟩)) n n) n ((rs.map orV))] _ := hM
    refine Ends.drawn (Mem w (feet [pt rb #[.slice (some ⟨g, j * 4, none⟩) (X.length - j) (cap - j), .int .i64 at0] 62, own 77 4 (.slice ((some ⟨g, 0, none⟩)) X.length cap) X.length (tokv X), pt ib #[.int .i64 kd, .int .i64 ((n : Int)), .int .i64 0, .slice none 0 0, .slice none 0 0, .slice none 0 0] 25]) [own 3 1 (.slice ((some ⟨ga, 0, none⟩)) Ya.length ca) Ya.length (Ya.map (Value.int .i64)), own 3 1 (.slice ((some ⟨gB, 0, none⟩)) Yb.length cb) Yb.length (Yb.map (Value.int .i64)), pt rb #[.slice (some ⟨g, (j + ((offH n z + (b - z - 1)) + 1)) * 4, none⟩) (X.length - (j + ((offH n z + (b - z - 1)) + 1))) (cap - (j + ((offH n z + (b - z - 1)) + 1))), .int .i64 ((X.getD ((j + (offH n z + (b - z - 1)))) tz).a)] 62, own 77 4 (.slice ((some ⟨g, 0, none⟩)) X.length cap) X.length (tokv X), pt ib #[.int .i64 kd, .int .i64 ((n : Int)), .int .i64 0, .slice none 0 0, .slice none 0 0, .slice ((some ⟨gb1, 0, none⟩)) n n] 25, own 22 1 (.slice ((some ⟨gb1, 0, none⟩)) n n) n ((rs.map orV))]) (.cons (0, true) (.cons (1, true) (.cons (2, true) (.cons (3, true) (.cons (4, true) (.cons (5, true) (.cons (6, true) (.cons (7, true) (.cons (8, true) (.cons (9, true) (.cons (10, true) (.cons (11, true) (.cons (12, true) (.cons (13, true) (.cons (14, true) (.cons (15, true) (.cons (16, true) (.cons (17, true) (.cons (18, true) (.cons (19, false) (.cons (20, true) (.cons (21, false) .nil)))))))))))))))))))))) 19 mixed (by kernel_rfl) (by kernel_rfl) (by kernel_rfl) (hM.drop 1).drew ?_
    replace hM := hM.drew
    refine D.valF hA rfl (fun _ => R.move rfl) rfl ?_; clear hA a; intro a hA
    refine D.valF hA rfl (fun _ => R.nilCheck rfl) rfl ?_; clear hA a; intro a hA
    refine D.valF hA rfl (fun _ => R.fieldAddr (q := 5) fi25_5 rfl rfl rfl) rfl ?_; clear hA a; intro a hA
    refine D.val hA rfl (by kernel_rfl) (fun _ hM => R.load sz23 rfl (hM.cell (k := 4) rfl rfl)) rfl ?_; clear hA a; intro a hA
    refine D.valF hA rfl (fun _ => R.move rfl) rfl ?_; clear hA a; intro a hA
    refine D.valF hA rfl (fun _ => R.indexAddr (q := z) sl23 rfl rfl (by omega) (by omega)) rfl ?_; clear hA a; intro a hA
    refine D.val hA rfl (by kernel_rfl) (fun _ hM => R.load sz22 rfl (hM.ownCell (k := 5) rfl (orV_of hxa))) rfl ?_; clear hA a; intro a hA
    refine D.valF hA rfl (fun _ => R.move rfl) rfl ?_; clear hA a; intro a hA
    refine D.valF hA rfl (fun _ => R.move rfl) rfl ?_; clear hA a; intro a hA
    refine D.valF hA rfl (fun _ => R.nilCheck rfl) rfl ?_; clear hA a; intro a hA
    refine D.valF hA rfl (fun _ => R.fieldAddr (q := 5) fi25_5 rfl rfl rfl) rfl ?_; clear hA a; intro a hA
    refine D.val hA rfl (by kernel_rfl) (fun _ hM => R.load sz23 rfl (hM.cell (k := 4) rfl rfl)) rfl ?_; clear hA a; intro a hA
    refine D.valF hA rfl (fun _ => R.move rfl) rfl ?_; clear hA a; intro a hA
    refine D.valF hA rfl (fun _ => R.indexAddr (q := b) sl23 rfl rfl (by omega) (by omega)) rfl ?_; clear hA a; intro a hA
    refine D.val hA rfl (by kernel_rfl) (fun _ hM => R.load sz22 rfl (hM.ownCell (k := 5) rfl (orV_of hxb))) rfl ?_; clear hA a; intro a hA
    refine D.valF hA rfl (fun _ => R.move rfl) rfl ?_; clear hA a; intro a hA
    refine D.valF hA rfl (fun _ => R.move rfl) rfl ?_; clear hA a; intro a hA
    refine D.valF hA rfl (fun _ => R.move rfl) rfl ?_; clear hA a; intro a hA
    refine D.valF hA rfl (fun _ => R.indexAddr (q := b) sl22 rfl rfl (by omega) (by omega)) rfl ?_; clear hA a; intro a hA
    refine D.storeO (k := 0) hA hM rfl sz3 rfl rfl rfl rfl (mapi_get Ya b (by first | omega | (simp only [List.length_set]; omega) | (simp; done))) ?_; clear hM; intro w6 hM; rw [mapi_set] at hM
    refine ⟨fun _ hne => absurd rfl hne, ?_⟩
    replace hM : Mem _ _ [own 3 1 (.slice ((some ⟨ga, 0, none⟩)) Ya.length ca) Ya.length (((Ya.set b ((numN (X.getD ((j + (offH n z + (b - z - 1)))) tz) 2147483647)))).map (Value.int .i64)), bundle (((rs.eraseIdx b).eraseIdx z).map (orC 3)), own 3 1 (.slice ((some ⟨gB, 0, none⟩)) Yb.length cb) Yb.length (Yb.map (Value.int .i64)), pt rb #[.slice (some ⟨g, (j + ((offH n z + (b - z - 1)) + 1)) * 4, none⟩) (X.length - (j + ((offH n z + (b - z - 1)) + 1))) (cap - (j + ((offH n z + (b - z - 1)) + 1))), .int .i64 ((X.getD ((j + (offH n z + (b - z - 1)))) tz).a)] 62, own 77 4 (.slice ((some ⟨g, 0, none⟩)) X.length cap) X.length (tokv X), pt ib #[.int .i64 kd, .int .i64 ((n : Int)), .int .i64 0, .slice none 0 0, .slice none 0 0, .slice ((some ⟨gb1, 0, none⟩)) n n] 25, own 22 1 (.slice ((some ⟨gb1, 0, none⟩)) n n) n ((rs.map orV))] _ := hM
    refine D.valF hA rfl (fun _ => R.indexAddr (q := z) sl22 rfl rfl (by omega) (by omega)) rfl ?_; clear hA a; intro a hA
    refine D.storeO (k := 2) hA hM rfl sz3 rfl rfl rfl rfl (mapi_get Yb z (by first | omega | (simp only [List.length_set]; omega) | (simp; done))) ?_; clear hM; intro w7 hM; rw [mapi_set] at hM
    refine ⟨fun hb0 => absurd hb0 (by decide), ?_⟩
    replace hM : Mem _ _ [own 3 1 (.slice ((some ⟨ga, 0, none⟩)) Ya.length ca) Ya.length (((Ya.set b ((numN (X.getD ((j + (offH n z + (b - z - 1)))) tz) 2147483647)))).map (Value.int .i64)), bundle (((rs.eraseIdx b).eraseIdx z).map (orC 3)), own 3 1 (.slice ((some ⟨gB, 0, none⟩)) Yb.length cb) Yb.length (((Yb.set z ((numN (X.getD ((j + (offH n z + (b - z - 1)))) tz) 2147483647)))).map (Value.int .i64)), pt rb #[.slice (some ⟨g, (j + ((offH n z + (b - z - 1)) + 1)) * 4, none⟩) (X.length - (j + ((offH n z + (b - z - 1)) + 1))) (cap - (j + ((offH n z + (b - z - 1)) + 1))), .int .i64 ((X.getD ((j + (offH n z + (b - z - 1)))) tz).a)] 62, own 77 4 (.slice ((some ⟨g, 0, none⟩)) X.length cap) X.length (tokv X), pt ib #[.int .i64 kd, .int .i64 ((n : Int)), .int .i64 0, .slice none 0 0, .slice none 0 0, .slice ((some ⟨gb1, 0, none⟩)) n n] 25, own 22 1 (.slice ((some ⟨gb1, 0, none⟩)) n n) n ((rs.map orV))] _ := hM
    refine D.done ?_
    have hsa : ((Ya.set b ((numN (X.getD ((j + (offH n z + (b - z - 1)))) tz) 2147483647)))).length = Ya.length := List.length_set
    have hsb : ((Yb.set z ((numN (X.getD ((j + (offH n z + (b - z - 1)))) tz) 2147483647)))).length = Yb.length := List.length_set
    rw [← hsa, ← hsb] at hM
    replace hM := Mem.closeB (f := orC 3) (y := (⟨(Ya.set b ((numN (X.getD ((j + (offH n z + (b - z - 1)))) tz) 2147483647))), (some ⟨ga, 0, none⟩), ca⟩ : OwR)) hM hxa2
    rw [show (rs.eraseIdx b).set z (⟨(Ya.set b ((numN (X.getD ((j + (offH n z + (b - z - 1)))) tz) 2147483647))), (some ⟨ga, 0, none⟩), ca⟩ : OwR) = (rs.set z (⟨(Ya.set b ((numN (X.getD ((j + (offH n z + (b - z - 1)))) tz) 2147483647))), (some ⟨ga, 0, none⟩), ca⟩ : OwR)).eraseIdx b from (List.eraseIdx_set_gt hzb).symm] at hM
    replace hM := hM.front (k := 1) rfl
    have hxb3 : (rs.set z (⟨(Ya.set b ((numN (X.getD ((j + (offH n z + (b - z - 1)))) tz) 2147483647))), (some ⟨ga, 0, none⟩), ca⟩ : OwR))[b]? = some ⟨Yb, some ⟨gB, 0, none⟩, cb⟩ := by rw [List.getElem?_set_ne (by omega)]; exact hxb
    replace hM := Mem.closeB (f := orC 3) (y := (⟨(Yb.set z ((numN (X.getD ((j + (offH n z + (b - z - 1)))) tz) 2147483647))), (some ⟨gB, 0, none⟩), cb⟩ : OwR)) hM hxb3
    rw [← setV hxa (u := (⟨(Ya.set b ((numN (X.getD ((j + (offH n z + (b - z - 1)))) tz) 2147483647))), (some ⟨ga, 0, none⟩), ca⟩ : OwR)) (by show Value.slice _ _ _ = Value.slice _ _ _; rw [hsa]), ← setV hxb3 (u := (⟨(Yb.set z ((numN (X.getD ((j + (offH n z + (b - z - 1)))) tz) 2147483647))), (some ⟨gB, 0, none⟩), cb⟩ : OwR)) (by show Value.slice _ _ _ = Value.slice _ _ _; rw [hsb])] at hM
    replace hM : Mem _ _ [bundle (((rs.set z (⟨(Ya.set b ((numN (X.getD ((j + (offH n z + (b - z - 1)))) tz) 2147483647))), (some ⟨ga, 0, none⟩), ca⟩ : OwR)).set b (⟨(Yb.set z ((numN (X.getD ((j + (offH n z + (b - z - 1)))) tz) 2147483647))), (some ⟨gB, 0, none⟩), cb⟩ : OwR)).map (orC 3)), pt rb #[.slice (some ⟨g, (j + ((offH n z + (b - z - 1)) + 1)) * 4, none⟩) (X.length - (j + ((offH n z + (b - z - 1)) + 1))) (cap - (j + ((offH n z + (b - z - 1)) + 1))), .int .i64 ((X.getD ((j + (offH n z + (b - z - 1)))) tz).a)] 62, own 77 4 (.slice ((some ⟨g, 0, none⟩)) X.length cap) X.length (tokv X), pt ib #[.int .i64 kd, .int .i64 ((n : Int)), .int .i64 0, .slice none 0 0, .slice none 0 0, .slice ((some ⟨gb1, 0, none⟩)) n n] 25, own 22 1 (.slice ((some ⟨gb1, 0, none⟩)) n n) n ((((rs.set z (⟨(Ya.set b ((numN (X.getD ((j + (offH n z + (b - z - 1)))) tz) 2147483647))), (some ⟨ga, 0, none⟩), ca⟩ : OwR)).set b (⟨(Yb.set z ((numN (X.getD ((j + (offH n z + (b - z - 1)))) tz) 2147483647))), (some ⟨gB, 0, none⟩), cb⟩ : OwR)).map orV))] _ := hM
    replace hM := hM.front (k := 4) rfl
    replace hM := hM.front (k := 4) rfl
    replace hM := hM.front (k := 4) rfl
    replace hM := hM.front (k := 4) rfl
    replace hM : Mem _ _ [pt rb #[.slice (some ⟨g, (j + ((offH n z + (b - z - 1)) + 1)) * 4, none⟩) (X.length - (j + ((offH n z + (b - z - 1)) + 1))) (cap - (j + ((offH n z + (b - z - 1)) + 1))), .int .i64 ((X.getD ((j + (offH n z + (b - z - 1)))) tz).a)] 62, own 77 4 (.slice ((some ⟨g, 0, none⟩)) X.length cap) X.length (tokv X), pt ib #[.int .i64 kd, .int .i64 ((n : Int)), .int .i64 0, .slice none 0 0, .slice none 0 0, .slice ((some ⟨gb1, 0, none⟩)) n n] 25, own 22 1 (.slice ((some ⟨gb1, 0, none⟩)) n n) n ((((rs.set z (⟨(Ya.set b ((numN (X.getD ((j + (offH n z + (b - z - 1)))) tz) 2147483647))), (some ⟨ga, 0, none⟩), ca⟩ : OwR)).set b (⟨(Yb.set z ((numN (X.getD ((j + (offH n z + (b - z - 1)))) tz) 2147483647))), (some ⟨gB, 0, none⟩), cb⟩ : OwR)).map orV)), bundle (((rs.set z (⟨(Ya.set b ((numN (X.getD ((j + (offH n z + (b - z - 1)))) tz) 2147483647))), (some ⟨ga, 0, none⟩), ca⟩ : OwR)).set b (⟨(Yb.set z ((numN (X.getD ((j + (offH n z + (b - z - 1)))) tz) 2147483647))), (some ⟨gB, 0, none⟩), cb⟩ : OwR)).map (orC 3))] _ := hM
    have hv9 : (numN (X.getD (j + (offH n z + (b - z - 1))) tz) 2147483647) = vl X j (hxI n z b) := by rw [(numN_eq hrn).1, hqe]; rfl
    have hY3 : ((rs.set z (⟨(Ya.set b ((numN (X.getD ((j + (offH n z + (b - z - 1)))) tz) 2147483647))), (some ⟨ga, 0, none⟩), ca⟩ : OwR)).set b (⟨(Yb.set z ((numN (X.getD ((j + (offH n z + (b - z - 1)))) tz) 2147483647))), (some ⟨gB, 0, none⟩), cb⟩ : OwR)).map (·.Y) = mat n (hfQ X j n (offH n z + ((b + 1) - z - 1))) := by
     have h1 := rows_setCell (a := z) (b := b) (x := (numN (X.getD (j + (offH n z + (b - z - 1))) tz) 2147483647)) (u := (⟨(Ya.set b ((numN (X.getD ((j + (offH n z + (b - z - 1)))) tz) 2147483647))), (some ⟨ga, 0, none⟩), ca⟩ : OwR)) hYb (by rw [← hYa1])
     have h2 := rows_setCell (a := b) (b := z) (x := (numN (X.getD (j + (offH n z + (b - z - 1))) tz) 2147483647)) (u := (⟨(Yb.set z ((numN (X.getD ((j + (offH n z + (b - z - 1)))) tz) 2147483647))), (some ⟨gB, 0, none⟩), cb⟩ : OwR)) h1 (by rw [hYb1]; refine congrArg (fun l => List.set l z _) (List.map_congr_left fun c _ => ?_); rw [if_neg (by omega)])
     refine h2.trans ?_
     rw [hv9, ← hqe, hfQ_step hzb hbn, hqe, hq2]
    replace hA : St 63 [(0, _), (1, _), (5, _), (6, _), (20, _), (21, _)] a := hA.sub ((.cons rfl (.cons rfl (.cons rfl (.cons rfl (.cons rfl (.cons rfl .nil)))))))
    refine Ends.inBlock (Ends.region ?_)
    refine S.val hA (R.move rfl) rfl ?_; clear hA a; intro a hA
    refine S.val hA (R.addI rfl rfl (r := ((b + 1 : Nat) : Int)) (by omega) (by omega)) rfl ?_; clear hA a; intro a hA
    refine S.val hA (R.assign rfl) rfl ?_; clear hA a; intro a hA
    refine S.done ?_
    rw [hq2] at hM
    exact hNext1 ((b + 1, ((rs.set z (⟨(Ya.set b ((numN (X.getD ((j + (offH n z + (b - z - 1)))) tz) 2147483647))), (some ⟨ga, 0, none⟩), ca⟩ : OwR)).set b (⟨(Yb.set z ((numN (X.getD ((j + (offH n z + (b - z - 1)))) tz) 2147483647))), (some ⟨gB, 0, none⟩), cb⟩ : OwR)), (X.getD ((j + (offH n z + (b - z - 1)))) tz).a)) _ _ ((by show n - (b + 1) < n - b; omega)) ⟨hA.sub ((.cons rfl (.cons rfl (.cons rfl (.cons rfl (.cons rfl (.cons rfl .nil))))))), hM, (by omega), (by omega), hY3, (by omega), (by rw [← hq2]; exact hall2)⟩
  ·
   have hbn : b = n := by omega
   refine Ends.exit rfl ?_
   refine Ends.inBlock (Ends.region ?_)
   refine S.val hA (R.addI rfl rfl (r := ((z : Int)) + 1) rfl (by omega)) rfl ?_; clear hA a; intro a hA
   refine S.val hA (R.move rfl) rfl ?_; clear hA a; intro a hA
   refine S.done ?_
   replace hA : St 63 [(0, _), (1, _), (20, _), (21, _)] a := hA.sub ((.cons rfl (.cons rfl (.cons rfl (.cons rfl .nil)))))
   have hq1 : offH n z + (b - z - 1) = offH n (z + 1) := by show _ = offH n z + (n - 1 - z); omega
   rw [hq1] at hM hYb hjb hallb
   exact hNext ((z + 1, rs, at2)) _ _ ((by show n - (z + 1) < n - z; omega)) ⟨hA.sub ((.cons rfl (.cons rfl (.cons rfl (.cons rfl .nil))))), hM, (by omega), hYb, hjb, hallb⟩
 ·
  refine Ends.exit rfl ?_
  replace hA : St 63 [] a := hA.sub (.nil)
  refine Ends.seq (Ends.region ?_)
  refine S.val hA (R.assign rfl) rfl ?_; clear hA a; intro a hA
  refine S.done ?_
  refine Ends.ret1 Tryd.func82 Tryd.results82 hA rfl ?_
  have hzn : z = n := by omega
  rw [hzn] at hM hYs halla
  have e1 := nuR_ok (m := hlf n) halla
  have hY4 := hYs.trans (hfQ_all X j n)
  exact ⟨by rw [e1], .inr ⟨by rw [e1], _, _, rs, hY4, by rw [e1]; exact hM⟩⟩
end Go.Proofs.YtakfcekfmdjklaaDoor
namespace Go.Proofs.YtakfcekfmdjklaaDoor
open Go.RowKit
theorem takeR_succ (R : List (List Int)) (k : Nat) (h : k < R.length) : R.take (k + 1) = R.take k ++ [R.getD k []] := by
  rw [List.take_succ_eq_append_getElem h, List.getD_eq_getElem?_getD, List.getElem?_eq_getElem h]; rfl
end Go.Proofs.YtakfcekfmdjklaaDoor
