/-
  ParseLimits, part 2 of 4: what the code computes, and plain laws; no condition beside those that each theorem tells.
-/
import Derived.Test.YtakfcekfmdjklaaDoorParseLimitsA
import Derived.Laws.StructEq
namespace Go.Proofs.YtakfcekfmdjklaaDoor
open Go.RowKit
def U8T (w : World) : Prop := Lib.Utf8Tabs 0 1 w
def OffT (F : Nat → Prop) : Prop := ¬ F 0 ∧ ¬ F 1
theorem cell_lt {w : World} {g i : Nat} {v : Value} (h : w.cell? ⟨g, i, none⟩ = some v) : g < w.heap.size := by
  unfold World.cell? at h
  rcases Nat.lt_or_ge g w.heap.size with q | q
  · exact q
  · simp [Array.getElem?_eq_none q] at h
theorem cell_eq {w w' : World} {g i : Nat} (h : w'.heap[g]? = w.heap[g]?) : w'.cell? ⟨g, i, none⟩ = w.cell? ⟨g, i, none⟩ := by
  unfold World.cell?; simp only [h]
theorem U8T.lt {w : World} (h : U8T w) : 0 < w.heap.size ∧ 1 < w.heap.size := ⟨cell_lt (h.1 0 (by decide)), cell_lt (h.2 0 (by decide)).1⟩
theorem U8T.mem {w0 w : World} {F : Nat → Prop} {L : List Ck} (h : U8T w0) (hM : Mem w0 F L w) (hF : OffT F) : U8T w := by
  have h1 := hM.old _ h.lt.1 hF.1
  have h2 := hM.old _ h.lt.2 hF.2
  exact ⟨fun c hc => by rw [cell_eq h1]; exact h.1 c hc, fun i hi => by rw [cell_eq h2, cell_eq h2]; exact h.2 i hi⟩
theorem OffT.nof : OffT nof := ⟨fun h => h, fun h => h⟩
theorem OffT.feet {w0 w : World} {F : Nat → Prop} {L : List Ck} (h : U8T w0) (hM : Mem w0 F L w) (hF : OffT F) : OffT (feet L) :=
  ⟨fun ⟨c, hc, hb⟩ => hF.1 ((hM.inb c hc _ hb).2 h.lt.1), fun ⟨c, hc, hb⟩ => hF.2 ((hM.inb c hc _ hb).2 h.lt.2)⟩
theorem OffT.feetN {w0 w : World} {F : Nat → Prop} {L : List Ck} (h : U8T w0) (hM : Mem w0 F L w) (hF : OffT F) (n : Nat) : OffT (Go.Proofs.YtakfcekfmdjklaaDoor.feet (L.take n)) := OffT.feet h (hM.firstN n) hF
theorem kb_ext {s : ByteArray} {p q : Nat} (h : p ≤ s.size) : kb (s.extract p s.size) q = kb s (p + q) := by
  have hs : (s.extract p s.size).size = s.size - p := size_ext (Nat.le_refl _)
  unfold kb
  by_cases hq : p + q < s.size
  · rw [if_pos (by omega), if_pos hq, byt_ext hq (Nat.le_refl _)]
  · rw [if_neg (by omega), if_neg hq]
theorem read_eq (s : ByteArray) (p N D e0 : Int) (hsz : s.size ≤ 4611686018427387904) (hr : readI s p = (N, D, e0)) (w : World) : Calls Tryd.prog 88 #[.string s, .int .i64 p] w fun e w' => e = .returned (.tuple #[.int .i64 N, .int .i64 D, .int .i64 e0]) ∧ Below w.heap.size w w' := by
  have h := read_any s p (Nat.le_trans hsz (by decide)) w
  rwa [hr] at h
set_option maxRecDepth 100000 in
set_option maxHeartbeats 400000 in
theorem lkind_in (s : ByteArray) (p c : Nat) (lv : Value) (h : p < s.size) (w : World) (hp : w.heap[c]? = some (.cells #[.string s, .int .i64 (p : Int), lv] 75 (0, 0))) (htab : U8T w) :
  Calls Tryd.prog 69 #[.pointer (some ⟨c, 0, none⟩)] w fun e w' => e = .returned (.int .i64 (kb s p)) ∧ Below w.heap.size w w' := by
 have hM := Mem.start w
 refine Calls.of_ends (vs := [.pointer (some ⟨c, 0, none⟩)]) Tryd.func69 rfl Tryd.ntmps69 rfl ?_
 intro a hA
 replace hA : St 30 [(0, _)] a := hA
 refine Ends.seq (Ends.region ?_)
 refine S.val hA (R.assign rfl) rfl ?_; clear hA a; intro a hA
 refine S.done ?_
 refine Ends.seq (Ends.seq ?_)
 refine Ends.drawn (Mem w nof []) (.cons (0, true) (.cons (1, true) (.cons (2, true) (.cons (3, true) (.cons (4, true) (.cons (5, true) (.cons (6, true) (.cons (7, true) (.cons (8, true) (.cons (9, true) .nil)))))))))) 10 mixed (by kernel_rfl) (by kernel_rfl) (by kernel_rfl) hM.drew ?_
 replace hM := hM.drew
 refine D.valF hA rfl (fun _ => R.move rfl) rfl ?_; clear hA a; intro a hA
 refine D.valF hA rfl (fun _ => R.nilCheck rfl) rfl ?_; clear hA a; intro a hA
 refine D.valF hA rfl (fun _ => R.fieldAddr (q := 1) fi75_1 rfl rfl rfl) rfl ?_; clear hA a; intro a hA
 refine D.val hA rfl (by kernel_rfl) (fun _ hM => R.load sz3 rfl (hM.cellB hp rfl)) rfl ?_; clear hA a; intro a hA
 refine D.valF hA rfl (fun _ => R.move rfl) rfl ?_; clear hA a; intro a hA
 refine D.valF hA rfl (fun _ => R.nilCheck rfl) rfl ?_; clear hA a; intro a hA
 refine D.valF hA rfl (fun _ => R.fieldAddr (q := 0) fi75_0 rfl rfl rfl) rfl ?_; clear hA a; intro a hA
 refine D.val hA rfl (by kernel_rfl) (fun _ hM => R.load sz9 rfl (hM.cellB hp rfl)) rfl ?_; clear hA a; intro a hA
 refine D.valF hA rfl (fun _ => R.lenStr Tryd.underlying9 rfl rfl) rfl ?_; clear hA a; intro a hA
 refine D.valF hA rfl (fun _ => R.ff (R.geq rfl rfl) (by omega)) rfl ?_; clear hA a; intro a hA
 refine D.done ?_
 replace hA : St 30 [(0, _), (14, _)] a := hA.sub ((.cons rfl (.cons rfl .nil)))
 refine Ends.condF hA rfl ?_
 refine Ends.skip (Ends.seq ?_)
 refine Ends.drawn (Mem w nof []) (.cons (0, true) (.cons (1, true) (.cons (2, true) (.cons (3, true) (.cons (4, true) (.cons (5, true) (.cons (6, true) (.cons (7, true) (.cons (8, true) (.cons (9, false) (.cons (10, true) (.cons (11, true) (.cons (12, true) (.cons (13, true) (.cons (14, true) .nil))))))))))))))) 15 mixed (by kernel_rfl) (by kernel_rfl) (by kernel_rfl) hM.drew ?_
 replace hM := hM.drew
 refine D.valF hA rfl (fun _ => R.move rfl) rfl ?_; clear hA a; intro a hA
 refine D.valF hA rfl (fun _ => R.nilCheck rfl) rfl ?_; clear hA a; intro a hA
 refine D.valF hA rfl (fun _ => R.fieldAddr (q := 0) fi75_0 rfl rfl rfl) rfl ?_; clear hA a; intro a hA
 refine D.val hA rfl (by kernel_rfl) (fun _ hM => R.load sz9 rfl (hM.cellB hp rfl)) rfl ?_; clear hA a; intro a hA
 refine D.valF hA rfl (fun _ => R.move rfl) rfl ?_; clear hA a; intro a hA
 refine D.valF hA rfl (fun _ => R.nilCheck rfl) rfl ?_; clear hA a; intro a hA
 refine D.valF hA rfl (fun _ => R.fieldAddr (q := 1) fi75_1 rfl rfl rfl) rfl ?_; clear hA a; intro a hA
 refine D.val hA rfl (by kernel_rfl) (fun _ hM => R.load sz3 rfl (hM.cellB hp rfl)) rfl ?_; clear hA a; intro a hA
 refine D.valF hA rfl (fun _ => R.to (v := .string ((s.extract p s.size))) (R.sliceSL Tryd.underlying9 rfl rfl (by omega)) (by first | rfl | (congr 2; done) | (congr 2 <;> omega))) rfl ?_; clear hA a; intro a hA
 refine D.call hA rfl (R.callF Tryd.func85 rfl rfl rfl) rfl (Tryd.utf8_DecodeRuneInString ((s.extract p s.size)) _ (htab.mem hM OffT.nof)) ?_; clear hA a
 rintro e w1 ⟨rfl, hb⟩
 replace hM := hM.callB hb; clear hb
 refine ⟨.tuple #[.int .i32 (((Lib.decodeGo ((s.extract p s.size))).1 : Int)), .int .i64 (((Lib.decodeGo ((s.extract p s.size))).2 : Int))], rfl, hM, fun a hA => ?_⟩
 refine D.valF hA rfl (fun _ => R.move rfl) rfl ?_; clear hA a; intro a hA
 refine D.valF hA rfl (fun _ => R.extract (v := .int .i32 (((Lib.decodeGo ((s.extract p s.size))).1 : Int))) rfl rfl) rfl ?_; clear hA a; intro a hA
 refine D.valF hA rfl (fun _ => R.extract (v := .int .i64 (((Lib.decodeGo ((s.extract p s.size))).2 : Int))) rfl rfl) rfl ?_; clear hA a; intro a hA
 refine D.valF hA rfl (fun _ => R.assign rfl) rfl ?_; clear hA a; intro a hA
 refine D.valF hA rfl (fun _ => R.assign rfl) rfl ?_; clear hA a; intro a hA
 refine D.done ?_
 replace hA : St 30 [(3, _)] a := hA.sub ((.cons rfl .nil))
 refine Ends.seq (Ends.region ?_)
 refine S.val hA (R.move rfl) rfl ?_; clear hA a; intro a hA
 refine S.call hA (R.callF Tryd.func86 rfl rfl rfl) rfl (kind_any (((Lib.decodeGo ((s.extract p s.size))).1 : Int)) _) ?_; clear hA a
 rintro e w2 ⟨rfl, hb⟩
 replace hM := hM.callB hb; clear hb
 refine ⟨.int .i64 (kindI (((Lib.decodeGo ((s.extract p s.size))).1 : Int))), rfl, fun a hA => ?_⟩
 refine S.val hA (R.assign rfl) rfl ?_; clear hA a; intro a hA
 refine S.done ?_
 refine Ends.ret1 Tryd.func69 Tryd.results69 hA rfl ?_
 rw [dgo_kb h]
 exact ⟨rfl, hM.nilL.below⟩
set_option maxRecDepth 100000 in
set_option maxHeartbeats 400000 in
theorem lkind_out (s : ByteArray) (p c : Nat) (lv : Value) (h : ¬ p < s.size) (w : World) (hp : w.heap[c]? = some (.cells #[.string s, .int .i64 (p : Int), lv] 75 (0, 0))) :
    Calls Tryd.prog 69 #[.pointer (some ⟨c, 0, none⟩)] w fun e w' => e = .returned (.int .i64 (kb s p)) ∧ Below w.heap.size w w' := by
  have hM := Mem.start w
  refine Calls.of_ends (vs := [.pointer (some ⟨c, 0, none⟩)]) Tryd.func69 rfl Tryd.ntmps69 rfl ?_
  intro a hA
  replace hA : St 30 [(0, _)] a := hA
  refine Ends.seq (Ends.region ?_)
  refine S.val hA (R.assign rfl) rfl ?_; clear hA a; intro a hA
  refine S.done ?_
  refine Ends.seq (Ends.seq ?_)
  refine Ends.drawn (Mem w nof []) (.cons (0, true) (.cons (1, true) (.cons (2, true) (.cons (3, true) (.cons (4, true) (.cons (5, true) (.cons (6, true) (.cons (7, true) (.cons (8, true) (.cons (9, true) .nil)))))))))) 10 mixed (by kernel_rfl) (by kernel_rfl) (by kernel_rfl) hM.drew ?_
  replace hM := hM.drew
  refine D.valF hA rfl (fun _ => R.move rfl) rfl ?_; clear hA a; intro a hA
  refine D.valF hA rfl (fun _ => R.nilCheck rfl) rfl ?_; clear hA a; intro a hA
  refine D.valF hA rfl (fun _ => R.fieldAddr (q := 1) fi75_1 rfl rfl rfl) rfl ?_; clear hA a; intro a hA
  refine D.val hA rfl (by kernel_rfl) (fun _ hM => R.load sz3 rfl (hM.cellB hp rfl)) rfl ?_; clear hA a; intro a hA
  refine D.valF hA rfl (fun _ => R.move rfl) rfl ?_; clear hA a; intro a hA
  refine D.valF hA rfl (fun _ => R.nilCheck rfl) rfl ?_; clear hA a; intro a hA
  refine D.valF hA rfl (fun _ => R.fieldAddr (q := 0) fi75_0 rfl rfl rfl) rfl ?_; clear hA a; intro a hA
  refine D.val hA rfl (by kernel_rfl) (fun _ hM => R.load sz9 rfl (hM.cellB hp rfl)) rfl ?_; clear hA a; intro a hA
  refine D.valF hA rfl (fun _ => R.lenStr Tryd.underlying9 rfl rfl) rfl ?_; clear hA a; intro a hA
  refine D.valF hA rfl (fun _ => R.tt (R.geq rfl rfl) (by omega)) rfl ?_; clear hA a; intro a hA
  refine D.done ?_
  replace hA : St 30 [(0, _), (14, _)] a := hA.sub ((.cons rfl (.cons rfl .nil)))
  refine Ends.condT hA rfl ?_
  refine Ends.seq (Ends.region ?_)
  refine S.val hA (R.assign rfl) rfl ?_; clear hA a; intro a hA
  refine S.done ?_
  refine Ends.ret1 Tryd.func69 Tryd.results69 hA rfl ?_
  rw [kb_out h]
  exact ⟨rfl, hM.nilL.below⟩
theorem lkind (s : ByteArray) (p c : Nat) (lv : Value) (w : World) (hp : w.heap[c]? = some (.cells #[.string s, .int .i64 (p : Int), lv] 75 (0, 0))) (htab : U8T w) : Calls Tryd.prog 69 #[.pointer (some ⟨c, 0, none⟩)] w fun e w' => e = .returned (.int .i64 (kb s p)) ∧ Below w.heap.size w w' := by
  by_cases h : p < s.size
  · exact lkind_in s p c lv h w hp htab
  · exact lkind_out s p c lv h w hp
set_option maxRecDepth 100000 in
set_option maxHeartbeats 400000 in
theorem lremark_n (s : ByteArray) (p c : Nat) (v : Option Addr) (cap : Nat) (X : List Tok) (hp : p < s.size) (hX : X.length ≤ 1000000) (hsz : s.size ≤ 1000000) (h : Lib.indexByte (s.extract p s.size).data.toList 10 = -1) (w : World) (hM : Mem w (feet [pt c #[.string s, .int .i64 ((p : Int)), .slice v X.length cap] 75, own 77 4 (.slice v X.length cap) X.length (tokv X)]) [pt c #[.string s, .int .i64 ((p : Int)), .slice v X.length cap] 75, own 77 4 (.slice v X.length cap) X.length (tokv X)] w) (htab : U8T w) (hoff : OffT (feet [pt c #[.string s, .int .i64 ((p : Int)), .slice v X.length cap] 75, own 77 4 (.slice v X.length cap) X.length (tokv X)])) :
  Calls Tryd.prog 70 #[.pointer (some ⟨c, 0, none⟩)] w fun e w' => e = .returned (.tuple #[]) ∧ Mem w (feet [pt c #[.string s, .int .i64 ((p : Int)), .slice v X.length cap] 75, own 77 4 (.slice v X.length cap) X.length (tokv X)]) [pt c #[.string s, .int .i64 ((s.size : Int)), .slice v X.length cap] 75, own 77 4 (.slice v X.length cap) X.length (tokv X)] w' := by
 refine Calls.of_ends (vs := [.pointer (some ⟨c, 0, none⟩)]) Tryd.func70 rfl Tryd.ntmps70 rfl ?_
 intro a hA
 replace hA : St 31 [(0, _)] a := hA
 refine Ends.seq ?_
 refine Ends.drawn (Mem w (feet [pt c #[.string s, .int .i64 ((p : Int)), .slice v X.length cap] 75, own 77 4 (.slice v X.length cap) X.length (tokv X)]) [pt c #[.string s, .int .i64 ((p : Int)), .slice v X.length cap] 75, own 77 4 (.slice v X.length cap) X.length (tokv X)]) (.cons (0, true) (.cons (1, true) (.cons (2, true) (.cons (3, true) (.cons (4, true) (.cons (5, true) (.cons (6, true) (.cons (7, true) (.cons (8, true) (.cons (9, false) (.cons (10, true) .nil))))))))))) 11 mixed (by kernel_rfl) (by kernel_rfl) (by kernel_rfl) hM.drew ?_
 replace hM := hM.drew
 refine D.valF hA rfl (fun _ => R.move rfl) rfl ?_; clear hA a; intro a hA
 refine D.valF hA rfl (fun _ => R.nilCheck rfl) rfl ?_; clear hA a; intro a hA
 refine D.valF hA rfl (fun _ => R.fieldAddr (q := 0) fi75_0 rfl rfl rfl) rfl ?_; clear hA a; intro a hA
 refine D.val hA rfl (by kernel_rfl) (fun _ hM => R.load sz9 rfl (hM.cell (k := 0) rfl rfl)) rfl ?_; clear hA a; intro a hA
 refine D.valF hA rfl (fun _ => R.move rfl) rfl ?_; clear hA a; intro a hA
 refine D.valF hA rfl (fun _ => R.nilCheck rfl) rfl ?_; clear hA a; intro a hA
 refine D.valF hA rfl (fun _ => R.fieldAddr (q := 1) fi75_1 rfl rfl rfl) rfl ?_; clear hA a; intro a hA
 refine D.val hA rfl (by kernel_rfl) (fun _ hM => R.load sz3 rfl (hM.cell (k := 0) rfl rfl)) rfl ?_; clear hA a; intro a hA
 refine D.valF hA rfl (fun _ => R.to (v := .string ((s.extract p s.size))) (R.sliceSL Tryd.underlying9 rfl rfl (by omega)) (by first | rfl | (congr 2; done) | (congr 2 <;> omega))) rfl ?_; clear hA a; intro a hA
 refine D.call hA rfl (R.callF Tryd.func87 rfl rfl rfl) rfl ((Tryd.strings_IndexByte ((s.extract p s.size)) 10 _)) ?_; clear hA a
 rintro e w1 ⟨rfl, rfl⟩
 refine ⟨.int .i64 (Lib.indexByte ((s.extract p s.size)).data.toList 10), rfl, hM, fun a hA => ?_⟩
 refine D.valF hA rfl (fun _ => R.assign rfl) rfl ?_; clear hA a; intro a hA
 refine D.done ?_
 replace hA : St 31 [(0, _), (2, _)] a := hA.sub ((.cons rfl (.cons rfl .nil)))
 refine Ends.seq (Ends.seq (Ends.region ?_))
 refine S.val hA (R.move rfl) rfl ?_; clear hA a; intro a hA
 refine S.val hA (R.tt (R.lss rfl rfl) (by rw [h]; decide)) rfl ?_; clear hA a; intro a hA
 refine S.done ?_
 refine Ends.condT hA rfl ?_
 refine Ends.seq (Ends.region ?_)
 refine S.val hA (R.move rfl) rfl ?_; clear hA a; intro a hA
 refine S.val hA (R.move rfl) rfl ?_; clear hA a; intro a hA
 refine S.val hA (R.nilCheck rfl) rfl ?_; clear hA a; intro a hA
 refine S.val hA (R.fieldAddr (q := 0) fi75_0 rfl rfl rfl) rfl ?_; clear hA a; intro a hA
 refine S.val hA (R.load sz9 rfl (hM.cell (k := 0) rfl rfl)) rfl ?_; clear hA a; intro a hA
 refine S.val hA (R.lenStr Tryd.underlying9 rfl rfl) rfl ?_; clear hA a; intro a hA
 refine S.val hA (R.nilCheck rfl) rfl ?_; clear hA a; intro a hA
 refine S.val hA (R.fieldAddr (q := 1) fi75_1 rfl rfl rfl) rfl ?_; clear hA a; intro a hA
 refine S.store (k := 0) hA hM sz3 rfl rfl rfl rfl rfl ?_; clear hM
 intro w2 hM
 replace hM : Mem _ _ [pt c #[.string s, .int .i64 ((s.size : Int)), .slice v X.length cap] 75, own 77 4 (.slice v X.length cap) X.length (tokv X)] _ := hM
 refine S.done ?_
 replace hA : St 31 [(0, _), (2, _)] a := hA.sub ((.cons rfl (.cons rfl .nil)))
 refine Ends.ret0 Tryd.func70 Tryd.results70 hA ?_
 replace hM := hM.firstN 2
 replace hM : Mem _ _ [pt c #[.string s, .int .i64 ((s.size : Int)), .slice v X.length cap] 75, own 77 4 (.slice v X.length cap) X.length (tokv X)] _ := hM
 exact ⟨rfl, hM⟩
set_option maxRecDepth 100000 in
set_option maxHeartbeats 400000 in
theorem lremark_s (s : ByteArray) (p c : Nat) (v : Option Addr) (cap : Nat) (X : List Tok) (hp : p < s.size) (hX : X.length ≤ 1000000) (hsz : s.size ≤ 1000000) (h : Lib.indexByte (s.extract p s.size).data.toList 10 = (eol s p : Int)) (w : World) (hM : Mem w (feet [pt c #[.string s, .int .i64 ((p : Int)), .slice v X.length cap] 75, own 77 4 (.slice v X.length cap) X.length (tokv X)]) [pt c #[.string s, .int .i64 ((p : Int)), .slice v X.length cap] 75, own 77 4 (.slice v X.length cap) X.length (tokv X)] w) (htab : U8T w) (hoff : OffT (feet [pt c #[.string s, .int .i64 ((p : Int)), .slice v X.length cap] 75, own 77 4 (.slice v X.length cap) X.length (tokv X)])) :
  Calls Tryd.prog 70 #[.pointer (some ⟨c, 0, none⟩)] w fun e w' => e = .returned (.tuple #[]) ∧ Mem w (feet [pt c #[.string s, .int .i64 ((p : Int)), .slice v X.length cap] 75, own 77 4 (.slice v X.length cap) X.length (tokv X)]) [pt c #[.string s, .int .i64 (((p + eol s p : Nat) : Int)), .slice v X.length cap] 75, own 77 4 (.slice v X.length cap) X.length (tokv X)] w' := by
 refine Calls.of_ends (vs := [.pointer (some ⟨c, 0, none⟩)]) Tryd.func70 rfl Tryd.ntmps70 rfl ?_
 intro a hA
 replace hA : St 31 [(0, _)] a := hA
 refine Ends.seq ?_
 refine Ends.drawn (Mem w (feet [pt c #[.string s, .int .i64 ((p : Int)), .slice v X.length cap] 75, own 77 4 (.slice v X.length cap) X.length (tokv X)]) [pt c #[.string s, .int .i64 ((p : Int)), .slice v X.length cap] 75, own 77 4 (.slice v X.length cap) X.length (tokv X)]) (.cons (0, true) (.cons (1, true) (.cons (2, true) (.cons (3, true) (.cons (4, true) (.cons (5, true) (.cons (6, true) (.cons (7, true) (.cons (8, true) (.cons (9, false) (.cons (10, true) .nil))))))))))) 11 mixed (by kernel_rfl) (by kernel_rfl) (by kernel_rfl) hM.drew ?_
 replace hM := hM.drew
 refine D.valF hA rfl (fun _ => R.move rfl) rfl ?_; clear hA a; intro a hA
 refine D.valF hA rfl (fun _ => R.nilCheck rfl) rfl ?_; clear hA a; intro a hA
 refine D.valF hA rfl (fun _ => R.fieldAddr (q := 0) fi75_0 rfl rfl rfl) rfl ?_; clear hA a; intro a hA
 refine D.val hA rfl (by kernel_rfl) (fun _ hM => R.load sz9 rfl (hM.cell (k := 0) rfl rfl)) rfl ?_; clear hA a; intro a hA
 refine D.valF hA rfl (fun _ => R.move rfl) rfl ?_; clear hA a; intro a hA
 refine D.valF hA rfl (fun _ => R.nilCheck rfl) rfl ?_; clear hA a; intro a hA
 refine D.valF hA rfl (fun _ => R.fieldAddr (q := 1) fi75_1 rfl rfl rfl) rfl ?_; clear hA a; intro a hA
 refine D.val hA rfl (by kernel_rfl) (fun _ hM => R.load sz3 rfl (hM.cell (k := 0) rfl rfl)) rfl ?_; clear hA a; intro a hA
 refine D.valF hA rfl (fun _ => R.to (v := .string ((s.extract p s.size))) (R.sliceSL Tryd.underlying9 rfl rfl (by omega)) (by first | rfl | (congr 2; done) | (congr 2 <;> omega))) rfl ?_; clear hA a; intro a hA
 refine D.call hA rfl (R.callF Tryd.func87 rfl rfl rfl) rfl ((Tryd.strings_IndexByte ((s.extract p s.size)) 10 _)) ?_; clear hA a
 rintro e w1 ⟨rfl, rfl⟩
 refine ⟨.int .i64 (Lib.indexByte ((s.extract p s.size)).data.toList 10), rfl, hM, fun a hA => ?_⟩
 refine D.valF hA rfl (fun _ => R.assign rfl) rfl ?_; clear hA a; intro a hA
 refine D.done ?_
 replace hA : St 31 [(0, _), (2, _)] a := hA.sub ((.cons rfl (.cons rfl .nil)))
 refine Ends.seq (Ends.seq (Ends.region ?_))
 refine S.val hA (R.move rfl) rfl ?_; clear hA a; intro a hA
 refine S.val hA (R.ff (R.lss rfl rfl) (by rw [h]; omega)) rfl ?_; clear hA a; intro a hA
 refine S.done ?_
 refine Ends.condF hA rfl ?_
 refine Ends.skip (Ends.region ?_)
 refine S.val hA (R.move rfl) rfl ?_; clear hA a; intro a hA
 refine S.val hA (R.nilCheck rfl) rfl ?_; clear hA a; intro a hA
 refine S.val hA (R.fieldAddr (q := 1) fi75_1 rfl rfl rfl) rfl ?_; clear hA a; intro a hA
 refine S.val hA (R.load sz3 rfl (hM.cell (k := 0) rfl rfl)) rfl ?_; clear hA a; intro a hA
 refine S.val hA (R.move rfl) rfl ?_; clear hA a; intro a hA
 refine S.val hA (R.addI rfl rfl (r := ((p + eol s p : Nat) : Int)) (by omega) (by have := eol_le s (Nat.le_of_lt hp); omega)) rfl ?_; clear hA a; intro a hA
 refine S.val hA (R.nilCheck rfl) rfl ?_; clear hA a; intro a hA
 refine S.val hA (R.fieldAddr (q := 1) fi75_1 rfl rfl rfl) rfl ?_; clear hA a; intro a hA
 refine S.store (k := 0) hA hM sz3 rfl rfl rfl rfl rfl ?_; clear hM
 intro w2 hM
 replace hM : Mem _ _ [pt c #[.string s, .int .i64 (((p + eol s p : Nat) : Int)), .slice v X.length cap] 75, own 77 4 (.slice v X.length cap) X.length (tokv X)] _ := hM
 refine S.done ?_
 replace hA : St 31 [] a := hA.sub (.nil)
 refine Ends.end0 Tryd.func70 Tryd.results70 hA ?_
 replace hM := hM.firstN 2
 replace hM : Mem _ _ [pt c #[.string s, .int .i64 (((p + eol s p : Nat) : Int)), .slice v X.length cap] 75, own 77 4 (.slice v X.length cap) X.length (tokv X)] _ := hM
 exact ⟨rfl, hM⟩
theorem lremark (s : ByteArray) (p c : Nat) (v : Option Addr) (cap : Nat) (X : List Tok) (hp : p < s.size) (hX : X.length ≤ 1000000) (hsz : s.size ≤ 1000000) (w : World) (hM : Mem w (feet [pt c #[.string s, .int .i64 ((p : Int)), .slice v X.length cap] 75, own 77 4 (.slice v X.length cap) X.length (tokv X)]) [pt c #[.string s, .int .i64 ((p : Int)), .slice v X.length cap] 75, own 77 4 (.slice v X.length cap) X.length (tokv X)] w) (htab : U8T w) (hoff : OffT (feet [pt c #[.string s, .int .i64 ((p : Int)), .slice v X.length cap] 75, own 77 4 (.slice v X.length cap) X.length (tokv X)])) : Calls Tryd.prog 70 #[.pointer (some ⟨c, 0, none⟩)] w fun e w' => e = .returned (.tuple #[]) ∧ Mem w (feet [pt c #[.string s, .int .i64 ((p : Int)), .slice v X.length cap] 75, own 77 4 (.slice v X.length cap) X.length (tokv X)]) [pt c #[.string s, .int .i64 (((p + eol s p : Nat) : Int)), .slice v X.length cap] 75, own 77 4 (.slice v X.length cap) X.length (tokv X)] w' := by
  rcases ixb_eol (s := s) (p := p) (Nat.le_of_lt hp) with ⟨h1, h2⟩ | ⟨h1, h2⟩
  · have h := lremark_n s p c v cap X hp hX hsz h1 w hM htab hoff
    rwa [← h2] at h
  · exact lremark_s s p c v cap X hp hX hsz h1 w hM htab hoff
set_option maxRecDepth 100000 in
set_option maxHeartbeats 400000 in
theorem lword_big (s : ByteArray) (p c : Nat) (v : Option Addr) (cap : Nat) (X : List Tok) (hp : p < s.size) (hX : X.length ≤ 1000000) (hsz : s.size ≤ 1000000) (h : 16 < ltrs s p) (w : World) (hM : Mem w (feet [pt c #[.string s, .int .i64 ((p : Int)), .slice v X.length cap] 75, own 77 4 (.slice v X.length cap) X.length (tokv X)]) [pt c #[.string s, .int .i64 ((p : Int)), .slice v X.length cap] 75, own 77 4 (.slice v X.length cap) X.length (tokv X)] w) (htab : U8T w) (hoff : OffT (feet [pt c #[.string s, .int .i64 ((p : Int)), .slice v X.length cap] 75, own 77 4 (.slice v X.length cap) X.length (tokv X)])) :
  Calls Tryd.prog 71 #[.pointer (some ⟨c, 0, none⟩)] w fun e w' => e = .returned (.int .i64 5) ∧ Mem w (feet [pt c #[.string s, .int .i64 ((p : Int)), .slice v X.length cap] 75, own 77 4 (.slice v X.length cap) X.length (tokv X)]) [pt c #[.string s, .int .i64 ((p : Int)), .slice v X.length cap] 75, own 77 4 (.slice v X.length cap) X.length (tokv X)] w' := by
 refine Calls.of_ends (vs := [.pointer (some ⟨c, 0, none⟩)]) Tryd.func71 rfl Tryd.ntmps71 rfl ?_
 intro a hA
 replace hA : St 66 [(0, _)] a := hA
 refine Ends.seq (Ends.region ?_)
 refine S.val hA (R.assign rfl) rfl ?_; clear hA a; intro a hA
 refine S.done ?_
 refine Ends.seq (Ends.region ?_)
 refine S.val hA (R.assign rfl) rfl ?_; clear hA a; intro a hA
 refine S.done ?_
 refine Ends.seq (Ends.seq ?_)
 refine Ends.drawn (Mem w (feet [pt c #[.string s, .int .i64 ((p : Int)), .slice v X.length cap] 75, own 77 4 (.slice v X.length cap) X.length (tokv X)]) [pt c #[.string s, .int .i64 ((p : Int)), .slice v X.length cap] 75, own 77 4 (.slice v X.length cap) X.length (tokv X)]) (.cons (0, true) (.cons (1, true) (.cons (2, true) (.cons (3, true) (.cons (4, true) (.cons (5, true) (.cons (6, true) (.cons (7, true) (.cons (8, true) (.cons (9, false) .nil)))))))))) 10 mixed (by kernel_rfl) (by kernel_rfl) (by kernel_rfl) hM.drew ?_
 replace hM := hM.drew
 refine D.valF hA rfl (fun _ => R.move rfl) rfl ?_; clear hA a; intro a hA
 refine D.valF hA rfl (fun _ => R.nilCheck rfl) rfl ?_; clear hA a; intro a hA
 refine D.valF hA rfl (fun _ => R.fieldAddr (q := 0) fi75_0 rfl rfl rfl) rfl ?_; clear hA a; intro a hA
 refine D.val hA rfl (by kernel_rfl) (fun _ hM => R.load sz9 rfl (hM.cell (k := 0) rfl rfl)) rfl ?_; clear hA a; intro a hA
 refine D.valF hA rfl (fun _ => R.move rfl) rfl ?_; clear hA a; intro a hA
 refine D.valF hA rfl (fun _ => R.nilCheck rfl) rfl ?_; clear hA a; intro a hA
 refine D.valF hA rfl (fun _ => R.fieldAddr (q := 1) fi75_1 rfl rfl rfl) rfl ?_; clear hA a; intro a hA
 refine D.val hA rfl (by kernel_rfl) (fun _ hM => R.load sz3 rfl (hM.cell (k := 0) rfl rfl)) rfl ?_; clear hA a; intro a hA
 refine D.valF hA rfl (fun _ => R.to (v := .string ((s.extract p s.size))) (R.sliceSL Tryd.underlying9 rfl rfl (by omega)) (by first | rfl | (congr 2; done) | (congr 2 <;> omega))) rfl ?_; clear hA a; intro a hA
 refine D.rangeS hA hM rfl Tryd.underlying9 rfl rfl ?_; clear hA hM a; intro b1 w1 hb2 hM
 refine ⟨(hM.drop 0), fun a hA => ?_⟩
 replace hM : Mem _ _ [itC b1 ((s.extract p s.size)) 0, pt c #[.string s, .int .i64 ((p : Int)), .slice v X.length cap] 75, own 77 4 (.slice v X.length cap) X.length (tokv X)] _ := hM
 refine D.done ?_
 replace hA : St 66 [(0, _), (3, _), (15, _)] a := hA.sub ((.cons rfl (.cons rfl (.cons rfl .nil))))
 refine Ends.block ?_
 have hes : (s.extract p s.size).size = s.size - p := size_ext (Nat.le_refl _)
 refine Ends.loop (σ := Nat) (fun q (a : Act) (wv : World) => St 66 [(0, .pointer (some ⟨c, 0, none⟩)), (3, .int .i64 ((q : Int))), (15, .pointer (some ⟨b1, 0, none⟩))] a ∧ Mem w (feet [pt c #[.string s, .int .i64 ((p : Int)), .slice v X.length cap] 75, own 77 4 (.slice v X.length cap) X.length (tokv X)]) [itC b1 ((s.extract p s.size)) q, pt c #[.string s, .int .i64 ((p : Int)), .slice v X.length cap] 75, own 77 4 (.slice v X.length cap) X.length (tokv X)] wv ∧ (p + q ≤ s.size) ∧ (∀ j, j < q → kb s (p + j) = 3)) (fun q => s.size - q) 0 ⟨hA.sub ((.cons rfl (.cons rfl (.cons rfl .nil)))), hM, (by omega), (fun j hj => absurd hj (Nat.not_lt_zero j))⟩ ?_
 clear hA hM a
 rintro q a w2 ⟨hA, hM, hq, hl⟩ hNext
 refine Ends.seq (Ends.region ?_)
 by_cases hp3 : q < ((s.extract p s.size)).size
 ·
  refine S.nextT (k := 0) hA hM rfl rfl hp3 rfl ?_; clear hA hM a; intro w3 hM a hA
  replace hM : Mem _ _ [itC b1 ((s.extract p s.size)) ((q + (Utf8.decode ((s.extract p s.size)) q).2)), pt c #[.string s, .int .i64 ((p : Int)), .slice v X.length cap] 75, own 77 4 (.slice v X.length cap) X.length (tokv X)] _ := hM
  refine S.val hA (R.extract (v := .bool true) rfl rfl) rfl ?_; clear hA a; intro a hA
  refine S.done ?_
  refine Ends.seq ?_
  refine Ends.condT hA rfl ?_
  refine Ends.skip (Ends.block (Ends.seq (Ends.region ?_)))
  refine S.val hA (R.extract (v := .int .i32 (((Utf8.decode ((s.extract p s.size)) q).1 : Int))) rfl rfl) rfl ?_; clear hA a; intro a hA
  refine S.val hA (R.assign rfl) rfl ?_; clear hA a; intro a hA
  refine S.done ?_
  refine Ends.seq (Ends.seq (Ends.region ?_))
  refine S.val hA (R.move rfl) rfl ?_; clear hA a; intro a hA
  refine S.call hA (R.callF Tryd.func86 rfl rfl rfl) rfl (kind_any (((Utf8.decode ((s.extract p s.size)) q).1 : Int)) _) ?_; clear hA a
  rintro e w4 ⟨rfl, hb⟩
  replace hM := hM.callB hb; clear hb
  refine ⟨.int .i64 (kindI (((Utf8.decode ((s.extract p s.size)) q).1 : Int))), rfl, fun a hA => ?_⟩
  refine S.val hA (R.neq rfl rfl) rfl ?_; clear hA a; intro a hA
  refine S.done ?_
  replace hA : St 66 [(0, _), (3, _), (15, _), (21, _)] a := hA.sub ((.cons rfl (.cons rfl (.cons rfl (.cons rfl .nil)))))
  refine Ends.ite hA rfl (fun hc4 => ?_) (fun hc4 => ?_)
  ·
   refine Ends.exit rfl ?_
   refine Ends.seq (Ends.seq ?_)
   have hq4 : kb s (p + q) ≠ 3 := by have h9 := hc4; rw [(dec_kb hp3).1, kb_ext (Nat.le_of_lt hp)] at h9; exact h9
   have hlq : ltrs s p = q := ltrs_uniq hl hq4
   refine Ends.region ?_
   refine S.val hA (R.move rfl) rfl ?_; clear hA a; intro a hA
   refine S.val hA (R.tt (R.gtr rfl rfl) (by omega)) rfl ?_; clear hA a; intro a hA
   refine S.done ?_
   refine Ends.condT hA rfl ?_
   refine Ends.seq (Ends.region ?_)
   refine S.val hA (R.assign rfl) rfl ?_; clear hA a; intro a hA
   refine S.done ?_
   replace hA : St 66 [(0, _), (2, _), (3, _)] a := hA.sub ((.cons rfl (.cons rfl (.cons rfl .nil))))
   refine Ends.ret1 Tryd.func71 Tryd.results71 hA rfl ?_
   replace hM := hM.front (k := 2) rfl
   replace hM := hM.front (k := 2) rfl
   replace hM : Mem _ _ [pt c #[.string s, .int .i64 ((p : Int)), .slice v X.length cap] 75, own 77 4 (.slice v X.length cap) X.length (tokv X), itC b1 ((s.extract p s.size)) ((q + (Utf8.decode ((s.extract p s.size)) q).2))] _ := hM
   replace hM := hM.firstN 2
   replace hM : Mem _ _ [pt c #[.string s, .int .i64 ((p : Int)), .slice v X.length cap] 75, own 77 4 (.slice v X.length cap) X.length (tokv X)] _ := hM
   exact ⟨rfl, hM⟩
  ·
   refine Ends.skip (Ends.region ?_)
   refine S.val hA (R.move rfl) rfl ?_; clear hA a; intro a hA
   refine S.val hA (R.addI rfl rfl (r := ((q : Int)) + 1) rfl (by omega)) rfl ?_; clear hA a; intro a hA
   refine S.val hA (R.assign rfl) rfl ?_; clear hA a; intro a hA
   refine S.done ?_
   refine Ends.inBlock ?_
   have hq3 := Classical.byContradiction hc4
   have hd := dec_kb hp3
   rw [hd.1, kb_ext (Nat.le_of_lt hp)] at hq3
   rw [hd.2 (by rw [kb_ext (Nat.le_of_lt hp), hq3]; decide)] at hM
   exact hNext ((q + 1)) _ _ ((by show s.size - (q + 1) < s.size - q; omega)) ⟨hA.sub ((.cons rfl (.cons rfl (.cons rfl .nil)))), hM, (by omega), (fun j hj => by rcases Nat.lt_or_ge j q with g | g; exact hl j g; have e : j = q := (by omega); exact e ▸ hq3)⟩
 ·
  refine S.val hA (R.nextF (k := 0) hM rfl rfl hp3) rfl ?_; clear hA a; intro a hA
  refine S.val hA (R.extract (v := .bool false) rfl rfl) rfl ?_; clear hA a; intro a hA
  refine S.done ?_
  refine Ends.seq ?_
  refine Ends.condF hA rfl ?_
  refine Ends.exit rfl ?_
  refine Ends.seq (Ends.seq ?_)
  have hq4 : kb s (p + q) ≠ 3 := by rw [kb_out (by omega)]; decide
  have hlq : ltrs s p = q := ltrs_uniq hl hq4
  refine Ends.region ?_
  refine S.val hA (R.move rfl) rfl ?_; clear hA a; intro a hA
  refine S.val hA (R.tt (R.gtr rfl rfl) (by omega)) rfl ?_; clear hA a; intro a hA
  refine S.done ?_
  replace hA : St 66 [(0, _), (3, _), (25, _)] a := hA.sub ((.cons rfl (.cons rfl (.cons rfl .nil))))
  refine Ends.condT hA rfl ?_
  refine Ends.seq (Ends.region ?_)
  refine S.val hA (R.assign rfl) rfl ?_; clear hA a; intro a hA
  refine S.done ?_
  refine Ends.ret1 Tryd.func71 Tryd.results71 hA rfl ?_
  replace hM := hM.front (k := 2) rfl
  replace hM := hM.front (k := 2) rfl
  replace hM : Mem _ _ [pt c #[.string s, .int .i64 ((p : Int)), .slice v X.length cap] 75, own 77 4 (.slice v X.length cap) X.length (tokv X), itC b1 ((s.extract p s.size)) q] _ := hM
  replace hM := hM.firstN 2
  replace hM : Mem _ _ [pt c #[.string s, .int .i64 ((p : Int)), .slice v X.length cap] 75, own 77 4 (.slice v X.length cap) X.length (tokv X)] _ := hM
  exact ⟨rfl, hM⟩
set_option maxRecDepth 100000 in
set_option maxHeartbeats 400000 in
theorem lword_s (s : ByteArray) (p c : Nat) (v : Option Addr) (cap : Nat) (X : List Tok) (hp : p < s.size) (hX : X.length ≤ 1000000) (hsz : s.size ≤ 1000000) (h : ¬ 16 < ltrs s p) (h2 : kb s (p + ltrs s p) = 2) (w : World) (hM : Mem w (feet [pt c #[.string s, .int .i64 ((p : Int)), .slice v X.length cap] 75, own 77 4 (.slice v X.length cap) X.length (tokv X)]) [pt c #[.string s, .int .i64 ((p : Int)), .slice v X.length cap] 75, own 77 4 (.slice v X.length cap) X.length (tokv X)] w) (htab : U8T w) (hoff : OffT (feet [pt c #[.string s, .int .i64 ((p : Int)), .slice v X.length cap] 75, own 77 4 (.slice v X.length cap) X.length (tokv X)])) :
  Calls Tryd.prog 71 #[.pointer (some ⟨c, 0, none⟩)] w fun e w' => ∃ v' cap', e = .returned (.int .i64 2) ∧ Mem w (feet [pt c #[.string s, .int .i64 ((p : Int)), .slice v X.length cap] 75, own 77 4 (.slice v X.length cap) X.length (tokv X)]) [pt c #[.string s, .int .i64 (((p + ltrs s p : Nat) : Int)), .slice v' (((X ++ [(⟨1, s.extract p (p + ltrs s p), 0, p⟩ : Tok)])).length) cap'] 75, own 77 4 (.slice v' (((X ++ [(⟨1, s.extract p (p + ltrs s p), 0, p⟩ : Tok)])).length) cap') (((X ++ [(⟨1, s.extract p (p + ltrs s p), 0, p⟩ : Tok)])).length) (tokv ((X ++ [(⟨1, s.extract p (p + ltrs s p), 0, p⟩ : Tok)])))] w' := by
 refine Calls.of_ends (vs := [.pointer (some ⟨c, 0, none⟩)]) Tryd.func71 rfl Tryd.ntmps71 rfl ?_
 intro a hA
 replace hA : St 66 [(0, _)] a := hA
 refine Ends.seq (Ends.region ?_)
 refine S.val hA (R.assign rfl) rfl ?_; clear hA a; intro a hA
 refine S.done ?_
 refine Ends.seq (Ends.region ?_)
 refine S.val hA (R.assign rfl) rfl ?_; clear hA a; intro a hA
 refine S.done ?_
 refine Ends.seq (Ends.seq ?_)
 refine Ends.drawn (Mem w (feet [pt c #[.string s, .int .i64 ((p : Int)), .slice v X.length cap] 75, own 77 4 (.slice v X.length cap) X.length (tokv X)]) [pt c #[.string s, .int .i64 ((p : Int)), .slice v X.length cap] 75, own 77 4 (.slice v X.length cap) X.length (tokv X)]) (.cons (0, true) (.cons (1, true) (.cons (2, true) (.cons (3, true) (.cons (4, true) (.cons (5, true) (.cons (6, true) (.cons (7, true) (.cons (8, true) (.cons (9, false) .nil)))))))))) 10 mixed (by kernel_rfl) (by kernel_rfl) (by kernel_rfl) hM.drew ?_
 replace hM := hM.drew
 refine D.valF hA rfl (fun _ => R.move rfl) rfl ?_; clear hA a; intro a hA
 refine D.valF hA rfl (fun _ => R.nilCheck rfl) rfl ?_; clear hA a; intro a hA
 refine D.valF hA rfl (fun _ => R.fieldAddr (q := 0) fi75_0 rfl rfl rfl) rfl ?_; clear hA a; intro a hA
 refine D.val hA rfl (by kernel_rfl) (fun _ hM => R.load sz9 rfl (hM.cell (k := 0) rfl rfl)) rfl ?_; clear hA a; intro a hA
 refine D.valF hA rfl (fun _ => R.move rfl) rfl ?_; clear hA a; intro a hA
 refine D.valF hA rfl (fun _ => R.nilCheck rfl) rfl ?_; clear hA a; intro a hA
 refine D.valF hA rfl (fun _ => R.fieldAddr (q := 1) fi75_1 rfl rfl rfl) rfl ?_; clear hA a; intro a hA
 refine D.val hA rfl (by kernel_rfl) (fun _ hM => R.load sz3 rfl (hM.cell (k := 0) rfl rfl)) rfl ?_; clear hA a; intro a hA
 refine D.valF hA rfl (fun _ => R.to (v := .string ((s.extract p s.size))) (R.sliceSL Tryd.underlying9 rfl rfl (by omega)) (by first | rfl | (congr 2; done) | (congr 2 <;> omega))) rfl ?_; clear hA a; intro a hA
 refine D.rangeS hA hM rfl Tryd.underlying9 rfl rfl ?_; clear hA hM a; intro b1 w1 hb2 hM
 refine ⟨(hM.drop 0), fun a hA => ?_⟩
 replace hM : Mem _ _ [itC b1 ((s.extract p s.size)) 0, pt c #[.string s, .int .i64 ((p : Int)), .slice v X.length cap] 75, own 77 4 (.slice v X.length cap) X.length (tokv X)] _ := hM
 refine D.done ?_
 replace hA : St 66 [(0, _), (3, _), (15, _)] a := hA.sub ((.cons rfl (.cons rfl (.cons rfl .nil))))
 refine Ends.block ?_
 have hes : (s.extract p s.size).size = s.size - p := size_ext (Nat.le_refl _)
 refine Ends.loop (σ := Nat) (fun q (a : Act) (wv : World) => St 66 [(0, .pointer (some ⟨c, 0, none⟩)), (3, .int .i64 ((q : Int))), (15, .pointer (some ⟨b1, 0, none⟩))] a ∧ Mem w (feet [pt c #[.string s, .int .i64 ((p : Int)), .slice v X.length cap] 75, own 77 4 (.slice v X.length cap) X.length (tokv X)]) [itC b1 ((s.extract p s.size)) q, pt c #[.string s, .int .i64 ((p : Int)), .slice v X.length cap] 75, own 77 4 (.slice v X.length cap) X.length (tokv X)] wv ∧ (p + q ≤ s.size) ∧ (∀ j, j < q → kb s (p + j) = 3)) (fun q => s.size - q) 0 ⟨hA.sub ((.cons rfl (.cons rfl (.cons rfl .nil)))), hM, (by omega), (fun j hj => absurd hj (Nat.not_lt_zero j))⟩ ?_
 clear hA hM a
 rintro q a w2 ⟨hA, hM, hq, hl⟩ hNext
 refine Ends.seq (Ends.region ?_)
 by_cases hp3 : q < ((s.extract p s.size)).size
 ·
  refine S.nextT (k := 0) hA hM rfl rfl hp3 rfl ?_; clear hA hM a; intro w3 hM a hA
  replace hM : Mem _ _ [itC b1 ((s.extract p s.size)) ((q + (Utf8.decode ((s.extract p s.size)) q).2)), pt c #[.string s, .int .i64 ((p : Int)), .slice v X.length cap] 75, own 77 4 (.slice v X.length cap) X.length (tokv X)] _ := hM
  refine S.val hA (R.extract (v := .bool true) rfl rfl) rfl ?_; clear hA a; intro a hA
  refine S.done ?_
  refine Ends.seq ?_
  refine Ends.condT hA rfl ?_
  refine Ends.skip (Ends.block (Ends.seq (Ends.region ?_)))
  refine S.val hA (R.extract (v := .int .i32 (((Utf8.decode ((s.extract p s.size)) q).1 : Int))) rfl rfl) rfl ?_; clear hA a; intro a hA
  refine S.val hA (R.assign rfl) rfl ?_; clear hA a; intro a hA
  refine S.done ?_
  refine Ends.seq (Ends.seq (Ends.region ?_))
  refine S.val hA (R.move rfl) rfl ?_; clear hA a; intro a hA
  refine S.call hA (R.callF Tryd.func86 rfl rfl rfl) rfl (kind_any (((Utf8.decode ((s.extract p s.size)) q).1 : Int)) _) ?_; clear hA a
  rintro e w4 ⟨rfl, hb⟩
  replace hM := hM.callB hb; clear hb
  refine ⟨.int .i64 (kindI (((Utf8.decode ((s.extract p s.size)) q).1 : Int))), rfl, fun a hA => ?_⟩
  refine S.val hA (R.neq rfl rfl) rfl ?_; clear hA a; intro a hA
  refine S.done ?_
  replace hA : St 66 [(0, _), (3, _), (15, _), (21, _)] a := hA.sub ((.cons rfl (.cons rfl (.cons rfl (.cons rfl .nil)))))
  refine Ends.ite hA rfl (fun hc4 => ?_) (fun hc4 => ?_)
  ·
   refine Ends.exit rfl ?_
   refine Ends.seq (Ends.seq ?_)
   have hq4 : kb s (p + q) ≠ 3 := by have h9 := hc4; rw [(dec_kb hp3).1, kb_ext (Nat.le_of_lt hp)] at h9; exact h9
   have hlq : ltrs s p = q := ltrs_uniq hl hq4
   refine Ends.region ?_
   refine S.val hA (R.move rfl) rfl ?_; clear hA a; intro a hA
   refine S.val hA (R.ff (R.gtr rfl rfl) (by omega)) rfl ?_; clear hA a; intro a hA
   refine S.done ?_
   refine Ends.condF hA rfl ?_
   refine Ends.skip (Ends.seq ?_)
   refine Ends.drawn (Mem w (feet [pt c #[.string s, .int .i64 ((p : Int)), .slice v X.length cap] 75, own 77 4 (.slice v X.length cap) X.length (tokv X)]) [pt c #[.string s, .int .i64 ((p : Int)), .slice v X.length cap] 75]) (.cons (0, true) (.cons (1, true) (.cons (2, true) (.cons (3, true) (.cons (4, true) (.cons (5, true) (.cons (6, true) (.cons (7, true) (.cons (8, true) (.cons (9, true) (.cons (10, true) (.cons (11, true) (.cons (12, true) (.cons (13, true) (.cons (14, true) (.cons (15, true) (.cons (16, true) (.cons (17, true) (.cons (18, true) (.cons (19, true) (.cons (20, true) (.cons (21, true) (.cons (22, true) (.cons (23, true) (.cons (24, true) (.cons (25, false) (.cons (26, false) (.cons (27, true) (.cons (28, true) (.cons (29, false) .nil)))))))))))))))))))))))))))))) 29 mixed (by kernel_rfl) (by kernel_rfl) (by kernel_rfl) ((hM.drop 2).drop 0).drew ?_
   replace hM := hM.drew
   refine D.valF hA rfl (fun _ => R.move rfl) rfl ?_; clear hA a; intro a hA
   refine D.valF hA rfl (fun _ => R.move rfl) rfl ?_; clear hA a; intro a hA
   refine D.valF hA rfl (fun _ => R.nilCheck rfl) rfl ?_; clear hA a; intro a hA
   refine D.valF hA rfl (fun _ => R.fieldAddr (q := 2) fi75_2 rfl rfl rfl) rfl ?_; clear hA a; intro a hA
   refine D.val hA rfl (by kernel_rfl) (fun _ hM => R.load sz48 rfl (hM.cell (k := 0) rfl rfl)) rfl ?_; clear hA a; intro a hA
   refine D.valF hA rfl (fun _ => R.move rfl) rfl ?_; clear hA a; intro a hA
   refine D.valF hA rfl (fun _ => R.nilCheck rfl) rfl ?_; clear hA a; intro a hA
   refine D.valF hA rfl (fun _ => R.fieldAddr (q := 0) fi75_0 rfl rfl rfl) rfl ?_; clear hA a; intro a hA
   refine D.val hA rfl (by kernel_rfl) (fun _ hM => R.load sz9 rfl (hM.cell (k := 0) rfl rfl)) rfl ?_; clear hA a; intro a hA
   refine D.valF hA rfl (fun _ => R.move rfl) rfl ?_; clear hA a; intro a hA
   refine D.valF hA rfl (fun _ => R.nilCheck rfl) rfl ?_; clear hA a; intro a hA
   refine D.valF hA rfl (fun _ => R.fieldAddr (q := 1) fi75_1 rfl rfl rfl) rfl ?_; clear hA a; intro a hA
   refine D.val hA rfl (by kernel_rfl) (fun _ hM => R.load sz3 rfl (hM.cell (k := 0) rfl rfl)) rfl ?_; clear hA a; intro a hA
   refine D.valF hA rfl (fun _ => R.move rfl) rfl ?_; clear hA a; intro a hA
   refine D.valF hA rfl (fun _ => R.nilCheck rfl) rfl ?_; clear hA a; intro a hA
   refine D.valF hA rfl (fun _ => R.fieldAddr (q := 1) fi75_1 rfl rfl rfl) rfl ?_; clear hA a; intro a hA
   refine D.val hA rfl (by kernel_rfl) (fun _ hM => R.load sz3 rfl (hM.cell (k := 0) rfl rfl)) rfl ?_; clear hA a; intro a hA
   refine D.valF hA rfl (fun _ => R.move rfl) rfl ?_; clear hA a; intro a hA
   refine D.valF hA rfl (fun _ => R.addI rfl rfl (r := ((p + q : Nat) : Int)) (by omega) (by omega)) rfl ?_; clear hA a; intro a hA
   refine D.valF hA rfl (fun _ => R.to (v := .string ((s.extract p (p + q)))) (R.sliceSS Tryd.underlying9 rfl rfl rfl (by omega)) (by first | rfl | (congr 2; done) | (congr 2 <;> omega))) rfl ?_; clear hA a; intro a hA
   refine D.valF hA rfl (fun _ => R.move rfl) rfl ?_; clear hA a; intro a hA
   refine D.valF hA rfl (fun _ => R.nilCheck rfl) rfl ?_; clear hA a; intro a hA
   refine D.valF hA rfl (fun _ => R.fieldAddr (q := 1) fi75_1 rfl rfl rfl) rfl ?_; clear hA a; intro a hA
   refine D.val hA rfl (by kernel_rfl) (fun _ hM => R.load sz3 rfl (hM.cell (k := 0) rfl rfl)) rfl ?_; clear hA a; intro a hA
   refine D.valF hA rfl (fun _ => R.build (cells := #[.int .i64 1, .string ((s.extract p (p + q))), .int .i64 0, .int .i64 ((p : Int))]) rfl (by kernel_rfl)) rfl ?_; clear hA a; intro a hA
   refine D.buildSl (cells := #[.int .i64 1, .string ((s.extract p (p + q))), .int .i64 0, .int .i64 ((p : Int))]) hA hM rfl Tryd.underlying48 info77 rfl rfl rfl rfl (by kernel_rfl) rfl ?_; clear hA hM a; intro b5 w5 hb6 hM; refine ⟨(fun hM => ((hM.drop 2).drop 0)) hM.tail, fun a hA => ?_⟩
   replace hM : Mem _ _ [pt b5 #[.int .i64 1, .string ((s.extract p (p + q))), .int .i64 0, .int .i64 ((p : Int))] 77, itC b1 ((s.extract p s.size)) ((q + (Utf8.decode ((s.extract p s.size)) q).2)), pt c #[.string s, .int .i64 ((p : Int)), .slice v X.length cap] 75, own 77 4 (.slice v X.length cap) X.length (tokv X)] _ := hM
   refine D.append (k := 3) (k2 := 0) hA hM rfl rfl rfl Tryd.underlying48 info77 rfl rfl rfl rfl rfl rfl rfl rfl rfl (by first | omega | (show (_ + 1) * 40 ≤ 140737488355328; omega) | (unfold maxLen; omega)) (by first | omega | (show (_ + 1) * 40 ≤ 140737488355328; omega) | (unfold maxLen; omega)) rfl ?_; clear hA hM a; intro a7 c8 w6 hM
   replace hM : Mem _ _ [pt b5 #[.int .i64 1, .string ((s.extract p (p + q))), .int .i64 0, .int .i64 ((p : Int))] 77, itC b1 ((s.extract p s.size)) ((q + (Utf8.decode ((s.extract p s.size)) q).2)), pt c #[.string s, .int .i64 ((p : Int)), .slice v X.length cap] 75, own 77 4 (.slice a7 (X.length + 1) c8) (X.length + 1) (tokv X ++ [.int .i64 1, .string ((s.extract p (p + q))), .int .i64 0, .int .i64 ((p : Int))])] _ := hM
   have hl9 : X.length + 1 = (X ++ [(⟨1, (s.extract p (p + q)), 0, (p : Int)⟩ : Tok)]).length := by simp
   rw [hl9, show tokv X ++ [.int .i64 1, .string ((s.extract p (p + q))), .int .i64 0, .int .i64 ((p : Int))] = tokv (X ++ [(⟨1, (s.extract p (p + q)), 0, (p : Int)⟩ : Tok)]) from tokv_app X (⟨1, (s.extract p (p + q)), 0, (p : Int)⟩ : Tok)] at hM
   replace hM := hM.drop 0
   replace hM : Mem _ _ [itC b1 ((s.extract p s.size)) ((q + (Utf8.decode ((s.extract p s.size)) q).2)), pt c #[.string s, .int .i64 ((p : Int)), .slice v X.length cap] 75, own 77 4 (.slice a7 (((X ++ [(⟨1, (s.extract p (p + q)), 0, (p : Int)⟩ : Tok)])).length) c8) (((X ++ [(⟨1, (s.extract p (p + q)), 0, (p : Int)⟩ : Tok)])).length) (tokv ((X ++ [(⟨1, (s.extract p (p + q)), 0, (p : Int)⟩ : Tok)])))] _ := hM
   refine ⟨((hM.drop 2).drop 0), fun a hA => ?_⟩; rw [hl9] at hA; clear hl9
   refine D.valF hA rfl (fun _ => R.nilCheck rfl) rfl ?_; clear hA a; intro a hA
   refine D.valF hA rfl (fun _ => R.fieldAddr (q := 2) fi75_2 rfl rfl rfl) rfl ?_; clear hA a; intro a hA
   refine D.store (k := 1) hA hM rfl sz48 rfl rfl rfl rfl rfl ?_; clear hM
   intro w7 hM; refine ⟨fun _ hne => absurd rfl hne, ?_⟩
   replace hM : Mem _ _ [itC b1 ((s.extract p s.size)) ((q + (Utf8.decode ((s.extract p s.size)) q).2)), pt c #[.string s, .int .i64 ((p : Int)), .slice a7 (((X ++ [(⟨1, (s.extract p (p + q)), 0, (p : Int)⟩ : Tok)])).length) c8] 75, own 77 4 (.slice a7 (((X ++ [(⟨1, (s.extract p (p + q)), 0, (p : Int)⟩ : Tok)])).length) c8) (((X ++ [(⟨1, (s.extract p (p + q)), 0, (p : Int)⟩ : Tok)])).length) (tokv ((X ++ [(⟨1, (s.extract p (p + q)), 0, (p : Int)⟩ : Tok)])))] _ := hM
   refine D.done ?_
   replace hA : St 66 [(0, _), (3, _)] a := hA.sub ((.cons rfl (.cons rfl .nil)))
   refine Ends.seq (Ends.region ?_)
   refine S.val hA (R.move rfl) rfl ?_; clear hA a; intro a hA
   refine S.val hA (R.nilCheck rfl) rfl ?_; clear hA a; intro a hA
   refine S.val hA (R.fieldAddr (q := 1) fi75_1 rfl rfl rfl) rfl ?_; clear hA a; intro a hA
   refine S.val hA (R.load sz3 rfl (hM.cell (k := 1) rfl rfl)) rfl ?_; clear hA a; intro a hA
   refine S.val hA (R.move rfl) rfl ?_; clear hA a; intro a hA
   refine S.val hA (R.addI rfl rfl (r := ((p + q : Nat) : Int)) (by omega) (by omega)) rfl ?_; clear hA a; intro a hA
   refine S.val hA (R.nilCheck rfl) rfl ?_; clear hA a; intro a hA
   refine S.val hA (R.fieldAddr (q := 1) fi75_1 rfl rfl rfl) rfl ?_; clear hA a; intro a hA
   refine S.store (k := 1) hA hM sz3 rfl rfl rfl rfl rfl ?_; clear hM
   intro w8 hM
   replace hM : Mem _ _ [itC b1 ((s.extract p s.size)) ((q + (Utf8.decode ((s.extract p s.size)) q).2)), pt c #[.string s, .int .i64 (((p + q : Nat) : Int)), .slice a7 (((X ++ [(⟨1, (s.extract p (p + q)), 0, (p : Int)⟩ : Tok)])).length) c8] 75, own 77 4 (.slice a7 (((X ++ [(⟨1, (s.extract p (p + q)), 0, (p : Int)⟩ : Tok)])).length) c8) (((X ++ [(⟨1, (s.extract p (p + q)), 0, (p : Int)⟩ : Tok)])).length) (tokv ((X ++ [(⟨1, (s.extract p (p + q)), 0, (p : Int)⟩ : Tok)])))] _ := hM
   refine S.done ?_
   replace hA : St 66 [(0, _)] a := hA.sub ((.cons rfl .nil))
   refine Ends.seq (Ends.seq (Ends.region ?_))
   refine S.val hA (R.move rfl) rfl ?_; clear hA a; intro a hA
   refine S.call hA (R.callF Tryd.func69 rfl rfl rfl) rfl (lkind s (p + q) c (.slice a7 (((X ++ [(⟨1, (s.extract p (p + q)), 0, (p : Int)⟩ : Tok)])).length) c8) _ (hM.block (k := 1) rfl) (htab.mem hM hoff)) ?_; clear hA a
   rintro e w9 ⟨rfl, hb⟩
   replace hM := hM.callB hb; clear hb
   refine ⟨.int .i64 (kb s (p + q)), rfl, fun a hA => ?_⟩
   refine S.val hA (R.tt (R.eql rfl rfl) (by rw [← hlq]; exact h2)) rfl ?_; clear hA a; intro a hA
   refine S.done ?_
   refine Ends.condT hA rfl ?_
   refine Ends.seq (Ends.region ?_)
   refine S.val hA (R.assign rfl) rfl ?_; clear hA a; intro a hA
   refine S.done ?_
   replace hA : St 66 [(2, _)] a := hA.sub ((.cons rfl .nil))
   refine Ends.ret1 Tryd.func71 Tryd.results71 hA rfl ?_
   replace hM := hM.front (k := 2) rfl
   replace hM := hM.front (k := 2) rfl
   replace hM : Mem _ _ [pt c #[.string s, .int .i64 (((p + q : Nat) : Int)), .slice a7 (((X ++ [(⟨1, (s.extract p (p + q)), 0, (p : Int)⟩ : Tok)])).length) c8] 75, own 77 4 (.slice a7 (((X ++ [(⟨1, (s.extract p (p + q)), 0, (p : Int)⟩ : Tok)])).length) c8) (((X ++ [(⟨1, (s.extract p (p + q)), 0, (p : Int)⟩ : Tok)])).length) (tokv ((X ++ [(⟨1, (s.extract p (p + q)), 0, (p : Int)⟩ : Tok)]))), itC b1 ((s.extract p s.size)) ((q + (Utf8.decode ((s.extract p s.size)) q).2))] _ := hM
   replace hM := hM.firstN 2
   replace hM : Mem _ _ [pt c #[.string s, .int .i64 (((p + q : Nat) : Int)), .slice a7 (((X ++ [(⟨1, (s.extract p (p + q)), 0, (p : Int)⟩ : Tok)])).length) c8] 75, own 77 4 (.slice a7 (((X ++ [(⟨1, (s.extract p (p + q)), 0, (p : Int)⟩ : Tok)])).length) c8) (((X ++ [(⟨1, (s.extract p (p + q)), 0, (p : Int)⟩ : Tok)])).length) (tokv ((X ++ [(⟨1, (s.extract p (p + q)), 0, (p : Int)⟩ : Tok)])))] _ := hM
   rw [hlq]
   exact ⟨a7, c8, rfl, hM⟩
  ·
   refine Ends.skip (Ends.region ?_)
   refine S.val hA (R.move rfl) rfl ?_; clear hA a; intro a hA
   refine S.val hA (R.addI rfl rfl (r := ((q : Int)) + 1) rfl (by omega)) rfl ?_; clear hA a; intro a hA
   refine S.val hA (R.assign rfl) rfl ?_; clear hA a; intro a hA
   refine S.done ?_
   refine Ends.inBlock ?_
   have hq3 := Classical.byContradiction hc4
   have hd := dec_kb hp3
   rw [hd.1, kb_ext (Nat.le_of_lt hp)] at hq3
   rw [hd.2 (by rw [kb_ext (Nat.le_of_lt hp), hq3]; decide)] at hM
   exact hNext ((q + 1)) _ _ ((by show s.size - (q + 1) < s.size - q; omega)) ⟨hA.sub ((.cons rfl (.cons rfl (.cons rfl .nil)))), hM, (by omega), (fun j hj => by rcases Nat.lt_or_ge j q with g | g; exact hl j g; have e : j = q := (by omega); exact e ▸ hq3)⟩
 ·
  refine S.val hA (R.nextF (k := 0) hM rfl rfl hp3) rfl ?_; clear hA a; intro a hA
  refine S.val hA (R.extract (v := .bool false) rfl rfl) rfl ?_; clear hA a; intro a hA
  refine S.done ?_
  refine Ends.seq ?_
  refine Ends.condF hA rfl ?_
  refine Ends.exit rfl ?_
  refine Ends.seq (Ends.seq ?_)
  have hq4 : kb s (p + q) ≠ 3 := by rw [kb_out (by omega)]; decide
  have hlq : ltrs s p = q := ltrs_uniq hl hq4
  refine Ends.region ?_
  refine S.val hA (R.move rfl) rfl ?_; clear hA a; intro a hA
  refine S.val hA (R.ff (R.gtr rfl rfl) (by omega)) rfl ?_; clear hA a; intro a hA
  refine S.done ?_
  replace hA : St 66 [(0, _), (3, _), (25, _)] a := hA.sub ((.cons rfl (.cons rfl (.cons rfl .nil))))
  refine Ends.condF hA rfl ?_
  refine Ends.skip (Ends.seq ?_)
  refine Ends.drawn (Mem w (feet [pt c #[.string s, .int .i64 ((p : Int)), .slice v X.length cap] 75, own 77 4 (.slice v X.length cap) X.length (tokv X)]) [pt c #[.string s, .int .i64 ((p : Int)), .slice v X.length cap] 75]) (.cons (0, true) (.cons (1, true) (.cons (2, true) (.cons (3, true) (.cons (4, true) (.cons (5, true) (.cons (6, true) (.cons (7, true) (.cons (8, true) (.cons (9, true) (.cons (10, true) (.cons (11, true) (.cons (12, true) (.cons (13, true) (.cons (14, true) (.cons (15, true) (.cons (16, true) (.cons (17, true) (.cons (18, true) (.cons (19, true) (.cons (20, true) (.cons (21, true) (.cons (22, true) (.cons (23, true) (.cons (24, true) (.cons (25, false) (.cons (26, false) (.cons (27, true) (.cons (28, true) (.cons (29, false) .nil)))))))))))))))))))))))))))))) 29 mixed (by kernel_rfl) (by kernel_rfl) (by kernel_rfl) ((hM.drop 2).drop 0).drew ?_
  replace hM := hM.drew
  refine D.valF hA rfl (fun _ => R.move rfl) rfl ?_; clear hA a; intro a hA
  refine D.valF hA rfl (fun _ => R.move rfl) rfl ?_; clear hA a; intro a hA
  refine D.valF hA rfl (fun _ => R.nilCheck rfl) rfl ?_; clear hA a; intro a hA
  refine D.valF hA rfl (fun _ => R.fieldAddr (q := 2) fi75_2 rfl rfl rfl) rfl ?_; clear hA a; intro a hA
  refine D.val hA rfl (by kernel_rfl) (fun _ hM => R.load sz48 rfl (hM.cell (k := 0) rfl rfl)) rfl ?_; clear hA a; intro a hA
  refine D.valF hA rfl (fun _ => R.move rfl) rfl ?_; clear hA a; intro a hA
  refine D.valF hA rfl (fun _ => R.nilCheck rfl) rfl ?_; clear hA a; intro a hA
  refine D.valF hA rfl (fun _ => R.fieldAddr (q := 0) fi75_0 rfl rfl rfl) rfl ?_; clear hA a; intro a hA
  refine D.val hA rfl (by kernel_rfl) (fun _ hM => R.load sz9 rfl (hM.cell (k := 0) rfl rfl)) rfl ?_; clear hA a; intro a hA
  refine D.valF hA rfl (fun _ => R.move rfl) rfl ?_; clear hA a; intro a hA
  refine D.valF hA rfl (fun _ => R.nilCheck rfl) rfl ?_; clear hA a; intro a hA
  refine D.valF hA rfl (fun _ => R.fieldAddr (q := 1) fi75_1 rfl rfl rfl) rfl ?_; clear hA a; intro a hA
  refine D.val hA rfl (by kernel_rfl) (fun _ hM => R.load sz3 rfl (hM.cell (k := 0) rfl rfl)) rfl ?_; clear hA a; intro a hA
  refine D.valF hA rfl (fun _ => R.move rfl) rfl ?_; clear hA a; intro a hA
  refine D.valF hA rfl (fun _ => R.nilCheck rfl) rfl ?_; clear hA a; intro a hA
  refine D.valF hA rfl (fun _ => R.fieldAddr (q := 1) fi75_1 rfl rfl rfl) rfl ?_; clear hA a; intro a hA
  refine D.val hA rfl (by kernel_rfl) (fun _ hM => R.load sz3 rfl (hM.cell (k := 0) rfl rfl)) rfl ?_; clear hA a; intro a hA
  refine D.valF hA rfl (fun _ => R.move rfl) rfl ?_; clear hA a; intro a hA
  refine D.valF hA rfl (fun _ => R.addI rfl rfl (r := ((p + q : Nat) : Int)) (by omega) (by omega)) rfl ?_; clear hA a; intro a hA
  refine D.valF hA rfl (fun _ => R.to (v := .string ((s.extract p (p + q)))) (R.sliceSS Tryd.underlying9 rfl rfl rfl (by omega)) (by first | rfl | (congr 2; done) | (congr 2 <;> omega))) rfl ?_; clear hA a; intro a hA
  refine D.valF hA rfl (fun _ => R.move rfl) rfl ?_; clear hA a; intro a hA
  refine D.valF hA rfl (fun _ => R.nilCheck rfl) rfl ?_; clear hA a; intro a hA
  refine D.valF hA rfl (fun _ => R.fieldAddr (q := 1) fi75_1 rfl rfl rfl) rfl ?_; clear hA a; intro a hA
  refine D.val hA rfl (by kernel_rfl) (fun _ hM => R.load sz3 rfl (hM.cell (k := 0) rfl rfl)) rfl ?_; clear hA a; intro a hA
  refine D.valF hA rfl (fun _ => R.build (cells := #[.int .i64 1, .string ((s.extract p (p + q))), .int .i64 0, .int .i64 ((p : Int))]) rfl (by kernel_rfl)) rfl ?_; clear hA a; intro a hA
  refine D.buildSl (cells := #[.int .i64 1, .string ((s.extract p (p + q))), .int .i64 0, .int .i64 ((p : Int))]) hA hM rfl Tryd.underlying48 info77 rfl rfl rfl rfl (by kernel_rfl) rfl ?_; clear hA hM a; intro b10 w10 hb11 hM; refine ⟨(fun hM => ((hM.drop 2).drop 0)) hM.tail, fun a hA => ?_⟩
  replace hM : Mem _ _ [pt b10 #[.int .i64 1, .string ((s.extract p (p + q))), .int .i64 0, .int .i64 ((p : Int))] 77, itC b1 ((s.extract p s.size)) q, pt c #[.string s, .int .i64 ((p : Int)), .slice v X.length cap] 75, own 77 4 (.slice v X.length cap) X.length (tokv X)] _ := hM
  refine D.append (k := 3) (k2 := 0) hA hM rfl rfl rfl Tryd.underlying48 info77 rfl rfl rfl rfl rfl rfl rfl rfl rfl (by first | omega | (show (_ + 1) * 40 ≤ 140737488355328; omega) | (unfold maxLen; omega)) (by first | omega | (show (_ + 1) * 40 ≤ 140737488355328; omega) | (unfold maxLen; omega)) rfl ?_; clear hA hM a; intro a12 c13 w11 hM
  replace hM : Mem _ _ [pt b10 #[.int .i64 1, .string ((s.extract p (p + q))), .int .i64 0, .int .i64 ((p : Int))] 77, itC b1 ((s.extract p s.size)) q, pt c #[.string s, .int .i64 ((p : Int)), .slice v X.length cap] 75, own 77 4 (.slice a12 (X.length + 1) c13) (X.length + 1) (tokv X ++ [.int .i64 1, .string ((s.extract p (p + q))), .int .i64 0, .int .i64 ((p : Int))])] _ := hM
  have hl14 : X.length + 1 = (X ++ [(⟨1, (s.extract p (p + q)), 0, (p : Int)⟩ : Tok)]).length := by simp
  rw [hl14, show tokv X ++ [.int .i64 1, .string ((s.extract p (p + q))), .int .i64 0, .int .i64 ((p : Int))] = tokv (X ++ [(⟨1, (s.extract p (p + q)), 0, (p : Int)⟩ : Tok)]) from tokv_app X (⟨1, (s.extract p (p + q)), 0, (p : Int)⟩ : Tok)] at hM
  replace hM := hM.drop 0
  replace hM : Mem _ _ [itC b1 ((s.extract p s.size)) q, pt c #[.string s, .int .i64 ((p : Int)), .slice v X.length cap] 75, own 77 4 (.slice a12 (((X ++ [(⟨1, (s.extract p (p + q)), 0, (p : Int)⟩ : Tok)])).length) c13) (((X ++ [(⟨1, (s.extract p (p + q)), 0, (p : Int)⟩ : Tok)])).length) (tokv ((X ++ [(⟨1, (s.extract p (p + q)), 0, (p : Int)⟩ : Tok)])))] _ := hM
  refine ⟨((hM.drop 2).drop 0), fun a hA => ?_⟩; rw [hl14] at hA; clear hl14
  refine D.valF hA rfl (fun _ => R.nilCheck rfl) rfl ?_; clear hA a; intro a hA
  refine D.valF hA rfl (fun _ => R.fieldAddr (q := 2) fi75_2 rfl rfl rfl) rfl ?_; clear hA a; intro a hA
  refine D.store (k := 1) hA hM rfl sz48 rfl rfl rfl rfl rfl ?_; clear hM
  intro w12 hM; refine ⟨fun _ hne => absurd rfl hne, ?_⟩
  replace hM : Mem _ _ [itC b1 ((s.extract p s.size)) q, pt c #[.string s, .int .i64 ((p : Int)), .slice a12 (((X ++ [(⟨1, (s.extract p (p + q)), 0, (p : Int)⟩ : Tok)])).length) c13] 75, own 77 4 (.slice a12 (((X ++ [(⟨1, (s.extract p (p + q)), 0, (p : Int)⟩ : Tok)])).length) c13) (((X ++ [(⟨1, (s.extract p (p + q)), 0, (p : Int)⟩ : Tok)])).length) (tokv ((X ++ [(⟨1, (s.extract p (p + q)), 0, (p : Int)⟩ : Tok)])))] _ := hM
  refine D.done ?_
  replace hA : St 66 [(0, _), (3, _)] a := hA.sub ((.cons rfl (.cons rfl .nil)))
  refine Ends.seq (Ends.region ?_)
  refine S.val hA (R.move rfl) rfl ?_; clear hA a; intro a hA
  refine S.val hA (R.nilCheck rfl) rfl ?_; clear hA a; intro a hA
  refine S.val hA (R.fieldAddr (q := 1) fi75_1 rfl rfl rfl) rfl ?_; clear hA a; intro a hA
  refine S.val hA (R.load sz3 rfl (hM.cell (k := 1) rfl rfl)) rfl ?_; clear hA a; intro a hA
  refine S.val hA (R.move rfl) rfl ?_; clear hA a; intro a hA
  refine S.val hA (R.addI rfl rfl (r := ((p + q : Nat) : Int)) (by omega) (by omega)) rfl ?_; clear hA a; intro a hA
  refine S.val hA (R.nilCheck rfl) rfl ?_; clear hA a; intro a hA
  refine S.val hA (R.fieldAddr (q := 1) fi75_1 rfl rfl rfl) rfl ?_; clear hA a; intro a hA
  refine S.store (k := 1) hA hM sz3 rfl rfl rfl rfl rfl ?_; clear hM
  intro w13 hM
  replace hM : Mem _ _ [itC b1 ((s.extract p s.size)) q, pt c #[.string s, .int .i64 (((p + q : Nat) : Int)), .slice a12 (((X ++ [(⟨1, (s.extract p (p + q)), 0, (p : Int)⟩ : Tok)])).length) c13] 75, own 77 4 (.slice a12 (((X ++ [(⟨1, (s.extract p (p + q)), 0, (p : Int)⟩ : Tok)])).length) c13) (((X ++ [(⟨1, (s.extract p (p + q)), 0, (p : Int)⟩ : Tok)])).length) (tokv ((X ++ [(⟨1, (s.extract p (p + q)), 0, (p : Int)⟩ : Tok)])))] _ := hM
  refine S.done ?_
  replace hA : St 66 [(0, _)] a := hA.sub ((.cons rfl .nil))
  refine Ends.seq (Ends.seq (Ends.region ?_))
  refine S.val hA (R.move rfl) rfl ?_; clear hA a; intro a hA
  refine S.call hA (R.callF Tryd.func69 rfl rfl rfl) rfl (lkind s (p + q) c (.slice a12 (((X ++ [(⟨1, (s.extract p (p + q)), 0, (p : Int)⟩ : Tok)])).length) c13) _ (hM.block (k := 1) rfl) (htab.mem hM hoff)) ?_; clear hA a
  rintro e w14 ⟨rfl, hb⟩
  replace hM := hM.callB hb; clear hb
  refine ⟨.int .i64 (kb s (p + q)), rfl, fun a hA => ?_⟩
  refine S.val hA (R.tt (R.eql rfl rfl) (by rw [← hlq]; exact h2)) rfl ?_; clear hA a; intro a hA
  refine S.done ?_
  refine Ends.condT hA rfl ?_
  refine Ends.seq (Ends.region ?_)
  refine S.val hA (R.assign rfl) rfl ?_; clear hA a; intro a hA
  refine S.done ?_
  replace hA : St 66 [(2, _)] a := hA.sub ((.cons rfl .nil))
  refine Ends.ret1 Tryd.func71 Tryd.results71 hA rfl ?_
  replace hM := hM.front (k := 2) rfl
  replace hM := hM.front (k := 2) rfl
  replace hM : Mem _ _ [pt c #[.string s, .int .i64 (((p + q : Nat) : Int)), .slice a12 (((X ++ [(⟨1, (s.extract p (p + q)), 0, (p : Int)⟩ : Tok)])).length) c13] 75, own 77 4 (.slice a12 (((X ++ [(⟨1, (s.extract p (p + q)), 0, (p : Int)⟩ : Tok)])).length) c13) (((X ++ [(⟨1, (s.extract p (p + q)), 0, (p : Int)⟩ : Tok)])).length) (tokv ((X ++ [(⟨1, (s.extract p (p + q)), 0, (p : Int)⟩ : Tok)]))), itC b1 ((s.extract p s.size)) q] _ := hM
  replace hM := hM.firstN 2
  replace hM : Mem _ _ [pt c #[.string s, .int .i64 (((p + q : Nat) : Int)), .slice a12 (((X ++ [(⟨1, (s.extract p (p + q)), 0, (p : Int)⟩ : Tok)])).length) c13] 75, own 77 4 (.slice a12 (((X ++ [(⟨1, (s.extract p (p + q)), 0, (p : Int)⟩ : Tok)])).length) c13) (((X ++ [(⟨1, (s.extract p (p + q)), 0, (p : Int)⟩ : Tok)])).length) (tokv ((X ++ [(⟨1, (s.extract p (p + q)), 0, (p : Int)⟩ : Tok)])))] _ := hM
  rw [hlq]
  exact ⟨a12, c13, rfl, hM⟩
set_option maxRecDepth 100000 in
set_option maxHeartbeats 400000 in
theorem lword_o (s : ByteArray) (p c : Nat) (v : Option Addr) (cap : Nat) (X : List Tok) (hp : p < s.size) (hX : X.length ≤ 1000000) (hsz : s.size ≤ 1000000) (h : ¬ 16 < ltrs s p) (h2 : kb s (p + ltrs s p) ≠ 2) (w : World) (hM : Mem w (feet [pt c #[.string s, .int .i64 ((p : Int)), .slice v X.length cap] 75, own 77 4 (.slice v X.length cap) X.length (tokv X)]) [pt c #[.string s, .int .i64 ((p : Int)), .slice v X.length cap] 75, own 77 4 (.slice v X.length cap) X.length (tokv X)] w) (htab : U8T w) (hoff : OffT (feet [pt c #[.string s, .int .i64 ((p : Int)), .slice v X.length cap] 75, own 77 4 (.slice v X.length cap) X.length (tokv X)])) :
  Calls Tryd.prog 71 #[.pointer (some ⟨c, 0, none⟩)] w fun e w' => ∃ v' cap', e = .returned (.int .i64 0) ∧ Mem w (feet [pt c #[.string s, .int .i64 ((p : Int)), .slice v X.length cap] 75, own 77 4 (.slice v X.length cap) X.length (tokv X)]) [pt c #[.string s, .int .i64 (((p + ltrs s p : Nat) : Int)), .slice v' (((X ++ [(⟨1, s.extract p (p + ltrs s p), 0, p⟩ : Tok)])).length) cap'] 75, own 77 4 (.slice v' (((X ++ [(⟨1, s.extract p (p + ltrs s p), 0, p⟩ : Tok)])).length) cap') (((X ++ [(⟨1, s.extract p (p + ltrs s p), 0, p⟩ : Tok)])).length) (tokv ((X ++ [(⟨1, s.extract p (p + ltrs s p), 0, p⟩ : Tok)])))] w' := by
 refine Calls.of_ends (vs := [.pointer (some ⟨c, 0, none⟩)]) Tryd.func71 rfl Tryd.ntmps71 rfl ?_
 intro a hA
 replace hA : St 66 [(0, _)] a := hA
 refine Ends.seq (Ends.region ?_)
 refine S.val hA (R.assign rfl) rfl ?_; clear hA a; intro a hA
 refine S.done ?_
 refine Ends.seq (Ends.region ?_)
 refine S.val hA (R.assign rfl) rfl ?_; clear hA a; intro a hA
 refine S.done ?_
 refine Ends.seq (Ends.seq ?_)
 refine Ends.drawn (Mem w (feet [pt c #[.string s, .int .i64 ((p : Int)), .slice v X.length cap] 75, own 77 4 (.slice v X.length cap) X.length (tokv X)]) [pt c #[.string s, .int .i64 ((p : Int)), .slice v X.length cap] 75, own 77 4 (.slice v X.length cap) X.length (tokv X)]) (.cons (0, true) (.cons (1, true) (.cons (2, true) (.cons (3, true) (.cons (4, true) (.cons (5, true) (.cons (6, true) (.cons (7, true) (.cons (8, true) (.cons (9, false) .nil)))))))))) 10 mixed (by kernel_rfl) (by kernel_rfl) (by kernel_rfl) hM.drew ?_
 replace hM := hM.drew
 refine D.valF hA rfl (fun _ => R.move rfl) rfl ?_; clear hA a; intro a hA
 refine D.valF hA rfl (fun _ => R.nilCheck rfl) rfl ?_; clear hA a; intro a hA
 refine D.valF hA rfl (fun _ => R.fieldAddr (q := 0) fi75_0 rfl rfl rfl) rfl ?_; clear hA a; intro a hA
 refine D.val hA rfl (by kernel_rfl) (fun _ hM => R.load sz9 rfl (hM.cell (k := 0) rfl rfl)) rfl ?_; clear hA a; intro a hA
 refine D.valF hA rfl (fun _ => R.move rfl) rfl ?_; clear hA a; intro a hA
 refine D.valF hA rfl (fun _ => R.nilCheck rfl) rfl ?_; clear hA a; intro a hA
 refine D.valF hA rfl (fun _ => R.fieldAddr (q := 1) fi75_1 rfl rfl rfl) rfl ?_; clear hA a; intro a hA
 refine D.val hA rfl (by kernel_rfl) (fun _ hM => R.load sz3 rfl (hM.cell (k := 0) rfl rfl)) rfl ?_; clear hA a; intro a hA
 refine D.valF hA rfl (fun _ => R.to (v := .string ((s.extract p s.size))) (R.sliceSL Tryd.underlying9 rfl rfl (by omega)) (by first | rfl | (congr 2; done) | (congr 2 <;> omega))) rfl ?_; clear hA a; intro a hA
 refine D.rangeS hA hM rfl Tryd.underlying9 rfl rfl ?_; clear hA hM a; intro b1 w1 hb2 hM
 refine ⟨(hM.drop 0), fun a hA => ?_⟩
 replace hM : Mem _ _ [itC b1 ((s.extract p s.size)) 0, pt c #[.string s, .int .i64 ((p : Int)), .slice v X.length cap] 75, own 77 4 (.slice v X.length cap) X.length (tokv X)] _ := hM
 refine D.done ?_
 replace hA : St 66 [(0, _), (3, _), (15, _)] a := hA.sub ((.cons rfl (.cons rfl (.cons rfl .nil))))
 refine Ends.block ?_
 have hes : (s.extract p s.size).size = s.size - p := size_ext (Nat.le_refl _)
 refine Ends.loop (σ := Nat) (fun q (a : Act) (wv : World) => St 66 [(0, .pointer (some ⟨c, 0, none⟩)), (3, .int .i64 ((q : Int))), (15, .pointer (some ⟨b1, 0, none⟩))] a ∧ Mem w (feet [pt c #[.string s, .int .i64 ((p : Int)), .slice v X.length cap] 75, own 77 4 (.slice v X.length cap) X.length (tokv X)]) [itC b1 ((s.extract p s.size)) q, pt c #[.string s, .int .i64 ((p : Int)), .slice v X.length cap] 75, own 77 4 (.slice v X.length cap) X.length (tokv X)] wv ∧ (p + q ≤ s.size) ∧ (∀ j, j < q → kb s (p + j) = 3)) (fun q => s.size - q) 0 ⟨hA.sub ((.cons rfl (.cons rfl (.cons rfl .nil)))), hM, (by omega), (fun j hj => absurd hj (Nat.not_lt_zero j))⟩ ?_
 clear hA hM a
 rintro q a w2 ⟨hA, hM, hq, hl⟩ hNext
 refine Ends.seq (Ends.region ?_)
 by_cases hp3 : q < ((s.extract p s.size)).size
 ·
  refine S.nextT (k := 0) hA hM rfl rfl hp3 rfl ?_; clear hA hM a; intro w3 hM a hA
  replace hM : Mem _ _ [itC b1 ((s.extract p s.size)) ((q + (Utf8.decode ((s.extract p s.size)) q).2)), pt c #[.string s, .int .i64 ((p : Int)), .slice v X.length cap] 75, own 77 4 (.slice v X.length cap) X.length (tokv X)] _ := hM
  refine S.val hA (R.extract (v := .bool true) rfl rfl) rfl ?_; clear hA a; intro a hA
  refine S.done ?_
  refine Ends.seq ?_
  refine Ends.condT hA rfl ?_
  refine Ends.skip (Ends.block (Ends.seq (Ends.region ?_)))
  refine S.val hA (R.extract (v := .int .i32 (((Utf8.decode ((s.extract p s.size)) q).1 : Int))) rfl rfl) rfl ?_; clear hA a; intro a hA
  refine S.val hA (R.assign rfl) rfl ?_; clear hA a; intro a hA
  refine S.done ?_
  refine Ends.seq (Ends.seq (Ends.region ?_))
  refine S.val hA (R.move rfl) rfl ?_; clear hA a; intro a hA
  refine S.call hA (R.callF Tryd.func86 rfl rfl rfl) rfl (kind_any (((Utf8.decode ((s.extract p s.size)) q).1 : Int)) _) ?_; clear hA a
  rintro e w4 ⟨rfl, hb⟩
  replace hM := hM.callB hb; clear hb
  refine ⟨.int .i64 (kindI (((Utf8.decode ((s.extract p s.size)) q).1 : Int))), rfl, fun a hA => ?_⟩
  refine S.val hA (R.neq rfl rfl) rfl ?_; clear hA a; intro a hA
  refine S.done ?_
  replace hA : St 66 [(0, _), (3, _), (15, _), (21, _)] a := hA.sub ((.cons rfl (.cons rfl (.cons rfl (.cons rfl .nil)))))
  refine Ends.ite hA rfl (fun hc4 => ?_) (fun hc4 => ?_)
  ·
   refine Ends.exit rfl ?_
   refine Ends.seq (Ends.seq ?_)
   have hq4 : kb s (p + q) ≠ 3 := by have h9 := hc4; rw [(dec_kb hp3).1, kb_ext (Nat.le_of_lt hp)] at h9; exact h9
   have hlq : ltrs s p = q := ltrs_uniq hl hq4
   refine Ends.region ?_
   refine S.val hA (R.move rfl) rfl ?_; clear hA a; intro a hA
   refine S.val hA (R.ff (R.gtr rfl rfl) (by omega)) rfl ?_; clear hA a; intro a hA
   refine S.done ?_
   refine Ends.condF hA rfl ?_
   refine Ends.skip (Ends.seq ?_)
   refine Ends.drawn (Mem w (feet [pt c #[.string s, .int .i64 ((p : Int)), .slice v X.length cap] 75, own 77 4 (.slice v X.length cap) X.length (tokv X)]) [pt c #[.string s, .int .i64 ((p : Int)), .slice v X.length cap] 75]) (.cons (0, true) (.cons (1, true) (.cons (2, true) (.cons (3, true) (.cons (4, true) (.cons (5, true) (.cons (6, true) (.cons (7, true) (.cons (8, true) (.cons (9, true) (.cons (10, true) (.cons (11, true) (.cons (12, true) (.cons (13, true) (.cons (14, true) (.cons (15, true) (.cons (16, true) (.cons (17, true) (.cons (18, true) (.cons (19, true) (.cons (20, true) (.cons (21, true) (.cons (22, true) (.cons (23, true) (.cons (24, true) (.cons (25, false) (.cons (26, false) (.cons (27, true) (.cons (28, true) (.cons (29, false) .nil)))))))))))))))))))))))))))))) 29 mixed (by kernel_rfl) (by kernel_rfl) (by kernel_rfl) ((hM.drop 2).drop 0).drew ?_
   replace hM := hM.drew
   refine D.valF hA rfl (fun _ => R.move rfl) rfl ?_; clear hA a; intro a hA
   refine D.valF hA rfl (fun _ => R.move rfl) rfl ?_; clear hA a; intro a hA
   refine D.valF hA rfl (fun _ => R.nilCheck rfl) rfl ?_; clear hA a; intro a hA
   refine D.valF hA rfl (fun _ => R.fieldAddr (q := 2) fi75_2 rfl rfl rfl) rfl ?_; clear hA a; intro a hA
   refine D.val hA rfl (by kernel_rfl) (fun _ hM => R.load sz48 rfl (hM.cell (k := 0) rfl rfl)) rfl ?_; clear hA a; intro a hA
   refine D.valF hA rfl (fun _ => R.move rfl) rfl ?_; clear hA a; intro a hA
   refine D.valF hA rfl (fun _ => R.nilCheck rfl) rfl ?_; clear hA a; intro a hA
   refine D.valF hA rfl (fun _ => R.fieldAddr (q := 0) fi75_0 rfl rfl rfl) rfl ?_; clear hA a; intro a hA
   refine D.val hA rfl (by kernel_rfl) (fun _ hM => R.load sz9 rfl (hM.cell (k := 0) rfl rfl)) rfl ?_; clear hA a; intro a hA
   refine D.valF hA rfl (fun _ => R.move rfl) rfl ?_; clear hA a; intro a hA
   refine D.valF hA rfl (fun _ => R.nilCheck rfl) rfl ?_; clear hA a; intro a hA
   refine D.valF hA rfl (fun _ => R.fieldAddr (q := 1) fi75_1 rfl rfl rfl) rfl ?_; clear hA a; intro a hA
   refine D.val hA rfl (by kernel_rfl) (fun _ hM => R.load sz3 rfl (hM.cell (k := 0) rfl rfl)) rfl ?_; clear hA a; intro a hA
   refine D.valF hA rfl (fun _ => R.move rfl) rfl ?_; clear hA a; intro a hA
   refine D.valF hA rfl (fun _ => R.nilCheck rfl) rfl ?_; clear hA a; intro a hA
   refine D.valF hA rfl (fun _ => R.fieldAddr (q := 1) fi75_1 rfl rfl rfl) rfl ?_; clear hA a; intro a hA
   refine D.val hA rfl (by kernel_rfl) (fun _ hM => R.load sz3 rfl (hM.cell (k := 0) rfl rfl)) rfl ?_; clear hA a; intro a hA
   refine D.valF hA rfl (fun _ => R.move rfl) rfl ?_; clear hA a; intro a hA
   refine D.valF hA rfl (fun _ => R.addI rfl rfl (r := ((p + q : Nat) : Int)) (by omega) (by omega)) rfl ?_; clear hA a; intro a hA
   refine D.valF hA rfl (fun _ => R.to (v := .string ((s.extract p (p + q)))) (R.sliceSS Tryd.underlying9 rfl rfl rfl (by omega)) (by first | rfl | (congr 2; done) | (congr 2 <;> omega))) rfl ?_; clear hA a; intro a hA
   refine D.valF hA rfl (fun _ => R.move rfl) rfl ?_; clear hA a; intro a hA
   refine D.valF hA rfl (fun _ => R.nilCheck rfl) rfl ?_; clear hA a; intro a hA
   refine D.valF hA rfl (fun _ => R.fieldAddr (q := 1) fi75_1 rfl rfl rfl) rfl ?_; clear hA a; intro a hA
   refine D.val hA rfl (by kernel_rfl) (fun _ hM => R.load sz3 rfl (hM.cell (k := 0) rfl rfl)) rfl ?_; clear hA a; intro a hA
   refine D.valF hA rfl (fun _ => R.build (cells := #[.int .i64 1, .string ((s.extract p (p + q))), .int .i64 0, .int .i64 ((p : Int))]) rfl (by kernel_rfl)) rfl ?_; clear hA a; intro a hA
   refine D.buildSl (cells := #[.int .i64 1, .string ((s.extract p (p + q))), .int .i64 0, .int .i64 ((p : Int))]) hA hM rfl Tryd.underlying48 info77 rfl rfl rfl rfl (by kernel_rfl) rfl ?_; clear hA hM a; intro b5 w5 hb6 hM; refine ⟨(fun hM => ((hM.drop 2).drop 0)) hM.tail, fun a hA => ?_⟩
   replace hM : Mem _ _ [pt b5 #[.int .i64 1, .string ((s.extract p (p + q))), .int .i64 0, .int .i64 ((p : Int))] 77, itC b1 ((s.extract p s.size)) ((q + (Utf8.decode ((s.extract p s.size)) q).2)), pt c #[.string s, .int .i64 ((p : Int)), .slice v X.length cap] 75, own 77 4 (.slice v X.length cap) X.length (tokv X)] _ := hM
   refine D.append (k := 3) (k2 := 0) hA hM rfl rfl rfl Tryd.underlying48 info77 rfl rfl rfl rfl rfl rfl rfl rfl rfl (by first | omega | (show (_ + 1) * 40 ≤ 140737488355328; omega) | (unfold maxLen; omega)) (by first | omega | (show (_ + 1) * 40 ≤ 140737488355328; omega) | (unfold maxLen; omega)) rfl ?_; clear hA hM a; intro a7 c8 w6 hM
   replace hM : Mem _ _ [pt b5 #[.int .i64 1, .string ((s.extract p (p + q))), .int .i64 0, .int .i64 ((p : Int))] 77, itC b1 ((s.extract p s.size)) ((q + (Utf8.decode ((s.extract p s.size)) q).2)), pt c #[.string s, .int .i64 ((p : Int)), .slice v X.length cap] 75, own 77 4 (.slice a7 (X.length + 1) c8) (X.length + 1) (tokv X ++ [.int .i64 1, .string ((s.extract p (p + q))), .int .i64 0, .int .i64 ((p : Int))])] _ := hM
   have hl9 : X.length + 1 = (X ++ [(⟨1, (s.extract p (p + q)), 0, (p : Int)⟩ : Tok)]).length := by simp
   rw [hl9, show tokv X ++ [.int .i64 1, .string ((s.extract p (p + q))), .int .i64 0, .int .i64 ((p : Int))] = tokv (X ++ [(⟨1, (s.extract p (p + q)), 0, (p : Int)⟩ : Tok)]) from tokv_app X (⟨1, (s.extract p (p + q)), 0, (p : Int)⟩ : Tok)] at hM
   replace hM := hM.drop 0
   replace hM : Mem _ _ [itC b1 ((s.extract p s.size)) ((q + (Utf8.decode ((s.extract p s.size)) q).2)), pt c #[.string s, .int .i64 ((p : Int)), .slice v X.length cap] 75, own 77 4 (.slice a7 (((X ++ [(⟨1, (s.extract p (p + q)), 0, (p : Int)⟩ : Tok)])).length) c8) (((X ++ [(⟨1, (s.extract p (p + q)), 0, (p : Int)⟩ : Tok)])).length) (tokv ((X ++ [(⟨1, (s.extract p (p + q)), 0, (p : Int)⟩ : Tok)])))] _ := hM
   refine ⟨((hM.drop 2).drop 0), fun a hA => ?_⟩; rw [hl9] at hA; clear hl9
   refine D.valF hA rfl (fun _ => R.nilCheck rfl) rfl ?_; clear hA a; intro a hA
   refine D.valF hA rfl (fun _ => R.fieldAddr (q := 2) fi75_2 rfl rfl rfl) rfl ?_; clear hA a; intro a hA
   refine D.store (k := 1) hA hM rfl sz48 rfl rfl rfl rfl rfl ?_; clear hM
   intro w7 hM; refine ⟨fun _ hne => absurd rfl hne, ?_⟩
   replace hM : Mem _ _ [itC b1 ((s.extract p s.size)) ((q + (Utf8.decode ((s.extract p s.size)) q).2)), pt c #[.string s, .int .i64 ((p : Int)), .slice a7 (((X ++ [(⟨1, (s.extract p (p + q)), 0, (p : Int)⟩ : Tok)])).length) c8] 75, own 77 4 (.slice a7 (((X ++ [(⟨1, (s.extract p (p + q)), 0, (p : Int)⟩ : Tok)])).length) c8) (((X ++ [(⟨1, (s.extract p (p + q)), 0, (p : Int)⟩ : Tok)])).length) (tokv ((X ++ [(⟨1, (s.extract p (p + q)), 0, (p : Int)⟩ : Tok)])))] _ := hM
   refine D.done ?_
   replace hA : St 66 [(0, _), (3, _)] a := hA.sub ((.cons rfl (.cons rfl .nil)))
   refine Ends.seq (Ends.region ?_)
   refine S.val hA (R.move rfl) rfl ?_; clear hA a; intro a hA
   refine S.val hA (R.nilCheck rfl) rfl ?_; clear hA a; intro a hA
   refine S.val hA (R.fieldAddr (q := 1) fi75_1 rfl rfl rfl) rfl ?_; clear hA a; intro a hA
   refine S.val hA (R.load sz3 rfl (hM.cell (k := 1) rfl rfl)) rfl ?_; clear hA a; intro a hA
   refine S.val hA (R.move rfl) rfl ?_; clear hA a; intro a hA
   refine S.val hA (R.addI rfl rfl (r := ((p + q : Nat) : Int)) (by omega) (by omega)) rfl ?_; clear hA a; intro a hA
   refine S.val hA (R.nilCheck rfl) rfl ?_; clear hA a; intro a hA
   refine S.val hA (R.fieldAddr (q := 1) fi75_1 rfl rfl rfl) rfl ?_; clear hA a; intro a hA
   refine S.store (k := 1) hA hM sz3 rfl rfl rfl rfl rfl ?_; clear hM
   intro w8 hM
   replace hM : Mem _ _ [itC b1 ((s.extract p s.size)) ((q + (Utf8.decode ((s.extract p s.size)) q).2)), pt c #[.string s, .int .i64 (((p + q : Nat) : Int)), .slice a7 (((X ++ [(⟨1, (s.extract p (p + q)), 0, (p : Int)⟩ : Tok)])).length) c8] 75, own 77 4 (.slice a7 (((X ++ [(⟨1, (s.extract p (p + q)), 0, (p : Int)⟩ : Tok)])).length) c8) (((X ++ [(⟨1, (s.extract p (p + q)), 0, (p : Int)⟩ : Tok)])).length) (tokv ((X ++ [(⟨1, (s.extract p (p + q)), 0, (p : Int)⟩ : Tok)])))] _ := hM
   refine S.done ?_
   replace hA : St 66 [(0, _)] a := hA.sub ((.cons rfl .nil))
   refine Ends.seq (Ends.seq (Ends.region ?_))
   refine S.val hA (R.move rfl) rfl ?_; clear hA a; intro a hA
   refine S.call hA (R.callF Tryd.func69 rfl rfl rfl) rfl (lkind s (p + q) c (.slice a7 (((X ++ [(⟨1, (s.extract p (p + q)), 0, (p : Int)⟩ : Tok)])).length) c8) _ (hM.block (k := 1) rfl) (htab.mem hM hoff)) ?_; clear hA a
   rintro e w9 ⟨rfl, hb⟩
   replace hM := hM.callB hb; clear hb
   refine ⟨.int .i64 (kb s (p + q)), rfl, fun a hA => ?_⟩
   refine S.val hA (R.ff (R.eql rfl rfl) (by rw [← hlq]; exact h2)) rfl ?_; clear hA a; intro a hA
   refine S.done ?_
   refine Ends.condF hA rfl ?_
   refine Ends.skip (Ends.seq (Ends.region ?_))
   refine S.val hA (R.assign rfl) rfl ?_; clear hA a; intro a hA
   refine S.done ?_
   replace hA : St 66 [(2, _)] a := hA.sub ((.cons rfl .nil))
   refine Ends.ret1 Tryd.func71 Tryd.results71 hA rfl ?_
   replace hM := hM.front (k := 2) rfl
   replace hM := hM.front (k := 2) rfl
   replace hM : Mem _ _ [pt c #[.string s, .int .i64 (((p + q : Nat) : Int)), .slice a7 (((X ++ [(⟨1, (s.extract p (p + q)), 0, (p : Int)⟩ : Tok)])).length) c8] 75, own 77 4 (.slice a7 (((X ++ [(⟨1, (s.extract p (p + q)), 0, (p : Int)⟩ : Tok)])).length) c8) (((X ++ [(⟨1, (s.extract p (p + q)), 0, (p : Int)⟩ : Tok)])).length) (tokv ((X ++ [(⟨1, (s.extract p (p + q)), 0, (p : Int)⟩ : Tok)]))), itC b1 ((s.extract p s.size)) ((q + (Utf8.decode ((s.extract p s.size)) q).2))] _ := hM
   replace hM := hM.firstN 2
   replace hM : Mem _ _ [pt c #[.string s, .int .i64 (((p + q : Nat) : Int)), .slice a7 (((X ++ [(⟨1, (s.extract p (p + q)), 0, (p : Int)⟩ : Tok)])).length) c8] 75, own 77 4 (.slice a7 (((X ++ [(⟨1, (s.extract p (p + q)), 0, (p : Int)⟩ : Tok)])).length) c8) (((X ++ [(⟨1, (s.extract p (p + q)), 0, (p : Int)⟩ : Tok)])).length) (tokv ((X ++ [(⟨1, (s.extract p (p + q)), 0, (p : Int)⟩ : Tok)])))] _ := hM
   rw [hlq]
   exact ⟨a7, c8, rfl, hM⟩
  ·
   refine Ends.skip (Ends.region ?_)
   refine S.val hA (R.move rfl) rfl ?_; clear hA a; intro a hA
   refine S.val hA (R.addI rfl rfl (r := ((q : Int)) + 1) rfl (by omega)) rfl ?_; clear hA a; intro a hA
   refine S.val hA (R.assign rfl) rfl ?_; clear hA a; intro a hA
   refine S.done ?_
   refine Ends.inBlock ?_
   have hq3 := Classical.byContradiction hc4
   have hd := dec_kb hp3
   rw [hd.1, kb_ext (Nat.le_of_lt hp)] at hq3
   rw [hd.2 (by rw [kb_ext (Nat.le_of_lt hp), hq3]; decide)] at hM
   exact hNext ((q + 1)) _ _ ((by show s.size - (q + 1) < s.size - q; omega)) ⟨hA.sub ((.cons rfl (.cons rfl (.cons rfl .nil)))), hM, (by omega), (fun j hj => by rcases Nat.lt_or_ge j q with g | g; exact hl j g; have e : j = q := (by omega); exact e ▸ hq3)⟩
 ·
  refine S.val hA (R.nextF (k := 0) hM rfl rfl hp3) rfl ?_; clear hA a; intro a hA
  refine S.val hA (R.extract (v := .bool false) rfl rfl) rfl ?_; clear hA a; intro a hA
  refine S.done ?_
  refine Ends.seq ?_
  refine Ends.condF hA rfl ?_
  refine Ends.exit rfl ?_
  refine Ends.seq (Ends.seq ?_)
  have hq4 : kb s (p + q) ≠ 3 := by rw [kb_out (by omega)]; decide
  have hlq : ltrs s p = q := ltrs_uniq hl hq4
  refine Ends.region ?_
  refine S.val hA (R.move rfl) rfl ?_; clear hA a; intro a hA
  refine S.val hA (R.ff (R.gtr rfl rfl) (by omega)) rfl ?_; clear hA a; intro a hA
  refine S.done ?_
  replace hA : St 66 [(0, _), (3, _), (25, _)] a := hA.sub ((.cons rfl (.cons rfl (.cons rfl .nil))))
  refine Ends.condF hA rfl ?_
  refine Ends.skip (Ends.seq ?_)
  refine Ends.drawn (Mem w (feet [pt c #[.string s, .int .i64 ((p : Int)), .slice v X.length cap] 75, own 77 4 (.slice v X.length cap) X.length (tokv X)]) [pt c #[.string s, .int .i64 ((p : Int)), .slice v X.length cap] 75]) (.cons (0, true) (.cons (1, true) (.cons (2, true) (.cons (3, true) (.cons (4, true) (.cons (5, true) (.cons (6, true) (.cons (7, true) (.cons (8, true) (.cons (9, true) (.cons (10, true) (.cons (11, true) (.cons (12, true) (.cons (13, true) (.cons (14, true) (.cons (15, true) (.cons (16, true) (.cons (17, true) (.cons (18, true) (.cons (19, true) (.cons (20, true) (.cons (21, true) (.cons (22, true) (.cons (23, true) (.cons (24, true) (.cons (25, false) (.cons (26, false) (.cons (27, true) (.cons (28, true) (.cons (29, false) .nil)))))))))))))))))))))))))))))) 29 mixed (by kernel_rfl) (by kernel_rfl) (by kernel_rfl) ((hM.drop 2).drop 0).drew ?_
  replace hM := hM.drew
  refine D.valF hA rfl (fun _ => R.move rfl) rfl ?_; clear hA a; intro a hA
  refine D.valF hA rfl (fun _ => R.move rfl) rfl ?_; clear hA a; intro a hA
  refine D.valF hA rfl (fun _ => R.nilCheck rfl) rfl ?_; clear hA a; intro a hA
  refine D.valF hA rfl (fun _ => R.fieldAddr (q := 2) fi75_2 rfl rfl rfl) rfl ?_; clear hA a; intro a hA
  refine D.val hA rfl (by kernel_rfl) (fun _ hM => R.load sz48 rfl (hM.cell (k := 0) rfl rfl)) rfl ?_; clear hA a; intro a hA
  refine D.valF hA rfl (fun _ => R.move rfl) rfl ?_; clear hA a; intro a hA
  refine D.valF hA rfl (fun _ => R.nilCheck rfl) rfl ?_; clear hA a; intro a hA
  refine D.valF hA rfl (fun _ => R.fieldAddr (q := 0) fi75_0 rfl rfl rfl) rfl ?_; clear hA a; intro a hA
  refine D.val hA rfl (by kernel_rfl) (fun _ hM => R.load sz9 rfl (hM.cell (k := 0) rfl rfl)) rfl ?_; clear hA a; intro a hA
  refine D.valF hA rfl (fun _ => R.move rfl) rfl ?_; clear hA a; intro a hA
  refine D.valF hA rfl (fun _ => R.nilCheck rfl) rfl ?_; clear hA a; intro a hA
  refine D.valF hA rfl (fun _ => R.fieldAddr (q := 1) fi75_1 rfl rfl rfl) rfl ?_; clear hA a; intro a hA
  refine D.val hA rfl (by kernel_rfl) (fun _ hM => R.load sz3 rfl (hM.cell (k := 0) rfl rfl)) rfl ?_; clear hA a; intro a hA
  refine D.valF hA rfl (fun _ => R.move rfl) rfl ?_; clear hA a; intro a hA
  refine D.valF hA rfl (fun _ => R.nilCheck rfl) rfl ?_; clear hA a; intro a hA
  refine D.valF hA rfl (fun _ => R.fieldAddr (q := 1) fi75_1 rfl rfl rfl) rfl ?_; clear hA a; intro a hA
  refine D.val hA rfl (by kernel_rfl) (fun _ hM => R.load sz3 rfl (hM.cell (k := 0) rfl rfl)) rfl ?_; clear hA a; intro a hA
  refine D.valF hA rfl (fun _ => R.move rfl) rfl ?_; clear hA a; intro a hA
  refine D.valF hA rfl (fun _ => R.addI rfl rfl (r := ((p + q : Nat) : Int)) (by omega) (by omega)) rfl ?_; clear hA a; intro a hA
  refine D.valF hA rfl (fun _ => R.to (v := .string ((s.extract p (p + q)))) (R.sliceSS Tryd.underlying9 rfl rfl rfl (by omega)) (by first | rfl | (congr 2; done) | (congr 2 <;> omega))) rfl ?_; clear hA a; intro a hA
  refine D.valF hA rfl (fun _ => R.move rfl) rfl ?_; clear hA a; intro a hA
  refine D.valF hA rfl (fun _ => R.nilCheck rfl) rfl ?_; clear hA a; intro a hA
  refine D.valF hA rfl (fun _ => R.fieldAddr (q := 1) fi75_1 rfl rfl rfl) rfl ?_; clear hA a; intro a hA
  refine D.val hA rfl (by kernel_rfl) (fun _ hM => R.load sz3 rfl (hM.cell (k := 0) rfl rfl)) rfl ?_; clear hA a; intro a hA
  refine D.valF hA rfl (fun _ => R.build (cells := #[.int .i64 1, .string ((s.extract p (p + q))), .int .i64 0, .int .i64 ((p : Int))]) rfl (by kernel_rfl)) rfl ?_; clear hA a; intro a hA
  refine D.buildSl (cells := #[.int .i64 1, .string ((s.extract p (p + q))), .int .i64 0, .int .i64 ((p : Int))]) hA hM rfl Tryd.underlying48 info77 rfl rfl rfl rfl (by kernel_rfl) rfl ?_; clear hA hM a; intro b10 w10 hb11 hM; refine ⟨(fun hM => ((hM.drop 2).drop 0)) hM.tail, fun a hA => ?_⟩
  replace hM : Mem _ _ [pt b10 #[.int .i64 1, .string ((s.extract p (p + q))), .int .i64 0, .int .i64 ((p : Int))] 77, itC b1 ((s.extract p s.size)) q, pt c #[.string s, .int .i64 ((p : Int)), .slice v X.length cap] 75, own 77 4 (.slice v X.length cap) X.length (tokv X)] _ := hM
  refine D.append (k := 3) (k2 := 0) hA hM rfl rfl rfl Tryd.underlying48 info77 rfl rfl rfl rfl rfl rfl rfl rfl rfl (by first | omega | (show (_ + 1) * 40 ≤ 140737488355328; omega) | (unfold maxLen; omega)) (by first | omega | (show (_ + 1) * 40 ≤ 140737488355328; omega) | (unfold maxLen; omega)) rfl ?_; clear hA hM a; intro a12 c13 w11 hM
  replace hM : Mem _ _ [pt b10 #[.int .i64 1, .string ((s.extract p (p + q))), .int .i64 0, .int .i64 ((p : Int))] 77, itC b1 ((s.extract p s.size)) q, pt c #[.string s, .int .i64 ((p : Int)), .slice v X.length cap] 75, own 77 4 (.slice a12 (X.length + 1) c13) (X.length + 1) (tokv X ++ [.int .i64 1, .string ((s.extract p (p + q))), .int .i64 0, .int .i64 ((p : Int))])] _ := hM
  have hl14 : X.length + 1 = (X ++ [(⟨1, (s.extract p (p + q)), 0, (p : Int)⟩ : Tok)]).length := by simp
  rw [hl14, show tokv X ++ [.int .i64 1, .string ((s.extract p (p + q))), .int .i64 0, .int .i64 ((p : Int))] = tokv (X ++ [(⟨1, (s.extract p (p + q)), 0, (p : Int)⟩ : Tok)]) from tokv_app X (⟨1, (s.extract p (p + q)), 0, (p : Int)⟩ : Tok)] at hM
  replace hM := hM.drop 0
  replace hM : Mem _ _ [itC b1 ((s.extract p s.size)) q, pt c #[.string s, .int .i64 ((p : Int)), .slice v X.length cap] 75, own 77 4 (.slice a12 (((X ++ [(⟨1, (s.extract p (p + q)), 0, (p : Int)⟩ : Tok)])).length) c13) (((X ++ [(⟨1, (s.extract p (p + q)), 0, (p : Int)⟩ : Tok)])).length) (tokv ((X ++ [(⟨1, (s.extract p (p + q)), 0, (p : Int)⟩ : Tok)])))] _ := hM
  refine ⟨((hM.drop 2).drop 0), fun a hA => ?_⟩; rw [hl14] at hA; clear hl14
  refine D.valF hA rfl (fun _ => R.nilCheck rfl) rfl ?_; clear hA a; intro a hA
  refine D.valF hA rfl (fun _ => R.fieldAddr (q := 2) fi75_2 rfl rfl rfl) rfl ?_; clear hA a; intro a hA
  refine D.store (k := 1) hA hM rfl sz48 rfl rfl rfl rfl rfl ?_; clear hM
  intro w12 hM; refine ⟨fun _ hne => absurd rfl hne, ?_⟩
  replace hM : Mem _ _ [itC b1 ((s.extract p s.size)) q, pt c #[.string s, .int .i64 ((p : Int)), .slice a12 (((X ++ [(⟨1, (s.extract p (p + q)), 0, (p : Int)⟩ : Tok)])).length) c13] 75, own 77 4 (.slice a12 (((X ++ [(⟨1, (s.extract p (p + q)), 0, (p : Int)⟩ : Tok)])).length) c13) (((X ++ [(⟨1, (s.extract p (p + q)), 0, (p : Int)⟩ : Tok)])).length) (tokv ((X ++ [(⟨1, (s.extract p (p + q)), 0, (p : Int)⟩ : Tok)])))] _ := hM
  refine D.done ?_
  replace hA : St 66 [(0, _), (3, _)] a := hA.sub ((.cons rfl (.cons rfl .nil)))
  refine Ends.seq (Ends.region ?_)
  refine S.val hA (R.move rfl) rfl ?_; clear hA a; intro a hA
  refine S.val hA (R.nilCheck rfl) rfl ?_; clear hA a; intro a hA
  refine S.val hA (R.fieldAddr (q := 1) fi75_1 rfl rfl rfl) rfl ?_; clear hA a; intro a hA
  refine S.val hA (R.load sz3 rfl (hM.cell (k := 1) rfl rfl)) rfl ?_; clear hA a; intro a hA
  refine S.val hA (R.move rfl) rfl ?_; clear hA a; intro a hA
  refine S.val hA (R.addI rfl rfl (r := ((p + q : Nat) : Int)) (by omega) (by omega)) rfl ?_; clear hA a; intro a hA
  refine S.val hA (R.nilCheck rfl) rfl ?_; clear hA a; intro a hA
  refine S.val hA (R.fieldAddr (q := 1) fi75_1 rfl rfl rfl) rfl ?_; clear hA a; intro a hA
  refine S.store (k := 1) hA hM sz3 rfl rfl rfl rfl rfl ?_; clear hM
  intro w13 hM
  replace hM : Mem _ _ [itC b1 ((s.extract p s.size)) q, pt c #[.string s, .int .i64 (((p + q : Nat) : Int)), .slice a12 (((X ++ [(⟨1, (s.extract p (p + q)), 0, (p : Int)⟩ : Tok)])).length) c13] 75, own 77 4 (.slice a12 (((X ++ [(⟨1, (s.extract p (p + q)), 0, (p : Int)⟩ : Tok)])).length) c13) (((X ++ [(⟨1, (s.extract p (p + q)), 0, (p : Int)⟩ : Tok)])).length) (tokv ((X ++ [(⟨1, (s.extract p (p + q)), 0, (p : Int)⟩ : Tok)])))] _ := hM
  refine S.done ?_
  replace hA : St 66 [(0, _)] a := hA.sub ((.cons rfl .nil))
  refine Ends.seq (Ends.seq (Ends.region ?_))
  refine S.val hA (R.move rfl) rfl ?_; clear hA a; intro a hA
  refine S.call hA (R.callF Tryd.func69 rfl rfl rfl) rfl (lkind s (p + q) c (.slice a12 (((X ++ [(⟨1, (s.extract p (p + q)), 0, (p : Int)⟩ : Tok)])).length) c13) _ (hM.block (k := 1) rfl) (htab.mem hM hoff)) ?_; clear hA a
  rintro e w14 ⟨rfl, hb⟩
  replace hM := hM.callB hb; clear hb
  refine ⟨.int .i64 (kb s (p + q)), rfl, fun a hA => ?_⟩
  refine S.val hA (R.ff (R.eql rfl rfl) (by rw [← hlq]; exact h2)) rfl ?_; clear hA a; intro a hA
  refine S.done ?_
  refine Ends.condF hA rfl ?_
  refine Ends.skip (Ends.seq (Ends.region ?_))
  refine S.val hA (R.assign rfl) rfl ?_; clear hA a; intro a hA
  refine S.done ?_
  replace hA : St 66 [(2, _)] a := hA.sub ((.cons rfl .nil))
  refine Ends.ret1 Tryd.func71 Tryd.results71 hA rfl ?_
  replace hM := hM.front (k := 2) rfl
  replace hM := hM.front (k := 2) rfl
  replace hM : Mem _ _ [pt c #[.string s, .int .i64 (((p + q : Nat) : Int)), .slice a12 (((X ++ [(⟨1, (s.extract p (p + q)), 0, (p : Int)⟩ : Tok)])).length) c13] 75, own 77 4 (.slice a12 (((X ++ [(⟨1, (s.extract p (p + q)), 0, (p : Int)⟩ : Tok)])).length) c13) (((X ++ [(⟨1, (s.extract p (p + q)), 0, (p : Int)⟩ : Tok)])).length) (tokv ((X ++ [(⟨1, (s.extract p (p + q)), 0, (p : Int)⟩ : Tok)]))), itC b1 ((s.extract p s.size)) q] _ := hM
  replace hM := hM.firstN 2
  replace hM : Mem _ _ [pt c #[.string s, .int .i64 (((p + q : Nat) : Int)), .slice a12 (((X ++ [(⟨1, (s.extract p (p + q)), 0, (p : Int)⟩ : Tok)])).length) c13] 75, own 77 4 (.slice a12 (((X ++ [(⟨1, (s.extract p (p + q)), 0, (p : Int)⟩ : Tok)])).length) c13) (((X ++ [(⟨1, (s.extract p (p + q)), 0, (p : Int)⟩ : Tok)])).length) (tokv ((X ++ [(⟨1, (s.extract p (p + q)), 0, (p : Int)⟩ : Tok)])))] _ := hM
  rw [hlq]
  exact ⟨a12, c13, rfl, hM⟩
set_option maxRecDepth 100000 in
set_option maxHeartbeats 400000 in
theorem lnum_e (s : ByteArray) (p c : Nat) (v : Option Addr) (cap : Nat) (X : List Tok) (hp : p < s.size) (hX : X.length ≤ 1000000) (hsz : s.size ≤ 1000000) (N D2 E2 : Int) (hr : readI s (p : Int) = (N, D2, E2)) (h : E2 ≠ 0) (w : World) (hM : Mem w (feet [pt c #[.string s, .int .i64 ((p : Int)), .slice v X.length cap] 75, own 77 4 (.slice v X.length cap) X.length (tokv X)]) [pt c #[.string s, .int .i64 ((p : Int)), .slice v X.length cap] 75, own 77 4 (.slice v X.length cap) X.length (tokv X)] w) (htab : U8T w) (hoff : OffT (feet [pt c #[.string s, .int .i64 ((p : Int)), .slice v X.length cap] 75, own 77 4 (.slice v X.length cap) X.length (tokv X)])) :
  Calls Tryd.prog 72 #[.pointer (some ⟨c, 0, none⟩)] w fun e w' => e = .returned (.int .i64 E2) ∧ Mem w (feet [pt c #[.string s, .int .i64 ((p : Int)), .slice v X.length cap] 75, own 77 4 (.slice v X.length cap) X.length (tokv X)]) [pt c #[.string s, .int .i64 ((p : Int)), .slice v X.length cap] 75, own 77 4 (.slice v X.length cap) X.length (tokv X)] w' := by
 refine Calls.of_ends (vs := [.pointer (some ⟨c, 0, none⟩)]) Tryd.func72 rfl Tryd.ntmps72 rfl ?_
 intro a hA
 replace hA : St 44 [(0, _)] a := hA
 refine Ends.seq (Ends.region ?_)
 refine S.val hA (R.assign rfl) rfl ?_; clear hA a; intro a hA
 refine S.done ?_
 refine Ends.seq ?_
 refine Ends.drawn (Mem w (feet [pt c #[.string s, .int .i64 ((p : Int)), .slice v X.length cap] 75, own 77 4 (.slice v X.length cap) X.length (tokv X)]) [pt c #[.string s, .int .i64 ((p : Int)), .slice v X.length cap] 75, own 77 4 (.slice v X.length cap) X.length (tokv X)]) (.cons (0, true) (.cons (1, true) (.cons (2, true) (.cons (3, true) (.cons (4, true) (.cons (5, true) (.cons (6, true) (.cons (7, true) (.cons (8, false) (.cons (9, true) (.cons (10, true) (.cons (11, true) (.cons (12, true) (.cons (13, true) (.cons (14, true) (.cons (15, true) .nil)))))))))))))))) 16 mixed (by kernel_rfl) (by kernel_rfl) (by kernel_rfl) hM.drew ?_
 replace hM := hM.drew
 refine D.valF hA rfl (fun _ => R.move rfl) rfl ?_; clear hA a; intro a hA
 refine D.valF hA rfl (fun _ => R.nilCheck rfl) rfl ?_; clear hA a; intro a hA
 refine D.valF hA rfl (fun _ => R.fieldAddr (q := 0) fi75_0 rfl rfl rfl) rfl ?_; clear hA a; intro a hA
 refine D.val hA rfl (by kernel_rfl) (fun _ hM => R.load sz9 rfl (hM.cell (k := 0) rfl rfl)) rfl ?_; clear hA a; intro a hA
 refine D.valF hA rfl (fun _ => R.move rfl) rfl ?_; clear hA a; intro a hA
 refine D.valF hA rfl (fun _ => R.nilCheck rfl) rfl ?_; clear hA a; intro a hA
 refine D.valF hA rfl (fun _ => R.fieldAddr (q := 1) fi75_1 rfl rfl rfl) rfl ?_; clear hA a; intro a hA
 refine D.val hA rfl (by kernel_rfl) (fun _ hM => R.load sz3 rfl (hM.cell (k := 0) rfl rfl)) rfl ?_; clear hA a; intro a hA
 refine D.call hA rfl (R.callF Tryd.func88 rfl rfl rfl) rfl (read_eq s (p : Int) N D2 E2 (by omega) hr _) ?_; clear hA a
 rintro e w1 ⟨rfl, hb⟩
 replace hM := hM.callB hb; clear hb
 refine ⟨.tuple #[.int .i64 N, .int .i64 D2, .int .i64 E2], rfl, hM, fun a hA => ?_⟩
 refine D.valF hA rfl (fun _ => R.move rfl) rfl ?_; clear hA a; intro a hA
 refine D.valF hA rfl (fun _ => R.extract (v := .int .i64 N) rfl rfl) rfl ?_; clear hA a; intro a hA
 refine D.valF hA rfl (fun _ => R.extract (v := .int .i64 D2) rfl rfl) rfl ?_; clear hA a; intro a hA
 refine D.valF hA rfl (fun _ => R.extract (v := .int .i64 E2) rfl rfl) rfl ?_; clear hA a; intro a hA
 refine D.valF hA rfl (fun _ => R.assign rfl) rfl ?_; clear hA a; intro a hA
 refine D.valF hA rfl (fun _ => R.assign rfl) rfl ?_; clear hA a; intro a hA
 refine D.valF hA rfl (fun _ => R.assign rfl) rfl ?_; clear hA a; intro a hA
 refine D.done ?_
 replace hA : St 44 [(0, _), (3, _), (4, _), (5, _)] a := hA.sub ((.cons rfl (.cons rfl (.cons rfl (.cons rfl .nil)))))
 refine Ends.seq (Ends.seq (Ends.region ?_))
 refine S.val hA (R.move rfl) rfl ?_; clear hA a; intro a hA
 refine S.val hA (R.tt (R.neq rfl rfl) (by omega)) rfl ?_; clear hA a; intro a hA
 refine S.done ?_
 refine Ends.condT hA rfl ?_
 refine Ends.seq (Ends.region ?_)
 refine S.val hA (R.move rfl) rfl ?_; clear hA a; intro a hA
 refine S.val hA (R.assign rfl) rfl ?_; clear hA a; intro a hA
 refine S.done ?_
 replace hA : St 44 [(0, _), (2, _), (3, _), (4, _)] a := hA.sub ((.cons rfl (.cons rfl (.cons rfl (.cons rfl .nil)))))
 refine Ends.ret1 Tryd.func72 Tryd.results72 hA rfl ?_
 replace hM := hM.firstN 2
 replace hM : Mem _ _ [pt c #[.string s, .int .i64 ((p : Int)), .slice v X.length cap] 75, own 77 4 (.slice v X.length cap) X.length (tokv X)] _ := hM
 exact ⟨rfl, hM⟩
set_option maxRecDepth 100000 in
set_option maxHeartbeats 400000 in
theorem lnum_s (s : ByteArray) (p c : Nat) (v : Option Addr) (cap : Nat) (X : List Tok) (hp : p < s.size) (hX : X.length ≤ 1000000) (hsz : s.size ≤ 1000000) (N : Int) (d : Nat) (hr : readI s (p : Int) = (N, ((p + d : Nat) : Int), 0)) (h2 : kb s (p + d) = 3) (w : World) (hM : Mem w (feet [pt c #[.string s, .int .i64 ((p : Int)), .slice v X.length cap] 75, own 77 4 (.slice v X.length cap) X.length (tokv X)]) [pt c #[.string s, .int .i64 ((p : Int)), .slice v X.length cap] 75, own 77 4 (.slice v X.length cap) X.length (tokv X)] w) (htab : U8T w) (hoff : OffT (feet [pt c #[.string s, .int .i64 ((p : Int)), .slice v X.length cap] 75, own 77 4 (.slice v X.length cap) X.length (tokv X)])) :
  Calls Tryd.prog 72 #[.pointer (some ⟨c, 0, none⟩)] w fun e w' => ∃ v' cap', e = .returned (.int .i64 2) ∧ Mem w (feet [pt c #[.string s, .int .i64 ((p : Int)), .slice v X.length cap] 75, own 77 4 (.slice v X.length cap) X.length (tokv X)]) [pt c #[.string s, .int .i64 (((p + d : Nat) : Int)), .slice v' (((X ++ [(⟨2, ⟨#[]⟩, N, p⟩ : Tok)])).length) cap'] 75, own 77 4 (.slice v' (((X ++ [(⟨2, ⟨#[]⟩, N, p⟩ : Tok)])).length) cap') (((X ++ [(⟨2, ⟨#[]⟩, N, p⟩ : Tok)])).length) (tokv ((X ++ [(⟨2, ⟨#[]⟩, N, p⟩ : Tok)])))] w' := by
 refine Calls.of_ends (vs := [.pointer (some ⟨c, 0, none⟩)]) Tryd.func72 rfl Tryd.ntmps72 rfl ?_
 intro a hA
 replace hA : St 44 [(0, _)] a := hA
 refine Ends.seq (Ends.region ?_)
 refine S.val hA (R.assign rfl) rfl ?_; clear hA a; intro a hA
 refine S.done ?_
 refine Ends.seq ?_
 refine Ends.drawn (Mem w (feet [pt c #[.string s, .int .i64 ((p : Int)), .slice v X.length cap] 75, own 77 4 (.slice v X.length cap) X.length (tokv X)]) [pt c #[.string s, .int .i64 ((p : Int)), .slice v X.length cap] 75, own 77 4 (.slice v X.length cap) X.length (tokv X)]) (.cons (0, true) (.cons (1, true) (.cons (2, true) (.cons (3, true) (.cons (4, true) (.cons (5, true) (.cons (6, true) (.cons (7, true) (.cons (8, false) (.cons (9, true) (.cons (10, true) (.cons (11, true) (.cons (12, true) (.cons (13, true) (.cons (14, true) (.cons (15, true) .nil)))))))))))))))) 16 mixed (by kernel_rfl) (by kernel_rfl) (by kernel_rfl) hM.drew ?_
 replace hM := hM.drew
 refine D.valF hA rfl (fun _ => R.move rfl) rfl ?_; clear hA a; intro a hA
 refine D.valF hA rfl (fun _ => R.nilCheck rfl) rfl ?_; clear hA a; intro a hA
 refine D.valF hA rfl (fun _ => R.fieldAddr (q := 0) fi75_0 rfl rfl rfl) rfl ?_; clear hA a; intro a hA
 refine D.val hA rfl (by kernel_rfl) (fun _ hM => R.load sz9 rfl (hM.cell (k := 0) rfl rfl)) rfl ?_; clear hA a; intro a hA
 refine D.valF hA rfl (fun _ => R.move rfl) rfl ?_; clear hA a; intro a hA
 refine D.valF hA rfl (fun _ => R.nilCheck rfl) rfl ?_; clear hA a; intro a hA
 refine D.valF hA rfl (fun _ => R.fieldAddr (q := 1) fi75_1 rfl rfl rfl) rfl ?_; clear hA a; intro a hA
 refine D.val hA rfl (by kernel_rfl) (fun _ hM => R.load sz3 rfl (hM.cell (k := 0) rfl rfl)) rfl ?_; clear hA a; intro a hA
 refine D.call hA rfl (R.callF Tryd.func88 rfl rfl rfl) rfl (read_eq s (p : Int) N ((p + d : Nat) : Int) 0 (by omega) hr _) ?_; clear hA a
 rintro e w1 ⟨rfl, hb⟩
 replace hM := hM.callB hb; clear hb
 refine ⟨.tuple #[.int .i64 N, .int .i64 (((p + d : Nat) : Int)), .int .i64 0], rfl, hM, fun a hA => ?_⟩
 refine D.valF hA rfl (fun _ => R.move rfl) rfl ?_; clear hA a; intro a hA
 refine D.valF hA rfl (fun _ => R.extract (v := .int .i64 N) rfl rfl) rfl ?_; clear hA a; intro a hA
 refine D.valF hA rfl (fun _ => R.extract (v := .int .i64 (((p + d : Nat) : Int))) rfl rfl) rfl ?_; clear hA a; intro a hA
 refine D.valF hA rfl (fun _ => R.extract (v := .int .i64 0) rfl rfl) rfl ?_; clear hA a; intro a hA
 refine D.valF hA rfl (fun _ => R.assign rfl) rfl ?_; clear hA a; intro a hA
 refine D.valF hA rfl (fun _ => R.assign rfl) rfl ?_; clear hA a; intro a hA
 refine D.valF hA rfl (fun _ => R.assign rfl) rfl ?_; clear hA a; intro a hA
 refine D.done ?_
 replace hA : St 44 [(0, _), (3, _), (4, _), (5, _)] a := hA.sub ((.cons rfl (.cons rfl (.cons rfl (.cons rfl .nil)))))
 refine Ends.seq (Ends.seq (Ends.region ?_))
 refine S.val hA (R.move rfl) rfl ?_; clear hA a; intro a hA
 refine S.val hA (R.ff (R.neq rfl rfl) (by first | decide | simp | omega)) rfl ?_; clear hA a; intro a hA
 refine S.done ?_
 refine Ends.condF hA rfl ?_
 refine Ends.skip (Ends.seq ?_)
 refine Ends.drawn (Mem w (feet [pt c #[.string s, .int .i64 ((p : Int)), .slice v X.length cap] 75, own 77 4 (.slice v X.length cap) X.length (tokv X)]) [pt c #[.string s, .int .i64 ((p : Int)), .slice v X.length cap] 75]) (.cons (0, true) (.cons (1, true) (.cons (2, true) (.cons (3, true) (.cons (4, true) (.cons (5, true) (.cons (6, true) (.cons (7, true) (.cons (8, true) (.cons (9, true) (.cons (10, true) (.cons (11, false) (.cons (12, false) (.cons (13, true) (.cons (14, true) (.cons (15, false) .nil)))))))))))))))) 15 mixed (by kernel_rfl) (by kernel_rfl) (by kernel_rfl) (hM.drop 1).drew ?_
 replace hM := hM.drew
 refine D.valF hA rfl (fun _ => R.move rfl) rfl ?_; clear hA a; intro a hA
 refine D.valF hA rfl (fun _ => R.move rfl) rfl ?_; clear hA a; intro a hA
 refine D.valF hA rfl (fun _ => R.nilCheck rfl) rfl ?_; clear hA a; intro a hA
 refine D.valF hA rfl (fun _ => R.fieldAddr (q := 2) fi75_2 rfl rfl rfl) rfl ?_; clear hA a; intro a hA
 refine D.val hA rfl (by kernel_rfl) (fun _ hM => R.load sz48 rfl (hM.cell (k := 0) rfl rfl)) rfl ?_; clear hA a; intro a hA
 refine D.valF hA rfl (fun _ => R.move rfl) rfl ?_; clear hA a; intro a hA
 refine D.valF hA rfl (fun _ => R.move rfl) rfl ?_; clear hA a; intro a hA
 refine D.valF hA rfl (fun _ => R.nilCheck rfl) rfl ?_; clear hA a; intro a hA
 refine D.valF hA rfl (fun _ => R.fieldAddr (q := 1) fi75_1 rfl rfl rfl) rfl ?_; clear hA a; intro a hA
 refine D.val hA rfl (by kernel_rfl) (fun _ hM => R.load sz3 rfl (hM.cell (k := 0) rfl rfl)) rfl ?_; clear hA a; intro a hA
 refine D.valF hA rfl (fun _ => R.build (cells := #[.int .i64 2, .string (⟨#[]⟩), .int .i64 N, .int .i64 ((p : Int))]) rfl (by kernel_rfl)) rfl ?_; clear hA a; intro a hA
 refine D.buildSl (cells := #[.int .i64 2, .string (⟨#[]⟩), .int .i64 N, .int .i64 ((p : Int))]) hA hM rfl Tryd.underlying48 info77 rfl rfl rfl rfl (by kernel_rfl) rfl ?_; clear hA hM a; intro b1 w2 hb2 hM; refine ⟨(fun hM => (hM.drop 1)) hM.tail, fun a hA => ?_⟩
 replace hM : Mem _ _ [pt b1 #[.int .i64 2, .string (⟨#[]⟩), .int .i64 N, .int .i64 ((p : Int))] 77, pt c #[.string s, .int .i64 ((p : Int)), .slice v X.length cap] 75, own 77 4 (.slice v X.length cap) X.length (tokv X)] _ := hM
 refine D.append (k := 2) (k2 := 0) hA hM rfl rfl rfl Tryd.underlying48 info77 rfl rfl rfl rfl rfl rfl rfl rfl rfl (by first | omega | (show (_ + 1) * 40 ≤ 140737488355328; omega) | (unfold maxLen; omega)) (by first | omega | (show (_ + 1) * 40 ≤ 140737488355328; omega) | (unfold maxLen; omega)) rfl ?_; clear hA hM a; intro a3 c4 w3 hM
 replace hM : Mem _ _ [pt b1 #[.int .i64 2, .string (⟨#[]⟩), .int .i64 N, .int .i64 ((p : Int))] 77, pt c #[.string s, .int .i64 ((p : Int)), .slice v X.length cap] 75, own 77 4 (.slice a3 (X.length + 1) c4) (X.length + 1) (tokv X ++ [.int .i64 2, .string (⟨#[]⟩), .int .i64 N, .int .i64 ((p : Int))])] _ := hM
 have hl5 : X.length + 1 = (X ++ [(⟨2, ⟨#[]⟩, N, (p : Int)⟩ : Tok)]).length := by simp
 rw [hl5, show tokv X ++ [.int .i64 2, .string (⟨#[]⟩), .int .i64 N, .int .i64 ((p : Int))] = tokv (X ++ [(⟨2, ⟨#[]⟩, N, (p : Int)⟩ : Tok)]) from tokv_app X (⟨2, ⟨#[]⟩, N, (p : Int)⟩ : Tok)] at hM
 replace hM := hM.drop 0
 replace hM : Mem _ _ [pt c #[.string s, .int .i64 ((p : Int)), .slice v X.length cap] 75, own 77 4 (.slice a3 (((X ++ [(⟨2, ⟨#[]⟩, N, (p : Int)⟩ : Tok)])).length) c4) (((X ++ [(⟨2, ⟨#[]⟩, N, (p : Int)⟩ : Tok)])).length) (tokv ((X ++ [(⟨2, ⟨#[]⟩, N, (p : Int)⟩ : Tok)])))] _ := hM
 refine ⟨(hM.drop 1), fun a hA => ?_⟩; rw [hl5] at hA; clear hl5
 refine D.valF hA rfl (fun _ => R.nilCheck rfl) rfl ?_; clear hA a; intro a hA
 refine D.valF hA rfl (fun _ => R.fieldAddr (q := 2) fi75_2 rfl rfl rfl) rfl ?_; clear hA a; intro a hA
 refine D.store (k := 0) hA hM rfl sz48 rfl rfl rfl rfl rfl ?_; clear hM
 intro w4 hM; refine ⟨fun _ hne => absurd rfl hne, ?_⟩
 replace hM : Mem _ _ [pt c #[.string s, .int .i64 ((p : Int)), .slice a3 (((X ++ [(⟨2, ⟨#[]⟩, N, (p : Int)⟩ : Tok)])).length) c4] 75, own 77 4 (.slice a3 (((X ++ [(⟨2, ⟨#[]⟩, N, (p : Int)⟩ : Tok)])).length) c4) (((X ++ [(⟨2, ⟨#[]⟩, N, (p : Int)⟩ : Tok)])).length) (tokv ((X ++ [(⟨2, ⟨#[]⟩, N, (p : Int)⟩ : Tok)])))] _ := hM
 refine D.done ?_
 replace hA : St 44 [(0, _), (4, _)] a := hA.sub ((.cons rfl (.cons rfl .nil)))
 refine Ends.seq (Ends.region ?_)
 refine S.val hA (R.move rfl) rfl ?_; clear hA a; intro a hA
 refine S.val hA (R.move rfl) rfl ?_; clear hA a; intro a hA
 refine S.val hA (R.nilCheck rfl) rfl ?_; clear hA a; intro a hA
 refine S.val hA (R.fieldAddr (q := 1) fi75_1 rfl rfl rfl) rfl ?_; clear hA a; intro a hA
 refine S.store (k := 0) hA hM sz3 rfl rfl rfl rfl rfl ?_; clear hM
 intro w5 hM
 replace hM : Mem _ _ [pt c #[.string s, .int .i64 (((p + d : Nat) : Int)), .slice a3 (((X ++ [(⟨2, ⟨#[]⟩, N, (p : Int)⟩ : Tok)])).length) c4] 75, own 77 4 (.slice a3 (((X ++ [(⟨2, ⟨#[]⟩, N, (p : Int)⟩ : Tok)])).length) c4) (((X ++ [(⟨2, ⟨#[]⟩, N, (p : Int)⟩ : Tok)])).length) (tokv ((X ++ [(⟨2, ⟨#[]⟩, N, (p : Int)⟩ : Tok)])))] _ := hM
 refine S.done ?_
 replace hA : St 44 [(0, _)] a := hA.sub ((.cons rfl .nil))
 refine Ends.seq (Ends.seq (Ends.region ?_))
 refine S.val hA (R.move rfl) rfl ?_; clear hA a; intro a hA
 refine S.call hA (R.callF Tryd.func69 rfl rfl rfl) rfl (lkind s (p + d) c (.slice a3 (((X ++ [(⟨2, ⟨#[]⟩, N, (p : Int)⟩ : Tok)])).length) c4) _ (hM.block (k := 0) rfl) (htab.mem hM hoff)) ?_; clear hA a
 rintro e w6 ⟨rfl, hb⟩
 replace hM := hM.callB hb; clear hb
 refine ⟨.int .i64 (kb s (p + d)), rfl, fun a hA => ?_⟩
 refine S.val hA (R.tt (R.eql rfl rfl) (h2)) rfl ?_; clear hA a; intro a hA
 refine S.done ?_
 refine Ends.condT hA rfl ?_
 refine Ends.seq (Ends.region ?_)
 refine S.val hA (R.assign rfl) rfl ?_; clear hA a; intro a hA
 refine S.done ?_
 replace hA : St 44 [(2, _)] a := hA.sub ((.cons rfl .nil))
 refine Ends.ret1 Tryd.func72 Tryd.results72 hA rfl ?_
 replace hM := hM.firstN 2
 replace hM : Mem _ _ [pt c #[.string s, .int .i64 (((p + d : Nat) : Int)), .slice a3 (((X ++ [(⟨2, ⟨#[]⟩, N, (p : Int)⟩ : Tok)])).length) c4] 75, own 77 4 (.slice a3 (((X ++ [(⟨2, ⟨#[]⟩, N, (p : Int)⟩ : Tok)])).length) c4) (((X ++ [(⟨2, ⟨#[]⟩, N, (p : Int)⟩ : Tok)])).length) (tokv ((X ++ [(⟨2, ⟨#[]⟩, N, (p : Int)⟩ : Tok)])))] _ := hM
 exact ⟨a3, c4, rfl, hM⟩
set_option maxRecDepth 100000 in
set_option maxHeartbeats 400000 in
theorem lnum_o (s : ByteArray) (p c : Nat) (v : Option Addr) (cap : Nat) (X : List Tok) (hp : p < s.size) (hX : X.length ≤ 1000000) (hsz : s.size ≤ 1000000) (N : Int) (d : Nat) (hr : readI s (p : Int) = (N, ((p + d : Nat) : Int), 0)) (h2 : kb s (p + d) ≠ 3) (w : World) (hM : Mem w (feet [pt c #[.string s, .int .i64 ((p : Int)), .slice v X.length cap] 75, own 77 4 (.slice v X.length cap) X.length (tokv X)]) [pt c #[.string s, .int .i64 ((p : Int)), .slice v X.length cap] 75, own 77 4 (.slice v X.length cap) X.length (tokv X)] w) (htab : U8T w) (hoff : OffT (feet [pt c #[.string s, .int .i64 ((p : Int)), .slice v X.length cap] 75, own 77 4 (.slice v X.length cap) X.length (tokv X)])) :
  Calls Tryd.prog 72 #[.pointer (some ⟨c, 0, none⟩)] w fun e w' => ∃ v' cap', e = .returned (.int .i64 0) ∧ Mem w (feet [pt c #[.string s, .int .i64 ((p : Int)), .slice v X.length cap] 75, own 77 4 (.slice v X.length cap) X.length (tokv X)]) [pt c #[.string s, .int .i64 (((p + d : Nat) : Int)), .slice v' (((X ++ [(⟨2, ⟨#[]⟩, N, p⟩ : Tok)])).length) cap'] 75, own 77 4 (.slice v' (((X ++ [(⟨2, ⟨#[]⟩, N, p⟩ : Tok)])).length) cap') (((X ++ [(⟨2, ⟨#[]⟩, N, p⟩ : Tok)])).length) (tokv ((X ++ [(⟨2, ⟨#[]⟩, N, p⟩ : Tok)])))] w' := by
 refine Calls.of_ends (vs := [.pointer (some ⟨c, 0, none⟩)]) Tryd.func72 rfl Tryd.ntmps72 rfl ?_
 intro a hA
 replace hA : St 44 [(0, _)] a := hA
 refine Ends.seq (Ends.region ?_)
 refine S.val hA (R.assign rfl) rfl ?_; clear hA a; intro a hA
 refine S.done ?_
 refine Ends.seq ?_
 refine Ends.drawn (Mem w (feet [pt c #[.string s, .int .i64 ((p : Int)), .slice v X.length cap] 75, own 77 4 (.slice v X.length cap) X.length (tokv X)]) [pt c #[.string s, .int .i64 ((p : Int)), .slice v X.length cap] 75, own 77 4 (.slice v X.length cap) X.length (tokv X)]) (.cons (0, true) (.cons (1, true) (.cons (2, true) (.cons (3, true) (.cons (4, true) (.cons (5, true) (.cons (6, true) (.cons (7, true) (.cons (8, false) (.cons (9, true) (.cons (10, true) (.cons (11, true) (.cons (12, true) (.cons (13, true) (.cons (14, true) (.cons (15, true) .nil)))))))))))))))) 16 mixed (by kernel_rfl) (by kernel_rfl) (by kernel_rfl) hM.drew ?_
 replace hM := hM.drew
 refine D.valF hA rfl (fun _ => R.move rfl) rfl ?_; clear hA a; intro a hA
 refine D.valF hA rfl (fun _ => R.nilCheck rfl) rfl ?_; clear hA a; intro a hA
 refine D.valF hA rfl (fun _ => R.fieldAddr (q := 0) fi75_0 rfl rfl rfl) rfl ?_; clear hA a; intro a hA
 refine D.val hA rfl (by kernel_rfl) (fun _ hM => R.load sz9 rfl (hM.cell (k := 0) rfl rfl)) rfl ?_; clear hA a; intro a hA
 refine D.valF hA rfl (fun _ => R.move rfl) rfl ?_; clear hA a; intro a hA
 refine D.valF hA rfl (fun _ => R.nilCheck rfl) rfl ?_; clear hA a; intro a hA
 refine D.valF hA rfl (fun _ => R.fieldAddr (q := 1) fi75_1 rfl rfl rfl) rfl ?_; clear hA a; intro a hA
 refine D.val hA rfl (by kernel_rfl) (fun _ hM => R.load sz3 rfl (hM.cell (k := 0) rfl rfl)) rfl ?_; clear hA a; intro a hA
 refine D.call hA rfl (R.callF Tryd.func88 rfl rfl rfl) rfl (read_eq s (p : Int) N ((p + d : Nat) : Int) 0 (by omega) hr _) ?_; clear hA a
 rintro e w1 ⟨rfl, hb⟩
 replace hM := hM.callB hb; clear hb
 refine ⟨.tuple #[.int .i64 N, .int .i64 (((p + d : Nat) : Int)), .int .i64 0], rfl, hM, fun a hA => ?_⟩
 refine D.valF hA rfl (fun _ => R.move rfl) rfl ?_; clear hA a; intro a hA
 refine D.valF hA rfl (fun _ => R.extract (v := .int .i64 N) rfl rfl) rfl ?_; clear hA a; intro a hA
 refine D.valF hA rfl (fun _ => R.extract (v := .int .i64 (((p + d : Nat) : Int))) rfl rfl) rfl ?_; clear hA a; intro a hA
 refine D.valF hA rfl (fun _ => R.extract (v := .int .i64 0) rfl rfl) rfl ?_; clear hA a; intro a hA
 refine D.valF hA rfl (fun _ => R.assign rfl) rfl ?_; clear hA a; intro a hA
 refine D.valF hA rfl (fun _ => R.assign rfl) rfl ?_; clear hA a; intro a hA
 refine D.valF hA rfl (fun _ => R.assign rfl) rfl ?_; clear hA a; intro a hA
 refine D.done ?_
 replace hA : St 44 [(0, _), (3, _), (4, _), (5, _)] a := hA.sub ((.cons rfl (.cons rfl (.cons rfl (.cons rfl .nil)))))
 refine Ends.seq (Ends.seq (Ends.region ?_))
 refine S.val hA (R.move rfl) rfl ?_; clear hA a; intro a hA
 refine S.val hA (R.ff (R.neq rfl rfl) (by first | decide | simp | omega)) rfl ?_; clear hA a; intro a hA
 refine S.done ?_
 refine Ends.condF hA rfl ?_
 refine Ends.skip (Ends.seq ?_)
 refine Ends.drawn (Mem w (feet [pt c #[.string s, .int .i64 ((p : Int)), .slice v X.length cap] 75, own 77 4 (.slice v X.length cap) X.length (tokv X)]) [pt c #[.string s, .int .i64 ((p : Int)), .slice v X.length cap] 75]) (.cons (0, true) (.cons (1, true) (.cons (2, true) (.cons (3, true) (.cons (4, true) (.cons (5, true) (.cons (6, true) (.cons (7, true) (.cons (8, true) (.cons (9, true) (.cons (10, true) (.cons (11, false) (.cons (12, false) (.cons (13, true) (.cons (14, true) (.cons (15, false) .nil)))))))))))))))) 15 mixed (by kernel_rfl) (by kernel_rfl) (by kernel_rfl) (hM.drop 1).drew ?_
 replace hM := hM.drew
 refine D.valF hA rfl (fun _ => R.move rfl) rfl ?_; clear hA a; intro a hA
 refine D.valF hA rfl (fun _ => R.move rfl) rfl ?_; clear hA a; intro a hA
 refine D.valF hA rfl (fun _ => R.nilCheck rfl) rfl ?_; clear hA a; intro a hA
 refine D.valF hA rfl (fun _ => R.fieldAddr (q := 2) fi75_2 rfl rfl rfl) rfl ?_; clear hA a; intro a hA
 refine D.val hA rfl (by kernel_rfl) (fun _ hM => R.load sz48 rfl (hM.cell (k := 0) rfl rfl)) rfl ?_; clear hA a; intro a hA
 refine D.valF hA rfl (fun _ => R.move rfl) rfl ?_; clear hA a; intro a hA
 refine D.valF hA rfl (fun _ => R.move rfl) rfl ?_; clear hA a; intro a hA
 refine D.valF hA rfl (fun _ => R.nilCheck rfl) rfl ?_; clear hA a; intro a hA
 refine D.valF hA rfl (fun _ => R.fieldAddr (q := 1) fi75_1 rfl rfl rfl) rfl ?_; clear hA a; intro a hA
 refine D.val hA rfl (by kernel_rfl) (fun _ hM => R.load sz3 rfl (hM.cell (k := 0) rfl rfl)) rfl ?_; clear hA a; intro a hA
 refine D.valF hA rfl (fun _ => R.build (cells := #[.int .i64 2, .string (⟨#[]⟩), .int .i64 N, .int .i64 ((p : Int))]) rfl (by kernel_rfl)) rfl ?_; clear hA a; intro a hA
 refine D.buildSl (cells := #[.int .i64 2, .string (⟨#[]⟩), .int .i64 N, .int .i64 ((p : Int))]) hA hM rfl Tryd.underlying48 info77 rfl rfl rfl rfl (by kernel_rfl) rfl ?_; clear hA hM a; intro b1 w2 hb2 hM; refine ⟨(fun hM => (hM.drop 1)) hM.tail, fun a hA => ?_⟩
 replace hM : Mem _ _ [pt b1 #[.int .i64 2, .string (⟨#[]⟩), .int .i64 N, .int .i64 ((p : Int))] 77, pt c #[.string s, .int .i64 ((p : Int)), .slice v X.length cap] 75, own 77 4 (.slice v X.length cap) X.length (tokv X)] _ := hM
 refine D.append (k := 2) (k2 := 0) hA hM rfl rfl rfl Tryd.underlying48 info77 rfl rfl rfl rfl rfl rfl rfl rfl rfl (by first | omega | (show (_ + 1) * 40 ≤ 140737488355328; omega) | (unfold maxLen; omega)) (by first | omega | (show (_ + 1) * 40 ≤ 140737488355328; omega) | (unfold maxLen; omega)) rfl ?_; clear hA hM a; intro a3 c4 w3 hM
 replace hM : Mem _ _ [pt b1 #[.int .i64 2, .string (⟨#[]⟩), .int .i64 N, .int .i64 ((p : Int))] 77, pt c #[.string s, .int .i64 ((p : Int)), .slice v X.length cap] 75, own 77 4 (.slice a3 (X.length + 1) c4) (X.length + 1) (tokv X ++ [.int .i64 2, .string (⟨#[]⟩), .int .i64 N, .int .i64 ((p : Int))])] _ := hM
 have hl5 : X.length + 1 = (X ++ [(⟨2, ⟨#[]⟩, N, (p : Int)⟩ : Tok)]).length := by simp
 rw [hl5, show tokv X ++ [.int .i64 2, .string (⟨#[]⟩), .int .i64 N, .int .i64 ((p : Int))] = tokv (X ++ [(⟨2, ⟨#[]⟩, N, (p : Int)⟩ : Tok)]) from tokv_app X (⟨2, ⟨#[]⟩, N, (p : Int)⟩ : Tok)] at hM
 replace hM := hM.drop 0
 replace hM : Mem _ _ [pt c #[.string s, .int .i64 ((p : Int)), .slice v X.length cap] 75, own 77 4 (.slice a3 (((X ++ [(⟨2, ⟨#[]⟩, N, (p : Int)⟩ : Tok)])).length) c4) (((X ++ [(⟨2, ⟨#[]⟩, N, (p : Int)⟩ : Tok)])).length) (tokv ((X ++ [(⟨2, ⟨#[]⟩, N, (p : Int)⟩ : Tok)])))] _ := hM
 refine ⟨(hM.drop 1), fun a hA => ?_⟩; rw [hl5] at hA; clear hl5
 refine D.valF hA rfl (fun _ => R.nilCheck rfl) rfl ?_; clear hA a; intro a hA
 refine D.valF hA rfl (fun _ => R.fieldAddr (q := 2) fi75_2 rfl rfl rfl) rfl ?_; clear hA a; intro a hA
 refine D.store (k := 0) hA hM rfl sz48 rfl rfl rfl rfl rfl ?_; clear hM
 intro w4 hM; refine ⟨fun _ hne => absurd rfl hne, ?_⟩
 replace hM : Mem _ _ [pt c #[.string s, .int .i64 ((p : Int)), .slice a3 (((X ++ [(⟨2, ⟨#[]⟩, N, (p : Int)⟩ : Tok)])).length) c4] 75, own 77 4 (.slice a3 (((X ++ [(⟨2, ⟨#[]⟩, N, (p : Int)⟩ : Tok)])).length) c4) (((X ++ [(⟨2, ⟨#[]⟩, N, (p : Int)⟩ : Tok)])).length) (tokv ((X ++ [(⟨2, ⟨#[]⟩, N, (p : Int)⟩ : Tok)])))] _ := hM
 refine D.done ?_
 replace hA : St 44 [(0, _), (4, _)] a := hA.sub ((.cons rfl (.cons rfl .nil)))
 refine Ends.seq (Ends.region ?_)
 refine S.val hA (R.move rfl) rfl ?_; clear hA a; intro a hA
 refine S.val hA (R.move rfl) rfl ?_; clear hA a; intro a hA
 refine S.val hA (R.nilCheck rfl) rfl ?_; clear hA a; intro a hA
 refine S.val hA (R.fieldAddr (q := 1) fi75_1 rfl rfl rfl) rfl ?_; clear hA a; intro a hA
 refine S.store (k := 0) hA hM sz3 rfl rfl rfl rfl rfl ?_; clear hM
 intro w5 hM
 replace hM : Mem _ _ [pt c #[.string s, .int .i64 (((p + d : Nat) : Int)), .slice a3 (((X ++ [(⟨2, ⟨#[]⟩, N, (p : Int)⟩ : Tok)])).length) c4] 75, own 77 4 (.slice a3 (((X ++ [(⟨2, ⟨#[]⟩, N, (p : Int)⟩ : Tok)])).length) c4) (((X ++ [(⟨2, ⟨#[]⟩, N, (p : Int)⟩ : Tok)])).length) (tokv ((X ++ [(⟨2, ⟨#[]⟩, N, (p : Int)⟩ : Tok)])))] _ := hM
 refine S.done ?_
 replace hA : St 44 [(0, _)] a := hA.sub ((.cons rfl .nil))
 refine Ends.seq (Ends.seq (Ends.region ?_))
 refine S.val hA (R.move rfl) rfl ?_; clear hA a; intro a hA
 refine S.call hA (R.callF Tryd.func69 rfl rfl rfl) rfl (lkind s (p + d) c (.slice a3 (((X ++ [(⟨2, ⟨#[]⟩, N, (p : Int)⟩ : Tok)])).length) c4) _ (hM.block (k := 0) rfl) (htab.mem hM hoff)) ?_; clear hA a
 rintro e w6 ⟨rfl, hb⟩
 replace hM := hM.callB hb; clear hb
 refine ⟨.int .i64 (kb s (p + d)), rfl, fun a hA => ?_⟩
 refine S.val hA (R.ff (R.eql rfl rfl) (h2)) rfl ?_; clear hA a; intro a hA
 refine S.done ?_
 refine Ends.condF hA rfl ?_
 refine Ends.skip (Ends.seq (Ends.region ?_))
 refine S.val hA (R.assign rfl) rfl ?_; clear hA a; intro a hA
 refine S.done ?_
 replace hA : St 44 [(2, _)] a := hA.sub ((.cons rfl .nil))
 refine Ends.ret1 Tryd.func72 Tryd.results72 hA rfl ?_
 replace hM := hM.firstN 2
 replace hM : Mem _ _ [pt c #[.string s, .int .i64 (((p + d : Nat) : Int)), .slice a3 (((X ++ [(⟨2, ⟨#[]⟩, N, (p : Int)⟩ : Tok)])).length) c4] 75, own 77 4 (.slice a3 (((X ++ [(⟨2, ⟨#[]⟩, N, (p : Int)⟩ : Tok)])).length) c4) (((X ++ [(⟨2, ⟨#[]⟩, N, (p : Int)⟩ : Tok)])).length) (tokv ((X ++ [(⟨2, ⟨#[]⟩, N, (p : Int)⟩ : Tok)])))] _ := hM
 exact ⟨a3, c4, rfl, hM⟩
set_option maxRecDepth 100000 in
set_option maxHeartbeats 400000 in
theorem lone_1 (s : ByteArray) (p c : Nat) (v : Option Addr) (cap : Nat) (X : List Tok) (hp : p < s.size) (hX : X.length ≤ 1000000) (hsz : s.size ≤ 1000000) (hk : kb s p = 1) (w : World) (hM : Mem w (feet [pt c #[.string s, .int .i64 ((p : Int)), .slice v X.length cap] 75, own 77 4 (.slice v X.length cap) X.length (tokv X)]) [pt c #[.string s, .int .i64 ((p : Int)), .slice v X.length cap] 75, own 77 4 (.slice v X.length cap) X.length (tokv X)] w) (htab : U8T w) (hoff : OffT (feet [pt c #[.string s, .int .i64 ((p : Int)), .slice v X.length cap] 75, own 77 4 (.slice v X.length cap) X.length (tokv X)])) :
  Calls Tryd.prog 52 #[.pointer (some ⟨c, 0, none⟩)] w fun e w' => e = .returned (.int .i64 0) ∧ Mem w (feet [pt c #[.string s, .int .i64 ((p : Int)), .slice v X.length cap] 75, own 77 4 (.slice v X.length cap) X.length (tokv X)]) [pt c #[.string s, .int .i64 (((p + 1 : Nat) : Int)), .slice v X.length cap] 75, own 77 4 (.slice v X.length cap) X.length (tokv X)] w' := by
 refine Calls.of_ends (vs := [.pointer (some ⟨c, 0, none⟩)]) Tryd.func52 rfl Tryd.ntmps52 rfl ?_
 intro a hA
 replace hA : St 26 [(0, _)] a := hA
 refine Ends.seq (Ends.region ?_)
 refine S.val hA (R.assign rfl) rfl ?_; clear hA a; intro a hA
 refine S.done ?_
 refine Ends.seq (Ends.seq (Ends.region ?_))
 refine S.val hA (R.move rfl) rfl ?_; clear hA a; intro a hA
 refine S.call hA (R.callF Tryd.func69 rfl rfl rfl) rfl (lkind s p c (.slice v X.length cap) _ (hM.block (k := 0) rfl) (htab.mem hM hoff)) ?_; clear hA a
 rintro e w1 ⟨rfl, hb⟩
 replace hM := hM.callB hb; clear hb
 refine ⟨.int .i64 (kb s p), rfl, fun a hA => ?_⟩
 refine S.done ?_
 refine Ends.block (Ends.seq (Ends.region ?_))
 refine S.val hA (R.tt (R.eql rfl rfl) (by omega)) rfl ?_; clear hA a; intro a hA
 refine S.val hA (R.assign rfl) rfl ?_; clear hA a; intro a hA
 refine S.done ?_
 refine Ends.condT hA rfl ?_
 refine Ends.region ?_
 refine S.val hA (R.move rfl) rfl ?_; clear hA a; intro a hA
 refine S.val hA (R.nilCheck rfl) rfl ?_; clear hA a; intro a hA
 refine S.val hA (R.fieldAddr (q := 1) fi75_1 rfl rfl rfl) rfl ?_; clear hA a; intro a hA
 refine S.val hA (R.load sz3 rfl (hM.cell (k := 0) rfl rfl)) rfl ?_; clear hA a; intro a hA
 refine S.val hA (R.addI rfl rfl (r := ((p + 1 : Nat) : Int)) (by omega) (by omega)) rfl ?_; clear hA a; intro a hA
 refine S.val hA (R.nilCheck rfl) rfl ?_; clear hA a; intro a hA
 refine S.val hA (R.fieldAddr (q := 1) fi75_1 rfl rfl rfl) rfl ?_; clear hA a; intro a hA
 refine S.store (k := 0) hA hM sz3 rfl rfl rfl rfl rfl ?_; clear hM
 intro w2 hM
 replace hM : Mem _ _ [pt c #[.string s, .int .i64 (((p + 1 : Nat) : Int)), .slice v X.length cap] 75, own 77 4 (.slice v X.length cap) X.length (tokv X)] _ := hM
 refine S.done ?_
 replace hA : St 26 [] a := hA.sub (.nil)
 refine Ends.inBlock (Ends.seq (Ends.region ?_))
 refine S.val hA (R.assign rfl) rfl ?_; clear hA a; intro a hA
 refine S.done ?_
 refine Ends.ret1 Tryd.func52 Tryd.results52 hA rfl ?_
 replace hM := hM.firstN 2
 replace hM : Mem _ _ [pt c #[.string s, .int .i64 (((p + 1 : Nat) : Int)), .slice v X.length cap] 75, own 77 4 (.slice v X.length cap) X.length (tokv X)] _ := hM
 exact ⟨rfl, hM⟩
set_option maxRecDepth 100000 in
set_option maxHeartbeats 400000 in
theorem lone_0 (s : ByteArray) (p c : Nat) (v : Option Addr) (cap : Nat) (X : List Tok) (hp : p < s.size) (hX : X.length ≤ 1000000) (hsz : s.size ≤ 1000000) (hk : kb s p = 0) (w : World) (hM : Mem w (feet [pt c #[.string s, .int .i64 ((p : Int)), .slice v X.length cap] 75, own 77 4 (.slice v X.length cap) X.length (tokv X)]) [pt c #[.string s, .int .i64 ((p : Int)), .slice v X.length cap] 75, own 77 4 (.slice v X.length cap) X.length (tokv X)] w) (htab : U8T w) (hoff : OffT (feet [pt c #[.string s, .int .i64 ((p : Int)), .slice v X.length cap] 75, own 77 4 (.slice v X.length cap) X.length (tokv X)])) :
  Calls Tryd.prog 52 #[.pointer (some ⟨c, 0, none⟩)] w fun e w' => e = .returned (.int .i64 2) ∧ Mem w (feet [pt c #[.string s, .int .i64 ((p : Int)), .slice v X.length cap] 75, own 77 4 (.slice v X.length cap) X.length (tokv X)]) [pt c #[.string s, .int .i64 ((p : Int)), .slice v X.length cap] 75, own 77 4 (.slice v X.length cap) X.length (tokv X)] w' := by
 refine Calls.of_ends (vs := [.pointer (some ⟨c, 0, none⟩)]) Tryd.func52 rfl Tryd.ntmps52 rfl ?_
 intro a hA
 replace hA : St 26 [(0, _)] a := hA
 refine Ends.seq (Ends.region ?_)
 refine S.val hA (R.assign rfl) rfl ?_; clear hA a; intro a hA
 refine S.done ?_
 refine Ends.seq (Ends.seq (Ends.region ?_))
 refine S.val hA (R.move rfl) rfl ?_; clear hA a; intro a hA
 refine S.call hA (R.callF Tryd.func69 rfl rfl rfl) rfl (lkind s p c (.slice v X.length cap) _ (hM.block (k := 0) rfl) (htab.mem hM hoff)) ?_; clear hA a
 rintro e w1 ⟨rfl, hb⟩
 replace hM := hM.callB hb; clear hb
 refine ⟨.int .i64 (kb s p), rfl, fun a hA => ?_⟩
 refine S.done ?_
 refine Ends.block (Ends.seq (Ends.region ?_))
 refine S.val hA (R.ff (R.eql rfl rfl) (by omega)) rfl ?_; clear hA a; intro a hA
 refine S.val hA (R.assign rfl) rfl ?_; clear hA a; intro a hA
 refine S.done ?_
 refine Ends.condF hA rfl ?_
 refine Ends.seq (Ends.region ?_)
 refine S.val hA (R.ff (R.eql rfl rfl) (by omega)) rfl ?_; clear hA a; intro a hA
 refine S.val hA (R.assign rfl) rfl ?_; clear hA a; intro a hA
 refine S.done ?_
 replace hA : St 26 [(0, _), (4, _), (14, _)] a := hA.sub ((.cons rfl (.cons rfl (.cons rfl .nil))))
 refine Ends.condF hA rfl ?_
 refine Ends.seq (Ends.region ?_)
 refine S.val hA (R.ff (R.eql rfl rfl) (by omega)) rfl ?_; clear hA a; intro a hA
 refine S.val hA (R.assign rfl) rfl ?_; clear hA a; intro a hA
 refine S.done ?_
 refine Ends.condF hA rfl ?_
 refine Ends.seq (Ends.region ?_)
 refine S.val hA (R.ff (R.eql rfl rfl) (by omega)) rfl ?_; clear hA a; intro a hA
 refine S.val hA (R.assign rfl) rfl ?_; clear hA a; intro a hA
 refine S.done ?_
 replace hA : St 26 [(0, _), (22, _)] a := hA.sub ((.cons rfl (.cons rfl .nil)))
 refine Ends.condF hA rfl ?_
 refine Ends.seq (Ends.region ?_)
 refine S.val hA (R.assign rfl) rfl ?_; clear hA a; intro a hA
 refine S.done ?_
 refine Ends.ret1 Tryd.func52 Tryd.results52 hA rfl ?_
 replace hM := hM.firstN 2
 replace hM : Mem _ _ [pt c #[.string s, .int .i64 ((p : Int)), .slice v X.length cap] 75, own 77 4 (.slice v X.length cap) X.length (tokv X)] _ := hM
 exact ⟨rfl, hM⟩
set_option maxRecDepth 100000 in
set_option maxHeartbeats 400000 in
theorem lone_4 (s : ByteArray) (p c : Nat) (v : Option Addr) (cap : Nat) (X : List Tok) (hp : p < s.size) (hX : X.length ≤ 1000000) (hsz : s.size ≤ 1000000) (hk : kb s p = 4) (w : World) (hM : Mem w (feet [pt c #[.string s, .int .i64 ((p : Int)), .slice v X.length cap] 75, own 77 4 (.slice v X.length cap) X.length (tokv X)]) [pt c #[.string s, .int .i64 ((p : Int)), .slice v X.length cap] 75, own 77 4 (.slice v X.length cap) X.length (tokv X)] w) (htab : U8T w) (hoff : OffT (feet [pt c #[.string s, .int .i64 ((p : Int)), .slice v X.length cap] 75, own 77 4 (.slice v X.length cap) X.length (tokv X)])) :
  Calls Tryd.prog 52 #[.pointer (some ⟨c, 0, none⟩)] w fun e w' => e = .returned (.int .i64 0) ∧ Mem w (feet [pt c #[.string s, .int .i64 ((p : Int)), .slice v X.length cap] 75, own 77 4 (.slice v X.length cap) X.length (tokv X)]) [pt c #[.string s, .int .i64 (((p + eol s p : Nat) : Int)), .slice v X.length cap] 75, own 77 4 (.slice v X.length cap) X.length (tokv X)] w' := by
 refine Calls.of_ends (vs := [.pointer (some ⟨c, 0, none⟩)]) Tryd.func52 rfl Tryd.ntmps52 rfl ?_
 intro a hA
 replace hA : St 26 [(0, _)] a := hA
 refine Ends.seq (Ends.region ?_)
 refine S.val hA (R.assign rfl) rfl ?_; clear hA a; intro a hA
 refine S.done ?_
 refine Ends.seq (Ends.seq (Ends.region ?_))
 refine S.val hA (R.move rfl) rfl ?_; clear hA a; intro a hA
 refine S.call hA (R.callF Tryd.func69 rfl rfl rfl) rfl (lkind s p c (.slice v X.length cap) _ (hM.block (k := 0) rfl) (htab.mem hM hoff)) ?_; clear hA a
 rintro e w1 ⟨rfl, hb⟩
 replace hM := hM.callB hb; clear hb
 refine ⟨.int .i64 (kb s p), rfl, fun a hA => ?_⟩
 refine S.done ?_
 refine Ends.block (Ends.seq (Ends.region ?_))
 refine S.val hA (R.ff (R.eql rfl rfl) (by omega)) rfl ?_; clear hA a; intro a hA
 refine S.val hA (R.assign rfl) rfl ?_; clear hA a; intro a hA
 refine S.done ?_
 refine Ends.condF hA rfl ?_
 refine Ends.seq (Ends.region ?_)
 refine S.val hA (R.tt (R.eql rfl rfl) (by omega)) rfl ?_; clear hA a; intro a hA
 refine S.val hA (R.assign rfl) rfl ?_; clear hA a; intro a hA
 refine S.done ?_
 replace hA : St 26 [(0, _), (4, _), (14, _)] a := hA.sub ((.cons rfl (.cons rfl (.cons rfl .nil))))
 refine Ends.condT hA rfl ?_
 refine Ends.region ?_
 refine S.val hA (R.move rfl) rfl ?_; clear hA a; intro a hA
 refine S.call hA (R.callF Tryd.func70 rfl rfl rfl) rfl (lremark s p c v cap X (by omega) (by omega) (by omega) _ (hM.hereN 2) (htab.mem hM hoff) (OffT.feetN htab hM hoff 2)) ?_; clear hA a
 rintro e w2 ⟨rfl, hn⟩
 replace hM : Mem _ _ [pt c #[.string s, .int .i64 (((p + eol s p : Nat) : Int)), .slice v X.length cap] 75, own 77 4 (.slice v X.length cap) X.length (tokv X)] _ := hM.callL 2 hn; clear hn
 refine ⟨.tuple #[], rfl, fun a hA => ?_⟩
 refine S.done ?_
 replace hA : St 26 [] a := hA.sub (.nil)
 refine Ends.inBlock (Ends.seq (Ends.region ?_))
 refine S.val hA (R.assign rfl) rfl ?_; clear hA a; intro a hA
 refine S.done ?_
 refine Ends.ret1 Tryd.func52 Tryd.results52 hA rfl ?_
 replace hM := hM.firstN 2
 replace hM : Mem _ _ [pt c #[.string s, .int .i64 (((p + eol s p : Nat) : Int)), .slice v X.length cap] 75, own 77 4 (.slice v X.length cap) X.length (tokv X)] _ := hM
 exact ⟨rfl, hM⟩
set_option maxRecDepth 100000 in
set_option maxHeartbeats 400000 in
theorem lone_3b (s : ByteArray) (p c : Nat) (v : Option Addr) (cap : Nat) (X : List Tok) (hp : p < s.size) (hX : X.length ≤ 1000000) (hsz : s.size ≤ 1000000) (hk : kb s p = 3) (h : 16 < ltrs s p) (w : World) (hM : Mem w (feet [pt c #[.string s, .int .i64 ((p : Int)), .slice v X.length cap] 75, own 77 4 (.slice v X.length cap) X.length (tokv X)]) [pt c #[.string s, .int .i64 ((p : Int)), .slice v X.length cap] 75, own 77 4 (.slice v X.length cap) X.length (tokv X)] w) (htab : U8T w) (hoff : OffT (feet [pt c #[.string s, .int .i64 ((p : Int)), .slice v X.length cap] 75, own 77 4 (.slice v X.length cap) X.length (tokv X)])) :
  Calls Tryd.prog 52 #[.pointer (some ⟨c, 0, none⟩)] w fun e w' => e = .returned (.int .i64 5) ∧ Mem w (feet [pt c #[.string s, .int .i64 ((p : Int)), .slice v X.length cap] 75, own 77 4 (.slice v X.length cap) X.length (tokv X)]) [pt c #[.string s, .int .i64 ((p : Int)), .slice v X.length cap] 75, own 77 4 (.slice v X.length cap) X.length (tokv X)] w' := by
 refine Calls.of_ends (vs := [.pointer (some ⟨c, 0, none⟩)]) Tryd.func52 rfl Tryd.ntmps52 rfl ?_
 intro a hA
 replace hA : St 26 [(0, _)] a := hA
 refine Ends.seq (Ends.region ?_)
 refine S.val hA (R.assign rfl) rfl ?_; clear hA a; intro a hA
 refine S.done ?_
 refine Ends.seq (Ends.seq (Ends.region ?_))
 refine S.val hA (R.move rfl) rfl ?_; clear hA a; intro a hA
 refine S.call hA (R.callF Tryd.func69 rfl rfl rfl) rfl (lkind s p c (.slice v X.length cap) _ (hM.block (k := 0) rfl) (htab.mem hM hoff)) ?_; clear hA a
 rintro e w1 ⟨rfl, hb⟩
 replace hM := hM.callB hb; clear hb
 refine ⟨.int .i64 (kb s p), rfl, fun a hA => ?_⟩
 refine S.done ?_
 refine Ends.block (Ends.seq (Ends.region ?_))
 refine S.val hA (R.ff (R.eql rfl rfl) (by omega)) rfl ?_; clear hA a; intro a hA
 refine S.val hA (R.assign rfl) rfl ?_; clear hA a; intro a hA
 refine S.done ?_
 refine Ends.condF hA rfl ?_
 refine Ends.seq (Ends.region ?_)
 refine S.val hA (R.ff (R.eql rfl rfl) (by omega)) rfl ?_; clear hA a; intro a hA
 refine S.val hA (R.assign rfl) rfl ?_; clear hA a; intro a hA
 refine S.done ?_
 replace hA : St 26 [(0, _), (4, _), (14, _)] a := hA.sub ((.cons rfl (.cons rfl (.cons rfl .nil))))
 refine Ends.condF hA rfl ?_
 refine Ends.seq (Ends.region ?_)
 refine S.val hA (R.tt (R.eql rfl rfl) (by omega)) rfl ?_; clear hA a; intro a hA
 refine S.val hA (R.assign rfl) rfl ?_; clear hA a; intro a hA
 refine S.done ?_
 refine Ends.condT hA rfl ?_
 refine Ends.seq (Ends.region ?_)
 refine S.val hA (R.move rfl) rfl ?_; clear hA a; intro a hA
 refine S.call hA (R.callF Tryd.func71 rfl rfl rfl) rfl (lword_big s p c v cap X (by omega) (by omega) (by omega) h _ (hM.hereN 2) (htab.mem hM hoff) (OffT.feetN htab hM hoff 2)) ?_; clear hA a
 rintro e w2 ⟨rfl, hn⟩
 replace hM : Mem _ _ [pt c #[.string s, .int .i64 ((p : Int)), .slice v X.length cap] 75, own 77 4 (.slice v X.length cap) X.length (tokv X)] _ := hM.callL 2 hn; clear hn
 refine ⟨.int .i64 5, rfl, fun a hA => ?_⟩
 refine S.val hA (R.assign rfl) rfl ?_; clear hA a; intro a hA
 refine S.done ?_
 replace hA : St 26 [(2, _)] a := hA.sub ((.cons rfl .nil))
 refine Ends.ret1 Tryd.func52 Tryd.results52 hA rfl ?_
 replace hM := hM.firstN 2
 replace hM : Mem _ _ [pt c #[.string s, .int .i64 ((p : Int)), .slice v X.length cap] 75, own 77 4 (.slice v X.length cap) X.length (tokv X)] _ := hM
 exact ⟨rfl, hM⟩
set_option maxRecDepth 100000 in
set_option maxHeartbeats 400000 in
theorem lone_3s (s : ByteArray) (p c : Nat) (v : Option Addr) (cap : Nat) (X : List Tok) (hp : p < s.size) (hX : X.length ≤ 1000000) (hsz : s.size ≤ 1000000) (hk : kb s p = 3) (h : ¬ 16 < ltrs s p) (h2 : kb s (p + ltrs s p) = 2) (w : World) (hM : Mem w (feet [pt c #[.string s, .int .i64 ((p : Int)), .slice v X.length cap] 75, own 77 4 (.slice v X.length cap) X.length (tokv X)]) [pt c #[.string s, .int .i64 ((p : Int)), .slice v X.length cap] 75, own 77 4 (.slice v X.length cap) X.length (tokv X)] w) (htab : U8T w) (hoff : OffT (feet [pt c #[.string s, .int .i64 ((p : Int)), .slice v X.length cap] 75, own 77 4 (.slice v X.length cap) X.length (tokv X)])) :
  Calls Tryd.prog 52 #[.pointer (some ⟨c, 0, none⟩)] w fun e w' => ∃ v' cap', e = .returned (.int .i64 2) ∧ Mem w (feet [pt c #[.string s, .int .i64 ((p : Int)), .slice v X.length cap] 75, own 77 4 (.slice v X.length cap) X.length (tokv X)]) [pt c #[.string s, .int .i64 (((p + ltrs s p : Nat) : Int)), .slice v' (((X ++ [(⟨1, s.extract p (p + ltrs s p), 0, p⟩ : Tok)])).length) cap'] 75, own 77 4 (.slice v' (((X ++ [(⟨1, s.extract p (p + ltrs s p), 0, p⟩ : Tok)])).length) cap') (((X ++ [(⟨1, s.extract p (p + ltrs s p), 0, p⟩ : Tok)])).length) (tokv ((X ++ [(⟨1, s.extract p (p + ltrs s p), 0, p⟩ : Tok)])))] w' := by
 refine Calls.of_ends (vs := [.pointer (some ⟨c, 0, none⟩)]) Tryd.func52 rfl Tryd.ntmps52 rfl ?_
 intro a hA
 replace hA : St 26 [(0, _)] a := hA
 refine Ends.seq (Ends.region ?_)
 refine S.val hA (R.assign rfl) rfl ?_; clear hA a; intro a hA
 refine S.done ?_
 refine Ends.seq (Ends.seq (Ends.region ?_))
 refine S.val hA (R.move rfl) rfl ?_; clear hA a; intro a hA
 refine S.call hA (R.callF Tryd.func69 rfl rfl rfl) rfl (lkind s p c (.slice v X.length cap) _ (hM.block (k := 0) rfl) (htab.mem hM hoff)) ?_; clear hA a
 rintro e w1 ⟨rfl, hb⟩
 replace hM := hM.callB hb; clear hb
 refine ⟨.int .i64 (kb s p), rfl, fun a hA => ?_⟩
 refine S.done ?_
 refine Ends.block (Ends.seq (Ends.region ?_))
 refine S.val hA (R.ff (R.eql rfl rfl) (by omega)) rfl ?_; clear hA a; intro a hA
 refine S.val hA (R.assign rfl) rfl ?_; clear hA a; intro a hA
 refine S.done ?_
 refine Ends.condF hA rfl ?_
 refine Ends.seq (Ends.region ?_)
 refine S.val hA (R.ff (R.eql rfl rfl) (by omega)) rfl ?_; clear hA a; intro a hA
 refine S.val hA (R.assign rfl) rfl ?_; clear hA a; intro a hA
 refine S.done ?_
 replace hA : St 26 [(0, _), (4, _), (14, _)] a := hA.sub ((.cons rfl (.cons rfl (.cons rfl .nil))))
 refine Ends.condF hA rfl ?_
 refine Ends.seq (Ends.region ?_)
 refine S.val hA (R.tt (R.eql rfl rfl) (by omega)) rfl ?_; clear hA a; intro a hA
 refine S.val hA (R.assign rfl) rfl ?_; clear hA a; intro a hA
 refine S.done ?_
 refine Ends.condT hA rfl ?_
 refine Ends.seq (Ends.region ?_)
 refine S.val hA (R.move rfl) rfl ?_; clear hA a; intro a hA
 refine S.call hA (R.callF Tryd.func71 rfl rfl rfl) rfl (lword_s s p c v cap X (by omega) (by omega) (by omega) h h2 _ (hM.hereN 2) (htab.mem hM hoff) (OffT.feetN htab hM hoff 2)) ?_; clear hA a
 rintro e w2 ⟨v', cap', rfl, hn⟩
 replace hM : Mem _ _ [pt c #[.string s, .int .i64 (((p + ltrs s p : Nat) : Int)), .slice v' (((X ++ [(⟨1, s.extract p (p + ltrs s p), 0, p⟩ : Tok)])).length) cap'] 75, own 77 4 (.slice v' (((X ++ [(⟨1, s.extract p (p + ltrs s p), 0, p⟩ : Tok)])).length) cap') (((X ++ [(⟨1, s.extract p (p + ltrs s p), 0, p⟩ : Tok)])).length) (tokv ((X ++ [(⟨1, s.extract p (p + ltrs s p), 0, p⟩ : Tok)])))] _ := hM.callL 2 hn; clear hn
 refine ⟨.int .i64 2, rfl, fun a hA => ?_⟩
 refine S.val hA (R.assign rfl) rfl ?_; clear hA a; intro a hA
 refine S.done ?_
 replace hA : St 26 [(2, _)] a := hA.sub ((.cons rfl .nil))
 refine Ends.ret1 Tryd.func52 Tryd.results52 hA rfl ?_
 replace hM := hM.firstN 2
 replace hM : Mem _ _ [pt c #[.string s, .int .i64 (((p + ltrs s p : Nat) : Int)), .slice v' (((X ++ [(⟨1, s.extract p (p + ltrs s p), 0, p⟩ : Tok)])).length) cap'] 75, own 77 4 (.slice v' (((X ++ [(⟨1, s.extract p (p + ltrs s p), 0, p⟩ : Tok)])).length) cap') (((X ++ [(⟨1, s.extract p (p + ltrs s p), 0, p⟩ : Tok)])).length) (tokv ((X ++ [(⟨1, s.extract p (p + ltrs s p), 0, p⟩ : Tok)])))] _ := hM
 exact ⟨v', cap', rfl, hM⟩
set_option maxRecDepth 100000 in
set_option maxHeartbeats 400000 in
theorem lone_3o (s : ByteArray) (p c : Nat) (v : Option Addr) (cap : Nat) (X : List Tok) (hp : p < s.size) (hX : X.length ≤ 1000000) (hsz : s.size ≤ 1000000) (hk : kb s p = 3) (h : ¬ 16 < ltrs s p) (h2 : kb s (p + ltrs s p) ≠ 2) (w : World) (hM : Mem w (feet [pt c #[.string s, .int .i64 ((p : Int)), .slice v X.length cap] 75, own 77 4 (.slice v X.length cap) X.length (tokv X)]) [pt c #[.string s, .int .i64 ((p : Int)), .slice v X.length cap] 75, own 77 4 (.slice v X.length cap) X.length (tokv X)] w) (htab : U8T w) (hoff : OffT (feet [pt c #[.string s, .int .i64 ((p : Int)), .slice v X.length cap] 75, own 77 4 (.slice v X.length cap) X.length (tokv X)])) :
  Calls Tryd.prog 52 #[.pointer (some ⟨c, 0, none⟩)] w fun e w' => ∃ v' cap', e = .returned (.int .i64 0) ∧ Mem w (feet [pt c #[.string s, .int .i64 ((p : Int)), .slice v X.length cap] 75, own 77 4 (.slice v X.length cap) X.length (tokv X)]) [pt c #[.string s, .int .i64 (((p + ltrs s p : Nat) : Int)), .slice v' (((X ++ [(⟨1, s.extract p (p + ltrs s p), 0, p⟩ : Tok)])).length) cap'] 75, own 77 4 (.slice v' (((X ++ [(⟨1, s.extract p (p + ltrs s p), 0, p⟩ : Tok)])).length) cap') (((X ++ [(⟨1, s.extract p (p + ltrs s p), 0, p⟩ : Tok)])).length) (tokv ((X ++ [(⟨1, s.extract p (p + ltrs s p), 0, p⟩ : Tok)])))] w' := by
 refine Calls.of_ends (vs := [.pointer (some ⟨c, 0, none⟩)]) Tryd.func52 rfl Tryd.ntmps52 rfl ?_
 intro a hA
 replace hA : St 26 [(0, _)] a := hA
 refine Ends.seq (Ends.region ?_)
 refine S.val hA (R.assign rfl) rfl ?_; clear hA a; intro a hA
 refine S.done ?_
 refine Ends.seq (Ends.seq (Ends.region ?_))
 refine S.val hA (R.move rfl) rfl ?_; clear hA a; intro a hA
 refine S.call hA (R.callF Tryd.func69 rfl rfl rfl) rfl (lkind s p c (.slice v X.length cap) _ (hM.block (k := 0) rfl) (htab.mem hM hoff)) ?_; clear hA a
 rintro e w1 ⟨rfl, hb⟩
 replace hM := hM.callB hb; clear hb
 refine ⟨.int .i64 (kb s p), rfl, fun a hA => ?_⟩
 refine S.done ?_
 refine Ends.block (Ends.seq (Ends.region ?_))
 refine S.val hA (R.ff (R.eql rfl rfl) (by omega)) rfl ?_; clear hA a; intro a hA
 refine S.val hA (R.assign rfl) rfl ?_; clear hA a; intro a hA
 refine S.done ?_
 refine Ends.condF hA rfl ?_
 refine Ends.seq (Ends.region ?_)
 refine S.val hA (R.ff (R.eql rfl rfl) (by omega)) rfl ?_; clear hA a; intro a hA
 refine S.val hA (R.assign rfl) rfl ?_; clear hA a; intro a hA
 refine S.done ?_
 replace hA : St 26 [(0, _), (4, _), (14, _)] a := hA.sub ((.cons rfl (.cons rfl (.cons rfl .nil))))
 refine Ends.condF hA rfl ?_
 refine Ends.seq (Ends.region ?_)
 refine S.val hA (R.tt (R.eql rfl rfl) (by omega)) rfl ?_; clear hA a; intro a hA
 refine S.val hA (R.assign rfl) rfl ?_; clear hA a; intro a hA
 refine S.done ?_
 refine Ends.condT hA rfl ?_
 refine Ends.seq (Ends.region ?_)
 refine S.val hA (R.move rfl) rfl ?_; clear hA a; intro a hA
 refine S.call hA (R.callF Tryd.func71 rfl rfl rfl) rfl (lword_o s p c v cap X (by omega) (by omega) (by omega) h h2 _ (hM.hereN 2) (htab.mem hM hoff) (OffT.feetN htab hM hoff 2)) ?_; clear hA a
 rintro e w2 ⟨v', cap', rfl, hn⟩
 replace hM : Mem _ _ [pt c #[.string s, .int .i64 (((p + ltrs s p : Nat) : Int)), .slice v' (((X ++ [(⟨1, s.extract p (p + ltrs s p), 0, p⟩ : Tok)])).length) cap'] 75, own 77 4 (.slice v' (((X ++ [(⟨1, s.extract p (p + ltrs s p), 0, p⟩ : Tok)])).length) cap') (((X ++ [(⟨1, s.extract p (p + ltrs s p), 0, p⟩ : Tok)])).length) (tokv ((X ++ [(⟨1, s.extract p (p + ltrs s p), 0, p⟩ : Tok)])))] _ := hM.callL 2 hn; clear hn
 refine ⟨.int .i64 0, rfl, fun a hA => ?_⟩
 refine S.val hA (R.assign rfl) rfl ?_; clear hA a; intro a hA
 refine S.done ?_
 replace hA : St 26 [(2, _)] a := hA.sub ((.cons rfl .nil))
 refine Ends.ret1 Tryd.func52 Tryd.results52 hA rfl ?_
 replace hM := hM.firstN 2
 replace hM : Mem _ _ [pt c #[.string s, .int .i64 (((p + ltrs s p : Nat) : Int)), .slice v' (((X ++ [(⟨1, s.extract p (p + ltrs s p), 0, p⟩ : Tok)])).length) cap'] 75, own 77 4 (.slice v' (((X ++ [(⟨1, s.extract p (p + ltrs s p), 0, p⟩ : Tok)])).length) cap') (((X ++ [(⟨1, s.extract p (p + ltrs s p), 0, p⟩ : Tok)])).length) (tokv ((X ++ [(⟨1, s.extract p (p + ltrs s p), 0, p⟩ : Tok)])))] _ := hM
 exact ⟨v', cap', rfl, hM⟩
set_option maxRecDepth 100000 in
set_option maxHeartbeats 400000 in
theorem lone_2e (s : ByteArray) (p c : Nat) (v : Option Addr) (cap : Nat) (X : List Tok) (hp : p < s.size) (hX : X.length ≤ 1000000) (hsz : s.size ≤ 1000000) (hk : kb s p = 2) (N D2 E2 : Int) (hr : readI s (p : Int) = (N, D2, E2)) (h : E2 ≠ 0) (w : World) (hM : Mem w (feet [pt c #[.string s, .int .i64 ((p : Int)), .slice v X.length cap] 75, own 77 4 (.slice v X.length cap) X.length (tokv X)]) [pt c #[.string s, .int .i64 ((p : Int)), .slice v X.length cap] 75, own 77 4 (.slice v X.length cap) X.length (tokv X)] w) (htab : U8T w) (hoff : OffT (feet [pt c #[.string s, .int .i64 ((p : Int)), .slice v X.length cap] 75, own 77 4 (.slice v X.length cap) X.length (tokv X)])) :
  Calls Tryd.prog 52 #[.pointer (some ⟨c, 0, none⟩)] w fun e w' => e = .returned (.int .i64 E2) ∧ Mem w (feet [pt c #[.string s, .int .i64 ((p : Int)), .slice v X.length cap] 75, own 77 4 (.slice v X.length cap) X.length (tokv X)]) [pt c #[.string s, .int .i64 ((p : Int)), .slice v X.length cap] 75, own 77 4 (.slice v X.length cap) X.length (tokv X)] w' := by
 refine Calls.of_ends (vs := [.pointer (some ⟨c, 0, none⟩)]) Tryd.func52 rfl Tryd.ntmps52 rfl ?_
 intro a hA
 replace hA : St 26 [(0, _)] a := hA
 refine Ends.seq (Ends.region ?_)
 refine S.val hA (R.assign rfl) rfl ?_; clear hA a; intro a hA
 refine S.done ?_
 refine Ends.seq (Ends.seq (Ends.region ?_))
 refine S.val hA (R.move rfl) rfl ?_; clear hA a; intro a hA
 refine S.call hA (R.callF Tryd.func69 rfl rfl rfl) rfl (lkind s p c (.slice v X.length cap) _ (hM.block (k := 0) rfl) (htab.mem hM hoff)) ?_; clear hA a
 rintro e w1 ⟨rfl, hb⟩
 replace hM := hM.callB hb; clear hb
 refine ⟨.int .i64 (kb s p), rfl, fun a hA => ?_⟩
 refine S.done ?_
 refine Ends.block (Ends.seq (Ends.region ?_))
 refine S.val hA (R.ff (R.eql rfl rfl) (by omega)) rfl ?_; clear hA a; intro a hA
 refine S.val hA (R.assign rfl) rfl ?_; clear hA a; intro a hA
 refine S.done ?_
 refine Ends.condF hA rfl ?_
 refine Ends.seq (Ends.region ?_)
 refine S.val hA (R.ff (R.eql rfl rfl) (by omega)) rfl ?_; clear hA a; intro a hA
 refine S.val hA (R.assign rfl) rfl ?_; clear hA a; intro a hA
 refine S.done ?_
 replace hA : St 26 [(0, _), (4, _), (14, _)] a := hA.sub ((.cons rfl (.cons rfl (.cons rfl .nil))))
 refine Ends.condF hA rfl ?_
 refine Ends.seq (Ends.region ?_)
 refine S.val hA (R.ff (R.eql rfl rfl) (by omega)) rfl ?_; clear hA a; intro a hA
 refine S.val hA (R.assign rfl) rfl ?_; clear hA a; intro a hA
 refine S.done ?_
 refine Ends.condF hA rfl ?_
 refine Ends.seq (Ends.region ?_)
 refine S.val hA (R.tt (R.eql rfl rfl) (by omega)) rfl ?_; clear hA a; intro a hA
 refine S.val hA (R.assign rfl) rfl ?_; clear hA a; intro a hA
 refine S.done ?_
 replace hA : St 26 [(0, _), (22, _)] a := hA.sub ((.cons rfl (.cons rfl .nil)))
 refine Ends.condT hA rfl ?_
 refine Ends.seq (Ends.region ?_)
 refine S.val hA (R.move rfl) rfl ?_; clear hA a; intro a hA
 refine S.call hA (R.callF Tryd.func72 rfl rfl rfl) rfl (lnum_e s p c v cap X (by omega) (by omega) (by omega) N D2 E2 hr h _ (hM.hereN 2) (htab.mem hM hoff) (OffT.feetN htab hM hoff 2)) ?_; clear hA a
 rintro e w2 ⟨rfl, hn⟩
 replace hM : Mem _ _ [pt c #[.string s, .int .i64 ((p : Int)), .slice v X.length cap] 75, own 77 4 (.slice v X.length cap) X.length (tokv X)] _ := hM.callL 2 hn; clear hn
 refine ⟨.int .i64 E2, rfl, fun a hA => ?_⟩
 refine S.val hA (R.assign rfl) rfl ?_; clear hA a; intro a hA
 refine S.done ?_
 replace hA : St 26 [(2, _)] a := hA.sub ((.cons rfl .nil))
 refine Ends.ret1 Tryd.func52 Tryd.results52 hA rfl ?_
 replace hM := hM.firstN 2
 replace hM : Mem _ _ [pt c #[.string s, .int .i64 ((p : Int)), .slice v X.length cap] 75, own 77 4 (.slice v X.length cap) X.length (tokv X)] _ := hM
 exact ⟨rfl, hM⟩
set_option maxRecDepth 100000 in
set_option maxHeartbeats 400000 in
theorem lone_2s (s : ByteArray) (p c : Nat) (v : Option Addr) (cap : Nat) (X : List Tok) (hp : p < s.size) (hX : X.length ≤ 1000000) (hsz : s.size ≤ 1000000) (hk : kb s p = 2) (N : Int) (d : Nat) (hr : readI s (p : Int) = (N, ((p + d : Nat) : Int), 0)) (h2 : kb s (p + d) = 3) (w : World) (hM : Mem w (feet [pt c #[.string s, .int .i64 ((p : Int)), .slice v X.length cap] 75, own 77 4 (.slice v X.length cap) X.length (tokv X)]) [pt c #[.string s, .int .i64 ((p : Int)), .slice v X.length cap] 75, own 77 4 (.slice v X.length cap) X.length (tokv X)] w) (htab : U8T w) (hoff : OffT (feet [pt c #[.string s, .int .i64 ((p : Int)), .slice v X.length cap] 75, own 77 4 (.slice v X.length cap) X.length (tokv X)])) :
  Calls Tryd.prog 52 #[.pointer (some ⟨c, 0, none⟩)] w fun e w' => ∃ v' cap', e = .returned (.int .i64 2) ∧ Mem w (feet [pt c #[.string s, .int .i64 ((p : Int)), .slice v X.length cap] 75, own 77 4 (.slice v X.length cap) X.length (tokv X)]) [pt c #[.string s, .int .i64 (((p + d : Nat) : Int)), .slice v' (((X ++ [(⟨2, ⟨#[]⟩, N, p⟩ : Tok)])).length) cap'] 75, own 77 4 (.slice v' (((X ++ [(⟨2, ⟨#[]⟩, N, p⟩ : Tok)])).length) cap') (((X ++ [(⟨2, ⟨#[]⟩, N, p⟩ : Tok)])).length) (tokv ((X ++ [(⟨2, ⟨#[]⟩, N, p⟩ : Tok)])))] w' := by
 refine Calls.of_ends (vs := [.pointer (some ⟨c, 0, none⟩)]) Tryd.func52 rfl Tryd.ntmps52 rfl ?_
 intro a hA
 replace hA : St 26 [(0, _)] a := hA
 refine Ends.seq (Ends.region ?_)
 refine S.val hA (R.assign rfl) rfl ?_; clear hA a; intro a hA
 refine S.done ?_
 refine Ends.seq (Ends.seq (Ends.region ?_))
 refine S.val hA (R.move rfl) rfl ?_; clear hA a; intro a hA
 refine S.call hA (R.callF Tryd.func69 rfl rfl rfl) rfl (lkind s p c (.slice v X.length cap) _ (hM.block (k := 0) rfl) (htab.mem hM hoff)) ?_; clear hA a
 rintro e w1 ⟨rfl, hb⟩
 replace hM := hM.callB hb; clear hb
 refine ⟨.int .i64 (kb s p), rfl, fun a hA => ?_⟩
 refine S.done ?_
 refine Ends.block (Ends.seq (Ends.region ?_))
 refine S.val hA (R.ff (R.eql rfl rfl) (by omega)) rfl ?_; clear hA a; intro a hA
 refine S.val hA (R.assign rfl) rfl ?_; clear hA a; intro a hA
 refine S.done ?_
 refine Ends.condF hA rfl ?_
 refine Ends.seq (Ends.region ?_)
 refine S.val hA (R.ff (R.eql rfl rfl) (by omega)) rfl ?_; clear hA a; intro a hA
 refine S.val hA (R.assign rfl) rfl ?_; clear hA a; intro a hA
 refine S.done ?_
 replace hA : St 26 [(0, _), (4, _), (14, _)] a := hA.sub ((.cons rfl (.cons rfl (.cons rfl .nil))))
 refine Ends.condF hA rfl ?_
 refine Ends.seq (Ends.region ?_)
 refine S.val hA (R.ff (R.eql rfl rfl) (by omega)) rfl ?_; clear hA a; intro a hA
 refine S.val hA (R.assign rfl) rfl ?_; clear hA a; intro a hA
 refine S.done ?_
 refine Ends.condF hA rfl ?_
 refine Ends.seq (Ends.region ?_)
 refine S.val hA (R.tt (R.eql rfl rfl) (by omega)) rfl ?_; clear hA a; intro a hA
 refine S.val hA (R.assign rfl) rfl ?_; clear hA a; intro a hA
 refine S.done ?_
 replace hA : St 26 [(0, _), (22, _)] a := hA.sub ((.cons rfl (.cons rfl .nil)))
 refine Ends.condT hA rfl ?_
 refine Ends.seq (Ends.region ?_)
 refine S.val hA (R.move rfl) rfl ?_; clear hA a; intro a hA
 refine S.call hA (R.callF Tryd.func72 rfl rfl rfl) rfl (lnum_s s p c v cap X (by omega) (by omega) (by omega) N d hr h2 _ (hM.hereN 2) (htab.mem hM hoff) (OffT.feetN htab hM hoff 2)) ?_; clear hA a
 rintro e w2 ⟨v', cap', rfl, hn⟩
 replace hM : Mem _ _ [pt c #[.string s, .int .i64 (((p + d : Nat) : Int)), .slice v' (((X ++ [(⟨2, ⟨#[]⟩, N, p⟩ : Tok)])).length) cap'] 75, own 77 4 (.slice v' (((X ++ [(⟨2, ⟨#[]⟩, N, p⟩ : Tok)])).length) cap') (((X ++ [(⟨2, ⟨#[]⟩, N, p⟩ : Tok)])).length) (tokv ((X ++ [(⟨2, ⟨#[]⟩, N, p⟩ : Tok)])))] _ := hM.callL 2 hn; clear hn
 refine ⟨.int .i64 2, rfl, fun a hA => ?_⟩
 refine S.val hA (R.assign rfl) rfl ?_; clear hA a; intro a hA
 refine S.done ?_
 replace hA : St 26 [(2, _)] a := hA.sub ((.cons rfl .nil))
 refine Ends.ret1 Tryd.func52 Tryd.results52 hA rfl ?_
 replace hM := hM.firstN 2
 replace hM : Mem _ _ [pt c #[.string s, .int .i64 (((p + d : Nat) : Int)), .slice v' (((X ++ [(⟨2, ⟨#[]⟩, N, p⟩ : Tok)])).length) cap'] 75, own 77 4 (.slice v' (((X ++ [(⟨2, ⟨#[]⟩, N, p⟩ : Tok)])).length) cap') (((X ++ [(⟨2, ⟨#[]⟩, N, p⟩ : Tok)])).length) (tokv ((X ++ [(⟨2, ⟨#[]⟩, N, p⟩ : Tok)])))] _ := hM
 exact ⟨v', cap', rfl, hM⟩
set_option maxRecDepth 100000 in
set_option maxHeartbeats 400000 in
theorem lone_2o (s : ByteArray) (p c : Nat) (v : Option Addr) (cap : Nat) (X : List Tok) (hp : p < s.size) (hX : X.length ≤ 1000000) (hsz : s.size ≤ 1000000) (hk : kb s p = 2) (N : Int) (d : Nat) (hr : readI s (p : Int) = (N, ((p + d : Nat) : Int), 0)) (h2 : kb s (p + d) ≠ 3) (w : World) (hM : Mem w (feet [pt c #[.string s, .int .i64 ((p : Int)), .slice v X.length cap] 75, own 77 4 (.slice v X.length cap) X.length (tokv X)]) [pt c #[.string s, .int .i64 ((p : Int)), .slice v X.length cap] 75, own 77 4 (.slice v X.length cap) X.length (tokv X)] w) (htab : U8T w) (hoff : OffT (feet [pt c #[.string s, .int .i64 ((p : Int)), .slice v X.length cap] 75, own 77 4 (.slice v X.length cap) X.length (tokv X)])) :
  Calls Tryd.prog 52 #[.pointer (some ⟨c, 0, none⟩)] w fun e w' => ∃ v' cap', e = .returned (.int .i64 0) ∧ Mem w (feet [pt c #[.string s, .int .i64 ((p : Int)), .slice v X.length cap] 75, own 77 4 (.slice v X.length cap) X.length (tokv X)]) [pt c #[.string s, .int .i64 (((p + d : Nat) : Int)), .slice v' (((X ++ [(⟨2, ⟨#[]⟩, N, p⟩ : Tok)])).length) cap'] 75, own 77 4 (.slice v' (((X ++ [(⟨2, ⟨#[]⟩, N, p⟩ : Tok)])).length) cap') (((X ++ [(⟨2, ⟨#[]⟩, N, p⟩ : Tok)])).length) (tokv ((X ++ [(⟨2, ⟨#[]⟩, N, p⟩ : Tok)])))] w' := by
 refine Calls.of_ends (vs := [.pointer (some ⟨c, 0, none⟩)]) Tryd.func52 rfl Tryd.ntmps52 rfl ?_
 intro a hA
 replace hA : St 26 [(0, _)] a := hA
 refine Ends.seq (Ends.region ?_)
 refine S.val hA (R.assign rfl) rfl ?_; clear hA a; intro a hA
 refine S.done ?_
 refine Ends.seq (Ends.seq (Ends.region ?_))
 refine S.val hA (R.move rfl) rfl ?_; clear hA a; intro a hA
 refine S.call hA (R.callF Tryd.func69 rfl rfl rfl) rfl (lkind s p c (.slice v X.length cap) _ (hM.block (k := 0) rfl) (htab.mem hM hoff)) ?_; clear hA a
 rintro e w1 ⟨rfl, hb⟩
 replace hM := hM.callB hb; clear hb
 refine ⟨.int .i64 (kb s p), rfl, fun a hA => ?_⟩
 refine S.done ?_
 refine Ends.block (Ends.seq (Ends.region ?_))
 refine S.val hA (R.ff (R.eql rfl rfl) (by omega)) rfl ?_; clear hA a; intro a hA
 refine S.val hA (R.assign rfl) rfl ?_; clear hA a; intro a hA
 refine S.done ?_
 refine Ends.condF hA rfl ?_
 refine Ends.seq (Ends.region ?_)
 refine S.val hA (R.ff (R.eql rfl rfl) (by omega)) rfl ?_; clear hA a; intro a hA
 refine S.val hA (R.assign rfl) rfl ?_; clear hA a; intro a hA
 refine S.done ?_
 replace hA : St 26 [(0, _), (4, _), (14, _)] a := hA.sub ((.cons rfl (.cons rfl (.cons rfl .nil))))
 refine Ends.condF hA rfl ?_
 refine Ends.seq (Ends.region ?_)
 refine S.val hA (R.ff (R.eql rfl rfl) (by omega)) rfl ?_; clear hA a; intro a hA
 refine S.val hA (R.assign rfl) rfl ?_; clear hA a; intro a hA
 refine S.done ?_
 refine Ends.condF hA rfl ?_
 refine Ends.seq (Ends.region ?_)
 refine S.val hA (R.tt (R.eql rfl rfl) (by omega)) rfl ?_; clear hA a; intro a hA
 refine S.val hA (R.assign rfl) rfl ?_; clear hA a; intro a hA
 refine S.done ?_
 replace hA : St 26 [(0, _), (22, _)] a := hA.sub ((.cons rfl (.cons rfl .nil)))
 refine Ends.condT hA rfl ?_
 refine Ends.seq (Ends.region ?_)
 refine S.val hA (R.move rfl) rfl ?_; clear hA a; intro a hA
 refine S.call hA (R.callF Tryd.func72 rfl rfl rfl) rfl (lnum_o s p c v cap X (by omega) (by omega) (by omega) N d hr h2 _ (hM.hereN 2) (htab.mem hM hoff) (OffT.feetN htab hM hoff 2)) ?_; clear hA a
 rintro e w2 ⟨v', cap', rfl, hn⟩
 replace hM : Mem _ _ [pt c #[.string s, .int .i64 (((p + d : Nat) : Int)), .slice v' (((X ++ [(⟨2, ⟨#[]⟩, N, p⟩ : Tok)])).length) cap'] 75, own 77 4 (.slice v' (((X ++ [(⟨2, ⟨#[]⟩, N, p⟩ : Tok)])).length) cap') (((X ++ [(⟨2, ⟨#[]⟩, N, p⟩ : Tok)])).length) (tokv ((X ++ [(⟨2, ⟨#[]⟩, N, p⟩ : Tok)])))] _ := hM.callL 2 hn; clear hn
 refine ⟨.int .i64 0, rfl, fun a hA => ?_⟩
 refine S.val hA (R.assign rfl) rfl ?_; clear hA a; intro a hA
 refine S.done ?_
 replace hA : St 26 [(2, _)] a := hA.sub ((.cons rfl .nil))
 refine Ends.ret1 Tryd.func52 Tryd.results52 hA rfl ?_
 replace hM := hM.firstN 2
 replace hM : Mem _ _ [pt c #[.string s, .int .i64 (((p + d : Nat) : Int)), .slice v' (((X ++ [(⟨2, ⟨#[]⟩, N, p⟩ : Tok)])).length) cap'] 75, own 77 4 (.slice v' (((X ++ [(⟨2, ⟨#[]⟩, N, p⟩ : Tok)])).length) cap') (((X ++ [(⟨2, ⟨#[]⟩, N, p⟩ : Tok)])).length) (tokv ((X ++ [(⟨2, ⟨#[]⟩, N, p⟩ : Tok)])))] _ := hM
 exact ⟨v', cap', rfl, hM⟩
theorem lone_any (s : ByteArray) (p c : Nat) (v : Option Addr) (cap : Nat) (X : List Tok) (hp : p < s.size) (hX : X.length ≤ 1000000) (hsz : s.size ≤ 1000000) (w : World) (hM : Mem w (feet [pt c #[.string s, .int .i64 ((p : Int)), .slice v X.length cap] 75, own 77 4 (.slice v X.length cap) X.length (tokv X)]) [pt c #[.string s, .int .i64 ((p : Int)), .slice v X.length cap] 75, own 77 4 (.slice v X.length cap) X.length (tokv X)] w) (htab : U8T w) (hoff : OffT (feet [pt c #[.string s, .int .i64 ((p : Int)), .slice v X.length cap] 75, own 77 4 (.slice v X.length cap) X.length (tokv X)])) : Calls Tryd.prog 52 #[.pointer (some ⟨c, 0, none⟩)] w fun e w' => ∃ v' cap', e = .returned (.int .i64 (lst s p).1) ∧ Mem w (feet [pt c #[.string s, .int .i64 ((p : Int)), .slice v X.length cap] 75, own 77 4 (.slice v X.length cap) X.length (tokv X)]) [pt c #[.string s, .int .i64 (((lst s p).2.1 : Int)), .slice v' (((X ++ (lst s p).2.2)).length) cap'] 75, own 77 4 (.slice v' (((X ++ (lst s p).2.2)).length) cap') (((X ++ (lst s p).2.2)).length) (tokv ((X ++ (lst s p).2.2)))] w' := by
  rcases kb_rng s p with hk | hk | hk | hk | hk
  · rw [lst_0 hk, List.append_nil]
    exact (lone_0 s p c v cap X hp hX hsz hk w hM htab hoff).mono fun e w' h => ⟨v, cap, h⟩
  · rw [lst_1 hk, List.append_nil]
    exact (lone_1 s p c v cap X hp hX hsz hk w hM htab hoff).mono fun e w' h => ⟨v, cap, h⟩
  · have hr := readI_at hp hk
    rw [lst_2 hk]
    by_cases h1 : 1 < dgs s p ∧ byt s p = 48
    · rw [if_pos h1] at hr ⊢
      rw [List.append_nil]
      exact (lone_2e s p c v cap X hp hX hsz hk 0 0 4 hr (by decide) w hM htab hoff).mono fun e w' h => ⟨v, cap, h⟩
    · rw [if_neg h1] at hr ⊢
      by_cases h2 : 18 < dgs s p
      · rw [if_pos h2] at hr ⊢
        rw [List.append_nil]
        exact (lone_2e s p c v cap X hp hX hsz hk 0 0 5 hr (by decide) w hM htab hoff).mono fun e w' h => ⟨v, cap, h⟩
      · rw [if_neg h2] at hr ⊢
        by_cases h3 : kb s (p + dgs s p) = 3
        · simp only [if_pos h3]
          exact lone_2s s p c v cap X hp hX hsz hk _ _ hr h3 w hM htab hoff
        · simp only [if_neg h3]
          exact lone_2o s p c v cap X hp hX hsz hk _ _ hr h3 w hM htab hoff
  · rw [lst_3 hk]
    by_cases h1 : 16 < ltrs s p
    · rw [if_pos h1, List.append_nil]
      exact (lone_3b s p c v cap X hp hX hsz hk h1 w hM htab hoff).mono fun e w' h => ⟨v, cap, h⟩
    · rw [if_neg h1]
      by_cases h3 : kb s (p + ltrs s p) = 2
      · simp only [if_pos h3]
        exact lone_3s s p c v cap X hp hX hsz hk h1 h3 w hM htab hoff
      · simp only [if_neg h3]
        exact lone_3o s p c v cap X hp hX hsz hk h1 h3 w hM htab hoff
  · rw [lst_4 hk, List.append_nil]
    exact (lone_4 s p c v cap X hp hX hsz hk w hM htab hoff).mono fun e w' h => ⟨v, cap, h⟩
end Go.Proofs.YtakfcekfmdjklaaDoor
namespace Go.Proofs.YtakfcekfmdjklaaDoor
open Go.RowKit
set_option maxRecDepth 100000 in
set_option maxHeartbeats 400000 in
theorem scan_any (s : ByteArray) (hsz : s.size ≤ 9223372036854775807) (w : World) (htab : U8T w) :
  Calls Tryd.prog 33 #[.string s] w fun e w' => ∃ a cap, e = .returned (.tuple #[.slice a (scan s).1.length cap, .int .i64 (scan s).2.1, .int .i64 (scan s).2.2]) ∧ Mem w nof [own 77 4 (.slice a (scan s).1.length cap) (scan s).1.length (tokv (scan s).1)] w' := by
 have hM := Mem.start w
 refine Calls.of_ends (vs := [.string s]) Tryd.func33 rfl Tryd.ntmps33 rfl ?_
 intro a hA
 replace hA : St 38 [(0, _)] a := hA
 refine Ends.seq (Ends.region ?_)
 refine S.val hA (R.assign rfl) rfl ?_; clear hA a; intro a hA
 refine S.val hA (R.assign rfl) rfl ?_; clear hA a; intro a hA
 refine S.val hA (R.assign rfl) rfl ?_; clear hA a; intro a hA
 refine S.done ?_
 refine Ends.seq (Ends.seq (Ends.region ?_))
 refine S.val hA (R.move rfl) rfl ?_; clear hA a; intro a hA
 refine S.val hA (R.lenStr Tryd.underlying9 rfl rfl) rfl ?_; clear hA a; intro a hA
 refine S.val hA (R.gtr rfl rfl) rfl ?_; clear hA a; intro a hA
 refine S.done ?_
 replace hA : St 38 [(0, _), (9, _)] a := hA.sub ((.cons rfl (.cons rfl .nil)))
 refine Ends.ite hA rfl (fun hc1 => ?_) (fun hc1 => ?_)
 ·
  refine Ends.seq (Ends.region ?_)
  refine S.val hA (R.assign rfl) rfl ?_; clear hA a; intro a hA
  refine S.val hA (R.assign rfl) rfl ?_; clear hA a; intro a hA
  refine S.val hA (R.assign rfl) rfl ?_; clear hA a; intro a hA
  refine S.done ?_
  refine Ends.ret3 Tryd.func33 Tryd.results33 hA rfl rfl rfl ?_
  have e0 : scan s = ([], 0, 5) := by unfold scan; rw [if_pos (by omega)]
  rw [e0]
  exact ⟨none, 0, rfl, hM.nilL.ownNil 77 4⟩
 ·
  refine Ends.skip (Ends.seq (Ends.region ?_))
  refine S.val hA (R.move rfl) rfl ?_; clear hA a; intro a hA
  refine S.val hA (R.build (cells := #[.string s, .int .i64 0, .slice none 0 0]) rfl (by kernel_rfl)) rfl ?_; clear hA a; intro a hA
  refine S.box hA hM rfl rfl ?_; clear hA hM a; intro b2 w1 hb3 hM a hA
  replace hM : Mem _ _ [pt b2 #[.string s, .int .i64 0, .slice none 0 0] 75] _ := hM
  refine S.val hA (R.assign rfl) rfl ?_; clear hA a; intro a hA
  refine S.done ?_
  replace hA : St 38 [(0, _), (5, _)] a := hA.sub ((.cons rfl (.cons rfl .nil)))
  refine Ends.seq (Ends.block ?_)
  replace hM := hM.ownNil 77 4
  replace hM := hM.front (k := 1) rfl
  replace hM : Mem _ _ [pt b2 #[.string s, .int .i64 (((0 : Nat) : Int)), .slice none ((([] : List Tok)).length) 0] 75, own 77 4 (.slice none ((([] : List Tok)).length) 0) ((([] : List Tok)).length) (tokv (([] : List Tok)))] _ := hM
  have hbig : ¬ 65536 < s.size := by omega
  refine Ends.loop (σ := Nat × Nat × List Tok × Option Addr × Nat) (fun (p, f, X, v, cap) (a : Act) (wv : World) => St 38 [(0, .string s), (5, .pointer (some ⟨b2, 0, none⟩))] a ∧ Mem w nof [pt b2 #[.string s, .int .i64 ((p : Int)), .slice v X.length cap] 75, own 77 4 (.slice v X.length cap) X.length (tokv X)] wv ∧ (s.size ≤ p + f) ∧ (scF s f p X = scan s) ∧ (X.length ≤ p) ∧ (p ≤ s.size)) (fun (p, f, X, v, cap) => f) ((0, s.size, [], none, 0)) ⟨hA.sub ((.cons rfl (.cons rfl .nil))), hM, (by omega), (by unfold scan; rw [if_neg hbig]), (Nat.le_refl _), (Nat.zero_le _)⟩ ?_
  clear hA hM a
  rintro ⟨p, f, X, v, cap⟩ a w2 ⟨hA, hM, hf, hsc, hX, hps⟩ hNext
  refine Ends.seq (Ends.seq (Ends.region ?_))
  refine S.val hA (R.move rfl) rfl ?_; clear hA a; intro a hA
  refine S.val hA (R.nilCheck rfl) rfl ?_; clear hA a; intro a hA
  refine S.val hA (R.fieldAddr (q := 1) fi75_1 rfl rfl rfl) rfl ?_; clear hA a; intro a hA
  refine S.val hA (R.load sz3 rfl (hM.cell (k := 0) rfl rfl)) rfl ?_; clear hA a; intro a hA
  refine S.val hA (R.move rfl) rfl ?_; clear hA a; intro a hA
  refine S.val hA (R.lenStr Tryd.underlying9 rfl rfl) rfl ?_; clear hA a; intro a hA
  refine S.val hA (R.lss rfl rfl) rfl ?_; clear hA a; intro a hA
  refine S.done ?_
  replace hA : St 38 [(0, _), (5, _), (19, _)] a := hA.sub ((.cons rfl (.cons rfl (.cons rfl .nil))))
  refine Ends.ite hA rfl (fun hc4 => ?_) (fun hc4 => ?_)
  ·
   have hp : p < s.size := by omega
   refine Ends.skip (Ends.block (Ends.seq (Ends.region ?_)))
   refine S.val hA (R.move rfl) rfl ?_; clear hA a; intro a hA
   refine S.call hA (R.callF Tryd.func52 rfl rfl rfl) rfl (lone_any s p b2 v cap X hp (by omega) (by omega) _ (hM.hereN 2) (htab.mem hM OffT.nof) (OffT.feetN htab hM OffT.nof 2)) ?_; clear hA a
   rintro e w3 ⟨v5, c6, rfl, hn⟩
   replace hM : Mem _ _ [pt b2 #[.string s, .int .i64 (((lst s p).2.1 : Int)), .slice v5 (((X ++ (lst s p).2.2)).length) c6] 75, own 77 4 (.slice v5 (((X ++ (lst s p).2.2)).length) c6) (((X ++ (lst s p).2.2)).length) (tokv ((X ++ (lst s p).2.2)))] _ := hM.callL 2 hn; clear hn
   refine ⟨.int .i64 ((lst s p).1), rfl, fun a hA => ?_⟩
   refine S.val hA (R.assign rfl) rfl ?_; clear hA a; intro a hA
   refine S.done ?_
   refine Ends.seq (Ends.region ?_)
   refine S.val hA (R.move rfl) rfl ?_; clear hA a; intro a hA
   refine S.val hA (R.neq rfl rfl) rfl ?_; clear hA a; intro a hA
   refine S.done ?_
   replace hA : St 38 [(0, _), (5, _), (6, _), (23, _)] a := hA.sub ((.cons rfl (.cons rfl (.cons rfl (.cons rfl .nil)))))
   refine Ends.ite hA rfl (fun hc7 => ?_) (fun hc7 => ?_)
   ·
    refine Ends.seq ?_
    refine Ends.drawn (Mem w nof [pt b2 #[.string s, .int .i64 (((lst s p).2.1 : Int)), .slice v5 (((X ++ (lst s p).2.2)).length) c6] 75, own 77 4 (.slice v5 (((X ++ (lst s p).2.2)).length) c6) (((X ++ (lst s p).2.2)).length) (tokv ((X ++ (lst s p).2.2)))]) (.cons (0, true) (.cons (1, true) (.cons (2, true) (.cons (3, true) (.cons (4, true) (.cons (5, true) (.cons (6, true) (.cons (7, true) .nil)))))))) 8 mixed (by kernel_rfl) (by kernel_rfl) (by kernel_rfl) hM.drew ?_
    replace hM := hM.drew
    refine D.valF hA rfl (fun _ => R.move rfl) rfl ?_; clear hA a; intro a hA
    refine D.valF hA rfl (fun _ => R.nilCheck rfl) rfl ?_; clear hA a; intro a hA
    refine D.valF hA rfl (fun _ => R.fieldAddr (q := 1) fi75_1 rfl rfl rfl) rfl ?_; clear hA a; intro a hA
    refine D.val hA rfl (by kernel_rfl) (fun _ hM => R.load sz3 rfl (hM.cell (k := 0) rfl rfl)) rfl ?_; clear hA a; intro a hA
    refine D.valF hA rfl (fun _ => R.move rfl) rfl ?_; clear hA a; intro a hA
    refine D.valF hA rfl (fun _ => R.assign rfl) rfl ?_; clear hA a; intro a hA
    refine D.valF hA rfl (fun _ => R.assign rfl) rfl ?_; clear hA a; intro a hA
    refine D.valF hA rfl (fun _ => R.assign rfl) rfl ?_; clear hA a; intro a hA
    refine D.done ?_
    replace hA : St 38 [(0, _), (2, _), (3, _), (4, _), (5, _)] a := hA.sub ((.cons rfl (.cons rfl (.cons rfl (.cons rfl (.cons rfl .nil))))))
    refine Ends.ret3 Tryd.func33 Tryd.results33 hA rfl rfl rfl ?_
    have he := scF_err (X := X) (f := f) hp (by omega) hc7
    have e0 : scan s = ([], ((lst s p).2.1 : Int), (lst s p).1) := hsc.symm.trans he
    rw [e0]
    exact ⟨none, 0, rfl, hM.nilL.ownNil 77 4⟩
   ·
    refine Ends.skip (Ends.inBlock ?_)
    have he := Classical.byContradiction hc7
    have hgo := scF_go (X := X) (f := f) hp (by omega) he
    have hbd := lst_bd hp
    have hlt := hbd.2.2.1 he
    have hln := hbd.2.2.2
    exact hNext (((lst s p).2.1, f - 1, X ++ (lst s p).2.2, v5, c6)) _ _ ((by show f - 1 < f; omega)) ⟨hA.sub ((.cons rfl (.cons rfl .nil))), hM, (by omega), (hgo.symm.trans hsc), (by rw [List.length_append]; omega), (by omega)⟩
  ·
   refine Ends.exit rfl ?_
   refine Ends.seq (Ends.region ?_)
   refine S.val hA (R.move rfl) rfl ?_; clear hA a; intro a hA
   refine S.val hA (R.nilCheck rfl) rfl ?_; clear hA a; intro a hA
   refine S.val hA (R.fieldAddr (q := 2) fi75_2 rfl rfl rfl) rfl ?_; clear hA a; intro a hA
   refine S.val hA (R.load sz48 rfl (hM.cell (k := 0) rfl rfl)) rfl ?_; clear hA a; intro a hA
   refine S.val hA (R.move rfl) rfl ?_; clear hA a; intro a hA
   refine S.val hA (R.lenStr Tryd.underlying9 rfl rfl) rfl ?_; clear hA a; intro a hA
   refine S.val hA (R.build (cells := #[.int .i64 3, .string (⟨#[]⟩), .int .i64 0, .int .i64 ((s.size : Int))]) rfl (by kernel_rfl)) rfl ?_; clear hA a; intro a hA
   refine S.buildSl (cells := #[.int .i64 3, .string (⟨#[]⟩), .int .i64 0, .int .i64 ((s.size : Int))]) hA hM Tryd.underlying48 info77 rfl rfl rfl rfl (by kernel_rfl) rfl ?_; clear hA hM a; intro b8 w4 hb9 hM a hA
   replace hM : Mem _ _ [pt b8 #[.int .i64 3, .string (⟨#[]⟩), .int .i64 0, .int .i64 ((s.size : Int))] 77, pt b2 #[.string s, .int .i64 ((p : Int)), .slice v X.length cap] 75, own 77 4 (.slice v X.length cap) X.length (tokv X)] _ := hM
   refine S.append (k := 2) (k2 := 0) hA hM rfl rfl Tryd.underlying48 info77 rfl rfl rfl rfl rfl rfl rfl rfl rfl (by first | omega | (show (_ + 1) * 40 ≤ 140737488355328; omega) | (unfold maxLen; omega)) (by first | omega | (show (_ + 1) * 40 ≤ 140737488355328; omega) | (unfold maxLen; omega)) rfl ?_; clear hA hM a; intro a10 c11 w5 hM a hA
   replace hM : Mem _ _ [pt b8 #[.int .i64 3, .string (⟨#[]⟩), .int .i64 0, .int .i64 ((s.size : Int))] 77, pt b2 #[.string s, .int .i64 ((p : Int)), .slice v X.length cap] 75, own 77 4 (.slice a10 (X.length + 1) c11) (X.length + 1) (tokv X ++ [.int .i64 3, .string (⟨#[]⟩), .int .i64 0, .int .i64 ((s.size : Int))])] _ := hM
   have hl12 : X.length + 1 = (X ++ [(⟨3, ⟨#[]⟩, 0, (s.size : Int)⟩ : Tok)]).length := by simp
   rw [hl12, show tokv X ++ [.int .i64 3, .string (⟨#[]⟩), .int .i64 0, .int .i64 ((s.size : Int))] = tokv (X ++ [(⟨3, ⟨#[]⟩, 0, (s.size : Int)⟩ : Tok)]) from tokv_app X (⟨3, ⟨#[]⟩, 0, (s.size : Int)⟩ : Tok)] at hM; rw [hl12] at hA
   clear hl12
   replace hM := hM.drop 0
   replace hM : Mem _ _ [pt b2 #[.string s, .int .i64 ((p : Int)), .slice v X.length cap] 75, own 77 4 (.slice a10 (((X ++ [(⟨3, ⟨#[]⟩, 0, (s.size : Int)⟩ : Tok)])).length) c11) (((X ++ [(⟨3, ⟨#[]⟩, 0, (s.size : Int)⟩ : Tok)])).length) (tokv ((X ++ [(⟨3, ⟨#[]⟩, 0, (s.size : Int)⟩ : Tok)])))] _ := hM
   refine S.val hA (R.assign rfl) rfl ?_; clear hA a; intro a hA
   refine S.val hA (R.assign rfl) rfl ?_; clear hA a; intro a hA
   refine S.val hA (R.assign rfl) rfl ?_; clear hA a; intro a hA
   refine S.done ?_
   replace hA : St 38 [(2, _), (3, _), (4, _)] a := hA.sub ((.cons rfl (.cons rfl (.cons rfl .nil))))
   refine Ends.ret3 Tryd.func33 Tryd.results33 hA rfl rfl rfl ?_
   replace hM := hM.front (k := 1) rfl
   replace hM : Mem _ _ [own 77 4 (.slice a10 (((X ++ [(⟨3, ⟨#[]⟩, 0, (s.size : Int)⟩ : Tok)])).length) c11) (((X ++ [(⟨3, ⟨#[]⟩, 0, (s.size : Int)⟩ : Tok)])).length) (tokv ((X ++ [(⟨3, ⟨#[]⟩, 0, (s.size : Int)⟩ : Tok)]))), pt b2 #[.string s, .int .i64 ((p : Int)), .slice v X.length cap] 75] _ := hM
   replace hM := hM.firstN 1
   replace hM : Mem _ _ [own 77 4 (.slice a10 (((X ++ [(⟨3, ⟨#[]⟩, 0, (s.size : Int)⟩ : Tok)])).length) c11) (((X ++ [(⟨3, ⟨#[]⟩, 0, (s.size : Int)⟩ : Tok)])).length) (tokv ((X ++ [(⟨3, ⟨#[]⟩, 0, (s.size : Int)⟩ : Tok)])))] _ := hM
   have e0 : scan s = (X ++ [tend s], 0, 0) := hsc.symm.trans (scF_end (by omega) _ _)
   rw [e0]
   exact ⟨a10, c11, rfl, hM⟩
end Go.Proofs.YtakfcekfmdjklaaDoor
namespace Go.Proofs.YtakfcekfmdjklaaDoor
open Go.RowKit
section
variable {w0 w w' : World} {F : Nat → Prop} {L : List Ck}
theorem Mem.tokRow {k g cap i : Nat} {e : TypeId} {X : List Tok} (hM : Mem w0 F L w) (hk : ith L k = some (own e 4 (.slice (some ⟨g, 0, none⟩) X.length cap) X.length (tokv X))) (hi : i < X.length) : w.rangeAt g (i * 4) [.int .i64 (X.getD i tz).k, .string (X.getD i tz).x, .int .i64 (X.getD i tz).n, .int .i64 (X.getD i tz).a] := by
  obtain ⟨h0, h1, h2, h3⟩ := tokv_get X i hi
  intro j v hj
  refine hM.ownCell hk (i := i * 4 + j) ?_
  match j, hj with
  | 0, hj => rw [← hj]; exact h0
  | 1, hj => rw [← hj]; exact h1
  | 2, hj => rw [← hj]; exact h2
  | 3, hj => rw [← hj]; exact h3
  | j + 4, hj => cases hj
end
theorem scF_len (s : ByteArray) : ∀ f p X, X.length + (s.size - p) ≤ 900000 → X.length ≤ p → p ≤ s.size → s.size ≤ 900000 → (scF s f p X).1.length ≤ 1000000
  | 0, p, X, h, _, _, _ => by simp [scF]; omega
  | f + 1, p, X, h, h2, h3, h4 => by
    rw [scF]
    split
    · rename_i hp
      have hbd := lst_bd hp
      split
      · simp
      · rename_i he
        have he' : (lst s p).1 = 0 := Classical.byContradiction he
        have := hbd.2.2.1 he'
        exact scF_len s f _ _ (by rw [List.length_append]; omega) (by rw [List.length_append]; omega) hbd.2.1 h4
    · simp; omega
theorem scan_len (s : ByteArray) : (scan s).1.length ≤ 1000000 := by
  unfold scan
  split
  · simp
  · exact scF_len s _ _ _ (by simp; omega) (by simp) (by omega) (by omega)
end Go.Proofs.YtakfcekfmdjklaaDoor
namespace Go.Proofs.YtakfcekfmdjklaaDoor
open Go.RowKit
section
variable {P : Program} {l : List (Nat × Value)} {w : World} {ty : TypeId} {x y z : Operand} {k k' : IntKind} {m n : Int} {t yt : TypeId}
theorem R.sliceR1 {e : TypeId} {g o o2 len cap sz : Nat} {j : TypeInfo} (ht : P.underlying t = some (.slice e)) (hj : P.info? e = some j) (h1 : j.size = sz) (hx : opv l x = some (.slice (some ⟨g, o, none⟩) len cap)) (hy : opv l y = some (.int k 1)) (hc : 1 < len) (hcc : len ≤ cap) (ho : o + sz = o2) :
    Run P l w (.slice t x (some y) none none) ty (.slice (some ⟨g, o2, none⟩) (len - 1) (cap - 1)) w := fun ev hev _ _ _ _ => by
  subst ho
  have h1' : (Instr.slice t (.slice (some ⟨g, o, none⟩) len cap) (some (.int k 1)) none none).run P w = .ok (.slice (some ⟨g, o + sz, none⟩) (len - 1) (cap - 1)) w := by
    simp only [Instr.slice, Sem.run_bind, run_underlying ht, Result.andThen_ok, Instr.sliceBounds, Instr.sliceBound, asIntOf, Sem.run_pure]
    have e1 : (1 : Nat) ≤ len := by omega
    have e2 : (1 : Nat) ≤ cap := by omega
    have e3 : ¬ cap = 1 := by omega
    simp [e1, e2, e3, hcc, run_sizeOf_of hj, h1, Addr.add]
    repeat' split
    all_goals first | rfl | omega | (simp_all; done)
  have h2 : (Instr.sliceAt t (.slice (some ⟨g, o, none⟩) len cap) (some (.int k 1)) none none).run P w = .ok (.slice (some ⟨g, o + sz, none⟩) (len - 1) (cap - 1)) w := by
    unfold Instr.sliceAt
    simp only [Sem.run_bind, run_underlying ht, Result.andThen_ok]
    exact h1'
  simp [execOp, hev _ _ hx, hev _ _ hy, h2]
end
set_option maxRecDepth 100000 in
set_option maxHeartbeats 400000 in
theorem next06 (g rb j cap : Nat) (at0 : Int) (X : List Tok) (hX : Toks X) (hj : j < X.length) (hcap : X.length ≤ cap) (w : World) (hM : Mem w (feet [pt rb #[.slice (some ⟨g, j * 4, none⟩) (X.length - j) (cap - j), .int .i64 at0] 62, own 77 4 (.slice ((some ⟨g, 0, none⟩)) X.length cap) X.length (tokv X)]) [pt rb #[.slice (some ⟨g, j * 4, none⟩) (X.length - j) (cap - j), .int .i64 at0] 62, own 77 4 (.slice ((some ⟨g, 0, none⟩)) X.length cap) X.length (tokv X)] w) :
    Calls Tryd.prog 79 #[.pointer (some ⟨rb, 0, none⟩)] w fun e w' => e = .returned (.agg #[.int .i64 ((X.getD j tz).k), .string ((X.getD j tz).x), .int .i64 ((X.getD j tz).n), .int .i64 ((X.getD j tz).a)]) ∧ Mem w (feet [pt rb #[.slice (some ⟨g, j * 4, none⟩) (X.length - j) (cap - j), .int .i64 at0] 62, own 77 4 (.slice ((some ⟨g, 0, none⟩)) X.length cap) X.length (tokv X)]) [pt rb #[.slice (some ⟨g, j * 4, none⟩) (X.length - j) (cap - j), .int .i64 at0] 62, own 77 4 (.slice ((some ⟨g, 0, none⟩)) X.length cap) X.length (tokv X)] w' := by
  have hbs := Below.refl (B := w.heap.size) w
  have hlX := hX.len
  refine Calls.of_ends (vs := [.pointer (some ⟨rb, 0, none⟩)]) Tryd.func79 rfl Tryd.ntmps79 rfl ?_
  intro a hA
  replace hA : St 9 [(0, _)] a := hA
  refine Ends.seq (Ends.region ?_)
  refine S.alloc hA hM info77 rfl rfl ?_; clear hA hM a; intro b1 w1 hb2 hM a hA
  replace hM : Mem _ _ [pt b1 #[.int .i64 0, .string (⟨#[]⟩), .int .i64 0, .int .i64 0] 77, pt rb #[.slice (some ⟨g, j * 4, none⟩) (X.length - j) (cap - j), .int .i64 at0] 62, own 77 4 (.slice ((some ⟨g, 0, none⟩)) X.length cap) X.length (tokv X)] _ := hM
  refine S.done ?_
  refine Ends.seq (Ends.region ?_)
  refine S.val hA (R.move rfl) rfl ?_; clear hA a; intro a hA
  refine S.val hA (R.nilCheck rfl) rfl ?_; clear hA a; intro a hA
  refine S.val hA (R.fieldAddr (q := 0) fi62_0 rfl rfl rfl) rfl ?_; clear hA a; intro a hA
  refine S.val hA (R.load sz48 rfl (hM.cell (k := 1) rfl rfl)) rfl ?_; clear hA a; intro a hA
  refine S.val hA (R.indexAddr (q := j * 4) sl48 rfl rfl (by omega) (by omega)) rfl ?_; clear hA a; intro a hA
  refine S.val hA (R.loadA sz77 rfl (hM.tokRow (k := 2) rfl (i := j) (by omega)) rfl) rfl ?_; clear hA a; intro a hA
  refine S.storeA (k := 0) hA hM sz77 rfl rfl rfl rfl rfl rfl ?_; clear hM
  intro w2 hM
  replace hM : Mem _ _ [pt b1 #[.int .i64 ((X.getD j tz).k), .string ((X.getD j tz).x), .int .i64 ((X.getD j tz).n), .int .i64 ((X.getD j tz).a)] 77, pt rb #[.slice (some ⟨g, j * 4, none⟩) (X.length - j) (cap - j), .int .i64 at0] 62, own 77 4 (.slice ((some ⟨g, 0, none⟩)) X.length cap) X.length (tokv X)] _ := hM
  refine S.done ?_
  replace hA : St 9 [(2, _)] a := hA.sub ((.cons rfl .nil))
  refine Ends.retC (k := 0) Tryd.func79 Tryd.results79 hA hM rfl rfl sz77 rfl ?_
  replace hM := hM.front (k := 2) rfl
  replace hM := hM.front (k := 2) rfl
  replace hM : Mem _ _ [pt rb #[.slice (some ⟨g, j * 4, none⟩) (X.length - j) (cap - j), .int .i64 at0] 62, own 77 4 (.slice ((some ⟨g, 0, none⟩)) X.length cap) X.length (tokv X), pt b1 #[.int .i64 ((X.getD j tz).k), .string ((X.getD j tz).x), .int .i64 ((X.getD j tz).n), .int .i64 ((X.getD j tz).a)] 77] _ := hM
  replace hM := hM.firstN 2
  replace hM : Mem _ _ [pt rb #[.slice (some ⟨g, j * 4, none⟩) (X.length - j) (cap - j), .int .i64 at0] 62, own 77 4 (.slice ((some ⟨g, 0, none⟩)) X.length cap) X.length (tokv X)] _ := hM
  exact ⟨rfl, hM⟩
set_option maxRecDepth 100000 in
set_option maxHeartbeats 400000 in
theorem take06 (g rb j cap : Nat) (at0 : Int) (X : List Tok) (hX : Toks X) (hj : j < X.length) (hcap : X.length ≤ cap) (hj1 : j + 1 < X.length) (w : World) (hM : Mem w (feet [pt rb #[.slice (some ⟨g, j * 4, none⟩) (X.length - j) (cap - j), .int .i64 at0] 62, own 77 4 (.slice ((some ⟨g, 0, none⟩)) X.length cap) X.length (tokv X)]) [pt rb #[.slice (some ⟨g, j * 4, none⟩) (X.length - j) (cap - j), .int .i64 at0] 62, own 77 4 (.slice ((some ⟨g, 0, none⟩)) X.length cap) X.length (tokv X)] w) :
    Calls Tryd.prog 80 #[.pointer (some ⟨rb, 0, none⟩)] w fun e w' => e = .returned (.tuple #[]) ∧ Mem w (feet [pt rb #[.slice (some ⟨g, j * 4, none⟩) (X.length - j) (cap - j), .int .i64 at0] 62, own 77 4 (.slice ((some ⟨g, 0, none⟩)) X.length cap) X.length (tokv X)]) [pt rb #[.slice (some ⟨g, (j + 1) * 4, none⟩) (X.length - (j + 1)) (cap - (j + 1)), .int .i64 at0] 62, own 77 4 (.slice ((some ⟨g, 0, none⟩)) X.length cap) X.length (tokv X)] w' := by
  have hbs := Below.refl (B := w.heap.size) w
  have hlX := hX.len
  refine Calls.of_ends (vs := [.pointer (some ⟨rb, 0, none⟩)]) Tryd.func80 rfl Tryd.ntmps80 rfl ?_
  intro a hA
  replace hA : St 10 [(0, _)] a := hA
  refine Ends.region ?_
  refine S.val hA (R.move rfl) rfl ?_; clear hA a; intro a hA
  refine S.val hA (R.move rfl) rfl ?_; clear hA a; intro a hA
  refine S.val hA (R.nilCheck rfl) rfl ?_; clear hA a; intro a hA
  refine S.val hA (R.fieldAddr (q := 0) fi62_0 rfl rfl rfl) rfl ?_; clear hA a; intro a hA
  refine S.val hA (R.load sz48 rfl (hM.cell (k := 0) rfl rfl)) rfl ?_; clear hA a; intro a hA
  refine S.val hA (R.to (v := .slice (some ⟨g, (j + 1) * 4, none⟩) (X.length - (j + 1)) (cap - (j + 1))) (R.sliceR1 (sz := 4) (o2 := (j + 1) * 4) Tryd.underlying48 info77 rfl rfl rfl (by omega) (by omega) (by omega)) (by rw [Nat.sub_sub, Nat.sub_sub])) rfl ?_; clear hA a; intro a hA
  refine S.val hA (R.nilCheck rfl) rfl ?_; clear hA a; intro a hA
  refine S.val hA (R.fieldAddr (q := 0) fi62_0 rfl rfl rfl) rfl ?_; clear hA a; intro a hA
  refine S.store (k := 0) hA hM sz48 rfl rfl rfl rfl rfl ?_; clear hM
  intro w1 hM
  replace hM : Mem _ _ [pt rb #[.slice (some ⟨g, (j + 1) * 4, none⟩) (X.length - (j + 1)) (cap - (j + 1)), .int .i64 at0] 62, own 77 4 (.slice ((some ⟨g, 0, none⟩)) X.length cap) X.length (tokv X)] _ := hM
  refine S.done ?_
  replace hA : St 10 [] a := hA.sub (.nil)
  refine Ends.end0 Tryd.func80 Tryd.results80 hA ?_
  replace hM := hM.firstN 2
  replace hM : Mem _ _ [pt rb #[.slice (some ⟨g, (j + 1) * 4, none⟩) (X.length - (j + 1)) (cap - (j + 1)), .int .i64 at0] 62, own 77 4 (.slice ((some ⟨g, 0, none⟩)) X.length cap) X.length (tokv X)] _ := hM
  exact ⟨rfl, hM⟩
set_option maxRecDepth 100000 in
set_option maxHeartbeats 400000 in
theorem number06 (g rb j cap : Nat) (at0 : Int) (X : List Tok) (hX : Toks X) (hj : j < X.length) (hcap : X.length ≤ cap) (most : Int) (w : World) (hM : Mem w (feet [pt rb #[.slice (some ⟨g, j * 4, none⟩) (X.length - j) (cap - j), .int .i64 at0] 62, own 77 4 (.slice ((some ⟨g, 0, none⟩)) X.length cap) X.length (tokv X)]) [pt rb #[.slice (some ⟨g, j * 4, none⟩) (X.length - j) (cap - j), .int .i64 at0] 62, own 77 4 (.slice ((some ⟨g, 0, none⟩)) X.length cap) X.length (tokv X)] w) :
  Calls Tryd.prog 81 #[.pointer (some ⟨rb, 0, none⟩), .int .i64 most] w fun e w' => e = .returned (.tuple #[.int .i64 (numN (X.getD j tz) most), .int .i64 (numR (X.getD j tz) most)]) ∧ Mem w (feet [pt rb #[.slice (some ⟨g, j * 4, none⟩) (X.length - j) (cap - j), .int .i64 at0] 62, own 77 4 (.slice ((some ⟨g, 0, none⟩)) X.length cap) X.length (tokv X)]) [pt rb #[.slice (some ⟨g, (nxJ j (numR (X.getD j tz) most)) * 4, none⟩) (X.length - (nxJ j (numR (X.getD j tz) most))) (cap - (nxJ j (numR (X.getD j tz) most))), .int .i64 ((X.getD j tz).a)] 62, own 77 4 (.slice ((some ⟨g, 0, none⟩)) X.length cap) X.length (tokv X)] w' := by
 have hbs := Below.refl (B := w.heap.size) w
 have hlX := hX.len
 refine Calls.of_ends (vs := [.pointer (some ⟨rb, 0, none⟩), .int .i64 most]) Tryd.func81 rfl Tryd.ntmps81 rfl ?_
 intro a hA
 replace hA : St 31 [(0, _), (1, _)] a := hA
 refine Ends.seq (Ends.region ?_)
 refine S.val hA (R.assign rfl) rfl ?_; clear hA a; intro a hA
 refine S.val hA (R.assign rfl) rfl ?_; clear hA a; intro a hA
 refine S.done ?_
 refine Ends.seq (Ends.region ?_)
 refine S.val hA (R.move rfl) rfl ?_; clear hA a; intro a hA
 refine S.call hA (R.callF Tryd.func79 rfl rfl rfl) rfl (next06 g rb j cap at0 X hX (by omega) hcap _ (hM.hereN 2)) ?_; clear hA a
 rintro e w1 ⟨rfl, hn⟩
 replace hM : Mem _ _ [pt rb #[.slice (some ⟨g, j * 4, none⟩) (X.length - j) (cap - j), .int .i64 at0] 62, own 77 4 (.slice ((some ⟨g, 0, none⟩)) X.length cap) X.length (tokv X)] _ := hM.callL 2 hn; clear hn
 refine ⟨.agg #[.int .i64 ((X.getD j tz).k), .string ((X.getD j tz).x), .int .i64 ((X.getD j tz).n), .int .i64 ((X.getD j tz).a)], rfl, fun a hA => ?_⟩
 refine S.alloc hA hM info77 rfl rfl ?_; clear hA hM a; intro b1 w2 hb2 hM a hA
 replace hM : Mem _ _ [pt b1 #[.int .i64 0, .string (⟨#[]⟩), .int .i64 0, .int .i64 0] 77, pt rb #[.slice (some ⟨g, j * 4, none⟩) (X.length - j) (cap - j), .int .i64 at0] 62, own 77 4 (.slice ((some ⟨g, 0, none⟩)) X.length cap) X.length (tokv X)] _ := hM
 refine S.storeA (k := 0) hA hM sz77 rfl rfl rfl rfl rfl rfl ?_; clear hM
 intro w3 hM
 replace hM : Mem _ _ [pt b1 #[.int .i64 ((X.getD j tz).k), .string ((X.getD j tz).x), .int .i64 ((X.getD j tz).n), .int .i64 ((X.getD j tz).a)] 77, pt rb #[.slice (some ⟨g, j * 4, none⟩) (X.length - j) (cap - j), .int .i64 at0] 62, own 77 4 (.slice ((some ⟨g, 0, none⟩)) X.length cap) X.length (tokv X)] _ := hM
 refine S.done ?_
 replace hA : St 31 [(0, _), (1, _), (6, _)] a := hA.sub ((.cons rfl (.cons rfl (.cons rfl .nil))))
 refine Ends.seq (Ends.region ?_)
 refine S.val hA (R.move rfl) rfl ?_; clear hA a; intro a hA
 refine S.val hA (R.fieldAddr (q := 3) fi77_3 rfl rfl rfl) rfl ?_; clear hA a; intro a hA
 refine S.val hA (R.load sz3 rfl (hM.cell (k := 0) rfl rfl)) rfl ?_; clear hA a; intro a hA
 refine S.val hA (R.nilCheck rfl) rfl ?_; clear hA a; intro a hA
 refine S.val hA (R.fieldAddr (q := 1) fi62_1 rfl rfl rfl) rfl ?_; clear hA a; intro a hA
 refine S.store (k := 1) hA hM sz3 rfl rfl rfl rfl rfl ?_; clear hM
 intro w4 hM
 replace hM : Mem _ _ [pt b1 #[.int .i64 ((X.getD j tz).k), .string ((X.getD j tz).x), .int .i64 ((X.getD j tz).n), .int .i64 ((X.getD j tz).a)] 77, pt rb #[.slice (some ⟨g, j * 4, none⟩) (X.length - j) (cap - j), .int .i64 ((X.getD j tz).a)] 62, own 77 4 (.slice ((some ⟨g, 0, none⟩)) X.length cap) X.length (tokv X)] _ := hM
 refine S.done ?_
 replace hA : St 31 [(0, _), (1, _), (6, _)] a := hA.sub ((.cons rfl (.cons rfl (.cons rfl .nil))))
 refine Ends.seq (Ends.block (Ends.seq (Ends.region ?_)))
 refine S.val hA (R.fieldAddr (q := 0) fi77_0 rfl rfl rfl) rfl ?_; clear hA a; intro a hA
 refine S.val hA (R.load sz3 rfl (hM.cell (k := 0) rfl rfl)) rfl ?_; clear hA a; intro a hA
 refine S.val hA (R.eql rfl rfl) rfl ?_; clear hA a; intro a hA
 refine S.val hA (R.assign rfl) rfl ?_; clear hA a; intro a hA
 refine S.done ?_
 refine Ends.ite hA rfl (fun hc3 => ?_) (fun hc3 => ?_)
 ·
  refine Ends.seq (Ends.region ?_)
  refine S.val hA (R.assign rfl) rfl ?_; clear hA a; intro a hA
  refine S.val hA (R.assign rfl) rfl ?_; clear hA a; intro a hA
  refine S.done ?_
  replace hA : St 31 [(0, _), (4, _), (5, _), (6, _)] a := hA.sub ((.cons rfl (.cons rfl (.cons rfl (.cons rfl .nil)))))
  refine Ends.ret2 Tryd.func81 Tryd.results81 hA rfl rfl ?_
  replace hM := hM.front (k := 2) rfl
  replace hM := hM.front (k := 2) rfl
  replace hM : Mem _ _ [pt rb #[.slice (some ⟨g, j * 4, none⟩) (X.length - j) (cap - j), .int .i64 ((X.getD j tz).a)] 62, own 77 4 (.slice ((some ⟨g, 0, none⟩)) X.length cap) X.length (tokv X), pt b1 #[.int .i64 ((X.getD j tz).k), .string ((X.getD j tz).x), .int .i64 ((X.getD j tz).n), .int .i64 ((X.getD j tz).a)] 77] _ := hM
  replace hM := hM.firstN 2
  replace hM : Mem _ _ [pt rb #[.slice (some ⟨g, j * 4, none⟩) (X.length - j) (cap - j), .int .i64 ((X.getD j tz).a)] 62, own 77 4 (.slice ((some ⟨g, 0, none⟩)) X.length cap) X.length (tokv X)] _ := hM
  obtain ⟨e1, e2⟩ := numR_end (m := most) hc3
  have e3 : nxJ j (numR (X.getD j tz) most) = j := by rw [e1]; rfl
  rw [e1] at e3
  exact ⟨by rw [e1, e2] <;> rfl, by rw [e1, e3]; exact hM⟩
 ·
  have hj1 := hX.next j hj hc3
  refine Ends.seq (Ends.region ?_)
  refine S.val hA (R.fieldAddr (q := 0) fi77_0 rfl rfl rfl) rfl ?_; clear hA a; intro a hA
  refine S.val hA (R.load sz3 rfl (hM.cell (k := 0) rfl rfl)) rfl ?_; clear hA a; intro a hA
  refine S.val hA (R.eql rfl rfl) rfl ?_; clear hA a; intro a hA
  refine S.val hA (R.assign rfl) rfl ?_; clear hA a; intro a hA
  refine S.done ?_
  replace hA : St 31 [(0, _), (1, _), (6, _), (18, _)] a := hA.sub ((.cons rfl (.cons rfl (.cons rfl (.cons rfl .nil)))))
  refine Ends.ite hA rfl (fun hc4 => ?_) (fun hc4 => ?_)
  ·
   refine Ends.seq (Ends.region ?_)
   refine S.val hA (R.assign rfl) rfl ?_; clear hA a; intro a hA
   refine S.val hA (R.assign rfl) rfl ?_; clear hA a; intro a hA
   refine S.done ?_
   refine Ends.ret2 Tryd.func81 Tryd.results81 hA rfl rfl ?_
   replace hM := hM.front (k := 2) rfl
   replace hM := hM.front (k := 2) rfl
   replace hM : Mem _ _ [pt rb #[.slice (some ⟨g, j * 4, none⟩) (X.length - j) (cap - j), .int .i64 ((X.getD j tz).a)] 62, own 77 4 (.slice ((some ⟨g, 0, none⟩)) X.length cap) X.length (tokv X), pt b1 #[.int .i64 ((X.getD j tz).k), .string ((X.getD j tz).x), .int .i64 ((X.getD j tz).n), .int .i64 ((X.getD j tz).a)] 77] _ := hM
   replace hM := hM.firstN 2
   replace hM : Mem _ _ [pt rb #[.slice (some ⟨g, j * 4, none⟩) (X.length - j) (cap - j), .int .i64 ((X.getD j tz).a)] 62, own 77 4 (.slice ((some ⟨g, 0, none⟩)) X.length cap) X.length (tokv X)] _ := hM
   obtain ⟨e1, e2⟩ := numR_word (m := most) hc3 hc4
   have e3 : nxJ j (numR (X.getD j tz) most) = j := by rw [e1]; rfl
   rw [e1] at e3
   exact ⟨by rw [e1, e2] <;> rfl, by rw [e1, e3]; exact hM⟩
  ·
   refine Ends.seq (Ends.region ?_)
   refine S.val hA (R.fieldAddr (q := 2) fi77_2 rfl rfl rfl) rfl ?_; clear hA a; intro a hA
   refine S.val hA (R.load sz3 rfl (hM.cell (k := 0) rfl rfl)) rfl ?_; clear hA a; intro a hA
   refine S.val hA (R.move rfl) rfl ?_; clear hA a; intro a hA
   refine S.val hA (R.gtr rfl rfl) rfl ?_; clear hA a; intro a hA
   refine S.val hA (R.assign rfl) rfl ?_; clear hA a; intro a hA
   refine S.done ?_
   replace hA : St 31 [(0, _), (6, _), (22, _)] a := hA.sub ((.cons rfl (.cons rfl (.cons rfl .nil))))
   refine Ends.ite hA rfl (fun hc5 => ?_) (fun hc5 => ?_)
   ·
    refine Ends.seq (Ends.region ?_)
    refine S.val hA (R.assign rfl) rfl ?_; clear hA a; intro a hA
    refine S.val hA (R.assign rfl) rfl ?_; clear hA a; intro a hA
    refine S.done ?_
    refine Ends.ret2 Tryd.func81 Tryd.results81 hA rfl rfl ?_
    replace hM := hM.front (k := 2) rfl
    replace hM := hM.front (k := 2) rfl
    replace hM : Mem _ _ [pt rb #[.slice (some ⟨g, j * 4, none⟩) (X.length - j) (cap - j), .int .i64 ((X.getD j tz).a)] 62, own 77 4 (.slice ((some ⟨g, 0, none⟩)) X.length cap) X.length (tokv X), pt b1 #[.int .i64 ((X.getD j tz).k), .string ((X.getD j tz).x), .int .i64 ((X.getD j tz).n), .int .i64 ((X.getD j tz).a)] 77] _ := hM
    replace hM := hM.firstN 2
    replace hM : Mem _ _ [pt rb #[.slice (some ⟨g, j * 4, none⟩) (X.length - j) (cap - j), .int .i64 ((X.getD j tz).a)] 62, own 77 4 (.slice ((some ⟨g, 0, none⟩)) X.length cap) X.length (tokv X)] _ := hM
    obtain ⟨e1, e2⟩ := numR_big hc3 hc4 hc5
    have e3 : nxJ j (numR (X.getD j tz) most) = j := by rw [e1]; rfl
    rw [e1] at e3
    exact ⟨by rw [e1, e2] <;> rfl, by rw [e1, e3]; exact hM⟩
   ·
    refine Ends.skip (Ends.inBlock (Ends.seq (Ends.region ?_)))
    refine S.val hA (R.move rfl) rfl ?_; clear hA a; intro a hA
    replace hM := hM.front (k := 2) rfl
    replace hM := hM.front (k := 2) rfl
    replace hM : Mem _ _ [pt rb #[.slice (some ⟨g, j * 4, none⟩) (X.length - j) (cap - j), .int .i64 ((X.getD j tz).a)] 62, own 77 4 (.slice ((some ⟨g, 0, none⟩)) X.length cap) X.length (tokv X), pt b1 #[.int .i64 ((X.getD j tz).k), .string ((X.getD j tz).x), .int .i64 ((X.getD j tz).n), .int .i64 ((X.getD j tz).a)] 77] _ := hM
    refine S.call hA (R.callF Tryd.func80 rfl rfl rfl) rfl (take06 g rb j cap ((X.getD j tz).a) X hX (by omega) hcap hj1 _ (hM.hereN 2)) ?_; clear hA a
    rintro e w5 ⟨rfl, hn⟩
    replace hM : Mem _ _ [pt rb #[.slice (some ⟨g, (j + 1) * 4, none⟩) (X.length - (j + 1)) (cap - (j + 1)), .int .i64 ((X.getD j tz).a)] 62, own 77 4 (.slice ((some ⟨g, 0, none⟩)) X.length cap) X.length (tokv X), pt b1 #[.int .i64 ((X.getD j tz).k), .string ((X.getD j tz).x), .int .i64 ((X.getD j tz).n), .int .i64 ((X.getD j tz).a)] 77] _ := hM.callL 2 hn; clear hn
    refine ⟨undef, rfl, fun a hA => ?_⟩
    refine S.done ?_
    replace hA : St 31 [(6, _)] a := hA.sub ((.cons rfl .nil))
    refine Ends.seq (Ends.region ?_)
    refine S.val hA (R.fieldAddr (q := 2) fi77_2 rfl rfl rfl) rfl ?_; clear hA a; intro a hA
    refine S.val hA (R.load sz3 rfl (hM.cell (k := 2) rfl rfl)) rfl ?_; clear hA a; intro a hA
    refine S.val hA (R.assign rfl) rfl ?_; clear hA a; intro a hA
    refine S.val hA (R.assign rfl) rfl ?_; clear hA a; intro a hA
    refine S.done ?_
    refine Ends.ret2 Tryd.func81 Tryd.results81 hA rfl rfl ?_
    replace hM := hM.firstN 2
    replace hM : Mem _ _ [pt rb #[.slice (some ⟨g, (j + 1) * 4, none⟩) (X.length - (j + 1)) (cap - (j + 1)), .int .i64 ((X.getD j tz).a)] 62, own 77 4 (.slice ((some ⟨g, 0, none⟩)) X.length cap) X.length (tokv X)] _ := hM
    obtain ⟨e1, e2⟩ := numR_ok hc3 hc4 hc5
    have e3 : nxJ j (numR (X.getD j tz) most) = j + 1 := by rw [e1]; rfl
    rw [e1] at e3
    exact ⟨by rw [e1, e2] <;> rfl, by rw [e1, e3]; exact hM⟩
set_option maxRecDepth 100000 in
set_option maxHeartbeats 400000 in
theorem count06 (g rb j cap : Nat) (at0 : Int) (X : List Tok) (hX : Toks X) (hj : j < X.length) (hcap : X.length ≤ cap) (most : Int) (w : World) (hM : Mem w (feet [pt rb #[.slice (some ⟨g, j * 4, none⟩) (X.length - j) (cap - j), .int .i64 at0] 62, own 77 4 (.slice ((some ⟨g, 0, none⟩)) X.length cap) X.length (tokv X)]) [pt rb #[.slice (some ⟨g, j * 4, none⟩) (X.length - j) (cap - j), .int .i64 at0] 62, own 77 4 (.slice ((some ⟨g, 0, none⟩)) X.length cap) X.length (tokv X)] w) :
  Calls Tryd.prog 64 #[.pointer (some ⟨rb, 0, none⟩), .int .i64 most] w fun e w' => e = .returned (.tuple #[.int .i64 (numN (X.getD j tz) most), .int .i64 (cntR (X.getD j tz) most)]) ∧ Mem w (feet [pt rb #[.slice (some ⟨g, j * 4, none⟩) (X.length - j) (cap - j), .int .i64 at0] 62, own 77 4 (.slice ((some ⟨g, 0, none⟩)) X.length cap) X.length (tokv X)]) [pt rb #[.slice (some ⟨g, (nxJ j (numR (X.getD j tz) most)) * 4, none⟩) (X.length - (nxJ j (numR (X.getD j tz) most))) (cap - (nxJ j (numR (X.getD j tz) most))), .int .i64 ((X.getD j tz).a)] 62, own 77 4 (.slice ((some ⟨g, 0, none⟩)) X.length cap) X.length (tokv X)] w' := by
 have hbs := Below.refl (B := w.heap.size) w
 have hlX := hX.len
 refine Calls.of_ends (vs := [.pointer (some ⟨rb, 0, none⟩), .int .i64 most]) Tryd.func64 rfl Tryd.ntmps64 rfl ?_
 intro a hA
 replace hA : St 22 [(0, _), (1, _)] a := hA
 refine Ends.seq (Ends.region ?_)
 refine S.val hA (R.assign rfl) rfl ?_; clear hA a; intro a hA
 refine S.val hA (R.assign rfl) rfl ?_; clear hA a; intro a hA
 refine S.done ?_
 refine Ends.seq (Ends.region ?_)
 refine S.val hA (R.move rfl) rfl ?_; clear hA a; intro a hA
 refine S.val hA (R.move rfl) rfl ?_; clear hA a; intro a hA
 refine S.call hA (R.callF Tryd.func81 rfl rfl rfl) rfl (number06 g rb j cap at0 X hX (by omega) hcap most _ (hM.hereN 2)) ?_; clear hA a
 rintro e w1 ⟨rfl, hn⟩
 replace hM : Mem _ _ [pt rb #[.slice (some ⟨g, (nxJ j (numR (X.getD j tz) most)) * 4, none⟩) (X.length - (nxJ j (numR (X.getD j tz) most))) (cap - (nxJ j (numR (X.getD j tz) most))), .int .i64 ((X.getD j tz).a)] 62, own 77 4 (.slice ((some ⟨g, 0, none⟩)) X.length cap) X.length (tokv X)] _ := hM.callL 2 hn; clear hn
 refine ⟨.tuple #[.int .i64 ((numN (X.getD j tz) most)), .int .i64 ((numR (X.getD j tz) most))], rfl, fun a hA => ?_⟩
 refine S.val hA (R.move rfl) rfl ?_; clear hA a; intro a hA
 refine S.val hA (R.extract (v := .int .i64 ((numN (X.getD j tz) most))) rfl rfl) rfl ?_; clear hA a; intro a hA
 refine S.val hA (R.extract (v := .int .i64 ((numR (X.getD j tz) most))) rfl rfl) rfl ?_; clear hA a; intro a hA
 refine S.val hA (R.assign rfl) rfl ?_; clear hA a; intro a hA
 refine S.val hA (R.assign rfl) rfl ?_; clear hA a; intro a hA
 refine S.done ?_
 replace hA : St 22 [(6, _), (7, _)] a := hA.sub ((.cons rfl (.cons rfl .nil)))
 refine Ends.seq (Ends.seq ?_)
 refine Ends.cut (fun (a : Act) (wv : World) => St 22 [(6, .int .i64 ((numN (X.getD j tz) most))), (7, .int .i64 ((numR (X.getD j tz) most))), (19, .bool (decide ((((numR (X.getD j tz) most)) = 0 ∧ ((numN (X.getD j tz) most)) = 0))))] a ∧ Mem w (feet [pt rb #[.slice (some ⟨g, j * 4, none⟩) (X.length - j) (cap - j), .int .i64 at0] 62, own 77 4 (.slice ((some ⟨g, 0, none⟩)) X.length cap) X.length (tokv X)]) [pt rb #[.slice (some ⟨g, (nxJ j (numR (X.getD j tz) most)) * 4, none⟩) (X.length - (nxJ j (numR (X.getD j tz) most))) (cap - (nxJ j (numR (X.getD j tz) most))), .int .i64 ((X.getD j tz).a)] 62, own 77 4 (.slice ((some ⟨g, 0, none⟩)) X.length cap) X.length (tokv X)] wv) ?_ (fun k2 hJ => ?_)
 ·
  clear hA hM a; rintro a w2 ⟨hA, hM⟩
  refine Ends.ite hA rfl (fun hc1 => ?_) (fun hc1 => ?_)
  ·
   refine Ends.region ?_
   refine S.val hA (R.assign rfl) rfl ?_; clear hA a; intro a hA
   refine S.done ?_
   refine Ends.seq (Ends.region ?_)
   refine S.val hA (R.move rfl) rfl ?_; clear hA a; intro a hA
   refine S.val hA (R.move rfl) rfl ?_; clear hA a; intro a hA
   refine S.val hA (R.assign rfl) rfl ?_; clear hA a; intro a hA
   refine S.val hA (R.assign rfl) rfl ?_; clear hA a; intro a hA
   refine S.done ?_
   replace hA : St 22 [(4, _), (5, _)] a := hA.sub ((.cons rfl (.cons rfl .nil)))
   refine Ends.ret2 Tryd.func64 Tryd.results64 hA rfl rfl ?_
   replace hM := hM.firstN 2
   replace hM : Mem _ _ [pt rb #[.slice (some ⟨g, (nxJ j (numR (X.getD j tz) most)) * 4, none⟩) (X.length - (nxJ j (numR (X.getD j tz) most))) (cap - (nxJ j (numR (X.getD j tz) most))), .int .i64 ((X.getD j tz).a)] 62, own 77 4 (.slice ((some ⟨g, 0, none⟩)) X.length cap) X.length (tokv X)] _ := hM
   have e1 := cntR_pos hc1
   exact ⟨by rw [e1] <;> rfl, hM⟩
  ·
   refine Ends.skip (Ends.seq (Ends.region ?_))
   refine S.val hA (R.move rfl) rfl ?_; clear hA a; intro a hA
   refine S.val hA (R.move rfl) rfl ?_; clear hA a; intro a hA
   refine S.val hA (R.assign rfl) rfl ?_; clear hA a; intro a hA
   refine S.val hA (R.assign rfl) rfl ?_; clear hA a; intro a hA
   refine S.done ?_
   replace hA : St 22 [(4, _), (5, _)] a := hA.sub ((.cons rfl (.cons rfl .nil)))
   refine Ends.ret2 Tryd.func64 Tryd.results64 hA rfl rfl ?_
   replace hM := hM.firstN 2
   replace hM : Mem _ _ [pt rb #[.slice (some ⟨g, (nxJ j (numR (X.getD j tz) most)) * 4, none⟩) (X.length - (nxJ j (numR (X.getD j tz) most))) (cap - (nxJ j (numR (X.getD j tz) most))), .int .i64 ((X.getD j tz).a)] 62, own 77 4 (.slice ((some ⟨g, 0, none⟩)) X.length cap) X.length (tokv X)] _ := hM
   have e1 := cntR_neg hc1
   exact ⟨by rw [e1] <;> rfl, hM⟩
 ·
  refine Ends.region ?_
  refine S.val hA (R.move rfl) rfl ?_; clear hA a; intro a hA
  refine S.val hA (R.eql rfl rfl) rfl ?_; clear hA a; intro a hA
  refine S.val hA (R.move rfl) rfl ?_; clear hA a; intro a hA
  refine hA.split (d := 16) rfl ?_ ?_
  ·
   clear hA; intro hg2 hA
   refine S.valg (dj := 16) hA (by kernel_rfl) rfl (R.move rfl) rfl ?_; clear hA a; intro a hA
   refine S.valg (dj := 16) hA (by kernel_rfl) rfl (R.eql rfl rfl) rfl ?_; clear hA a; intro a hA
   refine S.val hA (R.pickT rfl rfl) rfl ?_; clear hA a; intro a hA
   refine S.done ?_
   replace hA : St 22 [(6, _), (7, _), (19, _)] a := hA.sub ((.cons rfl (.cons rfl (.cons rfl .nil))))
   exact hJ _ _ ⟨hA.sub (.cons rfl (.cons rfl (.cons (by first | rfl | exact congrArg (fun b => some (Value.bool b)) (by first | exact decide_eq_decide.2 (by omega) | exact or_bool (by omega) | exact and_bool (by omega) | (simp; done) | (simp [hg2]; done) | (have h80 := hg2; (try simp at h80); simp [h80]; done) | exact (decide_eq_false (fun h9 => hg2 h9.1)).symm)) .nil))), hM⟩
  ·
   clear hA; intro hg2 hA
   refine S.no (dj := 16) hA (by kernel_rfl) rfl rfl rfl ?_; clear hA a; intro a hA
   refine S.no (dj := 16) hA (by kernel_rfl) rfl rfl rfl ?_; clear hA a; intro a hA
   refine S.val hA (R.pickF rfl rfl) rfl ?_; clear hA a; intro a hA
   refine S.done ?_
   replace hA : St 22 [(6, _), (7, _), (19, _)] a := hA.sub ((.cons rfl (.cons rfl (.cons rfl .nil))))
   exact hJ _ _ ⟨hA.sub (.cons rfl (.cons rfl (.cons (by first | rfl | exact congrArg (fun b => some (Value.bool b)) (by first | exact decide_eq_decide.2 (by omega) | exact or_bool (by omega) | exact and_bool (by omega) | (simp; done) | (simp [hg2]; done) | (have h80 := hg2; (try simp at h80); simp [h80]; done) | exact (decide_eq_false (fun h9 => hg2 h9.1)).symm)) .nil))), hM⟩
set_option maxRecDepth 100000 in
set_option maxHeartbeats 400000 in
theorem end06 (g rb j cap : Nat) (at0 : Int) (X : List Tok) (hX : Toks X) (hj : j < X.length) (hcap : X.length ≤ cap) (w : World) (hM : Mem w (feet [pt rb #[.slice (some ⟨g, j * 4, none⟩) (X.length - j) (cap - j), .int .i64 at0] 62, own 77 4 (.slice ((some ⟨g, 0, none⟩)) X.length cap) X.length (tokv X)]) [pt rb #[.slice (some ⟨g, j * 4, none⟩) (X.length - j) (cap - j), .int .i64 at0] 62, own 77 4 (.slice ((some ⟨g, 0, none⟩)) X.length cap) X.length (tokv X)] w) :
  Calls Tryd.prog 66 #[.pointer (some ⟨rb, 0, none⟩)] w fun e w' => e = .returned (.int .i64 (endR (X.getD j tz))) ∧ Mem w (feet [pt rb #[.slice (some ⟨g, j * 4, none⟩) (X.length - j) (cap - j), .int .i64 at0] 62, own 77 4 (.slice ((some ⟨g, 0, none⟩)) X.length cap) X.length (tokv X)]) [pt rb #[.slice (some ⟨g, j * 4, none⟩) (X.length - j) (cap - j), .int .i64 ((X.getD j tz).a)] 62, own 77 4 (.slice ((some ⟨g, 0, none⟩)) X.length cap) X.length (tokv X)] w' := by
 have hbs := Below.refl (B := w.heap.size) w
 have hlX := hX.len
 refine Calls.of_ends (vs := [.pointer (some ⟨rb, 0, none⟩)]) Tryd.func66 rfl Tryd.ntmps66 rfl ?_
 intro a hA
 replace hA : St 14 [(0, _)] a := hA
 refine Ends.seq (Ends.region ?_)
 refine S.val hA (R.assign rfl) rfl ?_; clear hA a; intro a hA
 refine S.done ?_
 refine Ends.seq (Ends.region ?_)
 refine S.val hA (R.move rfl) rfl ?_; clear hA a; intro a hA
 refine S.call hA (R.callF Tryd.func79 rfl rfl rfl) rfl (next06 g rb j cap at0 X hX (by omega) hcap _ (hM.hereN 2)) ?_; clear hA a
 rintro e w1 ⟨rfl, hn⟩
 replace hM : Mem _ _ [pt rb #[.slice (some ⟨g, j * 4, none⟩) (X.length - j) (cap - j), .int .i64 at0] 62, own 77 4 (.slice ((some ⟨g, 0, none⟩)) X.length cap) X.length (tokv X)] _ := hM.callL 2 hn; clear hn
 refine ⟨.agg #[.int .i64 ((X.getD j tz).k), .string ((X.getD j tz).x), .int .i64 ((X.getD j tz).n), .int .i64 ((X.getD j tz).a)], rfl, fun a hA => ?_⟩
 refine S.alloc hA hM info77 rfl rfl ?_; clear hA hM a; intro b1 w2 hb2 hM a hA
 replace hM : Mem _ _ [pt b1 #[.int .i64 0, .string (⟨#[]⟩), .int .i64 0, .int .i64 0] 77, pt rb #[.slice (some ⟨g, j * 4, none⟩) (X.length - j) (cap - j), .int .i64 at0] 62, own 77 4 (.slice ((some ⟨g, 0, none⟩)) X.length cap) X.length (tokv X)] _ := hM
 refine S.storeA (k := 0) hA hM sz77 rfl rfl rfl rfl rfl rfl ?_; clear hM
 intro w3 hM
 replace hM : Mem _ _ [pt b1 #[.int .i64 ((X.getD j tz).k), .string ((X.getD j tz).x), .int .i64 ((X.getD j tz).n), .int .i64 ((X.getD j tz).a)] 77, pt rb #[.slice (some ⟨g, j * 4, none⟩) (X.length - j) (cap - j), .int .i64 at0] 62, own 77 4 (.slice ((some ⟨g, 0, none⟩)) X.length cap) X.length (tokv X)] _ := hM
 refine S.done ?_
 refine Ends.seq (Ends.region ?_)
 refine S.val hA (R.move rfl) rfl ?_; clear hA a; intro a hA
 refine S.val hA (R.fieldAddr (q := 3) fi77_3 rfl rfl rfl) rfl ?_; clear hA a; intro a hA
 refine S.val hA (R.load sz3 rfl (hM.cell (k := 0) rfl rfl)) rfl ?_; clear hA a; intro a hA
 refine S.val hA (R.nilCheck rfl) rfl ?_; clear hA a; intro a hA
 refine S.val hA (R.fieldAddr (q := 1) fi62_1 rfl rfl rfl) rfl ?_; clear hA a; intro a hA
 refine S.store (k := 1) hA hM sz3 rfl rfl rfl rfl rfl ?_; clear hM
 intro w4 hM
 replace hM : Mem _ _ [pt b1 #[.int .i64 ((X.getD j tz).k), .string ((X.getD j tz).x), .int .i64 ((X.getD j tz).n), .int .i64 ((X.getD j tz).a)] 77, pt rb #[.slice (some ⟨g, j * 4, none⟩) (X.length - j) (cap - j), .int .i64 ((X.getD j tz).a)] 62, own 77 4 (.slice ((some ⟨g, 0, none⟩)) X.length cap) X.length (tokv X)] _ := hM
 refine S.done ?_
 replace hA : St 14 [(3, _)] a := hA.sub ((.cons rfl .nil))
 refine Ends.seq (Ends.seq (Ends.region ?_))
 refine S.val hA (R.fieldAddr (q := 0) fi77_0 rfl rfl rfl) rfl ?_; clear hA a; intro a hA
 refine S.val hA (R.load sz3 rfl (hM.cell (k := 0) rfl rfl)) rfl ?_; clear hA a; intro a hA
 refine S.val hA (R.neq rfl rfl) rfl ?_; clear hA a; intro a hA
 refine S.done ?_
 refine Ends.ite hA rfl (fun hc3 => ?_) (fun hc3 => ?_)
 ·
  refine Ends.seq (Ends.region ?_)
  refine S.val hA (R.assign rfl) rfl ?_; clear hA a; intro a hA
  refine S.done ?_
  replace hA : St 14 [(2, _)] a := hA.sub ((.cons rfl .nil))
  refine Ends.ret1 Tryd.func66 Tryd.results66 hA rfl ?_
  replace hM := hM.front (k := 2) rfl
  replace hM := hM.front (k := 2) rfl
  replace hM : Mem _ _ [pt rb #[.slice (some ⟨g, j * 4, none⟩) (X.length - j) (cap - j), .int .i64 ((X.getD j tz).a)] 62, own 77 4 (.slice ((some ⟨g, 0, none⟩)) X.length cap) X.length (tokv X), pt b1 #[.int .i64 ((X.getD j tz).k), .string ((X.getD j tz).x), .int .i64 ((X.getD j tz).n), .int .i64 ((X.getD j tz).a)] 77] _ := hM
  replace hM := hM.firstN 2
  replace hM : Mem _ _ [pt rb #[.slice (some ⟨g, j * 4, none⟩) (X.length - j) (cap - j), .int .i64 ((X.getD j tz).a)] 62, own 77 4 (.slice ((some ⟨g, 0, none⟩)) X.length cap) X.length (tokv X)] _ := hM
  have e1 : endR (X.getD j tz) = 7 := if_pos hc3
  exact ⟨by rw [e1] <;> rfl, hM⟩
 ·
  refine Ends.skip (Ends.seq (Ends.region ?_))
  refine S.val hA (R.assign rfl) rfl ?_; clear hA a; intro a hA
  refine S.done ?_
  replace hA : St 14 [(2, _)] a := hA.sub ((.cons rfl .nil))
  refine Ends.ret1 Tryd.func66 Tryd.results66 hA rfl ?_
  replace hM := hM.front (k := 2) rfl
  replace hM := hM.front (k := 2) rfl
  replace hM : Mem _ _ [pt rb #[.slice (some ⟨g, j * 4, none⟩) (X.length - j) (cap - j), .int .i64 ((X.getD j tz).a)] 62, own 77 4 (.slice ((some ⟨g, 0, none⟩)) X.length cap) X.length (tokv X), pt b1 #[.int .i64 ((X.getD j tz).k), .string ((X.getD j tz).x), .int .i64 ((X.getD j tz).n), .int .i64 ((X.getD j tz).a)] 77] _ := hM
  replace hM := hM.firstN 2
  replace hM : Mem _ _ [pt rb #[.slice (some ⟨g, j * 4, none⟩) (X.length - j) (cap - j), .int .i64 ((X.getD j tz).a)] 62, own 77 4 (.slice ((some ⟨g, 0, none⟩)) X.length cap) X.length (tokv X)] _ := hM
  have e1 : endR (X.getD j tz) = 0 := if_neg hc3
  exact ⟨by rw [e1] <;> rfl, hM⟩
set_option maxRecDepth 100000 in
set_option maxHeartbeats 400000 in
theorem word06_3 (g rb j cap : Nat) (at0 : Int) (X : List Tok) (hX : Toks X) (hj : j < X.length) (hcap : X.length ≤ cap) (sb : Nat) (s1 s2 s3 : ByteArray) (w : World) (hM : Mem w (feet [pt rb #[.slice (some ⟨g, j * 4, none⟩) (X.length - j) (cap - j), .int .i64 at0] 62, own 77 4 (.slice ((some ⟨g, 0, none⟩)) X.length cap) X.length (tokv X), pt sb #[.string s1, .string s2, .string s3] 9]) [pt rb #[.slice (some ⟨g, j * 4, none⟩) (X.length - j) (cap - j), .int .i64 at0] 62, own 77 4 (.slice ((some ⟨g, 0, none⟩)) X.length cap) X.length (tokv X), pt sb #[.string s1, .string s2, .string s3] 9] w) :
  Calls Tryd.prog 61 #[.pointer (some ⟨rb, 0, none⟩), .slice (some ⟨sb, 0, none⟩) 3 3] w fun e w' => e = .returned (.tuple #[.int .i64 (wordR (X.getD j tz) [s1, s2, s3]).1, .int .i64 (wordR (X.getD j tz) [s1, s2, s3]).2]) ∧ Mem w (feet [pt rb #[.slice (some ⟨g, j * 4, none⟩) (X.length - j) (cap - j), .int .i64 at0] 62, own 77 4 (.slice ((some ⟨g, 0, none⟩)) X.length cap) X.length (tokv X), pt sb #[.string s1, .string s2, .string s3] 9]) [pt rb #[.slice (some ⟨g, (nxJ j (wordR (X.getD j tz) [s1, s2, s3]).2) * 4, none⟩) (X.length - (nxJ j (wordR (X.getD j tz) [s1, s2, s3]).2)) (cap - (nxJ j (wordR (X.getD j tz) [s1, s2, s3]).2)), .int .i64 ((X.getD j tz).a)] 62, own 77 4 (.slice ((some ⟨g, 0, none⟩)) X.length cap) X.length (tokv X), pt sb #[.string s1, .string s2, .string s3] 9] w' := by
 have hbs := Below.refl (B := w.heap.size) w
 have hlX := hX.len
 refine Calls.of_ends (vs := [.pointer (some ⟨rb, 0, none⟩), .slice (some ⟨sb, 0, none⟩) 3 3]) Tryd.func61 rfl Tryd.ntmps61 rfl ?_
 intro a hA
 replace hA : St 39 [(0, _), (1, _)] a := hA
 refine Ends.seq (Ends.region ?_)
 refine S.val hA (R.assign rfl) rfl ?_; clear hA a; intro a hA
 refine S.val hA (R.assign rfl) rfl ?_; clear hA a; intro a hA
 refine S.done ?_
 refine Ends.seq (Ends.region ?_)
 refine S.val hA (R.move rfl) rfl ?_; clear hA a; intro a hA
 refine S.call hA (R.callF Tryd.func79 rfl rfl rfl) rfl (next06 g rb j cap at0 X hX (by omega) hcap _ (hM.hereN 2)) ?_; clear hA a
 rintro e w1 ⟨rfl, hn⟩
 replace hM : Mem _ _ [pt rb #[.slice (some ⟨g, j * 4, none⟩) (X.length - j) (cap - j), .int .i64 at0] 62, own 77 4 (.slice ((some ⟨g, 0, none⟩)) X.length cap) X.length (tokv X), pt sb #[.string s1, .string s2, .string s3] 9] _ := hM.callL 2 hn; clear hn
 refine ⟨.agg #[.int .i64 ((X.getD j tz).k), .string ((X.getD j tz).x), .int .i64 ((X.getD j tz).n), .int .i64 ((X.getD j tz).a)], rfl, fun a hA => ?_⟩
 refine S.alloc hA hM info77 rfl rfl ?_; clear hA hM a; intro b1 w2 hb2 hM a hA
 replace hM : Mem _ _ [pt b1 #[.int .i64 0, .string (⟨#[]⟩), .int .i64 0, .int .i64 0] 77, pt rb #[.slice (some ⟨g, j * 4, none⟩) (X.length - j) (cap - j), .int .i64 at0] 62, own 77 4 (.slice ((some ⟨g, 0, none⟩)) X.length cap) X.length (tokv X), pt sb #[.string s1, .string s2, .string s3] 9] _ := hM
 refine S.storeA (k := 0) hA hM sz77 rfl rfl rfl rfl rfl rfl ?_; clear hM
 intro w3 hM
 replace hM : Mem _ _ [pt b1 #[.int .i64 ((X.getD j tz).k), .string ((X.getD j tz).x), .int .i64 ((X.getD j tz).n), .int .i64 ((X.getD j tz).a)] 77, pt rb #[.slice (some ⟨g, j * 4, none⟩) (X.length - j) (cap - j), .int .i64 at0] 62, own 77 4 (.slice ((some ⟨g, 0, none⟩)) X.length cap) X.length (tokv X), pt sb #[.string s1, .string s2, .string s3] 9] _ := hM
 refine S.done ?_
 replace hA : St 39 [(0, _), (1, _), (6, _)] a := hA.sub ((.cons rfl (.cons rfl (.cons rfl .nil))))
 refine Ends.seq (Ends.region ?_)
 refine S.val hA (R.move rfl) rfl ?_; clear hA a; intro a hA
 refine S.val hA (R.fieldAddr (q := 3) fi77_3 rfl rfl rfl) rfl ?_; clear hA a; intro a hA
 refine S.val hA (R.load sz3 rfl (hM.cell (k := 0) rfl rfl)) rfl ?_; clear hA a; intro a hA
 refine S.val hA (R.nilCheck rfl) rfl ?_; clear hA a; intro a hA
 refine S.val hA (R.fieldAddr (q := 1) fi62_1 rfl rfl rfl) rfl ?_; clear hA a; intro a hA
 refine S.store (k := 1) hA hM sz3 rfl rfl rfl rfl rfl ?_; clear hM
 intro w4 hM
 replace hM : Mem _ _ [pt b1 #[.int .i64 ((X.getD j tz).k), .string ((X.getD j tz).x), .int .i64 ((X.getD j tz).n), .int .i64 ((X.getD j tz).a)] 77, pt rb #[.slice (some ⟨g, j * 4, none⟩) (X.length - j) (cap - j), .int .i64 ((X.getD j tz).a)] 62, own 77 4 (.slice ((some ⟨g, 0, none⟩)) X.length cap) X.length (tokv X), pt sb #[.string s1, .string s2, .string s3] 9] _ := hM
 refine S.done ?_
 replace hA : St 39 [(0, _), (1, _), (6, _)] a := hA.sub ((.cons rfl (.cons rfl (.cons rfl .nil))))
 refine Ends.seq (Ends.seq (Ends.region ?_))
 refine S.val hA (R.fieldAddr (q := 0) fi77_0 rfl rfl rfl) rfl ?_; clear hA a; intro a hA
 refine S.val hA (R.load sz3 rfl (hM.cell (k := 0) rfl rfl)) rfl ?_; clear hA a; intro a hA
 refine S.val hA (R.eql rfl rfl) rfl ?_; clear hA a; intro a hA
 refine S.done ?_
 refine Ends.ite hA rfl (fun hc3 => ?_) (fun hc3 => ?_)
 ·
  refine Ends.seq (Ends.region ?_)
  refine S.val hA (R.assign rfl) rfl ?_; clear hA a; intro a hA
  refine S.val hA (R.assign rfl) rfl ?_; clear hA a; intro a hA
  refine S.done ?_
  refine Ends.ret2 Tryd.func61 Tryd.results61 hA rfl rfl ?_
  replace hM := hM.front (k := 3) rfl
  replace hM := hM.front (k := 3) rfl
  replace hM := hM.front (k := 3) rfl
  replace hM : Mem _ _ [pt rb #[.slice (some ⟨g, j * 4, none⟩) (X.length - j) (cap - j), .int .i64 ((X.getD j tz).a)] 62, own 77 4 (.slice ((some ⟨g, 0, none⟩)) X.length cap) X.length (tokv X), pt sb #[.string s1, .string s2, .string s3] 9, pt b1 #[.int .i64 ((X.getD j tz).k), .string ((X.getD j tz).x), .int .i64 ((X.getD j tz).n), .int .i64 ((X.getD j tz).a)] 77] _ := hM
  replace hM := hM.firstN 3
  replace hM : Mem _ _ [pt rb #[.slice (some ⟨g, j * 4, none⟩) (X.length - j) (cap - j), .int .i64 ((X.getD j tz).a)] 62, own 77 4 (.slice ((some ⟨g, 0, none⟩)) X.length cap) X.length (tokv X), pt sb #[.string s1, .string s2, .string s3] 9] _ := hM
  have e1 : (wordR (X.getD j tz) [s1, s2, s3]) = (0, 6) := wordR_end hc3
  have e2 : nxJ j (wordR (X.getD j tz) [s1, s2, s3]).2 = j := by rw [e1]; rfl
  rw [e1] at e2
  exact ⟨by rw [e1] <;> rfl, by rw [e1, e2]; exact hM⟩
 ·
  have hj1 := hX.next j hj hc3
  refine Ends.skip (Ends.seq (Ends.seq (Ends.region ?_)))
  refine S.val hA (R.move rfl) rfl ?_; clear hA a; intro a hA
  refine S.val hA (R.lenS Tryd.underlying34 rfl rfl) rfl ?_; clear hA a; intro a hA
  refine S.val hA (R.move rfl) rfl ?_; clear hA a; intro a hA
  refine S.done ?_
  replace hA : St 39 [(0, _), (6, _), (19, _), (20, _), (21, _)] a := hA.sub ((.cons rfl (.cons rfl (.cons rfl (.cons rfl (.cons rfl .nil))))))
  refine Ends.block ?_
  refine Ends.unroll ?_
  refine Ends.seq (Ends.region ?_)
  refine S.val hA (R.tt (R.lss rfl rfl) (by first | decide | simp | omega)) rfl ?_; clear hA a; intro a hA
  refine S.done ?_
  refine Ends.seq ?_
  refine Ends.condT hA rfl ?_
  refine Ends.skip (Ends.seq (Ends.block (Ends.seq (Ends.region ?_))))
  refine S.val hA (R.move rfl) rfl ?_; clear hA a; intro a hA
  refine S.val hA (R.indexAddr (q := 0) sl34 rfl rfl (by omega) (rfl)) rfl ?_; clear hA a; intro a hA
  refine S.val hA (R.load sz9 rfl (hM.cell (k := 3) rfl rfl)) rfl ?_; clear hA a; intro a hA
  refine S.val hA (R.assign rfl) rfl ?_; clear hA a; intro a hA
  refine S.val hA (R.assign rfl) rfl ?_; clear hA a; intro a hA
  refine S.done ?_
  replace hA : St 39 [(0, _), (6, _), (7, _), (8, _), (19, _), (20, _), (21, _)] a := hA.sub ((.cons rfl (.cons rfl (.cons rfl (.cons rfl (.cons rfl (.cons rfl (.cons rfl .nil))))))))
  refine Ends.seq ?_
  refine Ends.cut (fun (a : Act) (wv : World) => St 39 [(0, .pointer (some ⟨rb, 0, none⟩)), (6, .pointer (some ⟨b1, 0, none⟩)), (7, .int .i64 0), (19, .slice (some ⟨sb, 0, none⟩) 3 3), (20, .int .i64 3), (21, .int .i64 0), (34, .bool (decide ((((X.getD j tz).k) = 1 ∧ (X.getD j tz).x = s1))))] a ∧ Mem w (feet [pt rb #[.slice (some ⟨g, j * 4, none⟩) (X.length - j) (cap - j), .int .i64 at0] 62, own 77 4 (.slice ((some ⟨g, 0, none⟩)) X.length cap) X.length (tokv X), pt sb #[.string s1, .string s2, .string s3] 9]) [pt b1 #[.int .i64 ((X.getD j tz).k), .string ((X.getD j tz).x), .int .i64 ((X.getD j tz).n), .int .i64 ((X.getD j tz).a)] 77, pt rb #[.slice (some ⟨g, j * 4, none⟩) (X.length - j) (cap - j), .int .i64 ((X.getD j tz).a)] 62, own 77 4 (.slice ((some ⟨g, 0, none⟩)) X.length cap) X.length (tokv X), pt sb #[.string s1, .string s2, .string s3] 9] wv) ?_ (fun k2 hJ => ?_)
  ·
   clear hA hM a; rintro a w5 ⟨hA, hM⟩
   refine Ends.ite hA rfl (fun hc4 => ?_) (fun hc4 => ?_)
   ·
    refine Ends.seq (Ends.region ?_)
    refine S.val hA (R.move rfl) rfl ?_; clear hA a; intro a hA
    replace hM := hM.front (k := 2) rfl
    replace hM := hM.front (k := 2) rfl
    replace hM : Mem _ _ [pt rb #[.slice (some ⟨g, j * 4, none⟩) (X.length - j) (cap - j), .int .i64 ((X.getD j tz).a)] 62, own 77 4 (.slice ((some ⟨g, 0, none⟩)) X.length cap) X.length (tokv X), pt b1 #[.int .i64 ((X.getD j tz).k), .string ((X.getD j tz).x), .int .i64 ((X.getD j tz).n), .int .i64 ((X.getD j tz).a)] 77, pt sb #[.string s1, .string s2, .string s3] 9] _ := hM
    refine S.call hA (R.callF Tryd.func80 rfl rfl rfl) rfl (take06 g rb j cap ((X.getD j tz).a) X hX (by omega) hcap hj1 _ (hM.hereN 2)) ?_; clear hA a
    rintro e w6 ⟨rfl, hn⟩
    replace hM : Mem _ _ [pt rb #[.slice (some ⟨g, (j + 1) * 4, none⟩) (X.length - (j + 1)) (cap - (j + 1)), .int .i64 ((X.getD j tz).a)] 62, own 77 4 (.slice ((some ⟨g, 0, none⟩)) X.length cap) X.length (tokv X), pt b1 #[.int .i64 ((X.getD j tz).k), .string ((X.getD j tz).x), .int .i64 ((X.getD j tz).n), .int .i64 ((X.getD j tz).a)] 77, pt sb #[.string s1, .string s2, .string s3] 9] _ := hM.callL 2 hn; clear hn
    refine ⟨undef, rfl, fun a hA => ?_⟩
    refine S.done ?_
    refine Ends.seq (Ends.region ?_)
    refine S.val hA (R.move rfl) rfl ?_; clear hA a; intro a hA
    refine S.val hA (R.assign rfl) rfl ?_; clear hA a; intro a hA
    refine S.val hA (R.assign rfl) rfl ?_; clear hA a; intro a hA
    refine S.done ?_
    replace hA : St 39 [(0, _), (4, _), (5, _), (6, _), (19, _), (20, _), (21, _)] a := hA.sub ((.cons rfl (.cons rfl (.cons rfl (.cons rfl (.cons rfl (.cons rfl (.cons rfl .nil))))))))
    refine Ends.ret2 Tryd.func61 Tryd.results61 hA rfl rfl ?_
    replace hM := hM.front (k := 3) rfl
    replace hM := hM.front (k := 2) rfl
    replace hM := hM.front (k := 2) rfl
    replace hM : Mem _ _ [pt rb #[.slice (some ⟨g, (j + 1) * 4, none⟩) (X.length - (j + 1)) (cap - (j + 1)), .int .i64 ((X.getD j tz).a)] 62, own 77 4 (.slice ((some ⟨g, 0, none⟩)) X.length cap) X.length (tokv X), pt sb #[.string s1, .string s2, .string s3] 9, pt b1 #[.int .i64 ((X.getD j tz).k), .string ((X.getD j tz).x), .int .i64 ((X.getD j tz).n), .int .i64 ((X.getD j tz).a)] 77] _ := hM
    replace hM := hM.firstN 3
    replace hM : Mem _ _ [pt rb #[.slice (some ⟨g, (j + 1) * 4, none⟩) (X.length - (j + 1)) (cap - (j + 1)), .int .i64 ((X.getD j tz).a)] 62, own 77 4 (.slice ((some ⟨g, 0, none⟩)) X.length cap) X.length (tokv X), pt sb #[.string s1, .string s2, .string s3] 9] _ := hM
    have e1 : (wordR (X.getD j tz) [s1, s2, s3]) = (0, 0) := by
     rw [wordR_in hc3, wdI_hit hc4] <;> rfl
    have e2 : nxJ j (wordR (X.getD j tz) [s1, s2, s3]).2 = j + 1 := by rw [e1]; rfl
    rw [e1] at e2
    exact ⟨by rw [e1] <;> rfl, by rw [e1, e2]; exact hM⟩
   ·
    refine Ends.skip (Ends.inBlock (Ends.region ?_))
    refine S.val hA (R.addI rfl rfl (r := 1) rfl (by omega)) rfl ?_; clear hA a; intro a hA
    refine S.val hA (R.move rfl) rfl ?_; clear hA a; intro a hA
    refine S.done ?_
    refine Ends.inLoop ?_
    refine Ends.seq (Ends.region ?_)
    refine S.val hA (R.tt (R.lss rfl rfl) (by first | decide | simp | omega)) rfl ?_; clear hA a; intro a hA
    refine S.done ?_
    refine Ends.seq ?_
    refine Ends.condT hA rfl ?_
    refine Ends.skip (Ends.seq (Ends.block (Ends.seq (Ends.region ?_))))
    refine S.val hA (R.move rfl) rfl ?_; clear hA a; intro a hA
    refine S.val hA (R.indexAddr (q := 1) sl34 rfl rfl (by omega) (rfl)) rfl ?_; clear hA a; intro a hA
    refine S.val hA (R.load sz9 rfl (hM.cell (k := 3) rfl rfl)) rfl ?_; clear hA a; intro a hA
    refine S.val hA (R.assign rfl) rfl ?_; clear hA a; intro a hA
    refine S.val hA (R.assign rfl) rfl ?_; clear hA a; intro a hA
    refine S.done ?_
    replace hA : St 39 [(0, _), (6, _), (7, _), (8, _), (19, _), (20, _), (21, _)] a := hA.sub ((.cons rfl (.cons rfl (.cons rfl (.cons rfl (.cons rfl (.cons rfl (.cons rfl .nil))))))))
    refine Ends.seq ?_
    refine Ends.cut (fun (a : Act) (wv : World) => St 39 [(0, .pointer (some ⟨rb, 0, none⟩)), (6, .pointer (some ⟨b1, 0, none⟩)), (7, .int .i64 1), (19, .slice (some ⟨sb, 0, none⟩) 3 3), (20, .int .i64 3), (21, .int .i64 1), (34, .bool (decide ((((X.getD j tz).k) = 1 ∧ (X.getD j tz).x = s2))))] a ∧ Mem w (feet [pt rb #[.slice (some ⟨g, j * 4, none⟩) (X.length - j) (cap - j), .int .i64 at0] 62, own 77 4 (.slice ((some ⟨g, 0, none⟩)) X.length cap) X.length (tokv X), pt sb #[.string s1, .string s2, .string s3] 9]) [pt b1 #[.int .i64 ((X.getD j tz).k), .string ((X.getD j tz).x), .int .i64 ((X.getD j tz).n), .int .i64 ((X.getD j tz).a)] 77, pt rb #[.slice (some ⟨g, j * 4, none⟩) (X.length - j) (cap - j), .int .i64 ((X.getD j tz).a)] 62, own 77 4 (.slice ((some ⟨g, 0, none⟩)) X.length cap) X.length (tokv X), pt sb #[.string s1, .string s2, .string s3] 9] wv) ?_ (fun k2 hJ => ?_)
    ·
     clear hA hM a; rintro a w7 ⟨hA, hM⟩
     refine Ends.ite hA rfl (fun hc5 => ?_) (fun hc5 => ?_)
     ·
      refine Ends.seq (Ends.region ?_)
      refine S.val hA (R.move rfl) rfl ?_; clear hA a; intro a hA
      replace hM := hM.front (k := 2) rfl
      replace hM := hM.front (k := 2) rfl
      replace hM : Mem _ _ [pt rb #[.slice (some ⟨g, j * 4, none⟩) (X.length - j) (cap - j), .int .i64 ((X.getD j tz).a)] 62, own 77 4 (.slice ((some ⟨g, 0, none⟩)) X.length cap) X.length (tokv X), pt b1 #[.int .i64 ((X.getD j tz).k), .string ((X.getD j tz).x), .int .i64 ((X.getD j tz).n), .int .i64 ((X.getD j tz).a)] 77, pt sb #[.string s1, .string s2, .string s3] 9] _ := hM
      refine S.call hA (R.callF Tryd.func80 rfl rfl rfl) rfl (take06 g rb j cap ((X.getD j tz).a) X hX (by omega) hcap hj1 _ (hM.hereN 2)) ?_; clear hA a
      rintro e w8 ⟨rfl, hn⟩
      replace hM : Mem _ _ [pt rb #[.slice (some ⟨g, (j + 1) * 4, none⟩) (X.length - (j + 1)) (cap - (j + 1)), .int .i64 ((X.getD j tz).a)] 62, own 77 4 (.slice ((some ⟨g, 0, none⟩)) X.length cap) X.length (tokv X), pt b1 #[.int .i64 ((X.getD j tz).k), .string ((X.getD j tz).x), .int .i64 ((X.getD j tz).n), .int .i64 ((X.getD j tz).a)] 77, pt sb #[.string s1, .string s2, .string s3] 9] _ := hM.callL 2 hn; clear hn
      refine ⟨undef, rfl, fun a hA => ?_⟩
      refine S.done ?_
      refine Ends.seq (Ends.region ?_)
      refine S.val hA (R.move rfl) rfl ?_; clear hA a; intro a hA
      refine S.val hA (R.assign rfl) rfl ?_; clear hA a; intro a hA
      refine S.val hA (R.assign rfl) rfl ?_; clear hA a; intro a hA
      refine S.done ?_
      replace hA : St 39 [(0, _), (4, _), (5, _), (6, _), (19, _), (20, _), (21, _)] a := hA.sub ((.cons rfl (.cons rfl (.cons rfl (.cons rfl (.cons rfl (.cons rfl (.cons rfl .nil))))))))
      refine Ends.ret2 Tryd.func61 Tryd.results61 hA rfl rfl ?_
      replace hM := hM.front (k := 3) rfl
      replace hM := hM.front (k := 2) rfl
      replace hM := hM.front (k := 2) rfl
      replace hM : Mem _ _ [pt rb #[.slice (some ⟨g, (j + 1) * 4, none⟩) (X.length - (j + 1)) (cap - (j + 1)), .int .i64 ((X.getD j tz).a)] 62, own 77 4 (.slice ((some ⟨g, 0, none⟩)) X.length cap) X.length (tokv X), pt sb #[.string s1, .string s2, .string s3] 9, pt b1 #[.int .i64 ((X.getD j tz).k), .string ((X.getD j tz).x), .int .i64 ((X.getD j tz).n), .int .i64 ((X.getD j tz).a)] 77] _ := hM
      replace hM := hM.firstN 3
      replace hM : Mem _ _ [pt rb #[.slice (some ⟨g, (j + 1) * 4, none⟩) (X.length - (j + 1)) (cap - (j + 1)), .int .i64 ((X.getD j tz).a)] 62, own 77 4 (.slice ((some ⟨g, 0, none⟩)) X.length cap) X.length (tokv X), pt sb #[.string s1, .string s2, .string s3] 9] _ := hM
      have e1 : (wordR (X.getD j tz) [s1, s2, s3]) = (1, 0) := by
       rw [wordR_in hc3, wdI_miss hc4, wdI_hit hc5] <;> rfl
      have e2 : nxJ j (wordR (X.getD j tz) [s1, s2, s3]).2 = j + 1 := by rw [e1]; rfl
      rw [e1] at e2
      exact ⟨by rw [e1] <;> rfl, by rw [e1, e2]; exact hM⟩
     ·
      refine Ends.skip (Ends.inBlock (Ends.region ?_))
      refine S.val hA (R.addI rfl rfl (r := 2) rfl (by omega)) rfl ?_; clear hA a; intro a hA
      refine S.val hA (R.move rfl) rfl ?_; clear hA a; intro a hA
      refine S.done ?_
      refine Ends.inLoop ?_
      refine Ends.seq (Ends.region ?_)
      refine S.val hA (R.tt (R.lss rfl rfl) (by first | decide | simp | omega)) rfl ?_; clear hA a; intro a hA
      refine S.done ?_
      refine Ends.seq ?_
      refine Ends.condT hA rfl ?_
      refine Ends.skip (Ends.seq (Ends.block (Ends.seq (Ends.region ?_))))
      refine S.val hA (R.move rfl) rfl ?_; clear hA a; intro a hA
      refine S.val hA (R.indexAddr (q := 2) sl34 rfl rfl (by omega) (rfl)) rfl ?_; clear hA a; intro a hA
      refine S.val hA (R.load sz9 rfl (hM.cell (k := 3) rfl rfl)) rfl ?_; clear hA a; intro a hA
      refine S.val hA (R.assign rfl) rfl ?_; clear hA a; intro a hA
      refine S.val hA (R.assign rfl) rfl ?_; clear hA a; intro a hA
      refine S.done ?_
      replace hA : St 39 [(0, _), (6, _), (7, _), (8, _), (19, _), (20, _), (21, _)] a := hA.sub ((.cons rfl (.cons rfl (.cons rfl (.cons rfl (.cons rfl (.cons rfl (.cons rfl .nil))))))))
      refine Ends.seq ?_
      refine Ends.cut (fun (a : Act) (wv : World) => St 39 [(0, .pointer (some ⟨rb, 0, none⟩)), (6, .pointer (some ⟨b1, 0, none⟩)), (7, .int .i64 2), (19, .slice (some ⟨sb, 0, none⟩) 3 3), (20, .int .i64 3), (21, .int .i64 2), (34, .bool (decide ((((X.getD j tz).k) = 1 ∧ (X.getD j tz).x = s3))))] a ∧ Mem w (feet [pt rb #[.slice (some ⟨g, j * 4, none⟩) (X.length - j) (cap - j), .int .i64 at0] 62, own 77 4 (.slice ((some ⟨g, 0, none⟩)) X.length cap) X.length (tokv X), pt sb #[.string s1, .string s2, .string s3] 9]) [pt b1 #[.int .i64 ((X.getD j tz).k), .string ((X.getD j tz).x), .int .i64 ((X.getD j tz).n), .int .i64 ((X.getD j tz).a)] 77, pt rb #[.slice (some ⟨g, j * 4, none⟩) (X.length - j) (cap - j), .int .i64 ((X.getD j tz).a)] 62, own 77 4 (.slice ((some ⟨g, 0, none⟩)) X.length cap) X.length (tokv X), pt sb #[.string s1, .string s2, .string s3] 9] wv) ?_ (fun k2 hJ => ?_)
      ·
       clear hA hM a; rintro a w9 ⟨hA, hM⟩
       refine Ends.ite hA rfl (fun hc6 => ?_) (fun hc6 => ?_)
       ·
        refine Ends.seq (Ends.region ?_)
        refine S.val hA (R.move rfl) rfl ?_; clear hA a; intro a hA
        replace hM := hM.front (k := 2) rfl
        replace hM := hM.front (k := 2) rfl
        replace hM : Mem _ _ [pt rb #[.slice (some ⟨g, j * 4, none⟩) (X.length - j) (cap - j), .int .i64 ((X.getD j tz).a)] 62, own 77 4 (.slice ((some ⟨g, 0, none⟩)) X.length cap) X.length (tokv X), pt b1 #[.int .i64 ((X.getD j tz).k), .string ((X.getD j tz).x), .int .i64 ((X.getD j tz).n), .int .i64 ((X.getD j tz).a)] 77, pt sb #[.string s1, .string s2, .string s3] 9] _ := hM
        refine S.call hA (R.callF Tryd.func80 rfl rfl rfl) rfl (take06 g rb j cap ((X.getD j tz).a) X hX (by omega) hcap hj1 _ (hM.hereN 2)) ?_; clear hA a
        rintro e w10 ⟨rfl, hn⟩
        replace hM : Mem _ _ [pt rb #[.slice (some ⟨g, (j + 1) * 4, none⟩) (X.length - (j + 1)) (cap - (j + 1)), .int .i64 ((X.getD j tz).a)] 62, own 77 4 (.slice ((some ⟨g, 0, none⟩)) X.length cap) X.length (tokv X), pt b1 #[.int .i64 ((X.getD j tz).k), .string ((X.getD j tz).x), .int .i64 ((X.getD j tz).n), .int .i64 ((X.getD j tz).a)] 77, pt sb #[.string s1, .string s2, .string s3] 9] _ := hM.callL 2 hn; clear hn
        refine ⟨undef, rfl, fun a hA => ?_⟩
        refine S.done ?_
        refine Ends.seq (Ends.region ?_)
        refine S.val hA (R.move rfl) rfl ?_; clear hA a; intro a hA
        refine S.val hA (R.assign rfl) rfl ?_; clear hA a; intro a hA
        refine S.val hA (R.assign rfl) rfl ?_; clear hA a; intro a hA
        refine S.done ?_
        replace hA : St 39 [(0, _), (4, _), (5, _), (6, _), (19, _), (20, _), (21, _)] a := hA.sub ((.cons rfl (.cons rfl (.cons rfl (.cons rfl (.cons rfl (.cons rfl (.cons rfl .nil))))))))
        refine Ends.ret2 Tryd.func61 Tryd.results61 hA rfl rfl ?_
        replace hM := hM.front (k := 3) rfl
        replace hM := hM.front (k := 2) rfl
        replace hM := hM.front (k := 2) rfl
        replace hM : Mem _ _ [pt rb #[.slice (some ⟨g, (j + 1) * 4, none⟩) (X.length - (j + 1)) (cap - (j + 1)), .int .i64 ((X.getD j tz).a)] 62, own 77 4 (.slice ((some ⟨g, 0, none⟩)) X.length cap) X.length (tokv X), pt sb #[.string s1, .string s2, .string s3] 9, pt b1 #[.int .i64 ((X.getD j tz).k), .string ((X.getD j tz).x), .int .i64 ((X.getD j tz).n), .int .i64 ((X.getD j tz).a)] 77] _ := hM
        replace hM := hM.firstN 3
        replace hM : Mem _ _ [pt rb #[.slice (some ⟨g, (j + 1) * 4, none⟩) (X.length - (j + 1)) (cap - (j + 1)), .int .i64 ((X.getD j tz).a)] 62, own 77 4 (.slice ((some ⟨g, 0, none⟩)) X.length cap) X.length (tokv X), pt sb #[.string s1, .string s2, .string s3] 9] _ := hM
        have e1 : (wordR (X.getD j tz) [s1, s2, s3]) = (2, 0) := by
         rw [wordR_in hc3, wdI_miss hc4, wdI_miss hc5, wdI_hit hc6] <;> rfl
        have e2 : nxJ j (wordR (X.getD j tz) [s1, s2, s3]).2 = j + 1 := by rw [e1]; rfl
        rw [e1] at e2
        exact ⟨by rw [e1] <;> rfl, by rw [e1, e2]; exact hM⟩
       ·
        refine Ends.skip (Ends.inBlock (Ends.region ?_))
        refine S.val hA (R.addI rfl rfl (r := 3) rfl (by omega)) rfl ?_; clear hA a; intro a hA
        refine S.val hA (R.move rfl) rfl ?_; clear hA a; intro a hA
        refine S.done ?_
        refine Ends.inLoop ?_
        refine Ends.seq (Ends.region ?_)
        refine S.val hA (R.ff (R.lss rfl rfl) (by first | decide | simp | omega)) rfl ?_; clear hA a; intro a hA
        refine S.done ?_
        refine Ends.seq ?_
        refine Ends.condF hA rfl ?_
        refine Ends.exit rfl ?_
        replace hA : St 39 [] a := hA.sub (.nil)
        refine Ends.seq (Ends.region ?_)
        refine S.val hA (R.assign rfl) rfl ?_; clear hA a; intro a hA
        refine S.val hA (R.assign rfl) rfl ?_; clear hA a; intro a hA
        refine S.done ?_
        refine Ends.ret2 Tryd.func61 Tryd.results61 hA rfl rfl ?_
        replace hM := hM.front (k := 3) rfl
        replace hM := hM.front (k := 3) rfl
        replace hM := hM.front (k := 3) rfl
        replace hM : Mem _ _ [pt rb #[.slice (some ⟨g, j * 4, none⟩) (X.length - j) (cap - j), .int .i64 ((X.getD j tz).a)] 62, own 77 4 (.slice ((some ⟨g, 0, none⟩)) X.length cap) X.length (tokv X), pt sb #[.string s1, .string s2, .string s3] 9, pt b1 #[.int .i64 ((X.getD j tz).k), .string ((X.getD j tz).x), .int .i64 ((X.getD j tz).n), .int .i64 ((X.getD j tz).a)] 77] _ := hM
        replace hM := hM.firstN 3
        replace hM : Mem _ _ [pt rb #[.slice (some ⟨g, j * 4, none⟩) (X.length - j) (cap - j), .int .i64 ((X.getD j tz).a)] 62, own 77 4 (.slice ((some ⟨g, 0, none⟩)) X.length cap) X.length (tokv X), pt sb #[.string s1, .string s2, .string s3] 9] _ := hM
        have e1 : (wordR (X.getD j tz) [s1, s2, s3]) = (0, 3) := by
         rw [wordR_in hc3, wdI_miss hc4, wdI_miss hc5, wdI_miss hc6] <;> rfl
        have e2 : nxJ j (wordR (X.getD j tz) [s1, s2, s3]).2 = j := by rw [e1]; rfl
        rw [e1] at e2
        exact ⟨by rw [e1] <;> rfl, by rw [e1, e2]; exact hM⟩
      ·
       refine Ends.region ?_
       refine S.val hA (R.fieldAddr (q := 0) fi77_0 rfl rfl rfl) rfl ?_; clear hA a; intro a hA
       refine S.val hA (R.load sz3 rfl (hM.cell (k := 0) rfl rfl)) rfl ?_; clear hA a; intro a hA
       refine S.val hA (R.eql rfl rfl) rfl ?_; clear hA a; intro a hA
       refine S.val hA (R.move rfl) rfl ?_; clear hA a; intro a hA
       refine hA.split (d := 29) rfl ?_ ?_
       ·
        clear hA; intro hg7 hA
        refine S.valg (dj := 29) hA (by kernel_rfl) rfl (R.fieldAddr (q := 1) fi77_1 rfl rfl rfl) rfl ?_; clear hA a; intro a hA
        refine S.valg (dj := 29) hA (by kernel_rfl) rfl (R.load sz9 rfl (hM.cell (k := 0) rfl rfl)) rfl ?_; clear hA a; intro a hA
        refine S.valg (dj := 29) hA (by kernel_rfl) rfl (R.move rfl) rfl ?_; clear hA a; intro a hA
        refine S.valg (dj := 29) hA (by kernel_rfl) rfl (R.eqlStr rfl rfl) rfl ?_; clear hA a; intro a hA
        refine S.val hA (R.pickT rfl rfl) rfl ?_; clear hA a; intro a hA
        refine S.done ?_
        replace hA : St 39 [(0, _), (6, _), (7, _), (19, _), (20, _), (21, _), (34, _)] a := hA.sub ((.cons rfl (.cons rfl (.cons rfl (.cons rfl (.cons rfl (.cons rfl (.cons rfl .nil))))))))
        exact hJ _ _ ⟨hA.sub (.cons rfl (.cons rfl (.cons rfl (.cons rfl (.cons rfl (.cons rfl (.cons (by first | rfl | exact congrArg (fun b => some (Value.bool b)) (by first | exact decide_eq_decide.2 (by omega) | exact or_bool (by omega) | exact and_bool (by omega) | (simp; done) | (simp [hg7]; done) | (have h80 := hg7; (try simp at h80); simp [h80]; done) | exact (decide_eq_false (fun h9 => hg7 h9.1)).symm)) .nil))))))), hM⟩
       ·
        clear hA; intro hg7 hA
        refine S.no (dj := 29) hA (by kernel_rfl) rfl rfl rfl ?_; clear hA a; intro a hA
        refine S.no (dj := 29) hA (by kernel_rfl) rfl rfl rfl ?_; clear hA a; intro a hA
        refine S.no (dj := 29) hA (by kernel_rfl) rfl rfl rfl ?_; clear hA a; intro a hA
        refine S.no (dj := 29) hA (by kernel_rfl) rfl rfl rfl ?_; clear hA a; intro a hA
        refine S.val hA (R.pickF rfl rfl) rfl ?_; clear hA a; intro a hA
        refine S.done ?_
        replace hA : St 39 [(0, _), (6, _), (7, _), (19, _), (20, _), (21, _), (34, _)] a := hA.sub ((.cons rfl (.cons rfl (.cons rfl (.cons rfl (.cons rfl (.cons rfl (.cons rfl .nil))))))))
        exact hJ _ _ ⟨hA.sub (.cons rfl (.cons rfl (.cons rfl (.cons rfl (.cons rfl (.cons rfl (.cons (by first | rfl | exact congrArg (fun b => some (Value.bool b)) (by first | exact decide_eq_decide.2 (by omega) | exact or_bool (by omega) | exact and_bool (by omega) | (simp; done) | (simp [hg7]; done) | (have h80 := hg7; (try simp at h80); simp [h80]; done) | exact (decide_eq_false (fun h9 => hg7 h9.1)).symm)) .nil))))))), hM⟩
    ·
     refine Ends.region ?_
     refine S.val hA (R.fieldAddr (q := 0) fi77_0 rfl rfl rfl) rfl ?_; clear hA a; intro a hA
     refine S.val hA (R.load sz3 rfl (hM.cell (k := 0) rfl rfl)) rfl ?_; clear hA a; intro a hA
     refine S.val hA (R.eql rfl rfl) rfl ?_; clear hA a; intro a hA
     refine S.val hA (R.move rfl) rfl ?_; clear hA a; intro a hA
     refine hA.split (d := 29) rfl ?_ ?_
     ·
      clear hA; intro hg8 hA
      refine S.valg (dj := 29) hA (by kernel_rfl) rfl (R.fieldAddr (q := 1) fi77_1 rfl rfl rfl) rfl ?_; clear hA a; intro a hA
      refine S.valg (dj := 29) hA (by kernel_rfl) rfl (R.load sz9 rfl (hM.cell (k := 0) rfl rfl)) rfl ?_; clear hA a; intro a hA
      refine S.valg (dj := 29) hA (by kernel_rfl) rfl (R.move rfl) rfl ?_; clear hA a; intro a hA
      refine S.valg (dj := 29) hA (by kernel_rfl) rfl (R.eqlStr rfl rfl) rfl ?_; clear hA a; intro a hA
      refine S.val hA (R.pickT rfl rfl) rfl ?_; clear hA a; intro a hA
      refine S.done ?_
      replace hA : St 39 [(0, _), (6, _), (7, _), (19, _), (20, _), (21, _), (34, _)] a := hA.sub ((.cons rfl (.cons rfl (.cons rfl (.cons rfl (.cons rfl (.cons rfl (.cons rfl .nil))))))))
      exact hJ _ _ ⟨hA.sub (.cons rfl (.cons rfl (.cons rfl (.cons rfl (.cons rfl (.cons rfl (.cons (by first | rfl | exact congrArg (fun b => some (Value.bool b)) (by first | exact decide_eq_decide.2 (by omega) | exact or_bool (by omega) | exact and_bool (by omega) | (simp; done) | (simp [hg8]; done) | (have h80 := hg8; (try simp at h80); simp [h80]; done) | exact (decide_eq_false (fun h9 => hg8 h9.1)).symm)) .nil))))))), hM⟩
     ·
      clear hA; intro hg8 hA
      refine S.no (dj := 29) hA (by kernel_rfl) rfl rfl rfl ?_; clear hA a; intro a hA
      refine S.no (dj := 29) hA (by kernel_rfl) rfl rfl rfl ?_; clear hA a; intro a hA
      refine S.no (dj := 29) hA (by kernel_rfl) rfl rfl rfl ?_; clear hA a; intro a hA
      refine S.no (dj := 29) hA (by kernel_rfl) rfl rfl rfl ?_; clear hA a; intro a hA
      refine S.val hA (R.pickF rfl rfl) rfl ?_; clear hA a; intro a hA
      refine S.done ?_
      replace hA : St 39 [(0, _), (6, _), (7, _), (19, _), (20, _), (21, _), (34, _)] a := hA.sub ((.cons rfl (.cons rfl (.cons rfl (.cons rfl (.cons rfl (.cons rfl (.cons rfl .nil))))))))
      exact hJ _ _ ⟨hA.sub (.cons rfl (.cons rfl (.cons rfl (.cons rfl (.cons rfl (.cons rfl (.cons (by first | rfl | exact congrArg (fun b => some (Value.bool b)) (by first | exact decide_eq_decide.2 (by omega) | exact or_bool (by omega) | exact and_bool (by omega) | (simp; done) | (simp [hg8]; done) | (have h80 := hg8; (try simp at h80); simp [h80]; done) | exact (decide_eq_false (fun h9 => hg8 h9.1)).symm)) .nil))))))), hM⟩
  ·
   refine Ends.region ?_
   refine S.val hA (R.fieldAddr (q := 0) fi77_0 rfl rfl rfl) rfl ?_; clear hA a; intro a hA
   refine S.val hA (R.load sz3 rfl (hM.cell (k := 0) rfl rfl)) rfl ?_; clear hA a; intro a hA
   refine S.val hA (R.eql rfl rfl) rfl ?_; clear hA a; intro a hA
   refine S.val hA (R.move rfl) rfl ?_; clear hA a; intro a hA
   refine hA.split (d := 29) rfl ?_ ?_
   ·
    clear hA; intro hg9 hA
    refine S.valg (dj := 29) hA (by kernel_rfl) rfl (R.fieldAddr (q := 1) fi77_1 rfl rfl rfl) rfl ?_; clear hA a; intro a hA
    refine S.valg (dj := 29) hA (by kernel_rfl) rfl (R.load sz9 rfl (hM.cell (k := 0) rfl rfl)) rfl ?_; clear hA a; intro a hA
    refine S.valg (dj := 29) hA (by kernel_rfl) rfl (R.move rfl) rfl ?_; clear hA a; intro a hA
    refine S.valg (dj := 29) hA (by kernel_rfl) rfl (R.eqlStr rfl rfl) rfl ?_; clear hA a; intro a hA
    refine S.val hA (R.pickT rfl rfl) rfl ?_; clear hA a; intro a hA
    refine S.done ?_
    replace hA : St 39 [(0, _), (6, _), (7, _), (19, _), (20, _), (21, _), (34, _)] a := hA.sub ((.cons rfl (.cons rfl (.cons rfl (.cons rfl (.cons rfl (.cons rfl (.cons rfl .nil))))))))
    exact hJ _ _ ⟨hA.sub (.cons rfl (.cons rfl (.cons rfl (.cons rfl (.cons rfl (.cons rfl (.cons (by first | rfl | exact congrArg (fun b => some (Value.bool b)) (by first | exact decide_eq_decide.2 (by omega) | exact or_bool (by omega) | exact and_bool (by omega) | (simp; done) | (simp [hg9]; done) | (have h80 := hg9; (try simp at h80); simp [h80]; done) | exact (decide_eq_false (fun h9 => hg9 h9.1)).symm)) .nil))))))), hM⟩
   ·
    clear hA; intro hg9 hA
    refine S.no (dj := 29) hA (by kernel_rfl) rfl rfl rfl ?_; clear hA a; intro a hA
    refine S.no (dj := 29) hA (by kernel_rfl) rfl rfl rfl ?_; clear hA a; intro a hA
    refine S.no (dj := 29) hA (by kernel_rfl) rfl rfl rfl ?_; clear hA a; intro a hA
    refine S.no (dj := 29) hA (by kernel_rfl) rfl rfl rfl ?_; clear hA a; intro a hA
    refine S.val hA (R.pickF rfl rfl) rfl ?_; clear hA a; intro a hA
    refine S.done ?_
    replace hA : St 39 [(0, _), (6, _), (7, _), (19, _), (20, _), (21, _), (34, _)] a := hA.sub ((.cons rfl (.cons rfl (.cons rfl (.cons rfl (.cons rfl (.cons rfl (.cons rfl .nil))))))))
    exact hJ _ _ ⟨hA.sub (.cons rfl (.cons rfl (.cons rfl (.cons rfl (.cons rfl (.cons rfl (.cons (by first | rfl | exact congrArg (fun b => some (Value.bool b)) (by first | exact decide_eq_decide.2 (by omega) | exact or_bool (by omega) | exact and_bool (by omega) | (simp; done) | (simp [hg9]; done) | (have h80 := hg9; (try simp at h80); simp [h80]; done) | exact (decide_eq_false (fun h9 => hg9 h9.1)).symm)) .nil))))))), hM⟩
set_option maxRecDepth 100000 in
set_option maxHeartbeats 400000 in
theorem word06_2 (g rb j cap : Nat) (at0 : Int) (X : List Tok) (hX : Toks X) (hj : j < X.length) (hcap : X.length ≤ cap) (sb : Nat) (s1 s2 : ByteArray) (w : World) (hM : Mem w (feet [pt rb #[.slice (some ⟨g, j * 4, none⟩) (X.length - j) (cap - j), .int .i64 at0] 62, own 77 4 (.slice ((some ⟨g, 0, none⟩)) X.length cap) X.length (tokv X), pt sb #[.string s1, .string s2] 9]) [pt rb #[.slice (some ⟨g, j * 4, none⟩) (X.length - j) (cap - j), .int .i64 at0] 62, own 77 4 (.slice ((some ⟨g, 0, none⟩)) X.length cap) X.length (tokv X), pt sb #[.string s1, .string s2] 9] w) :
  Calls Tryd.prog 61 #[.pointer (some ⟨rb, 0, none⟩), .slice (some ⟨sb, 0, none⟩) 2 2] w fun e w' => e = .returned (.tuple #[.int .i64 (wordR (X.getD j tz) [s1, s2]).1, .int .i64 (wordR (X.getD j tz) [s1, s2]).2]) ∧ Mem w (feet [pt rb #[.slice (some ⟨g, j * 4, none⟩) (X.length - j) (cap - j), .int .i64 at0] 62, own 77 4 (.slice ((some ⟨g, 0, none⟩)) X.length cap) X.length (tokv X), pt sb #[.string s1, .string s2] 9]) [pt rb #[.slice (some ⟨g, (nxJ j (wordR (X.getD j tz) [s1, s2]).2) * 4, none⟩) (X.length - (nxJ j (wordR (X.getD j tz) [s1, s2]).2)) (cap - (nxJ j (wordR (X.getD j tz) [s1, s2]).2)), .int .i64 ((X.getD j tz).a)] 62, own 77 4 (.slice ((some ⟨g, 0, none⟩)) X.length cap) X.length (tokv X), pt sb #[.string s1, .string s2] 9] w' := by
 have hbs := Below.refl (B := w.heap.size) w
 have hlX := hX.len
 refine Calls.of_ends (vs := [.pointer (some ⟨rb, 0, none⟩), .slice (some ⟨sb, 0, none⟩) 2 2]) Tryd.func61 rfl Tryd.ntmps61 rfl ?_
 intro a hA
 replace hA : St 39 [(0, _), (1, _)] a := hA
 refine Ends.seq (Ends.region ?_)
 refine S.val hA (R.assign rfl) rfl ?_; clear hA a; intro a hA
 refine S.val hA (R.assign rfl) rfl ?_; clear hA a; intro a hA
 refine S.done ?_
 refine Ends.seq (Ends.region ?_)
 refine S.val hA (R.move rfl) rfl ?_; clear hA a; intro a hA
 refine S.call hA (R.callF Tryd.func79 rfl rfl rfl) rfl (next06 g rb j cap at0 X hX (by omega) hcap _ (hM.hereN 2)) ?_; clear hA a
 rintro e w1 ⟨rfl, hn⟩
 replace hM : Mem _ _ [pt rb #[.slice (some ⟨g, j * 4, none⟩) (X.length - j) (cap - j), .int .i64 at0] 62, own 77 4 (.slice ((some ⟨g, 0, none⟩)) X.length cap) X.length (tokv X), pt sb #[.string s1, .string s2] 9] _ := hM.callL 2 hn; clear hn
 refine ⟨.agg #[.int .i64 ((X.getD j tz).k), .string ((X.getD j tz).x), .int .i64 ((X.getD j tz).n), .int .i64 ((X.getD j tz).a)], rfl, fun a hA => ?_⟩
 refine S.alloc hA hM info77 rfl rfl ?_; clear hA hM a; intro b1 w2 hb2 hM a hA
 replace hM : Mem _ _ [pt b1 #[.int .i64 0, .string (⟨#[]⟩), .int .i64 0, .int .i64 0] 77, pt rb #[.slice (some ⟨g, j * 4, none⟩) (X.length - j) (cap - j), .int .i64 at0] 62, own 77 4 (.slice ((some ⟨g, 0, none⟩)) X.length cap) X.length (tokv X), pt sb #[.string s1, .string s2] 9] _ := hM
 refine S.storeA (k := 0) hA hM sz77 rfl rfl rfl rfl rfl rfl ?_; clear hM
 intro w3 hM
 replace hM : Mem _ _ [pt b1 #[.int .i64 ((X.getD j tz).k), .string ((X.getD j tz).x), .int .i64 ((X.getD j tz).n), .int .i64 ((X.getD j tz).a)] 77, pt rb #[.slice (some ⟨g, j * 4, none⟩) (X.length - j) (cap - j), .int .i64 at0] 62, own 77 4 (.slice ((some ⟨g, 0, none⟩)) X.length cap) X.length (tokv X), pt sb #[.string s1, .string s2] 9] _ := hM
 refine S.done ?_
 replace hA : St 39 [(0, _), (1, _), (6, _)] a := hA.sub ((.cons rfl (.cons rfl (.cons rfl .nil))))
 refine Ends.seq (Ends.region ?_)
 refine S.val hA (R.move rfl) rfl ?_; clear hA a; intro a hA
 refine S.val hA (R.fieldAddr (q := 3) fi77_3 rfl rfl rfl) rfl ?_; clear hA a; intro a hA
 refine S.val hA (R.load sz3 rfl (hM.cell (k := 0) rfl rfl)) rfl ?_; clear hA a; intro a hA
 refine S.val hA (R.nilCheck rfl) rfl ?_; clear hA a; intro a hA
 refine S.val hA (R.fieldAddr (q := 1) fi62_1 rfl rfl rfl) rfl ?_; clear hA a; intro a hA
 refine S.store (k := 1) hA hM sz3 rfl rfl rfl rfl rfl ?_; clear hM
 intro w4 hM
 replace hM : Mem _ _ [pt b1 #[.int .i64 ((X.getD j tz).k), .string ((X.getD j tz).x), .int .i64 ((X.getD j tz).n), .int .i64 ((X.getD j tz).a)] 77, pt rb #[.slice (some ⟨g, j * 4, none⟩) (X.length - j) (cap - j), .int .i64 ((X.getD j tz).a)] 62, own 77 4 (.slice ((some ⟨g, 0, none⟩)) X.length cap) X.length (tokv X), pt sb #[.string s1, .string s2] 9] _ := hM
 refine S.done ?_
 replace hA : St 39 [(0, _), (1, _), (6, _)] a := hA.sub ((.cons rfl (.cons rfl (.cons rfl .nil))))
 refine Ends.seq (Ends.seq (Ends.region ?_))
 refine S.val hA (R.fieldAddr (q := 0) fi77_0 rfl rfl rfl) rfl ?_; clear hA a; intro a hA
 refine S.val hA (R.load sz3 rfl (hM.cell (k := 0) rfl rfl)) rfl ?_; clear hA a; intro a hA
 refine S.val hA (R.eql rfl rfl) rfl ?_; clear hA a; intro a hA
 refine S.done ?_
 refine Ends.ite hA rfl (fun hc3 => ?_) (fun hc3 => ?_)
 ·
  refine Ends.seq (Ends.region ?_)
  refine S.val hA (R.assign rfl) rfl ?_; clear hA a; intro a hA
  refine S.val hA (R.assign rfl) rfl ?_; clear hA a; intro a hA
  refine S.done ?_
  refine Ends.ret2 Tryd.func61 Tryd.results61 hA rfl rfl ?_
  replace hM := hM.front (k := 3) rfl
  replace hM := hM.front (k := 3) rfl
  replace hM := hM.front (k := 3) rfl
  replace hM : Mem _ _ [pt rb #[.slice (some ⟨g, j * 4, none⟩) (X.length - j) (cap - j), .int .i64 ((X.getD j tz).a)] 62, own 77 4 (.slice ((some ⟨g, 0, none⟩)) X.length cap) X.length (tokv X), pt sb #[.string s1, .string s2] 9, pt b1 #[.int .i64 ((X.getD j tz).k), .string ((X.getD j tz).x), .int .i64 ((X.getD j tz).n), .int .i64 ((X.getD j tz).a)] 77] _ := hM
  replace hM := hM.firstN 3
  replace hM : Mem _ _ [pt rb #[.slice (some ⟨g, j * 4, none⟩) (X.length - j) (cap - j), .int .i64 ((X.getD j tz).a)] 62, own 77 4 (.slice ((some ⟨g, 0, none⟩)) X.length cap) X.length (tokv X), pt sb #[.string s1, .string s2] 9] _ := hM
  have e1 : (wordR (X.getD j tz) [s1, s2]) = (0, 6) := wordR_end hc3
  have e2 : nxJ j (wordR (X.getD j tz) [s1, s2]).2 = j := by rw [e1]; rfl
  rw [e1] at e2
  exact ⟨by rw [e1] <;> rfl, by rw [e1, e2]; exact hM⟩
 ·
  have hj1 := hX.next j hj hc3
  refine Ends.skip (Ends.seq (Ends.seq (Ends.region ?_)))
  refine S.val hA (R.move rfl) rfl ?_; clear hA a; intro a hA
  refine S.val hA (R.lenS Tryd.underlying34 rfl rfl) rfl ?_; clear hA a; intro a hA
  refine S.val hA (R.move rfl) rfl ?_; clear hA a; intro a hA
  refine S.done ?_
  replace hA : St 39 [(0, _), (6, _), (19, _), (20, _), (21, _)] a := hA.sub ((.cons rfl (.cons rfl (.cons rfl (.cons rfl (.cons rfl .nil))))))
  refine Ends.block ?_
  refine Ends.unroll ?_
  refine Ends.seq (Ends.region ?_)
  refine S.val hA (R.tt (R.lss rfl rfl) (by first | decide | simp | omega)) rfl ?_; clear hA a; intro a hA
  refine S.done ?_
  refine Ends.seq ?_
  refine Ends.condT hA rfl ?_
  refine Ends.skip (Ends.seq (Ends.block (Ends.seq (Ends.region ?_))))
  refine S.val hA (R.move rfl) rfl ?_; clear hA a; intro a hA
  refine S.val hA (R.indexAddr (q := 0) sl34 rfl rfl (by omega) (rfl)) rfl ?_; clear hA a; intro a hA
  refine S.val hA (R.load sz9 rfl (hM.cell (k := 3) rfl rfl)) rfl ?_; clear hA a; intro a hA
  refine S.val hA (R.assign rfl) rfl ?_; clear hA a; intro a hA
  refine S.val hA (R.assign rfl) rfl ?_; clear hA a; intro a hA
  refine S.done ?_
  replace hA : St 39 [(0, _), (6, _), (7, _), (8, _), (19, _), (20, _), (21, _)] a := hA.sub ((.cons rfl (.cons rfl (.cons rfl (.cons rfl (.cons rfl (.cons rfl (.cons rfl .nil))))))))
  refine Ends.seq ?_
  refine Ends.cut (fun (a : Act) (wv : World) => St 39 [(0, .pointer (some ⟨rb, 0, none⟩)), (6, .pointer (some ⟨b1, 0, none⟩)), (7, .int .i64 0), (19, .slice (some ⟨sb, 0, none⟩) 2 2), (20, .int .i64 2), (21, .int .i64 0), (34, .bool (decide ((((X.getD j tz).k) = 1 ∧ (X.getD j tz).x = s1))))] a ∧ Mem w (feet [pt rb #[.slice (some ⟨g, j * 4, none⟩) (X.length - j) (cap - j), .int .i64 at0] 62, own 77 4 (.slice ((some ⟨g, 0, none⟩)) X.length cap) X.length (tokv X), pt sb #[.string s1, .string s2] 9]) [pt b1 #[.int .i64 ((X.getD j tz).k), .string ((X.getD j tz).x), .int .i64 ((X.getD j tz).n), .int .i64 ((X.getD j tz).a)] 77, pt rb #[.slice (some ⟨g, j * 4, none⟩) (X.length - j) (cap - j), .int .i64 ((X.getD j tz).a)] 62, own 77 4 (.slice ((some ⟨g, 0, none⟩)) X.length cap) X.length (tokv X), pt sb #[.string s1, .string s2] 9] wv) ?_ (fun k2 hJ => ?_)
  ·
   clear hA hM a; rintro a w5 ⟨hA, hM⟩
   refine Ends.ite hA rfl (fun hc4 => ?_) (fun hc4 => ?_)
   ·
    refine Ends.seq (Ends.region ?_)
    refine S.val hA (R.move rfl) rfl ?_; clear hA a; intro a hA
    replace hM := hM.front (k := 2) rfl
    replace hM := hM.front (k := 2) rfl
    replace hM : Mem _ _ [pt rb #[.slice (some ⟨g, j * 4, none⟩) (X.length - j) (cap - j), .int .i64 ((X.getD j tz).a)] 62, own 77 4 (.slice ((some ⟨g, 0, none⟩)) X.length cap) X.length (tokv X), pt b1 #[.int .i64 ((X.getD j tz).k), .string ((X.getD j tz).x), .int .i64 ((X.getD j tz).n), .int .i64 ((X.getD j tz).a)] 77, pt sb #[.string s1, .string s2] 9] _ := hM
    refine S.call hA (R.callF Tryd.func80 rfl rfl rfl) rfl (take06 g rb j cap ((X.getD j tz).a) X hX (by omega) hcap hj1 _ (hM.hereN 2)) ?_; clear hA a
    rintro e w6 ⟨rfl, hn⟩
    replace hM : Mem _ _ [pt rb #[.slice (some ⟨g, (j + 1) * 4, none⟩) (X.length - (j + 1)) (cap - (j + 1)), .int .i64 ((X.getD j tz).a)] 62, own 77 4 (.slice ((some ⟨g, 0, none⟩)) X.length cap) X.length (tokv X), pt b1 #[.int .i64 ((X.getD j tz).k), .string ((X.getD j tz).x), .int .i64 ((X.getD j tz).n), .int .i64 ((X.getD j tz).a)] 77, pt sb #[.string s1, .string s2] 9] _ := hM.callL 2 hn; clear hn
    refine ⟨undef, rfl, fun a hA => ?_⟩
    refine S.done ?_
    refine Ends.seq (Ends.region ?_)
    refine S.val hA (R.move rfl) rfl ?_; clear hA a; intro a hA
    refine S.val hA (R.assign rfl) rfl ?_; clear hA a; intro a hA
    refine S.val hA (R.assign rfl) rfl ?_; clear hA a; intro a hA
    refine S.done ?_
    replace hA : St 39 [(0, _), (4, _), (5, _), (6, _), (19, _), (20, _), (21, _)] a := hA.sub ((.cons rfl (.cons rfl (.cons rfl (.cons rfl (.cons rfl (.cons rfl (.cons rfl .nil))))))))
    refine Ends.ret2 Tryd.func61 Tryd.results61 hA rfl rfl ?_
    replace hM := hM.front (k := 3) rfl
    replace hM := hM.front (k := 2) rfl
    replace hM := hM.front (k := 2) rfl
    replace hM : Mem _ _ [pt rb #[.slice (some ⟨g, (j + 1) * 4, none⟩) (X.length - (j + 1)) (cap - (j + 1)), .int .i64 ((X.getD j tz).a)] 62, own 77 4 (.slice ((some ⟨g, 0, none⟩)) X.length cap) X.length (tokv X), pt sb #[.string s1, .string s2] 9, pt b1 #[.int .i64 ((X.getD j tz).k), .string ((X.getD j tz).x), .int .i64 ((X.getD j tz).n), .int .i64 ((X.getD j tz).a)] 77] _ := hM
    replace hM := hM.firstN 3
    replace hM : Mem _ _ [pt rb #[.slice (some ⟨g, (j + 1) * 4, none⟩) (X.length - (j + 1)) (cap - (j + 1)), .int .i64 ((X.getD j tz).a)] 62, own 77 4 (.slice ((some ⟨g, 0, none⟩)) X.length cap) X.length (tokv X), pt sb #[.string s1, .string s2] 9] _ := hM
    have e1 : (wordR (X.getD j tz) [s1, s2]) = (0, 0) := by
     rw [wordR_in hc3, wdI_hit hc4] <;> rfl
    have e2 : nxJ j (wordR (X.getD j tz) [s1, s2]).2 = j + 1 := by rw [e1]; rfl
    rw [e1] at e2
    exact ⟨by rw [e1] <;> rfl, by rw [e1, e2]; exact hM⟩
   ·
    refine Ends.skip (Ends.inBlock (Ends.region ?_))
    refine S.val hA (R.addI rfl rfl (r := 1) rfl (by omega)) rfl ?_; clear hA a; intro a hA
    refine S.val hA (R.move rfl) rfl ?_; clear hA a; intro a hA
    refine S.done ?_
    refine Ends.inLoop ?_
    refine Ends.seq (Ends.region ?_)
    refine S.val hA (R.tt (R.lss rfl rfl) (by first | decide | simp | omega)) rfl ?_; clear hA a; intro a hA
    refine S.done ?_
    refine Ends.seq ?_
    refine Ends.condT hA rfl ?_
    refine Ends.skip (Ends.seq (Ends.block (Ends.seq (Ends.region ?_))))
    refine S.val hA (R.move rfl) rfl ?_; clear hA a; intro a hA
    refine S.val hA (R.indexAddr (q := 1) sl34 rfl rfl (by omega) (rfl)) rfl ?_; clear hA a; intro a hA
    refine S.val hA (R.load sz9 rfl (hM.cell (k := 3) rfl rfl)) rfl ?_; clear hA a; intro a hA
    refine S.val hA (R.assign rfl) rfl ?_; clear hA a; intro a hA
    refine S.val hA (R.assign rfl) rfl ?_; clear hA a; intro a hA
    refine S.done ?_
    replace hA : St 39 [(0, _), (6, _), (7, _), (8, _), (19, _), (20, _), (21, _)] a := hA.sub ((.cons rfl (.cons rfl (.cons rfl (.cons rfl (.cons rfl (.cons rfl (.cons rfl .nil))))))))
    refine Ends.seq ?_
    refine Ends.cut (fun (a : Act) (wv : World) => St 39 [(0, .pointer (some ⟨rb, 0, none⟩)), (6, .pointer (some ⟨b1, 0, none⟩)), (7, .int .i64 1), (19, .slice (some ⟨sb, 0, none⟩) 2 2), (20, .int .i64 2), (21, .int .i64 1), (34, .bool (decide ((((X.getD j tz).k) = 1 ∧ (X.getD j tz).x = s2))))] a ∧ Mem w (feet [pt rb #[.slice (some ⟨g, j * 4, none⟩) (X.length - j) (cap - j), .int .i64 at0] 62, own 77 4 (.slice ((some ⟨g, 0, none⟩)) X.length cap) X.length (tokv X), pt sb #[.string s1, .string s2] 9]) [pt b1 #[.int .i64 ((X.getD j tz).k), .string ((X.getD j tz).x), .int .i64 ((X.getD j tz).n), .int .i64 ((X.getD j tz).a)] 77, pt rb #[.slice (some ⟨g, j * 4, none⟩) (X.length - j) (cap - j), .int .i64 ((X.getD j tz).a)] 62, own 77 4 (.slice ((some ⟨g, 0, none⟩)) X.length cap) X.length (tokv X), pt sb #[.string s1, .string s2] 9] wv) ?_ (fun k2 hJ => ?_)
    ·
     clear hA hM a; rintro a w7 ⟨hA, hM⟩
     refine Ends.ite hA rfl (fun hc5 => ?_) (fun hc5 => ?_)
     ·
      refine Ends.seq (Ends.region ?_)
      refine S.val hA (R.move rfl) rfl ?_; clear hA a; intro a hA
      replace hM := hM.front (k := 2) rfl
      replace hM := hM.front (k := 2) rfl
      replace hM : Mem _ _ [pt rb #[.slice (some ⟨g, j * 4, none⟩) (X.length - j) (cap - j), .int .i64 ((X.getD j tz).a)] 62, own 77 4 (.slice ((some ⟨g, 0, none⟩)) X.length cap) X.length (tokv X), pt b1 #[.int .i64 ((X.getD j tz).k), .string ((X.getD j tz).x), .int .i64 ((X.getD j tz).n), .int .i64 ((X.getD j tz).a)] 77, pt sb #[.string s1, .string s2] 9] _ := hM
      refine S.call hA (R.callF Tryd.func80 rfl rfl rfl) rfl (take06 g rb j cap ((X.getD j tz).a) X hX (by omega) hcap hj1 _ (hM.hereN 2)) ?_; clear hA a
      rintro e w8 ⟨rfl, hn⟩
      replace hM : Mem _ _ [pt rb #[.slice (some ⟨g, (j + 1) * 4, none⟩) (X.length - (j + 1)) (cap - (j + 1)), .int .i64 ((X.getD j tz).a)] 62, own 77 4 (.slice ((some ⟨g, 0, none⟩)) X.length cap) X.length (tokv X), pt b1 #[.int .i64 ((X.getD j tz).k), .string ((X.getD j tz).x), .int .i64 ((X.getD j tz).n), .int .i64 ((X.getD j tz).a)] 77, pt sb #[.string s1, .string s2] 9] _ := hM.callL 2 hn; clear hn
      refine ⟨undef, rfl, fun a hA => ?_⟩
      refine S.done ?_
      refine Ends.seq (Ends.region ?_)
      refine S.val hA (R.move rfl) rfl ?_; clear hA a; intro a hA
      refine S.val hA (R.assign rfl) rfl ?_; clear hA a; intro a hA
      refine S.val hA (R.assign rfl) rfl ?_; clear hA a; intro a hA
      refine S.done ?_
      replace hA : St 39 [(0, _), (4, _), (5, _), (6, _), (19, _), (20, _), (21, _)] a := hA.sub ((.cons rfl (.cons rfl (.cons rfl (.cons rfl (.cons rfl (.cons rfl (.cons rfl .nil))))))))
      refine Ends.ret2 Tryd.func61 Tryd.results61 hA rfl rfl ?_
      replace hM := hM.front (k := 3) rfl
      replace hM := hM.front (k := 2) rfl
      replace hM := hM.front (k := 2) rfl
      replace hM : Mem _ _ [pt rb #[.slice (some ⟨g, (j + 1) * 4, none⟩) (X.length - (j + 1)) (cap - (j + 1)), .int .i64 ((X.getD j tz).a)] 62, own 77 4 (.slice ((some ⟨g, 0, none⟩)) X.length cap) X.length (tokv X), pt sb #[.string s1, .string s2] 9, pt b1 #[.int .i64 ((X.getD j tz).k), .string ((X.getD j tz).x), .int .i64 ((X.getD j tz).n), .int .i64 ((X.getD j tz).a)] 77] _ := hM
      replace hM := hM.firstN 3
      replace hM : Mem _ _ [pt rb #[.slice (some ⟨g, (j + 1) * 4, none⟩) (X.length - (j + 1)) (cap - (j + 1)), .int .i64 ((X.getD j tz).a)] 62, own 77 4 (.slice ((some ⟨g, 0, none⟩)) X.length cap) X.length (tokv X), pt sb #[.string s1, .string s2] 9] _ := hM
      have e1 : (wordR (X.getD j tz) [s1, s2]) = (1, 0) := by
       rw [wordR_in hc3, wdI_miss hc4, wdI_hit hc5] <;> rfl
      have e2 : nxJ j (wordR (X.getD j tz) [s1, s2]).2 = j + 1 := by rw [e1]; rfl
      rw [e1] at e2
      exact ⟨by rw [e1] <;> rfl, by rw [e1, e2]; exact hM⟩
     ·
      refine Ends.skip (Ends.inBlock (Ends.region ?_))
      refine S.val hA (R.addI rfl rfl (r := 2) rfl (by omega)) rfl ?_; clear hA a; intro a hA
      refine S.val hA (R.move rfl) rfl ?_; clear hA a; intro a hA
      refine S.done ?_
      refine Ends.inLoop ?_
      refine Ends.seq (Ends.region ?_)
      refine S.val hA (R.ff (R.lss rfl rfl) (by first | decide | simp | omega)) rfl ?_; clear hA a; intro a hA
      refine S.done ?_
      refine Ends.seq ?_
      refine Ends.condF hA rfl ?_
      refine Ends.exit rfl ?_
      replace hA : St 39 [] a := hA.sub (.nil)
      refine Ends.seq (Ends.region ?_)
      refine S.val hA (R.assign rfl) rfl ?_; clear hA a; intro a hA
      refine S.val hA (R.assign rfl) rfl ?_; clear hA a; intro a hA
      refine S.done ?_
      refine Ends.ret2 Tryd.func61 Tryd.results61 hA rfl rfl ?_
      replace hM := hM.front (k := 3) rfl
      replace hM := hM.front (k := 3) rfl
      replace hM := hM.front (k := 3) rfl
      replace hM : Mem _ _ [pt rb #[.slice (some ⟨g, j * 4, none⟩) (X.length - j) (cap - j), .int .i64 ((X.getD j tz).a)] 62, own 77 4 (.slice ((some ⟨g, 0, none⟩)) X.length cap) X.length (tokv X), pt sb #[.string s1, .string s2] 9, pt b1 #[.int .i64 ((X.getD j tz).k), .string ((X.getD j tz).x), .int .i64 ((X.getD j tz).n), .int .i64 ((X.getD j tz).a)] 77] _ := hM
      replace hM := hM.firstN 3
      replace hM : Mem _ _ [pt rb #[.slice (some ⟨g, j * 4, none⟩) (X.length - j) (cap - j), .int .i64 ((X.getD j tz).a)] 62, own 77 4 (.slice ((some ⟨g, 0, none⟩)) X.length cap) X.length (tokv X), pt sb #[.string s1, .string s2] 9] _ := hM
      have e1 : (wordR (X.getD j tz) [s1, s2]) = (0, 3) := by
       rw [wordR_in hc3, wdI_miss hc4, wdI_miss hc5] <;> rfl
      have e2 : nxJ j (wordR (X.getD j tz) [s1, s2]).2 = j := by rw [e1]; rfl
      rw [e1] at e2
      exact ⟨by rw [e1] <;> rfl, by rw [e1, e2]; exact hM⟩
    ·
     refine Ends.region ?_
     refine S.val hA (R.fieldAddr (q := 0) fi77_0 rfl rfl rfl) rfl ?_; clear hA a; intro a hA
     refine S.val hA (R.load sz3 rfl (hM.cell (k := 0) rfl rfl)) rfl ?_; clear hA a; intro a hA
     refine S.val hA (R.eql rfl rfl) rfl ?_; clear hA a; intro a hA
     refine S.val hA (R.move rfl) rfl ?_; clear hA a; intro a hA
     refine hA.split (d := 29) rfl ?_ ?_
     ·
      clear hA; intro hg6 hA
      refine S.valg (dj := 29) hA (by kernel_rfl) rfl (R.fieldAddr (q := 1) fi77_1 rfl rfl rfl) rfl ?_; clear hA a; intro a hA
      refine S.valg (dj := 29) hA (by kernel_rfl) rfl (R.load sz9 rfl (hM.cell (k := 0) rfl rfl)) rfl ?_; clear hA a; intro a hA
      refine S.valg (dj := 29) hA (by kernel_rfl) rfl (R.move rfl) rfl ?_; clear hA a; intro a hA
      refine S.valg (dj := 29) hA (by kernel_rfl) rfl (R.eqlStr rfl rfl) rfl ?_; clear hA a; intro a hA
      refine S.val hA (R.pickT rfl rfl) rfl ?_; clear hA a; intro a hA
      refine S.done ?_
      replace hA : St 39 [(0, _), (6, _), (7, _), (19, _), (20, _), (21, _), (34, _)] a := hA.sub ((.cons rfl (.cons rfl (.cons rfl (.cons rfl (.cons rfl (.cons rfl (.cons rfl .nil))))))))
      exact hJ _ _ ⟨hA.sub (.cons rfl (.cons rfl (.cons rfl (.cons rfl (.cons rfl (.cons rfl (.cons (by first | rfl | exact congrArg (fun b => some (Value.bool b)) (by first | exact decide_eq_decide.2 (by omega) | exact or_bool (by omega) | exact and_bool (by omega) | (simp; done) | (simp [hg6]; done) | (have h80 := hg6; (try simp at h80); simp [h80]; done) | exact (decide_eq_false (fun h9 => hg6 h9.1)).symm)) .nil))))))), hM⟩
     ·
      clear hA; intro hg6 hA
      refine S.no (dj := 29) hA (by kernel_rfl) rfl rfl rfl ?_; clear hA a; intro a hA
      refine S.no (dj := 29) hA (by kernel_rfl) rfl rfl rfl ?_; clear hA a; intro a hA
      refine S.no (dj := 29) hA (by kernel_rfl) rfl rfl rfl ?_; clear hA a; intro a hA
      refine S.no (dj := 29) hA (by kernel_rfl) rfl rfl rfl ?_; clear hA a; intro a hA
      refine S.val hA (R.pickF rfl rfl) rfl ?_; clear hA a; intro a hA
      refine S.done ?_
      replace hA : St 39 [(0, _), (6, _), (7, _), (19, _), (20, _), (21, _), (34, _)] a := hA.sub ((.cons rfl (.cons rfl (.cons rfl (.cons rfl (.cons rfl (.cons rfl (.cons rfl .nil))))))))
      exact hJ _ _ ⟨hA.sub (.cons rfl (.cons rfl (.cons rfl (.cons rfl (.cons rfl (.cons rfl (.cons (by first | rfl | exact congrArg (fun b => some (Value.bool b)) (by first | exact decide_eq_decide.2 (by omega) | exact or_bool (by omega) | exact and_bool (by omega) | (simp; done) | (simp [hg6]; done) | (have h80 := hg6; (try simp at h80); simp [h80]; done) | exact (decide_eq_false (fun h9 => hg6 h9.1)).symm)) .nil))))))), hM⟩
  ·
   refine Ends.region ?_
   refine S.val hA (R.fieldAddr (q := 0) fi77_0 rfl rfl rfl) rfl ?_; clear hA a; intro a hA
   refine S.val hA (R.load sz3 rfl (hM.cell (k := 0) rfl rfl)) rfl ?_; clear hA a; intro a hA
   refine S.val hA (R.eql rfl rfl) rfl ?_; clear hA a; intro a hA
   refine S.val hA (R.move rfl) rfl ?_; clear hA a; intro a hA
   refine hA.split (d := 29) rfl ?_ ?_
   ·
    clear hA; intro hg7 hA
    refine S.valg (dj := 29) hA (by kernel_rfl) rfl (R.fieldAddr (q := 1) fi77_1 rfl rfl rfl) rfl ?_; clear hA a; intro a hA
    refine S.valg (dj := 29) hA (by kernel_rfl) rfl (R.load sz9 rfl (hM.cell (k := 0) rfl rfl)) rfl ?_; clear hA a; intro a hA
    refine S.valg (dj := 29) hA (by kernel_rfl) rfl (R.move rfl) rfl ?_; clear hA a; intro a hA
    refine S.valg (dj := 29) hA (by kernel_rfl) rfl (R.eqlStr rfl rfl) rfl ?_; clear hA a; intro a hA
    refine S.val hA (R.pickT rfl rfl) rfl ?_; clear hA a; intro a hA
    refine S.done ?_
    replace hA : St 39 [(0, _), (6, _), (7, _), (19, _), (20, _), (21, _), (34, _)] a := hA.sub ((.cons rfl (.cons rfl (.cons rfl (.cons rfl (.cons rfl (.cons rfl (.cons rfl .nil))))))))
    exact hJ _ _ ⟨hA.sub (.cons rfl (.cons rfl (.cons rfl (.cons rfl (.cons rfl (.cons rfl (.cons (by first | rfl | exact congrArg (fun b => some (Value.bool b)) (by first | exact decide_eq_decide.2 (by omega) | exact or_bool (by omega) | exact and_bool (by omega) | (simp; done) | (simp [hg7]; done) | (have h80 := hg7; (try simp at h80); simp [h80]; done) | exact (decide_eq_false (fun h9 => hg7 h9.1)).symm)) .nil))))))), hM⟩
   ·
    clear hA; intro hg7 hA
    refine S.no (dj := 29) hA (by kernel_rfl) rfl rfl rfl ?_; clear hA a; intro a hA
    refine S.no (dj := 29) hA (by kernel_rfl) rfl rfl rfl ?_; clear hA a; intro a hA
    refine S.no (dj := 29) hA (by kernel_rfl) rfl rfl rfl ?_; clear hA a; intro a hA
    refine S.no (dj := 29) hA (by kernel_rfl) rfl rfl rfl ?_; clear hA a; intro a hA
    refine S.val hA (R.pickF rfl rfl) rfl ?_; clear hA a; intro a hA
    refine S.done ?_
    replace hA : St 39 [(0, _), (6, _), (7, _), (19, _), (20, _), (21, _), (34, _)] a := hA.sub ((.cons rfl (.cons rfl (.cons rfl (.cons rfl (.cons rfl (.cons rfl (.cons rfl .nil))))))))
    exact hJ _ _ ⟨hA.sub (.cons rfl (.cons rfl (.cons rfl (.cons rfl (.cons rfl (.cons rfl (.cons (by first | rfl | exact congrArg (fun b => some (Value.bool b)) (by first | exact decide_eq_decide.2 (by omega) | exact or_bool (by omega) | exact and_bool (by omega) | (simp; done) | (simp [hg7]; done) | (have h80 := hg7; (try simp at h80); simp [h80]; done) | exact (decide_eq_false (fun h9 => hg7 h9.1)).symm)) .nil))))))), hM⟩
end Go.Proofs.YtakfcekfmdjklaaDoor
