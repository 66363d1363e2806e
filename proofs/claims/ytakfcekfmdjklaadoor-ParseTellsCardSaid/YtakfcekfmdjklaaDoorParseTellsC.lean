/-
  ParseTells, part 3 of 6: what the code computes, and plain laws; no condition beside those that each theorem tells.
-/
import Derived.Test.YtakfcekfmdjklaaDoorParseTellsB
import Derived.Laws.StructEq
namespace Go.Proofs.YtakfcekfmdjklaaDoor
open Go.RowKit
set_option maxRecDepth 100000 in
set_option maxHeartbeats 400000 in
theorem scan_any (s : ByteArray) (hsz : s.size ≤ 9223372036854775807) (w : World) (htab : U8T w) :
  Calls Tryd.prog 33 #[.string s] w fun e w' => ∃ a cap, e = .returned (.tuple #[.slice a (scan s).1.length cap, .int .i64 (scan s).2.1, .int .i64 (scan s).2.2]) ∧ Mem w nof [own 77 4 (.slice a (scan s).1.length cap) (scan s).1.length (tokv (scan s).1)] w' := by
 have hM := Mem.start w
 refine Calls.of_ends (vs := [.string s]) Tryd.func33 rfl Tryd.ntmps33 rfl ?_
 intro a hA
 replace hA : St 38 [(0, _)] a := hA
 refine Ends.seq (Ends.region ?_)
 refine S.val hA (R.assign rfl) rfl ?_; clear hA a; intro a hA
 refine S.val hA (R.assign rfl) rfl ?_; clear hA a; intro a hA
 refine S.val hA (R.assign rfl) rfl ?_; clear hA a; intro a hA
 refine S.done ?_
 refine Ends.seq (Ends.seq (Ends.region ?_))
 refine S.val hA (R.move rfl) rfl ?_; clear hA a; intro a hA
 refine S.val hA (R.lenStr Tryd.underlying9 rfl rfl) rfl ?_; clear hA a; intro a hA
 refine S.val hA (R.gtr rfl rfl) rfl ?_; clear hA a; intro a hA
 refine S.done ?_
 replace hA : St 38 [(0, _), (9, _)] a := hA.sub ((.cons rfl (.cons rfl .nil)))
 refine Ends.ite hA rfl (fun hc1 => ?_) (fun hc1 => ?_)
 ·
  refine Ends.seq (Ends.region ?_)
  refine S.val hA (R.assign rfl) rfl ?_; clear hA a; intro a hA
  refine S.val hA (R.assign rfl) rfl ?_; clear hA a; intro a hA
  refine S.val hA (R.assign rfl) rfl ?_; clear hA a; intro a hA
  refine S.done ?_
  refine Ends.ret3 Tryd.func33 Tryd.results33 hA rfl rfl rfl ?_
  have e0 : scan s = ([], 0, 5) := by unfold scan; rw [if_pos (by omega)]
  rw [e0]
  exact ⟨none, 0, rfl, hM.nilL.ownNil 77 4⟩
 ·
  refine Ends.skip (Ends.seq (Ends.region ?_))
  refine S.val hA (R.move rfl) rfl ?_; clear hA a; intro a hA
  refine S.val hA (R.build (cells := #[.string s, .int .i64 0, .slice none 0 0]) rfl (by kernel_rfl)) rfl ?_; clear hA a; intro a hA
  refine S.box hA hM rfl rfl ?_; clear hA hM a; intro b2 w1 hb3 hM a hA
  replace hM : Mem _ _ [pt b2 #[.string s, .int .i64 0, .slice none 0 0] 75] _ := hM
  refine S.val hA (R.assign rfl) rfl ?_; clear hA a; intro a hA
  refine S.done ?_
  replace hA : St 38 [(0, _), (5, _)] a := hA.sub ((.cons rfl (.cons rfl .nil)))
  refine Ends.seq (Ends.block ?_)
  replace hM := hM.ownNil 77 4
  replace hM := hM.front (k := 1) rfl
  replace hM : Mem _ _ [pt b2 #[.string s, .int .i64 (((0 : Nat) : Int)), .slice none ((([] : List Tok)).length) 0] 75, own 77 4 (.slice none ((([] : List Tok)).length) 0) ((([] : List Tok)).length) (tokv (([] : List Tok)))] _ := hM
  have hbig : ¬ 65536 < s.size := by omega
  refine Ends.loop (σ := Nat × Nat × List Tok × Option Addr × Nat) (fun (p, f, X, v, cap) (a : Act) (wv : World) => St 38 [(0, .string s), (5, .pointer (some ⟨b2, 0, none⟩))] a ∧ Mem w nof [pt b2 #[.string s, .int .i64 ((p : Int)), .slice v X.length cap] 75, own 77 4 (.slice v X.length cap) X.length (tokv X)] wv ∧ (s.size ≤ p + f) ∧ (scF s f p X = scan s) ∧ (X.length ≤ p) ∧ (p ≤ s.size)) (fun (p, f, X, v, cap) => f) ((0, s.size, [], none, 0)) ⟨hA.sub ((.cons rfl (.cons rfl .nil))), hM, (by omega), (by unfold scan; rw [if_neg hbig]), (Nat.le_refl _), (Nat.zero_le _)⟩ ?_
  clear hA hM a
  rintro ⟨p, f, X, v, cap⟩ a w2 ⟨hA, hM, hf, hsc, hX, hps⟩ hNext
  refine Ends.seq (Ends.seq (Ends.region ?_))
  refine S.val hA (R.move rfl) rfl ?_; clear hA a; intro a hA
  refine S.val hA (R.nilCheck rfl) rfl ?_; clear hA a; intro a hA
  refine S.val hA (R.fieldAddr (q := 1) fi75_1 rfl rfl rfl) rfl ?_; clear hA a; intro a hA
  refine S.val hA (R.load sz3 rfl (hM.cell (k := 0) rfl rfl)) rfl ?_; clear hA a; intro a hA
  refine S.val hA (R.move rfl) rfl ?_; clear hA a; intro a hA
  refine S.val hA (R.lenStr Tryd.underlying9 rfl rfl) rfl ?_; clear hA a; intro a hA
  refine S.val hA (R.lss rfl rfl) rfl ?_; clear hA a; intro a hA
  refine S.done ?_
  replace hA : St 38 [(0, _), (5, _), (19, _)] a := hA.sub ((.cons rfl (.cons rfl (.cons rfl .nil))))
  refine Ends.ite hA rfl (fun hc4 => ?_) (fun hc4 => ?_)
  ·
   have hp : p < s.size := by omega
   refine Ends.skip (Ends.block (Ends.seq (Ends.region ?_)))
   refine S.val hA (R.move rfl) rfl ?_; clear hA a; intro a hA
   refine S.call hA (R.callF Tryd.func52 rfl rfl rfl) rfl (lone_any s p b2 v cap X hp (by omega) (by omega) _ (hM.hereN 2) (htab.mem hM OffT.nof) (OffT.feetN htab hM OffT.nof 2)) ?_; clear hA a
   rintro e w3 ⟨v5, c6, rfl, hn⟩
   replace hM : Mem _ _ [pt b2 #[.string s, .int .i64 (((lst s p).2.1 : Int)), .slice v5 (((X ++ (lst s p).2.2)).length) c6] 75, own 77 4 (.slice v5 (((X ++ (lst s p).2.2)).length) c6) (((X ++ (lst s p).2.2)).length) (tokv ((X ++ (lst s p).2.2)))] _ := hM.callL 2 hn; clear hn
   refine ⟨.int .i64 ((lst s p).1), rfl, fun a hA => ?_⟩
   refine S.val hA (R.assign rfl) rfl ?_; clear hA a; intro a hA
   refine S.done ?_
   refine Ends.seq (Ends.region ?_)
   refine S.val hA (R.move rfl) rfl ?_; clear hA a; intro a hA
   refine S.val hA (R.neq rfl rfl) rfl ?_; clear hA a; intro a hA
   refine S.done ?_
   replace hA : St 38 [(0, _), (5, _), (6, _), (23, _)] a := hA.sub ((.cons rfl (.cons rfl (.cons rfl (.cons rfl .nil)))))
   refine Ends.ite hA rfl (fun hc7 => ?_) (fun hc7 => ?_)
   ·
    refine Ends.seq ?_
    refine Ends.drawn (Mem w nof [pt b2 #[.string s, .int .i64 (((lst s p).2.1 : Int)), .slice v5 (((X ++ (lst s p).2.2)).length) c6] 75, own 77 4 (.slice v5 (((X ++ (lst s p).2.2)).length) c6) (((X ++ (lst s p).2.2)).length) (tokv ((X ++ (lst s p).2.2)))]) (.cons (0, true) (.cons (1, true) (.cons (2, true) (.cons (3, true) (.cons (4, true) (.cons (5, true) (.cons (6, true) (.cons (7, true) .nil)))))))) 8 mixed (by kernel_rfl) (by kernel_rfl) (by kernel_rfl) hM.drew ?_
    replace hM := hM.drew
    refine D.valF hA rfl (fun _ => R.move rfl) rfl ?_; clear hA a; intro a hA
    refine D.valF hA rfl (fun _ => R.nilCheck rfl) rfl ?_; clear hA a; intro a hA
    refine D.valF hA rfl (fun _ => R.fieldAddr (q := 1) fi75_1 rfl rfl rfl) rfl ?_; clear hA a; intro a hA
    refine D.val hA rfl (by kernel_rfl) (fun _ hM => R.load sz3 rfl (hM.cell (k := 0) rfl rfl)) rfl ?_; clear hA a; intro a hA
    refine D.valF hA rfl (fun _ => R.move rfl) rfl ?_; clear hA a; intro a hA
    refine D.valF hA rfl (fun _ => R.assign rfl) rfl ?_; clear hA a; intro a hA
    refine D.valF hA rfl (fun _ => R.assign rfl) rfl ?_; clear hA a; intro a hA
    refine D.valF hA rfl (fun _ => R.assign rfl) rfl ?_; clear hA a; intro a hA
    refine D.done ?_
    replace hA : St 38 [(0, _), (2, _), (3, _), (4, _), (5, _)] a := hA.sub ((.cons rfl (.cons rfl (.cons rfl (.cons rfl (.cons rfl .nil))))))
    refine Ends.ret3 Tryd.func33 Tryd.results33 hA rfl rfl rfl ?_
    have he := scF_err (X := X) (f := f) hp (by omega) hc7
    have e0 : scan s = ([], ((lst s p).2.1 : Int), (lst s p).1) := hsc.symm.trans he
    rw [e0]
    exact ⟨none, 0, rfl, hM.nilL.ownNil 77 4⟩
   ·
    refine Ends.skip (Ends.inBlock ?_)
    have he := Classical.byContradiction hc7
    have hgo := scF_go (X := X) (f := f) hp (by omega) he
    have hbd := lst_bd hp
    have hlt := hbd.2.2.1 he
    have hln := hbd.2.2.2
    exact hNext (((lst s p).2.1, f - 1, X ++ (lst s p).2.2, v5, c6)) _ _ ((by show f - 1 < f; omega)) ⟨hA.sub ((.cons rfl (.cons rfl .nil))), hM, (by omega), (hgo.symm.trans hsc), (by rw [List.length_append]; omega), (by omega)⟩
  ·
   refine Ends.exit rfl ?_
   refine Ends.seq (Ends.region ?_)
   refine S.val hA (R.move rfl) rfl ?_; clear hA a; intro a hA
   refine S.val hA (R.nilCheck rfl) rfl ?_; clear hA a; intro a hA
   refine S.val hA (R.fieldAddr (q := 2) fi75_2 rfl rfl rfl) rfl ?_; clear hA a; intro a hA
   refine S.val hA (R.load sz48 rfl (hM.cell (k := 0) rfl rfl)) rfl ?_; clear hA a; intro a hA
   refine S.val hA (R.move rfl) rfl ?_; clear hA a; intro a hA
   refine S.val hA (R.lenStr Tryd.underlying9 rfl rfl) rfl ?_; clear hA a; intro a hA
   refine S.val hA (R.build (cells := #[.int .i64 3, .string (⟨#[]⟩), .int .i64 0, .int .i64 ((s.size : Int))]) rfl (by kernel_rfl)) rfl ?_; clear hA a; intro a hA
   refine S.buildSl (cells := #[.int .i64 3, .string (⟨#[]⟩), .int .i64 0, .int .i64 ((s.size : Int))]) hA hM Tryd.underlying48 info77 rfl rfl rfl rfl (by kernel_rfl) rfl ?_; clear hA hM a; intro b8 w4 hb9 hM a hA
   replace hM : Mem _ _ [pt b8 #[.int .i64 3, .string (⟨#[]⟩), .int .i64 0, .int .i64 ((s.size : Int))] 77, pt b2 #[.string s, .int .i64 ((p : Int)), .slice v X.length cap] 75, own 77 4 (.slice v X.length cap) X.length (tokv X)] _ := hM
   refine S.append (k := 2) (k2 := 0) hA hM rfl rfl Tryd.underlying48 info77 rfl rfl rfl rfl rfl rfl rfl rfl rfl (by first | omega | (show (_ + 1) * 40 ≤ 140737488355328; omega) | (unfold maxLen; omega)) (by first | omega | (show (_ + 1) * 40 ≤ 140737488355328; omega) | (unfold maxLen; omega)) rfl ?_; clear hA hM a; intro a10 c11 w5 hM a hA
   replace hM : Mem _ _ [pt b8 #[.int .i64 3, .string (⟨#[]⟩), .int .i64 0, .int .i64 ((s.size : Int))] 77, pt b2 #[.string s, .int .i64 ((p : Int)), .slice v X.length cap] 75, own 77 4 (.slice a10 (X.length + 1) c11) (X.length + 1) (tokv X ++ [.int .i64 3, .string (⟨#[]⟩), .int .i64 0, .int .i64 ((s.size : Int))])] _ := hM
   have hl12 : X.length + 1 = (X ++ [(⟨3, ⟨#[]⟩, 0, (s.size : Int)⟩ : Tok)]).length := by simp
   rw [hl12, show tokv X ++ [.int .i64 3, .string (⟨#[]⟩), .int .i64 0, .int .i64 ((s.size : Int))] = tokv (X ++ [(⟨3, ⟨#[]⟩, 0, (s.size : Int)⟩ : Tok)]) from tokv_app X (⟨3, ⟨#[]⟩, 0, (s.size : Int)⟩ : Tok)] at hM; rw [hl12] at hA
   clear hl12
   replace hM := hM.drop 0
   replace hM : Mem _ _ [pt b2 #[.string s, .int .i64 ((p : Int)), .slice v X.length cap] 75, own 77 4 (.slice a10 (((X ++ [(⟨3, ⟨#[]⟩, 0, (s.size : Int)⟩ : Tok)])).length) c11) (((X ++ [(⟨3, ⟨#[]⟩, 0, (s.size : Int)⟩ : Tok)])).length) (tokv ((X ++ [(⟨3, ⟨#[]⟩, 0, (s.size : Int)⟩ : Tok)])))] _ := hM
   refine S.val hA (R.assign rfl) rfl ?_; clear hA a; intro a hA
   refine S.val hA (R.assign rfl) rfl ?_; clear hA a; intro a hA
   refine S.val hA (R.assign rfl) rfl ?_; clear hA a; intro a hA
   refine S.done ?_
   replace hA : St 38 [(2, _), (3, _), (4, _)] a := hA.sub ((.cons rfl (.cons rfl (.cons rfl .nil))))
   refine Ends.ret3 Tryd.func33 Tryd.results33 hA rfl rfl rfl ?_
   replace hM := hM.front (k := 1) rfl
   replace hM : Mem _ _ [own 77 4 (.slice a10 (((X ++ [(⟨3, ⟨#[]⟩, 0, (s.size : Int)⟩ : Tok)])).length) c11) (((X ++ [(⟨3, ⟨#[]⟩, 0, (s.size : Int)⟩ : Tok)])).length) (tokv ((X ++ [(⟨3, ⟨#[]⟩, 0, (s.size : Int)⟩ : Tok)]))), pt b2 #[.string s, .int .i64 ((p : Int)), .slice v X.length cap] 75] _ := hM
   replace hM := hM.firstN 1
   replace hM : Mem _ _ [own 77 4 (.slice a10 (((X ++ [(⟨3, ⟨#[]⟩, 0, (s.size : Int)⟩ : Tok)])).length) c11) (((X ++ [(⟨3, ⟨#[]⟩, 0, (s.size : Int)⟩ : Tok)])).length) (tokv ((X ++ [(⟨3, ⟨#[]⟩, 0, (s.size : Int)⟩ : Tok)])))] _ := hM
   have e0 : scan s = (X ++ [tend s], 0, 0) := hsc.symm.trans (scF_end (by omega) _ _)
   rw [e0]
   exact ⟨a10, c11, rfl, hM⟩
set_option maxRecDepth 100000 in
set_option maxHeartbeats 400000 in
theorem rkind_any (c : Int) (w : World) :
  Calls Tryd.prog 67 #[.int .u8 c] w fun e w' => e = .returned (.int .i64 (kindI c)) ∧ Below w.heap.size w w' := by
 have hM := Mem.start w
 refine Calls.of_ends (vs := [.int .u8 c]) Tryd.func67 rfl Tryd.ntmps67 rfl ?_
 intro a hA
 replace hA : St 43 [(0, _)] a := hA
 refine Ends.seq (Ends.region ?_)
 refine S.val hA (R.assign rfl) rfl ?_; clear hA a; intro a hA
 refine S.done ?_
 refine Ends.seq (Ends.block (Ends.seq ?_))
 refine Ends.cut (fun (a : Act) (wv : World) => St 43 [(0, .int .u8 c), (3, .bool (decide ((((c = 32 ∨ c = 9) ∨ c = 10) ∨ c = 13))))] a ∧ Mem w nof [] wv) ?_ (fun k2 hJ => ?_)
 ·
  clear hA hM a; rintro a w1 ⟨hA, hM⟩
  refine Ends.ite hA rfl (fun hc1 => ?_) (fun hc1 => ?_)
  ·
   rw [decide_eq_true hc1] at hA
   refine Ends.seq (Ends.region ?_)
   refine S.val hA (R.assign rfl) rfl ?_; clear hA a; intro a hA
   refine S.done ?_
   refine Ends.ret1 Tryd.func67 Tryd.results67 hA rfl ?_
   have e0 : (1 : Int) = kindI c := by
    unfold kindI
    repeat' split
    all_goals first | rfl | omega
   exact ⟨congrArg (fun z => Ending.returned (Value.int .i64 z)) e0, hM.nilL.below⟩
  ·
   rw [decide_eq_false hc1] at hA
   refine Ends.seq ?_
   refine Ends.cut (fun (a : Act) (wv : World) => St 43 [(0, .int .u8 c), (18, .bool (decide ((48 ≤ c ∧ c ≤ 57))))] a ∧ Mem w nof [] wv) ?_ (fun k2 hJ => ?_)
   ·
    clear hA hM a; rintro a w2 ⟨hA, hM⟩
    refine Ends.ite hA rfl (fun hc2 => ?_) (fun hc2 => ?_)
    ·
     rw [decide_eq_true hc2] at hA
     refine Ends.seq (Ends.region ?_)
     refine S.val hA (R.assign rfl) rfl ?_; clear hA a; intro a hA
     refine S.done ?_
     refine Ends.ret1 Tryd.func67 Tryd.results67 hA rfl ?_
     have e0 : (2 : Int) = kindI c := by
      unfold kindI
      repeat' split
      all_goals first | rfl | omega
     exact ⟨congrArg (fun z => Ending.returned (Value.int .i64 z)) e0, hM.nilL.below⟩
    ·
     rw [decide_eq_false hc2] at hA
     refine Ends.seq ?_
     refine Ends.cut (fun (a : Act) (wv : World) => St 43 [(0, .int .u8 c), (25, .bool (decide (((65 ≤ c ∧ c ≤ 90) ∨ (97 ≤ c ∧ c ≤ 122)))))] a ∧ Mem w nof [] wv) ?_ (fun k2 hJ => ?_)
     ·
      clear hA hM a; rintro a w3 ⟨hA, hM⟩
      refine Ends.ite hA rfl (fun hc3 => ?_) (fun hc3 => ?_)
      ·
       rw [decide_eq_true hc3] at hA
       refine Ends.seq (Ends.region ?_)
       refine S.val hA (R.assign rfl) rfl ?_; clear hA a; intro a hA
       refine S.done ?_
       refine Ends.ret1 Tryd.func67 Tryd.results67 hA rfl ?_
       have e0 : (3 : Int) = kindI c := by
        unfold kindI
        repeat' split
        all_goals first | rfl | omega
       exact ⟨congrArg (fun z => Ending.returned (Value.int .i64 z)) e0, hM.nilL.below⟩
      ·
       rw [decide_eq_false hc3] at hA
       refine Ends.seq (Ends.region ?_)
       refine S.val hA (R.move rfl) rfl ?_; clear hA a; intro a hA
       refine S.val hA (R.eql rfl rfl) rfl ?_; clear hA a; intro a hA
       refine S.val hA (R.assign rfl) rfl ?_; clear hA a; intro a hA
       refine S.done ?_
       replace hA : St 43 [(40, _)] a := hA.sub ((.cons rfl .nil))
       refine Ends.ite hA rfl (fun hc4 => ?_) (fun hc4 => ?_)
       ·
        rw [decide_eq_true hc4] at hA
        refine Ends.seq (Ends.region ?_)
        refine S.val hA (R.assign rfl) rfl ?_; clear hA a; intro a hA
        refine S.done ?_
        refine Ends.ret1 Tryd.func67 Tryd.results67 hA rfl ?_
        have e0 : (4 : Int) = kindI c := by
         unfold kindI
         repeat' split
         all_goals first | rfl | omega
        exact ⟨congrArg (fun z => Ending.returned (Value.int .i64 z)) e0, hM.nilL.below⟩
       ·
        rw [decide_eq_false hc4] at hA
        refine Ends.skip (Ends.inBlock (Ends.seq (Ends.region ?_)))
        refine S.val hA (R.assign rfl) rfl ?_; clear hA a; intro a hA
        refine S.done ?_
        refine Ends.ret1 Tryd.func67 Tryd.results67 hA rfl ?_
        have e0 : (0 : Int) = kindI c := by
         unfold kindI
         repeat' split
         all_goals first | rfl | omega
        exact ⟨congrArg (fun z => Ending.returned (Value.int .i64 z)) e0, hM.nilL.below⟩
     ·
      refine Ends.region ?_
      refine S.val hA (R.move rfl) rfl ?_; clear hA a; intro a hA
      refine S.val hA (R.geq rfl rfl) rfl ?_; clear hA a; intro a hA
      refine S.val hA (R.move rfl) rfl ?_; clear hA a; intro a hA
      refine hA.split (d := 28) rfl ?_ ?_
      ·
       clear hA; intro hg5 hA
       refine S.valg (dj := 28) hA (by kernel_rfl) rfl (R.move rfl) rfl ?_; clear hA a; intro a hA
       refine S.valg (dj := 28) hA (by kernel_rfl) rfl (R.leq rfl rfl) rfl ?_; clear hA a; intro a hA
       refine S.val hA (R.pickT rfl rfl) rfl ?_; clear hA a; intro a hA
       refine S.val hA (R.move rfl) rfl ?_; clear hA a; intro a hA
       refine hA.split (d := 32) rfl ?_ ?_
       ·
        clear hA; intro hg6 hA
        refine S.no (dj := 32) hA (by kernel_rfl) rfl rfl rfl ?_; clear hA a; intro a hA
        refine S.no (dj := 32) hA (by kernel_rfl) rfl rfl rfl ?_; clear hA a; intro a hA
        refine S.no (dj := 32) hA (by kernel_rfl) rfl rfl rfl ?_; clear hA a; intro a hA
        refine S.noU (dj := 35) hA (by kernel_rfl) rfl rfl ?_; clear hA a; intro a hA
        refine S.noU (dj := 35) hA (by kernel_rfl) rfl rfl ?_; clear hA a; intro a hA
        refine S.no (dj := 32) hA (by kernel_rfl) rfl rfl rfl ?_; clear hA a; intro a hA
        refine S.val hA (R.pickT rfl rfl) rfl ?_; clear hA a; intro a hA
        refine S.val hA (R.assign rfl) rfl ?_; clear hA a; intro a hA
        refine S.done ?_
        replace hA : St 43 [(0, _), (25, _)] a := hA.sub ((.cons rfl (.cons rfl .nil)))
        exact hJ _ _ ⟨hA.sub (.cons rfl (.cons (by first | rfl | exact congrArg (fun b => some (Value.bool b)) (by first | exact decide_eq_decide.2 (by omega) | exact or_bool (by omega) | exact and_bool (by omega) | (simp; done) | (simp [hg5, hg6]; done) | (have h80 := hg5; (try simp at h80); have h81 := hg6; (try simp at h81); simp [h80, h81]; done) | exact (decide_eq_false (fun h9 => hg5 h9.1)).symm | exact (decide_eq_false (fun h9 => hg6 h9.1)).symm)) .nil)), hM⟩
       ·
        clear hA; intro hg6 hA
        refine S.valg (dj := 32) hA (by kernel_rfl) rfl (R.move rfl) rfl ?_; clear hA a; intro a hA
        refine S.valg (dj := 32) hA (by kernel_rfl) rfl (R.geq rfl rfl) rfl ?_; clear hA a; intro a hA
        refine S.valg (dj := 32) hA (by kernel_rfl) rfl (R.move rfl) rfl ?_; clear hA a; intro a hA
        refine hA.split (d := 35) rfl ?_ ?_
        ·
         clear hA; intro hg7 hA
         refine S.valg (dj := 35) hA (by kernel_rfl) rfl (R.move rfl) rfl ?_; clear hA a; intro a hA
         refine S.valg (dj := 35) hA (by kernel_rfl) rfl (R.leq rfl rfl) rfl ?_; clear hA a; intro a hA
         refine S.valg (dj := 32) hA (by kernel_rfl) rfl (R.pickT rfl rfl) rfl ?_; clear hA a; intro a hA
         refine S.val hA (R.pickF rfl rfl) rfl ?_; clear hA a; intro a hA
         refine S.val hA (R.assign rfl) rfl ?_; clear hA a; intro a hA
         refine S.done ?_
         replace hA : St 43 [(0, _), (25, _)] a := hA.sub ((.cons rfl (.cons rfl .nil)))
         exact hJ _ _ ⟨hA.sub (.cons rfl (.cons (by first | rfl | exact congrArg (fun b => some (Value.bool b)) (by first | exact decide_eq_decide.2 (by omega) | exact or_bool (by omega) | exact and_bool (by omega) | (simp; done) | (simp [hg5, hg6, hg7]; done) | (have h80 := hg5; (try simp at h80); have h81 := hg6; (try simp at h81); have h82 := hg7; (try simp at h82); simp [h80, h81, h82]; done) | exact (decide_eq_false (fun h9 => hg5 h9.1)).symm | exact (decide_eq_false (fun h9 => hg6 h9.1)).symm | exact (decide_eq_false (fun h9 => hg7 h9.1)).symm)) .nil)), hM⟩
        ·
         clear hA; intro hg7 hA
         refine S.no (dj := 35) hA (by kernel_rfl) rfl rfl rfl ?_; clear hA a; intro a hA
         refine S.no (dj := 35) hA (by kernel_rfl) rfl rfl rfl ?_; clear hA a; intro a hA
         refine S.valg (dj := 32) hA (by kernel_rfl) rfl (R.pickF rfl rfl) rfl ?_; clear hA a; intro a hA
         refine S.val hA (R.pickF rfl rfl) rfl ?_; clear hA a; intro a hA
         refine S.val hA (R.assign rfl) rfl ?_; clear hA a; intro a hA
         refine S.done ?_
         replace hA : St 43 [(0, _), (25, _)] a := hA.sub ((.cons rfl (.cons rfl .nil)))
         exact hJ _ _ ⟨hA.sub (.cons rfl (.cons (by first | rfl | exact congrArg (fun b => some (Value.bool b)) (by first | exact decide_eq_decide.2 (by omega) | exact or_bool (by omega) | exact and_bool (by omega) | (simp; done) | (simp [hg5, hg6, hg7]; done) | (have h80 := hg5; (try simp at h80); have h81 := hg6; (try simp at h81); have h82 := hg7; (try simp at h82); simp [h80, h81, h82]; done) | exact (decide_eq_false (fun h9 => hg5 h9.1)).symm | exact (decide_eq_false (fun h9 => hg6 h9.1)).symm | exact (decide_eq_false (fun h9 => hg7 h9.1)).symm)) .nil)), hM⟩
      ·
       clear hA; intro hg5 hA
       refine S.no (dj := 28) hA (by kernel_rfl) rfl rfl rfl ?_; clear hA a; intro a hA
       refine S.no (dj := 28) hA (by kernel_rfl) rfl rfl rfl ?_; clear hA a; intro a hA
       refine S.val hA (R.pickF rfl rfl) rfl ?_; clear hA a; intro a hA
       refine S.val hA (R.move rfl) rfl ?_; clear hA a; intro a hA
       refine S.valg (dj := 32) hA (by kernel_rfl) rfl (R.move rfl) rfl ?_; clear hA a; intro a hA
       refine S.valg (dj := 32) hA (by kernel_rfl) rfl (R.geq rfl rfl) rfl ?_; clear hA a; intro a hA
       refine S.valg (dj := 32) hA (by kernel_rfl) rfl (R.move rfl) rfl ?_; clear hA a; intro a hA
       refine hA.split (d := 35) rfl ?_ ?_
       ·
        clear hA; intro hg8 hA
        refine S.valg (dj := 35) hA (by kernel_rfl) rfl (R.move rfl) rfl ?_; clear hA a; intro a hA
        refine S.valg (dj := 35) hA (by kernel_rfl) rfl (R.leq rfl rfl) rfl ?_; clear hA a; intro a hA
        refine S.valg (dj := 32) hA (by kernel_rfl) rfl (R.pickT rfl rfl) rfl ?_; clear hA a; intro a hA
        refine S.val hA (R.pickF rfl rfl) rfl ?_; clear hA a; intro a hA
        refine S.val hA (R.assign rfl) rfl ?_; clear hA a; intro a hA
        refine S.done ?_
        replace hA : St 43 [(0, _), (25, _)] a := hA.sub ((.cons rfl (.cons rfl .nil)))
        exact hJ _ _ ⟨hA.sub (.cons rfl (.cons (by first | rfl | exact congrArg (fun b => some (Value.bool b)) (by first | exact decide_eq_decide.2 (by omega) | exact or_bool (by omega) | exact and_bool (by omega) | (simp; done) | (simp [hg5, hg8]; done) | (have h80 := hg5; (try simp at h80); have h81 := hg8; (try simp at h81); simp [h80, h81]; done) | exact (decide_eq_false (fun h9 => hg5 h9.1)).symm | exact (decide_eq_false (fun h9 => hg8 h9.1)).symm)) .nil)), hM⟩
       ·
        clear hA; intro hg8 hA
        refine S.no (dj := 35) hA (by kernel_rfl) rfl rfl rfl ?_; clear hA a; intro a hA
        refine S.no (dj := 35) hA (by kernel_rfl) rfl rfl rfl ?_; clear hA a; intro a hA
        refine S.valg (dj := 32) hA (by kernel_rfl) rfl (R.pickF rfl rfl) rfl ?_; clear hA a; intro a hA
        refine S.val hA (R.pickF rfl rfl) rfl ?_; clear hA a; intro a hA
        refine S.val hA (R.assign rfl) rfl ?_; clear hA a; intro a hA
        refine S.done ?_
        replace hA : St 43 [(0, _), (25, _)] a := hA.sub ((.cons rfl (.cons rfl .nil)))
        exact hJ _ _ ⟨hA.sub (.cons rfl (.cons (by first | rfl | exact congrArg (fun b => some (Value.bool b)) (by first | exact decide_eq_decide.2 (by omega) | exact or_bool (by omega) | exact and_bool (by omega) | (simp; done) | (simp [hg5, hg8]; done) | (have h80 := hg5; (try simp at h80); have h81 := hg8; (try simp at h81); simp [h80, h81]; done) | exact (decide_eq_false (fun h9 => hg5 h9.1)).symm | exact (decide_eq_false (fun h9 => hg8 h9.1)).symm)) .nil)), hM⟩
   ·
    refine Ends.region ?_
    refine S.val hA (R.move rfl) rfl ?_; clear hA a; intro a hA
    refine S.val hA (R.geq rfl rfl) rfl ?_; clear hA a; intro a hA
    refine S.val hA (R.move rfl) rfl ?_; clear hA a; intro a hA
    refine hA.split (d := 21) rfl ?_ ?_
    ·
     clear hA; intro hg9 hA
     refine S.valg (dj := 21) hA (by kernel_rfl) rfl (R.move rfl) rfl ?_; clear hA a; intro a hA
     refine S.valg (dj := 21) hA (by kernel_rfl) rfl (R.leq rfl rfl) rfl ?_; clear hA a; intro a hA
     refine S.val hA (R.pickT rfl rfl) rfl ?_; clear hA a; intro a hA
     refine S.val hA (R.assign rfl) rfl ?_; clear hA a; intro a hA
     refine S.done ?_
     replace hA : St 43 [(0, _), (18, _)] a := hA.sub ((.cons rfl (.cons rfl .nil)))
     exact hJ _ _ ⟨hA.sub (.cons rfl (.cons (by first | rfl | exact congrArg (fun b => some (Value.bool b)) (by first | exact decide_eq_decide.2 (by omega) | exact or_bool (by omega) | exact and_bool (by omega) | (simp; done) | (simp [hg9]; done) | (have h80 := hg9; (try simp at h80); simp [h80]; done) | exact (decide_eq_false (fun h9 => hg9 h9.1)).symm)) .nil)), hM⟩
    ·
     clear hA; intro hg9 hA
     refine S.no (dj := 21) hA (by kernel_rfl) rfl rfl rfl ?_; clear hA a; intro a hA
     refine S.no (dj := 21) hA (by kernel_rfl) rfl rfl rfl ?_; clear hA a; intro a hA
     refine S.val hA (R.pickF rfl rfl) rfl ?_; clear hA a; intro a hA
     refine S.val hA (R.assign rfl) rfl ?_; clear hA a; intro a hA
     refine S.done ?_
     replace hA : St 43 [(0, _), (18, _)] a := hA.sub ((.cons rfl (.cons rfl .nil)))
     exact hJ _ _ ⟨hA.sub (.cons rfl (.cons (by first | rfl | exact congrArg (fun b => some (Value.bool b)) (by first | exact decide_eq_decide.2 (by omega) | exact or_bool (by omega) | exact and_bool (by omega) | (simp; done) | (simp [hg9]; done) | (have h80 := hg9; (try simp at h80); simp [h80]; done) | exact (decide_eq_false (fun h9 => hg9 h9.1)).symm)) .nil)), hM⟩
 ·
  refine Ends.region ?_
  refine S.val hA (R.move rfl) rfl ?_; clear hA a; intro a hA
  refine S.val hA (R.eql rfl rfl) rfl ?_; clear hA a; intro a hA
  refine S.val hA (R.move rfl) rfl ?_; clear hA a; intro a hA
  refine hA.split (d := 6) rfl ?_ ?_
  ·
   clear hA; intro hg10 hA
   refine S.no (dj := 6) hA (by kernel_rfl) rfl rfl rfl ?_; clear hA a; intro a hA
   refine S.no (dj := 6) hA (by kernel_rfl) rfl rfl rfl ?_; clear hA a; intro a hA
   refine S.val hA (R.pickT rfl rfl) rfl ?_; clear hA a; intro a hA
   refine S.val hA (R.move rfl) rfl ?_; clear hA a; intro a hA
   refine S.no (dj := 10) hA (by kernel_rfl) rfl rfl rfl ?_; clear hA a; intro a hA
   refine S.no (dj := 10) hA (by kernel_rfl) rfl rfl rfl ?_; clear hA a; intro a hA
   refine S.val hA (R.pickT rfl rfl) rfl ?_; clear hA a; intro a hA
   refine S.val hA (R.move rfl) rfl ?_; clear hA a; intro a hA
   refine S.no (dj := 14) hA (by kernel_rfl) rfl rfl rfl ?_; clear hA a; intro a hA
   refine S.no (dj := 14) hA (by kernel_rfl) rfl rfl rfl ?_; clear hA a; intro a hA
   refine S.val hA (R.pickT rfl rfl) rfl ?_; clear hA a; intro a hA
   refine S.val hA (R.assign rfl) rfl ?_; clear hA a; intro a hA
   refine S.done ?_
   replace hA : St 43 [(0, _), (3, _)] a := hA.sub ((.cons rfl (.cons rfl .nil)))
   exact hJ _ _ ⟨hA.sub (.cons rfl (.cons (by first | rfl | exact congrArg (fun b => some (Value.bool b)) (by first | exact decide_eq_decide.2 (by omega) | exact or_bool (by omega) | exact and_bool (by omega) | (simp; done) | (simp [hg10]; done) | (have h80 := hg10; (try simp at h80); simp [h80]; done) | exact (decide_eq_false (fun h9 => hg10 h9.1)).symm)) .nil)), hM⟩
  ·
   clear hA; intro hg10 hA
   refine S.valg (dj := 6) hA (by kernel_rfl) rfl (R.move rfl) rfl ?_; clear hA a; intro a hA
   refine S.valg (dj := 6) hA (by kernel_rfl) rfl (R.eql rfl rfl) rfl ?_; clear hA a; intro a hA
   refine S.val hA (R.pickF rfl rfl) rfl ?_; clear hA a; intro a hA
   refine S.val hA (R.move rfl) rfl ?_; clear hA a; intro a hA
   refine hA.split (d := 10) rfl ?_ ?_
   ·
    clear hA; intro hg11 hA
    refine S.no (dj := 10) hA (by kernel_rfl) rfl rfl rfl ?_; clear hA a; intro a hA
    refine S.no (dj := 10) hA (by kernel_rfl) rfl rfl rfl ?_; clear hA a; intro a hA
    refine S.val hA (R.pickT rfl rfl) rfl ?_; clear hA a; intro a hA
    refine S.val hA (R.move rfl) rfl ?_; clear hA a; intro a hA
    refine S.no (dj := 14) hA (by kernel_rfl) rfl rfl rfl ?_; clear hA a; intro a hA
    refine S.no (dj := 14) hA (by kernel_rfl) rfl rfl rfl ?_; clear hA a; intro a hA
    refine S.val hA (R.pickT rfl rfl) rfl ?_; clear hA a; intro a hA
    refine S.val hA (R.assign rfl) rfl ?_; clear hA a; intro a hA
    refine S.done ?_
    replace hA : St 43 [(0, _), (3, _)] a := hA.sub ((.cons rfl (.cons rfl .nil)))
    exact hJ _ _ ⟨hA.sub (.cons rfl (.cons (by first | rfl | exact congrArg (fun b => some (Value.bool b)) (by first | exact decide_eq_decide.2 (by omega) | exact or_bool (by omega) | exact and_bool (by omega) | (simp; done) | (simp [hg10, hg11]; done) | (have h80 := hg10; (try simp at h80); have h81 := hg11; (try simp at h81); simp [h80, h81]; done) | exact (decide_eq_false (fun h9 => hg10 h9.1)).symm | exact (decide_eq_false (fun h9 => hg11 h9.1)).symm)) .nil)), hM⟩
   ·
    clear hA; intro hg11 hA
    refine S.valg (dj := 10) hA (by kernel_rfl) rfl (R.move rfl) rfl ?_; clear hA a; intro a hA
    refine S.valg (dj := 10) hA (by kernel_rfl) rfl (R.eql rfl rfl) rfl ?_; clear hA a; intro a hA
    refine S.val hA (R.pickF rfl rfl) rfl ?_; clear hA a; intro a hA
    refine S.val hA (R.move rfl) rfl ?_; clear hA a; intro a hA
    refine hA.split (d := 14) rfl ?_ ?_
    ·
     clear hA; intro hg12 hA
     refine S.no (dj := 14) hA (by kernel_rfl) rfl rfl rfl ?_; clear hA a; intro a hA
     refine S.no (dj := 14) hA (by kernel_rfl) rfl rfl rfl ?_; clear hA a; intro a hA
     refine S.val hA (R.pickT rfl rfl) rfl ?_; clear hA a; intro a hA
     refine S.val hA (R.assign rfl) rfl ?_; clear hA a; intro a hA
     refine S.done ?_
     replace hA : St 43 [(0, _), (3, _)] a := hA.sub ((.cons rfl (.cons rfl .nil)))
     exact hJ _ _ ⟨hA.sub (.cons rfl (.cons (by first | rfl | exact congrArg (fun b => some (Value.bool b)) (by first | exact decide_eq_decide.2 (by omega) | exact or_bool (by omega) | exact and_bool (by omega) | (simp; done) | (simp [hg10, hg11, hg12]; done) | (have h80 := hg10; (try simp at h80); have h81 := hg11; (try simp at h81); have h82 := hg12; (try simp at h82); simp [h80, h81, h82]; done) | exact (decide_eq_false (fun h9 => hg10 h9.1)).symm | exact (decide_eq_false (fun h9 => hg11 h9.1)).symm | exact (decide_eq_false (fun h9 => hg12 h9.1)).symm)) .nil)), hM⟩
    ·
     clear hA; intro hg12 hA
     refine S.valg (dj := 14) hA (by kernel_rfl) rfl (R.move rfl) rfl ?_; clear hA a; intro a hA
     refine S.valg (dj := 14) hA (by kernel_rfl) rfl (R.eql rfl rfl) rfl ?_; clear hA a; intro a hA
     refine S.val hA (R.pickF rfl rfl) rfl ?_; clear hA a; intro a hA
     refine S.val hA (R.assign rfl) rfl ?_; clear hA a; intro a hA
     refine S.done ?_
     replace hA : St 43 [(0, _), (3, _)] a := hA.sub ((.cons rfl (.cons rfl .nil)))
     exact hJ _ _ ⟨hA.sub (.cons rfl (.cons (by first | rfl | exact congrArg (fun b => some (Value.bool b)) (by first | exact decide_eq_decide.2 (by omega) | exact or_bool (by omega) | exact and_bool (by omega) | (simp; done) | (simp [hg10, hg11, hg12]; done) | (have h80 := hg10; (try simp at h80); have h81 := hg11; (try simp at h81); have h82 := hg12; (try simp at h82); simp [h80, h81, h82]; done) | exact (decide_eq_false (fun h9 => hg10 h9.1)).symm | exact (decide_eq_false (fun h9 => hg11 h9.1)).symm | exact (decide_eq_false (fun h9 => hg12 h9.1)).symm)) .nil)), hM⟩
theorem rkind_at {s : ByteArray} {p : Nat} (h : p < s.size) (w : World) : Calls Tryd.prog 67 #[.int .u8 (byt s p)] w fun e w' => e = .returned (.int .i64 (kb s p)) ∧ Below w.heap.size w w' := by
  rw [kb_in h]; exact rkind_any _ w
theorem rread_eq (s : ByteArray) (p N D e0 : Int) (hsz : s.size ≤ 4611686018427387904) (hr : readI s p = (N, D, e0)) (w : World) : Calls Tryd.prog 68 #[.string s, .int .i64 p] w fun e w' => e = .returned (.tuple #[.int .i64 N, .int .i64 D, .int .i64 e0]) ∧ Below w.heap.size w w' := by
  have h := rread_any s p (Nat.le_trans hsz (by decide)) w
  rwa [hr] at h
set_option maxRecDepth 100000 in
set_option maxHeartbeats 400000 in
theorem rscan_any (s : ByteArray) (hsz : s.size ≤ 9223372036854775807) (w : World) :
  Calls Tryd.prog 49 #[.string s] w fun e w' => ∃ a cap, e = .returned (.tuple #[.slice a (scan s).1.length cap, .int .i64 (scan s).2.1, .int .i64 (scan s).2.2]) ∧ Mem w nof [own 69 4 (.slice a (scan s).1.length cap) (scan s).1.length (tokv (scan s).1)] w' := by
 have hM := Mem.start w
 refine Calls.of_ends (vs := [.string s]) Tryd.func49 rfl Tryd.ntmps49 rfl ?_
 intro a hA
 replace hA : St 122 [(0, _)] a := hA
 refine Ends.seq (Ends.region ?_)
 refine S.val hA (R.assign rfl) rfl ?_; clear hA a; intro a hA
 refine S.val hA (R.assign rfl) rfl ?_; clear hA a; intro a hA
 refine S.val hA (R.assign rfl) rfl ?_; clear hA a; intro a hA
 refine S.done ?_
 refine Ends.seq (Ends.seq (Ends.region ?_))
 refine S.val hA (R.move rfl) rfl ?_; clear hA a; intro a hA
 refine S.val hA (R.lenStr Tryd.underlying9 rfl rfl) rfl ?_; clear hA a; intro a hA
 refine S.val hA (R.gtr rfl rfl) rfl ?_; clear hA a; intro a hA
 refine S.done ?_
 replace hA : St 122 [(0, _), (13, _)] a := hA.sub ((.cons rfl (.cons rfl .nil)))
 refine Ends.ite hA rfl (fun hc1 => ?_) (fun hc1 => ?_)
 ·
  refine Ends.seq (Ends.region ?_)
  refine S.val hA (R.assign rfl) rfl ?_; clear hA a; intro a hA
  refine S.val hA (R.assign rfl) rfl ?_; clear hA a; intro a hA
  refine S.val hA (R.assign rfl) rfl ?_; clear hA a; intro a hA
  refine S.done ?_
  refine Ends.ret3 Tryd.func49 Tryd.results49 hA rfl rfl rfl ?_
  have e0 : scan s = ([], 0, 5) := by unfold scan; rw [if_pos (by omega)]
  rw [e0]
  exact ⟨none, 0, rfl, hM.nilL.ownNil 69 4⟩
 ·
  refine Ends.skip (Ends.seq (Ends.region ?_))
  refine S.val hA (R.assign rfl) rfl ?_; clear hA a; intro a hA
  refine S.done ?_
  refine Ends.seq (Ends.region ?_)
  refine S.val hA (R.assign rfl) rfl ?_; clear hA a; intro a hA
  refine S.done ?_
  refine Ends.seq (Ends.block ?_)
  replace hM := hM.ownNil 69 4
  replace hM : Mem _ _ [own 69 4 (.slice none ((([] : List Tok)).length) 0) ((([] : List Tok)).length) (tokv (([] : List Tok)))] _ := hM
  have hbig : ¬ 65536 < s.size := by omega
  refine Ends.loop (σ := Nat × Nat × List Tok × Option Addr × Nat) (fun (p, f, X, v, cap) (a : Act) (wv : World) => St 122 [(0, .string s), (5, .slice v X.length cap), (6, .int .i64 ((p : Int)))] a ∧ Mem w nof [own 69 4 (.slice v X.length cap) X.length (tokv X)] wv ∧ (s.size ≤ p + f) ∧ (scF s f p X = scan s) ∧ (X.length ≤ p) ∧ (p ≤ s.size)) (fun (p, f, X, v, cap) => f) ((0, s.size, [], none, 0)) ⟨hA.sub ((.cons rfl (.cons rfl (.cons rfl .nil)))), hM, (by omega), (by unfold scan; rw [if_neg hbig]), (Nat.le_refl _), (Nat.zero_le _)⟩ ?_
  clear hA hM a
  rintro ⟨p, f, X, v, cap⟩ a w1 ⟨hA, hM, hf, hsc, hX, hps⟩ hNext
  refine Ends.seq (Ends.seq (Ends.region ?_))
  refine S.val hA (R.move rfl) rfl ?_; clear hA a; intro a hA
  refine S.val hA (R.move rfl) rfl ?_; clear hA a; intro a hA
  refine S.val hA (R.lenStr Tryd.underlying9 rfl rfl) rfl ?_; clear hA a; intro a hA
  refine S.val hA (R.lss rfl rfl) rfl ?_; clear hA a; intro a hA
  refine S.done ?_
  refine Ends.ite hA rfl (fun hc2 => ?_) (fun hc2 => ?_)
  ·
   have hp : p < s.size := by omega
   refine Ends.skip (Ends.block (Ends.seq (Ends.region ?_)))
   refine S.val hA (R.move rfl) rfl ?_; clear hA a; intro a hA
   refine S.val hA (R.move rfl) rfl ?_; clear hA a; intro a hA
   refine S.val hA (R.to (v := .int .u8 (byt s p)) (R.idxS Tryd.underlying9 rfl rfl (by omega)) (by first | rfl | (congr 2; done) | (congr 2; omega))) rfl ?_; clear hA a; intro a hA
   refine S.call hA (R.callF Tryd.func67 rfl rfl rfl) rfl (rkind_at (s := s) (p := p) (by omega) _) ?_; clear hA a
   rintro e w2 ⟨rfl, hb⟩
   replace hM := hM.callB hb; clear hb
   refine ⟨.int .i64 (kb s p), rfl, fun a hA => ?_⟩
   refine S.done ?_
   replace hA : St 122 [(0, _), (5, _), (6, _), (21, _)] a := hA.sub ((.cons rfl (.cons rfl (.cons rfl (.cons rfl .nil)))))
   refine Ends.block (Ends.seq (Ends.region ?_))
   refine S.val hA (R.eql rfl rfl) rfl ?_; clear hA a; intro a hA
   refine S.val hA (R.assign rfl) rfl ?_; clear hA a; intro a hA
   refine S.done ?_
   refine Ends.ite hA rfl (fun hc3 => ?_) (fun hc3 => ?_)
   ·
    refine Ends.region ?_
    refine S.val hA (R.move rfl) rfl ?_; clear hA a; intro a hA
    refine S.val hA (R.addI rfl rfl (r := ((p : Int)) + 1) rfl (by omega)) rfl ?_; clear hA a; intro a hA
    refine S.val hA (R.assign rfl) rfl ?_; clear hA a; intro a hA
    refine S.done ?_
    replace hA : St 122 [(0, _), (5, _), (6, _)] a := hA.sub ((.cons rfl (.cons rfl (.cons rfl .nil))))
    refine Ends.inBlock (Ends.inBlock ?_)
    have e1 := lst_1 hc3
    have hgo := scF_go (X := X) (f := f) hp (by omega) (by rw [e1])
    simp only [e1, List.append_nil] at hgo
    exact hNext ((p + 1, f - 1, X, v, cap)) _ _ ((by show f - 1 < f; omega)) ⟨hA.sub ((.cons rfl (.cons rfl (.cons rfl .nil)))), hM, (by omega), (hgo.symm.trans hsc), (by omega), (by omega)⟩
   ·
    refine Ends.seq (Ends.region ?_)
    refine S.val hA (R.eql rfl rfl) rfl ?_; clear hA a; intro a hA
    refine S.val hA (R.assign rfl) rfl ?_; clear hA a; intro a hA
    refine S.done ?_
    refine Ends.ite hA rfl (fun hc4 => ?_) (fun hc4 => ?_)
    ·
     refine Ends.block ?_
     refine Ends.loop (σ := Nat) (fun q (a : Act) (wv : World) => St 122 [(0, .string s), (5, .slice v X.length cap), (6, .int .i64 (((p + q : Nat) : Int)))] a ∧ Mem w nof [own 69 4 (.slice v X.length cap) X.length (tokv X)] wv ∧ (p + q ≤ s.size) ∧ (∀ j, j < q → p + j < s.size ∧ byt s (p + j) ≠ 10)) (fun q => s.size - q) 0 ⟨hA.sub ((.cons rfl (.cons rfl (.cons rfl .nil)))), hM, (by omega), (fun j hj => absurd hj (Nat.not_lt_zero j))⟩ ?_
     clear hA hM a
     rintro q a w3 ⟨hA, hM, hq, hl⟩ hNext1
     refine Ends.seq (Ends.seq ?_)
     refine Ends.cut (fun (a : Act) (wv : World) => St 122 [(0, .string s), (5, .slice v X.length cap), (6, .int .i64 (((p + q : Nat) : Int))), (38, .bool (decide (((((p + q : Nat) : Int)) < ((s.size : Int)) ∧ (byt s (p + q)) ≠ 10))))] a ∧ Mem w nof [own 69 4 (.slice v X.length cap) X.length (tokv X)] wv) ?_ (fun k2 hJ => ?_)
     ·
      clear hA hM a; rintro a w4 ⟨hA, hM⟩
      refine Ends.ite hA rfl (fun hc5 => ?_) (fun hc5 => ?_)
      ·
       refine Ends.skip (Ends.block (Ends.region ?_))
       refine S.val hA (R.move rfl) rfl ?_; clear hA a; intro a hA
       refine S.val hA (R.addI rfl rfl (r := (((p + q : Nat) : Int)) + 1) rfl (by omega)) rfl ?_; clear hA a; intro a hA
       refine S.val hA (R.assign rfl) rfl ?_; clear hA a; intro a hA
       refine S.done ?_
       refine Ends.inBlock ?_
       exact hNext1 ((q + 1)) _ _ ((by show s.size - (q + 1) < s.size - q; omega)) ⟨hA.sub ((.cons rfl (.cons rfl (.cons rfl .nil)))), hM, (by omega), (fun j hj => by rcases Nat.lt_or_ge j q with g | g; exact hl j g; have e : j = q := (by omega); subst e; exact ⟨by omega, hc5.2⟩)⟩
      ·
       refine Ends.exit rfl ?_
       refine Ends.inBlock (Ends.inBlock ?_)
       have hq0 := eol_pos hc4
       have e1 := lst_4 hc4
       have hqe : eol s p = q := eol_uniq hl (by have h9 := hc5; intro h8; exact h9 ⟨by omega, h8.2⟩)
       rw [hqe] at e1 hq0
       have hgo := scF_go (X := X) (f := f) hp (by omega) (by rw [e1])
       simp only [e1, List.append_nil] at hgo
       exact hNext ((p + q, f - 1, X, v, cap)) _ _ ((by show f - 1 < f; omega)) ⟨hA.sub ((.cons rfl (.cons rfl (.cons rfl .nil)))), hM, (by omega), (hgo.symm.trans hsc), (by omega), (by omega)⟩
     ·
      refine Ends.region ?_
      refine S.val hA (R.move rfl) rfl ?_; clear hA a; intro a hA
      refine S.val hA (R.move rfl) rfl ?_; clear hA a; intro a hA
      refine S.val hA (R.lenStr Tryd.underlying9 rfl rfl) rfl ?_; clear hA a; intro a hA
      refine S.val hA (R.lss rfl rfl) rfl ?_; clear hA a; intro a hA
      refine S.val hA (R.move rfl) rfl ?_; clear hA a; intro a hA
      refine hA.split (d := 33) rfl ?_ ?_
      ·
       clear hA; intro hg6 hA
       refine S.valg (dj := 33) hA (by kernel_rfl) rfl (R.move rfl) rfl ?_; clear hA a; intro a hA
       refine S.valg (dj := 33) hA (by kernel_rfl) rfl (R.move rfl) rfl ?_; clear hA a; intro a hA
       refine S.valg (dj := 33) hA (by kernel_rfl) rfl (R.to (v := .int .u8 (byt s (p + q))) (R.idxS Tryd.underlying9 rfl rfl (by omega)) (by first | rfl | (congr 2; done) | (congr 2; omega))) rfl ?_; clear hA a; intro a hA
       refine S.valg (dj := 33) hA (by kernel_rfl) rfl (R.neq rfl rfl) rfl ?_; clear hA a; intro a hA
       refine S.val hA (R.pickT rfl rfl) rfl ?_; clear hA a; intro a hA
       refine S.done ?_
       replace hA : St 122 [(0, _), (5, _), (6, _), (38, _)] a := hA.sub ((.cons rfl (.cons rfl (.cons rfl (.cons rfl .nil)))))
       exact hJ _ _ ⟨hA.sub (.cons rfl (.cons rfl (.cons rfl (.cons (by first | rfl | exact congrArg (fun b => some (Value.bool b)) (by first | exact decide_eq_decide.2 (by omega) | exact or_bool (by omega) | exact and_bool (by omega) | (simp; done) | (simp [hg6]; done) | (have h80 := hg6; (try simp at h80); simp [h80]; done) | exact (decide_eq_false (fun h9 => hg6 h9.1)).symm)) .nil)))), hM⟩
      ·
       clear hA; intro hg6 hA
       refine S.no (dj := 33) hA (by kernel_rfl) rfl rfl rfl ?_; clear hA a; intro a hA
       refine S.no (dj := 33) hA (by kernel_rfl) rfl rfl rfl ?_; clear hA a; intro a hA
       refine S.no (dj := 33) hA (by kernel_rfl) rfl rfl rfl ?_; clear hA a; intro a hA
       refine S.no (dj := 33) hA (by kernel_rfl) rfl rfl rfl ?_; clear hA a; intro a hA
       refine S.val hA (R.pickF rfl rfl) rfl ?_; clear hA a; intro a hA
       refine S.done ?_
       replace hA : St 122 [(0, _), (5, _), (6, _), (38, _)] a := hA.sub ((.cons rfl (.cons rfl (.cons rfl (.cons rfl .nil)))))
       exact hJ _ _ ⟨hA.sub (.cons rfl (.cons rfl (.cons rfl (.cons (by first | rfl | exact congrArg (fun b => some (Value.bool b)) (by first | exact decide_eq_decide.2 (by omega) | exact or_bool (by omega) | exact and_bool (by omega) | (simp; done) | (simp [hg6]; done) | (have h80 := hg6; (try simp at h80); simp [h80]; done) | exact (decide_eq_false (fun h9 => hg6 h9.1)).symm)) .nil)))), hM⟩
    ·
     refine Ends.seq (Ends.region ?_)
     refine S.val hA (R.eql rfl rfl) rfl ?_; clear hA a; intro a hA
     refine S.val hA (R.assign rfl) rfl ?_; clear hA a; intro a hA
     refine S.done ?_
     replace hA : St 122 [(0, _), (5, _), (6, _), (21, _), (41, _)] a := hA.sub ((.cons rfl (.cons rfl (.cons rfl (.cons rfl (.cons rfl .nil))))))
     refine Ends.ite hA rfl (fun hc7 => ?_) (fun hc7 => ?_)
     ·
      refine Ends.seq ?_
      by_cases hs8 : 1 < dgs s p ∧ byt s p = 48
      ·
       have hr := readI_at hp hc7
       rw [if_pos hs8] at hr
       refine Ends.region ?_
       refine S.val hA (R.move rfl) rfl ?_; clear hA a; intro a hA
       refine S.val hA (R.move rfl) rfl ?_; clear hA a; intro a hA
       refine S.call hA (R.callF Tryd.func68 rfl rfl rfl) rfl (rread_eq s (p : Int) (0) (0) 4 (by omega) hr _) ?_; clear hA a
       rintro e w5 ⟨rfl, hb⟩
       replace hM := hM.callB hb; clear hb
       refine ⟨.tuple #[.int .i64 0, .int .i64 0, .int .i64 4], rfl, fun a hA => ?_⟩
       refine S.val hA (R.move rfl) rfl ?_; clear hA a; intro a hA
       refine S.val hA (R.extract (v := .int .i64 0) rfl rfl) rfl ?_; clear hA a; intro a hA
       refine S.val hA (R.extract (v := .int .i64 0) rfl rfl) rfl ?_; clear hA a; intro a hA
       refine S.val hA (R.extract (v := .int .i64 4) rfl rfl) rfl ?_; clear hA a; intro a hA
       refine S.val hA (R.assign rfl) rfl ?_; clear hA a; intro a hA
       refine S.val hA (R.assign rfl) rfl ?_; clear hA a; intro a hA
       refine S.val hA (R.assign rfl) rfl ?_; clear hA a; intro a hA
       refine S.done ?_
       replace hA : St 122 [(0, _), (5, _), (6, _), (7, _), (8, _), (9, _)] a := hA.sub ((.cons rfl (.cons rfl (.cons rfl (.cons rfl (.cons rfl (.cons rfl .nil)))))))
       refine Ends.seq (Ends.seq (Ends.region ?_))
       refine S.val hA (R.move rfl) rfl ?_; clear hA a; intro a hA
       refine S.val hA (R.tt (R.neq rfl rfl) (by omega)) rfl ?_; clear hA a; intro a hA
       refine S.done ?_
       refine Ends.condT hA rfl ?_
       refine Ends.seq (Ends.region ?_)
       refine S.val hA (R.move rfl) rfl ?_; clear hA a; intro a hA
       refine S.val hA (R.move rfl) rfl ?_; clear hA a; intro a hA
       refine S.val hA (R.assign rfl) rfl ?_; clear hA a; intro a hA
       refine S.val hA (R.assign rfl) rfl ?_; clear hA a; intro a hA
       refine S.val hA (R.assign rfl) rfl ?_; clear hA a; intro a hA
       refine S.done ?_
       replace hA : St 122 [(0, _), (2, _), (3, _), (4, _), (5, _), (6, _), (7, _), (8, _)] a := hA.sub ((.cons rfl (.cons rfl (.cons rfl (.cons rfl (.cons rfl (.cons rfl (.cons rfl (.cons rfl .nil)))))))))
       refine Ends.ret3 Tryd.func49 Tryd.results49 hA rfl rfl rfl ?_
       have e1 : lst s p = (4, p, []) := by rw [lst_2 hc7, if_pos hs8]
       have he := scF_err (X := X) (f := f) hp (by omega) (by rw [e1]; show (4 : Int) ≠ 0; decide)
       simp only [e1] at he
       have e0 : scan s = ([], ((p : Nat) : Int), 4) := hsc.symm.trans he
       rw [e0]
       exact ⟨none, 0, rfl, hM.nilL.ownNil 69 4⟩
      ·
       by_cases hs9 : 18 < dgs s p
       ·
        have hr := readI_at hp hc7
        rw [if_neg hs8, if_pos hs9] at hr
        refine Ends.region ?_
        refine S.val hA (R.move rfl) rfl ?_; clear hA a; intro a hA
        refine S.val hA (R.move rfl) rfl ?_; clear hA a; intro a hA
        refine S.call hA (R.callF Tryd.func68 rfl rfl rfl) rfl (rread_eq s (p : Int) (0) (0) 5 (by omega) hr _) ?_; clear hA a
        rintro e w6 ⟨rfl, hb⟩
        replace hM := hM.callB hb; clear hb
        refine ⟨.tuple #[.int .i64 0, .int .i64 0, .int .i64 5], rfl, fun a hA => ?_⟩
        refine S.val hA (R.move rfl) rfl ?_; clear hA a; intro a hA
        refine S.val hA (R.extract (v := .int .i64 0) rfl rfl) rfl ?_; clear hA a; intro a hA
        refine S.val hA (R.extract (v := .int .i64 0) rfl rfl) rfl ?_; clear hA a; intro a hA
        refine S.val hA (R.extract (v := .int .i64 5) rfl rfl) rfl ?_; clear hA a; intro a hA
        refine S.val hA (R.assign rfl) rfl ?_; clear hA a; intro a hA
        refine S.val hA (R.assign rfl) rfl ?_; clear hA a; intro a hA
        refine S.val hA (R.assign rfl) rfl ?_; clear hA a; intro a hA
        refine S.done ?_
        replace hA : St 122 [(0, _), (5, _), (6, _), (7, _), (8, _), (9, _)] a := hA.sub ((.cons rfl (.cons rfl (.cons rfl (.cons rfl (.cons rfl (.cons rfl .nil)))))))
        refine Ends.seq (Ends.seq (Ends.region ?_))
        refine S.val hA (R.move rfl) rfl ?_; clear hA a; intro a hA
        refine S.val hA (R.tt (R.neq rfl rfl) (by omega)) rfl ?_; clear hA a; intro a hA
        refine S.done ?_
        refine Ends.condT hA rfl ?_
        refine Ends.seq (Ends.region ?_)
        refine S.val hA (R.move rfl) rfl ?_; clear hA a; intro a hA
        refine S.val hA (R.move rfl) rfl ?_; clear hA a; intro a hA
        refine S.val hA (R.assign rfl) rfl ?_; clear hA a; intro a hA
        refine S.val hA (R.assign rfl) rfl ?_; clear hA a; intro a hA
        refine S.val hA (R.assign rfl) rfl ?_; clear hA a; intro a hA
        refine S.done ?_
        replace hA : St 122 [(0, _), (2, _), (3, _), (4, _), (5, _), (6, _), (7, _), (8, _)] a := hA.sub ((.cons rfl (.cons rfl (.cons rfl (.cons rfl (.cons rfl (.cons rfl (.cons rfl (.cons rfl .nil)))))))))
        refine Ends.ret3 Tryd.func49 Tryd.results49 hA rfl rfl rfl ?_
        have e1 : lst s p = (5, p, []) := by rw [lst_2 hc7, if_neg hs8, if_pos hs9]
        have he := scF_err (X := X) (f := f) hp (by omega) (by rw [e1]; show (5 : Int) ≠ 0; decide)
        simp only [e1] at he
        have e0 : scan s = ([], ((p : Nat) : Int), 5) := hsc.symm.trans he
        rw [e0]
        exact ⟨none, 0, rfl, hM.nilL.ownNil 69 4⟩
       ·
        have hr := readI_at hp hc7
        rw [if_neg hs8, if_neg hs9] at hr
        refine Ends.region ?_
        refine S.val hA (R.move rfl) rfl ?_; clear hA a; intro a hA
        refine S.val hA (R.move rfl) rfl ?_; clear hA a; intro a hA
        refine S.call hA (R.callF Tryd.func68 rfl rfl rfl) rfl (rread_eq s (p : Int) (numv s p (dgs s p)) (((p + dgs s p : Nat) : Int)) 0 (by omega) hr _) ?_; clear hA a
        rintro e w7 ⟨rfl, hb⟩
        replace hM := hM.callB hb; clear hb
        refine ⟨.tuple #[.int .i64 (numv s p (dgs s p)), .int .i64 (((p + dgs s p : Nat) : Int)), .int .i64 0], rfl, fun a hA => ?_⟩
        refine S.val hA (R.move rfl) rfl ?_; clear hA a; intro a hA
        refine S.val hA (R.extract (v := .int .i64 (numv s p (dgs s p))) rfl rfl) rfl ?_; clear hA a; intro a hA
        refine S.val hA (R.extract (v := .int .i64 (((p + dgs s p : Nat) : Int))) rfl rfl) rfl ?_; clear hA a; intro a hA
        refine S.val hA (R.extract (v := .int .i64 0) rfl rfl) rfl ?_; clear hA a; intro a hA
        refine S.val hA (R.assign rfl) rfl ?_; clear hA a; intro a hA
        refine S.val hA (R.assign rfl) rfl ?_; clear hA a; intro a hA
        refine S.val hA (R.assign rfl) rfl ?_; clear hA a; intro a hA
        refine S.done ?_
        replace hA : St 122 [(0, _), (5, _), (6, _), (7, _), (8, _), (9, _)] a := hA.sub ((.cons rfl (.cons rfl (.cons rfl (.cons rfl (.cons rfl (.cons rfl .nil)))))))
        refine Ends.seq (Ends.seq (Ends.region ?_))
        refine S.val hA (R.move rfl) rfl ?_; clear hA a; intro a hA
        refine S.val hA (R.ff (R.neq rfl rfl) (by omega)) rfl ?_; clear hA a; intro a hA
        refine S.done ?_
        refine Ends.condF hA rfl ?_
        refine Ends.skip (Ends.seq (Ends.region ?_))
        refine S.val hA (R.move rfl) rfl ?_; clear hA a; intro a hA
        refine S.val hA (R.move rfl) rfl ?_; clear hA a; intro a hA
        refine S.val hA (R.move rfl) rfl ?_; clear hA a; intro a hA
        refine S.val hA (R.build (cells := #[.int .i64 2, .string (⟨#[]⟩), .int .i64 (numv s p (dgs s p)), .int .i64 ((p : Int))]) rfl (by kernel_rfl)) rfl ?_; clear hA a; intro a hA
        refine S.buildSl (cells := #[.int .i64 2, .string (⟨#[]⟩), .int .i64 (numv s p (dgs s p)), .int .i64 ((p : Int))]) hA hM Tryd.underlying65 info69 rfl rfl rfl rfl (by kernel_rfl) rfl ?_; clear hA hM a; intro b10 w8 hb11 hM a hA
        replace hM : Mem _ _ [pt b10 #[.int .i64 2, .string (⟨#[]⟩), .int .i64 (numv s p (dgs s p)), .int .i64 ((p : Int))] 69, own 69 4 (.slice v X.length cap) X.length (tokv X)] _ := hM
        refine S.append (k := 1) (k2 := 0) hA hM rfl rfl Tryd.underlying65 info69 rfl rfl rfl rfl rfl rfl rfl rfl rfl (by first | omega | (show (_ + 1) * 40 ≤ 140737488355328; omega) | (unfold maxLen; omega)) (by first | omega | (show (_ + 1) * 40 ≤ 140737488355328; omega) | (unfold maxLen; omega)) rfl ?_; clear hA hM a; intro a12 c13 w9 hM a hA
        replace hM : Mem _ _ [pt b10 #[.int .i64 2, .string (⟨#[]⟩), .int .i64 (numv s p (dgs s p)), .int .i64 ((p : Int))] 69, own 69 4 (.slice a12 (X.length + 1) c13) (X.length + 1) (tokv X ++ [.int .i64 2, .string (⟨#[]⟩), .int .i64 (numv s p (dgs s p)), .int .i64 ((p : Int))])] _ := hM
        have hl14 : X.length + 1 = (X ++ [(⟨2, ⟨#[]⟩, numv s p (dgs s p), (p : Int)⟩ : Tok)]).length := by simp
        rw [hl14, show tokv X ++ [.int .i64 2, .string (⟨#[]⟩), .int .i64 (numv s p (dgs s p)), .int .i64 ((p : Int))] = tokv (X ++ [(⟨2, ⟨#[]⟩, numv s p (dgs s p), (p : Int)⟩ : Tok)]) from tokv_app X (⟨2, ⟨#[]⟩, numv s p (dgs s p), (p : Int)⟩ : Tok)] at hM; rw [hl14] at hA
        clear hl14
        replace hM := hM.drop 0
        replace hM : Mem _ _ [own 69 4 (.slice a12 (((X ++ [(⟨2, ⟨#[]⟩, numv s p (dgs s p), (p : Int)⟩ : Tok)])).length) c13) (((X ++ [(⟨2, ⟨#[]⟩, numv s p (dgs s p), (p : Int)⟩ : Tok)])).length) (tokv ((X ++ [(⟨2, ⟨#[]⟩, numv s p (dgs s p), (p : Int)⟩ : Tok)])))] _ := hM
        refine S.val hA (R.assign rfl) rfl ?_; clear hA a; intro a hA
        refine S.done ?_
        replace hA : St 122 [(0, _), (5, _), (8, _)] a := hA.sub ((.cons rfl (.cons rfl (.cons rfl .nil))))
        refine Ends.seq (Ends.seq ?_)
        refine Ends.cut (fun (a : Act) (wv : World) => St 122 [(0, .string s), (5, .slice a12 (((X ++ [(⟨2, ⟨#[]⟩, numv s p (dgs s p), (p : Int)⟩ : Tok)])).length) c13), (8, .int .i64 (((p + dgs s p : Nat) : Int))), (70, .bool (decide (((((p + dgs s p : Nat) : Int)) < ((s.size : Int)) ∧ (kb s (p + dgs s p)) = 3))))] a ∧ Mem w nof [own 69 4 (.slice a12 (((X ++ [(⟨2, ⟨#[]⟩, numv s p (dgs s p), (p : Int)⟩ : Tok)])).length) c13) (((X ++ [(⟨2, ⟨#[]⟩, numv s p (dgs s p), (p : Int)⟩ : Tok)])).length) (tokv ((X ++ [(⟨2, ⟨#[]⟩, numv s p (dgs s p), (p : Int)⟩ : Tok)])))] wv) ?_ (fun k2 hJ => ?_)
        ·
         clear hA hM a; rintro a w10 ⟨hA, hM⟩
         refine Ends.ite hA rfl (fun hc15 => ?_) (fun hc15 => ?_)
         ·
          refine Ends.seq (Ends.region ?_)
          refine S.val hA (R.move rfl) rfl ?_; clear hA a; intro a hA
          refine S.val hA (R.assign rfl) rfl ?_; clear hA a; intro a hA
          refine S.val hA (R.assign rfl) rfl ?_; clear hA a; intro a hA
          refine S.val hA (R.assign rfl) rfl ?_; clear hA a; intro a hA
          refine S.done ?_
          refine Ends.ret3 Tryd.func49 Tryd.results49 hA rfl rfl rfl ?_
          have e1 : lst s p = (2, p + dgs s p, [⟨2, ⟨#[]⟩, numv s p (dgs s p), p⟩]) := by
           have h9 := hc15
           rw [lst_2 hc7, if_neg hs8, if_neg hs9, if_pos (h9.2)]
          have hd0 := dgs_pos hc7
          have hd1 := dgs_le s (Nat.le_of_lt hp)
          have he := scF_err (X := X) (f := f) hp (by omega) (by rw [e1]; show (2 : Int) ≠ 0; decide)
          simp only [e1] at he
          have e0 : scan s = ([], ((p + dgs s p : Nat) : Int), 2) := hsc.symm.trans he
          rw [e0]
          exact ⟨none, 0, rfl, hM.nilL.ownNil 69 4⟩
         ·
          refine Ends.skip (Ends.region ?_)
          refine S.val hA (R.move rfl) rfl ?_; clear hA a; intro a hA
          refine S.val hA (R.assign rfl) rfl ?_; clear hA a; intro a hA
          refine S.done ?_
          refine Ends.inBlock (Ends.inBlock ?_)
          have e1 : lst s p = (0, p + dgs s p, [⟨2, ⟨#[]⟩, numv s p (dgs s p), p⟩]) := by
           have h9 := hc15
           rw [lst_2 hc7, if_neg hs8, if_neg hs9, if_neg (fun h8 => h9 ⟨by have := kb_lt (s := s) (p := p + dgs s p) (by omega); omega, h8⟩)]
          have hd0 := dgs_pos hc7
          have hd1 := dgs_le s (Nat.le_of_lt hp)
          have hgo := scF_go (X := X) (f := f) hp (by omega) (by rw [e1])
          simp only [e1, List.append_nil] at hgo
          exact hNext ((p + dgs s p, f - 1, (X ++ [(⟨2, ⟨#[]⟩, numv s p (dgs s p), (p : Int)⟩ : Tok)]), a12, c13)) _ _ ((by show f - 1 < f; omega)) ⟨hA.sub ((.cons rfl (.cons rfl (.cons rfl .nil)))), hM, (by omega), (hgo.symm.trans hsc), (by simp only [List.length_append, List.length_cons, List.length_nil]; omega), (by omega)⟩
        ·
         refine Ends.region ?_
         refine S.val hA (R.move rfl) rfl ?_; clear hA a; intro a hA
         refine S.val hA (R.move rfl) rfl ?_; clear hA a; intro a hA
         refine S.val hA (R.lenStr Tryd.underlying9 rfl rfl) rfl ?_; clear hA a; intro a hA
         refine S.val hA (R.lss rfl rfl) rfl ?_; clear hA a; intro a hA
         refine S.val hA (R.move rfl) rfl ?_; clear hA a; intro a hA
         refine hA.split (d := 64) rfl ?_ ?_
         ·
          clear hA; intro hg16 hA
          refine S.valg (dj := 64) hA (by kernel_rfl) rfl (R.move rfl) rfl ?_; clear hA a; intro a hA
          refine S.valg (dj := 64) hA (by kernel_rfl) rfl (R.move rfl) rfl ?_; clear hA a; intro a hA
          refine S.valg (dj := 64) hA (by kernel_rfl) rfl (R.to (v := .int .u8 (byt s (p + dgs s p))) (R.idxS Tryd.underlying9 rfl rfl (by omega)) (by first | rfl | (congr 2; done) | (congr 2; omega))) rfl ?_; clear hA a; intro a hA
          refine S.callg (dj := 64) hA (by kernel_rfl) rfl (R.callF Tryd.func67 rfl rfl rfl) rfl (rkind_at (s := s) (p := (p + dgs s p)) (by omega) _) ?_; clear hA a
          rintro e w11 ⟨rfl, hb⟩
          replace hM := hM.callB hb; clear hb
          refine ⟨.int .i64 (kb s (p + dgs s p)), rfl, fun a hA => ?_⟩
          refine S.valg (dj := 64) hA (by kernel_rfl) rfl (R.eql rfl rfl) rfl ?_; clear hA a; intro a hA
          refine S.val hA (R.pickT rfl rfl) rfl ?_; clear hA a; intro a hA
          refine S.done ?_
          replace hA : St 122 [(0, _), (5, _), (8, _), (70, _)] a := hA.sub ((.cons rfl (.cons rfl (.cons rfl (.cons rfl .nil)))))
          exact hJ _ _ ⟨hA.sub (.cons rfl (.cons rfl (.cons rfl (.cons (by first | rfl | exact congrArg (fun b => some (Value.bool b)) (by first | exact decide_eq_decide.2 (by omega) | exact or_bool (by omega) | exact and_bool (by omega) | (simp; done) | (simp [hg16]; done) | (have h80 := hg16; (try simp at h80); simp [h80]; done) | exact (decide_eq_false (fun h9 => hg16 h9.1)).symm)) .nil)))), hM⟩
         ·
          clear hA; intro hg16 hA
          refine S.no (dj := 64) hA (by kernel_rfl) rfl rfl rfl ?_; clear hA a; intro a hA
          refine S.no (dj := 64) hA (by kernel_rfl) rfl rfl rfl ?_; clear hA a; intro a hA
          refine S.no (dj := 64) hA (by kernel_rfl) rfl rfl rfl ?_; clear hA a; intro a hA
          refine S.no (dj := 64) hA (by kernel_rfl) rfl rfl rfl ?_; clear hA a; intro a hA
          refine S.no (dj := 64) hA (by kernel_rfl) rfl rfl rfl ?_; clear hA a; intro a hA
          refine S.val hA (R.pickF rfl rfl) rfl ?_; clear hA a; intro a hA
          refine S.done ?_
          replace hA : St 122 [(0, _), (5, _), (8, _), (70, _)] a := hA.sub ((.cons rfl (.cons rfl (.cons rfl (.cons rfl .nil)))))
          exact hJ _ _ ⟨hA.sub (.cons rfl (.cons rfl (.cons rfl (.cons (by first | rfl | exact congrArg (fun b => some (Value.bool b)) (by first | exact decide_eq_decide.2 (by omega) | exact or_bool (by omega) | exact and_bool (by omega) | (simp; done) | (simp [hg16]; done) | (have h80 := hg16; (try simp at h80); simp [h80]; done) | exact (decide_eq_false (fun h9 => hg16 h9.1)).symm)) .nil)))), hM⟩
     ·
      refine Ends.seq (Ends.region ?_)
      refine S.val hA (R.eql rfl rfl) rfl ?_; clear hA a; intro a hA
      refine S.val hA (R.assign rfl) rfl ?_; clear hA a; intro a hA
      refine S.done ?_
      refine Ends.ite hA rfl (fun hc17 => ?_) (fun hc17 => ?_)
      ·
       refine Ends.seq (Ends.region ?_)
       refine S.val hA (R.move rfl) rfl ?_; clear hA a; intro a hA
       refine S.val hA (R.assign rfl) rfl ?_; clear hA a; intro a hA
       refine S.done ?_
       replace hA : St 122 [(0, _), (5, _), (6, _), (10, _)] a := hA.sub ((.cons rfl (.cons rfl (.cons rfl (.cons rfl .nil)))))
       refine Ends.seq (Ends.block ?_)
       refine Ends.loop (σ := Nat) (fun q (a : Act) (wv : World) => St 122 [(0, .string s), (5, .slice v X.length cap), (6, .int .i64 ((p : Int))), (10, .int .i64 (((p + q : Nat) : Int)))] a ∧ Mem w nof [own 69 4 (.slice v X.length cap) X.length (tokv X)] wv ∧ (p + q ≤ s.size) ∧ (∀ j, j < q → kb s (p + j) = 3)) (fun q => s.size - q) 0 ⟨hA.sub ((.cons rfl (.cons rfl (.cons rfl (.cons rfl .nil))))), hM, (by omega), (fun j hj => absurd hj (Nat.not_lt_zero j))⟩ ?_
       clear hA hM a
       rintro q a w12 ⟨hA, hM, hq, hl⟩ hNext2
       refine Ends.seq (Ends.seq ?_)
       refine Ends.cut (fun (a : Act) (wv : World) => St 122 [(0, .string s), (5, .slice v X.length cap), (6, .int .i64 ((p : Int))), (10, .int .i64 (((p + q : Nat) : Int))), (86, .bool (decide (((((p + q : Nat) : Int)) < ((s.size : Int)) ∧ (kb s (p + q)) = 3))))] a ∧ Mem w nof [own 69 4 (.slice v X.length cap) X.length (tokv X)] wv) ?_ (fun k2 hJ => ?_)
       ·
        clear hA hM a; rintro a w13 ⟨hA, hM⟩
        refine Ends.ite hA rfl (fun hc18 => ?_) (fun hc18 => ?_)
        ·
         refine Ends.skip (Ends.block (Ends.region ?_))
         refine S.val hA (R.move rfl) rfl ?_; clear hA a; intro a hA
         refine S.val hA (R.addI rfl rfl (r := (((p + q : Nat) : Int)) + 1) rfl (by omega)) rfl ?_; clear hA a; intro a hA
         refine S.val hA (R.assign rfl) rfl ?_; clear hA a; intro a hA
         refine S.done ?_
         refine Ends.inBlock ?_
         exact hNext2 ((q + 1)) _ _ ((by show s.size - (q + 1) < s.size - q; omega)) ⟨hA.sub ((.cons rfl (.cons rfl (.cons rfl (.cons rfl .nil))))), hM, (by omega), (fun j hj => by rcases Nat.lt_or_ge j q with g | g; exact hl j g; have e : j = q := (by omega); subst e; exact hc18.2)⟩
        ·
         have hlq : ltrs s p = q := ltrs_uniq hl (by have h9 := hc18; intro h8; exact h9 ⟨by have := kb_lt (s := s) (p := p + q) (by omega); omega, h8⟩)
         have hl0 := ltrs_pos hc17
         rw [hlq] at hl0
         refine Ends.exit rfl ?_
         refine Ends.seq (Ends.seq (Ends.region ?_))
         refine S.val hA (R.move rfl) rfl ?_; clear hA a; intro a hA
         refine S.val hA (R.move rfl) rfl ?_; clear hA a; intro a hA
         refine S.val hA (R.subI rfl rfl (r := (q : Int)) (by omega) (by omega)) rfl ?_; clear hA a; intro a hA
         refine S.val hA (R.gtr rfl rfl) rfl ?_; clear hA a; intro a hA
         refine S.done ?_
         replace hA : St 122 [(0, _), (5, _), (6, _), (10, _), (92, _)] a := hA.sub ((.cons rfl (.cons rfl (.cons rfl (.cons rfl (.cons rfl .nil))))))
         refine Ends.ite hA rfl (fun hc19 => ?_) (fun hc19 => ?_)
         ·
          refine Ends.seq (Ends.region ?_)
          refine S.val hA (R.move rfl) rfl ?_; clear hA a; intro a hA
          refine S.val hA (R.assign rfl) rfl ?_; clear hA a; intro a hA
          refine S.val hA (R.assign rfl) rfl ?_; clear hA a; intro a hA
          refine S.val hA (R.assign rfl) rfl ?_; clear hA a; intro a hA
          refine S.done ?_
          refine Ends.ret3 Tryd.func49 Tryd.results49 hA rfl rfl rfl ?_
          have e1 : lst s p = (5, p, []) := by rw [lst_3 hc17, hlq, if_pos (by omega)]
          have he := scF_err (X := X) (f := f) hp (by omega) (by rw [e1]; show (5 : Int) ≠ 0; decide)
          simp only [e1] at he
          have e0 : scan s = ([], ((p : Nat) : Int), 5) := hsc.symm.trans he
          rw [e0]
          exact ⟨none, 0, rfl, hM.nilL.ownNil 69 4⟩
         ·
          refine Ends.skip (Ends.seq (Ends.region ?_))
          refine S.val hA (R.move rfl) rfl ?_; clear hA a; intro a hA
          refine S.val hA (R.move rfl) rfl ?_; clear hA a; intro a hA
          refine S.val hA (R.move rfl) rfl ?_; clear hA a; intro a hA
          refine S.val hA (R.move rfl) rfl ?_; clear hA a; intro a hA
          refine S.val hA (R.to (v := .string ((s.extract p (p + q)))) (R.sliceSS Tryd.underlying9 rfl rfl rfl (by omega)) (by first | rfl | (congr 2; done) | (congr 2 <;> omega))) rfl ?_; clear hA a; intro a hA
          refine S.val hA (R.move rfl) rfl ?_; clear hA a; intro a hA
          refine S.val hA (R.build (cells := #[.int .i64 1, .string ((s.extract p (p + q))), .int .i64 0, .int .i64 ((p : Int))]) rfl (by kernel_rfl)) rfl ?_; clear hA a; intro a hA
          refine S.buildSl (cells := #[.int .i64 1, .string ((s.extract p (p + q))), .int .i64 0, .int .i64 ((p : Int))]) hA hM Tryd.underlying65 info69 rfl rfl rfl rfl (by kernel_rfl) rfl ?_; clear hA hM a; intro b20 w14 hb21 hM a hA
          replace hM : Mem _ _ [pt b20 #[.int .i64 1, .string ((s.extract p (p + q))), .int .i64 0, .int .i64 ((p : Int))] 69, own 69 4 (.slice v X.length cap) X.length (tokv X)] _ := hM
          refine S.append (k := 1) (k2 := 0) hA hM rfl rfl Tryd.underlying65 info69 rfl rfl rfl rfl rfl rfl rfl rfl rfl (by first | omega | (show (_ + 1) * 40 ≤ 140737488355328; omega) | (unfold maxLen; omega)) (by first | omega | (show (_ + 1) * 40 ≤ 140737488355328; omega) | (unfold maxLen; omega)) rfl ?_; clear hA hM a; intro a22 c23 w15 hM a hA
          replace hM : Mem _ _ [pt b20 #[.int .i64 1, .string ((s.extract p (p + q))), .int .i64 0, .int .i64 ((p : Int))] 69, own 69 4 (.slice a22 (X.length + 1) c23) (X.length + 1) (tokv X ++ [.int .i64 1, .string ((s.extract p (p + q))), .int .i64 0, .int .i64 ((p : Int))])] _ := hM
          have hl24 : X.length + 1 = (X ++ [(⟨1, (s.extract p (p + q)), 0, (p : Int)⟩ : Tok)]).length := by simp
          rw [hl24, show tokv X ++ [.int .i64 1, .string ((s.extract p (p + q))), .int .i64 0, .int .i64 ((p : Int))] = tokv (X ++ [(⟨1, (s.extract p (p + q)), 0, (p : Int)⟩ : Tok)]) from tokv_app X (⟨1, (s.extract p (p + q)), 0, (p : Int)⟩ : Tok)] at hM; rw [hl24] at hA
          clear hl24
          replace hM := hM.drop 0
          replace hM : Mem _ _ [own 69 4 (.slice a22 (((X ++ [(⟨1, (s.extract p (p + q)), 0, (p : Int)⟩ : Tok)])).length) c23) (((X ++ [(⟨1, (s.extract p (p + q)), 0, (p : Int)⟩ : Tok)])).length) (tokv ((X ++ [(⟨1, (s.extract p (p + q)), 0, (p : Int)⟩ : Tok)])))] _ := hM
          refine S.val hA (R.assign rfl) rfl ?_; clear hA a; intro a hA
          refine S.done ?_
          replace hA : St 122 [(0, _), (5, _), (10, _)] a := hA.sub ((.cons rfl (.cons rfl (.cons rfl .nil))))
          refine Ends.seq (Ends.seq ?_)
          refine Ends.cut (fun (a : Act) (wv : World) => St 122 [(0, .string s), (5, .slice a22 (((X ++ [(⟨1, (s.extract p (p + q)), 0, (p : Int)⟩ : Tok)])).length) c23), (10, .int .i64 (((p + q : Nat) : Int))), (113, .bool (decide (((((p + q : Nat) : Int)) < ((s.size : Int)) ∧ (kb s (p + q)) = 2))))] a ∧ Mem w nof [own 69 4 (.slice a22 (((X ++ [(⟨1, (s.extract p (p + q)), 0, (p : Int)⟩ : Tok)])).length) c23) (((X ++ [(⟨1, (s.extract p (p + q)), 0, (p : Int)⟩ : Tok)])).length) (tokv ((X ++ [(⟨1, (s.extract p (p + q)), 0, (p : Int)⟩ : Tok)])))] wv) ?_ (fun k2 hJ => ?_)
          ·
           clear hA hM a; rintro a w16 ⟨hA, hM⟩
           refine Ends.ite hA rfl (fun hc25 => ?_) (fun hc25 => ?_)
           ·
            refine Ends.seq (Ends.region ?_)
            refine S.val hA (R.move rfl) rfl ?_; clear hA a; intro a hA
            refine S.val hA (R.assign rfl) rfl ?_; clear hA a; intro a hA
            refine S.val hA (R.assign rfl) rfl ?_; clear hA a; intro a hA
            refine S.val hA (R.assign rfl) rfl ?_; clear hA a; intro a hA
            refine S.done ?_
            refine Ends.ret3 Tryd.func49 Tryd.results49 hA rfl rfl rfl ?_
            have e1 : lst s p = (2, p + q, [⟨1, s.extract p (p + q), 0, p⟩]) := by
             have h9 := hc25
             rw [lst_3 hc17, hlq, if_neg (by omega), if_pos (h9.2)]
            have he := scF_err (X := X) (f := f) hp (by omega) (by rw [e1]; show (2 : Int) ≠ 0; decide)
            simp only [e1] at he
            have e0 : scan s = ([], ((p + q : Nat) : Int), 2) := hsc.symm.trans he
            rw [e0]
            exact ⟨none, 0, rfl, hM.nilL.ownNil 69 4⟩
           ·
            refine Ends.skip (Ends.region ?_)
            refine S.val hA (R.move rfl) rfl ?_; clear hA a; intro a hA
            refine S.val hA (R.assign rfl) rfl ?_; clear hA a; intro a hA
            refine S.done ?_
            refine Ends.inBlock (Ends.inBlock ?_)
            have e1 : lst s p = (0, p + q, [⟨1, s.extract p (p + q), 0, p⟩]) := by
             have h9 := hc25
             rw [lst_3 hc17, hlq, if_neg (by omega), if_neg (fun h8 => h9 ⟨by have := kb_lt (s := s) (p := p + q) (by omega); omega, h8⟩)]
            have hgo := scF_go (X := X) (f := f) hp (by omega) (by rw [e1])
            simp only [e1, List.append_nil] at hgo
            exact hNext ((p + q, f - 1, (X ++ [(⟨1, (s.extract p (p + q)), 0, (p : Int)⟩ : Tok)]), a22, c23)) _ _ ((by show f - 1 < f; omega)) ⟨hA.sub ((.cons rfl (.cons rfl (.cons rfl .nil)))), hM, (by omega), (hgo.symm.trans hsc), (by simp only [List.length_append, List.length_cons, List.length_nil]; omega), (by omega)⟩
          ·
           refine Ends.region ?_
           refine S.val hA (R.move rfl) rfl ?_; clear hA a; intro a hA
           refine S.val hA (R.move rfl) rfl ?_; clear hA a; intro a hA
           refine S.val hA (R.lenStr Tryd.underlying9 rfl rfl) rfl ?_; clear hA a; intro a hA
           refine S.val hA (R.lss rfl rfl) rfl ?_; clear hA a; intro a hA
           refine S.val hA (R.move rfl) rfl ?_; clear hA a; intro a hA
           refine hA.split (d := 107) rfl ?_ ?_
           ·
            clear hA; intro hg26 hA
            refine S.valg (dj := 107) hA (by kernel_rfl) rfl (R.move rfl) rfl ?_; clear hA a; intro a hA
            refine S.valg (dj := 107) hA (by kernel_rfl) rfl (R.move rfl) rfl ?_; clear hA a; intro a hA
            refine S.valg (dj := 107) hA (by kernel_rfl) rfl (R.to (v := .int .u8 (byt s (p + q))) (R.idxS Tryd.underlying9 rfl rfl (by omega)) (by first | rfl | (congr 2; done) | (congr 2; omega))) rfl ?_; clear hA a; intro a hA
            refine S.callg (dj := 107) hA (by kernel_rfl) rfl (R.callF Tryd.func67 rfl rfl rfl) rfl (rkind_at (s := s) (p := (p + q)) (by omega) _) ?_; clear hA a
            rintro e w17 ⟨rfl, hb⟩
            replace hM := hM.callB hb; clear hb
            refine ⟨.int .i64 (kb s (p + q)), rfl, fun a hA => ?_⟩
            refine S.valg (dj := 107) hA (by kernel_rfl) rfl (R.eql rfl rfl) rfl ?_; clear hA a; intro a hA
            refine S.val hA (R.pickT rfl rfl) rfl ?_; clear hA a; intro a hA
            refine S.done ?_
            replace hA : St 122 [(0, _), (5, _), (10, _), (113, _)] a := hA.sub ((.cons rfl (.cons rfl (.cons rfl (.cons rfl .nil)))))
            exact hJ _ _ ⟨hA.sub (.cons rfl (.cons rfl (.cons rfl (.cons (by first | rfl | exact congrArg (fun b => some (Value.bool b)) (by first | exact decide_eq_decide.2 (by omega) | exact or_bool (by omega) | exact and_bool (by omega) | (simp; done) | (simp [hg26]; done) | (have h80 := hg26; (try simp at h80); simp [h80]; done) | exact (decide_eq_false (fun h9 => hg26 h9.1)).symm)) .nil)))), hM⟩
           ·
            clear hA; intro hg26 hA
            refine S.no (dj := 107) hA (by kernel_rfl) rfl rfl rfl ?_; clear hA a; intro a hA
            refine S.no (dj := 107) hA (by kernel_rfl) rfl rfl rfl ?_; clear hA a; intro a hA
            refine S.no (dj := 107) hA (by kernel_rfl) rfl rfl rfl ?_; clear hA a; intro a hA
            refine S.no (dj := 107) hA (by kernel_rfl) rfl rfl rfl ?_; clear hA a; intro a hA
            refine S.no (dj := 107) hA (by kernel_rfl) rfl rfl rfl ?_; clear hA a; intro a hA
            refine S.val hA (R.pickF rfl rfl) rfl ?_; clear hA a; intro a hA
            refine S.done ?_
            replace hA : St 122 [(0, _), (5, _), (10, _), (113, _)] a := hA.sub ((.cons rfl (.cons rfl (.cons rfl (.cons rfl .nil)))))
            exact hJ _ _ ⟨hA.sub (.cons rfl (.cons rfl (.cons rfl (.cons (by first | rfl | exact congrArg (fun b => some (Value.bool b)) (by first | exact decide_eq_decide.2 (by omega) | exact or_bool (by omega) | exact and_bool (by omega) | (simp; done) | (simp [hg26]; done) | (have h80 := hg26; (try simp at h80); simp [h80]; done) | exact (decide_eq_false (fun h9 => hg26 h9.1)).symm)) .nil)))), hM⟩
       ·
        refine Ends.region ?_
        refine S.val hA (R.move rfl) rfl ?_; clear hA a; intro a hA
        refine S.val hA (R.move rfl) rfl ?_; clear hA a; intro a hA
        refine S.val hA (R.lenStr Tryd.underlying9 rfl rfl) rfl ?_; clear hA a; intro a hA
        refine S.val hA (R.lss rfl rfl) rfl ?_; clear hA a; intro a hA
        refine S.val hA (R.move rfl) rfl ?_; clear hA a; intro a hA
        refine hA.split (d := 80) rfl ?_ ?_
        ·
         clear hA; intro hg27 hA
         refine S.valg (dj := 80) hA (by kernel_rfl) rfl (R.move rfl) rfl ?_; clear hA a; intro a hA
         refine S.valg (dj := 80) hA (by kernel_rfl) rfl (R.move rfl) rfl ?_; clear hA a; intro a hA
         refine S.valg (dj := 80) hA (by kernel_rfl) rfl (R.to (v := .int .u8 (byt s (p + q))) (R.idxS Tryd.underlying9 rfl rfl (by omega)) (by first | rfl | (congr 2; done) | (congr 2; omega))) rfl ?_; clear hA a; intro a hA
         refine S.callg (dj := 80) hA (by kernel_rfl) rfl (R.callF Tryd.func67 rfl rfl rfl) rfl (rkind_at (s := s) (p := (p + q)) (by omega) _) ?_; clear hA a
         rintro e w18 ⟨rfl, hb⟩
         replace hM := hM.callB hb; clear hb
         refine ⟨.int .i64 (kb s (p + q)), rfl, fun a hA => ?_⟩
         refine S.valg (dj := 80) hA (by kernel_rfl) rfl (R.eql rfl rfl) rfl ?_; clear hA a; intro a hA
         refine S.val hA (R.pickT rfl rfl) rfl ?_; clear hA a; intro a hA
         refine S.done ?_
         replace hA : St 122 [(0, _), (5, _), (6, _), (10, _), (86, _)] a := hA.sub ((.cons rfl (.cons rfl (.cons rfl (.cons rfl (.cons rfl .nil))))))
         exact hJ _ _ ⟨hA.sub (.cons rfl (.cons rfl (.cons rfl (.cons rfl (.cons (by first | rfl | exact congrArg (fun b => some (Value.bool b)) (by first | exact decide_eq_decide.2 (by omega) | exact or_bool (by omega) | exact and_bool (by omega) | (simp; done) | (simp [hg27]; done) | (have h80 := hg27; (try simp at h80); simp [h80]; done) | exact (decide_eq_false (fun h9 => hg27 h9.1)).symm)) .nil))))), hM⟩
        ·
         clear hA; intro hg27 hA
         refine S.no (dj := 80) hA (by kernel_rfl) rfl rfl rfl ?_; clear hA a; intro a hA
         refine S.no (dj := 80) hA (by kernel_rfl) rfl rfl rfl ?_; clear hA a; intro a hA
         refine S.no (dj := 80) hA (by kernel_rfl) rfl rfl rfl ?_; clear hA a; intro a hA
         refine S.no (dj := 80) hA (by kernel_rfl) rfl rfl rfl ?_; clear hA a; intro a hA
         refine S.no (dj := 80) hA (by kernel_rfl) rfl rfl rfl ?_; clear hA a; intro a hA
         refine S.val hA (R.pickF rfl rfl) rfl ?_; clear hA a; intro a hA
         refine S.done ?_
         replace hA : St 122 [(0, _), (5, _), (6, _), (10, _), (86, _)] a := hA.sub ((.cons rfl (.cons rfl (.cons rfl (.cons rfl (.cons rfl .nil))))))
         exact hJ _ _ ⟨hA.sub (.cons rfl (.cons rfl (.cons rfl (.cons rfl (.cons (by first | rfl | exact congrArg (fun b => some (Value.bool b)) (by first | exact decide_eq_decide.2 (by omega) | exact or_bool (by omega) | exact and_bool (by omega) | (simp; done) | (simp [hg27]; done) | (have h80 := hg27; (try simp at h80); simp [h80]; done) | exact (decide_eq_false (fun h9 => hg27 h9.1)).symm)) .nil))))), hM⟩
      ·
       refine Ends.seq (Ends.region ?_)
       refine S.val hA (R.move rfl) rfl ?_; clear hA a; intro a hA
       refine S.val hA (R.assign rfl) rfl ?_; clear hA a; intro a hA
       refine S.val hA (R.assign rfl) rfl ?_; clear hA a; intro a hA
       refine S.val hA (R.assign rfl) rfl ?_; clear hA a; intro a hA
       refine S.done ?_
       replace hA : St 122 [(0, _), (2, _), (3, _), (4, _), (5, _), (6, _)] a := hA.sub ((.cons rfl (.cons rfl (.cons rfl (.cons rfl (.cons rfl (.cons rfl .nil)))))))
       refine Ends.ret3 Tryd.func49 Tryd.results49 hA rfl rfl rfl ?_
       have hk0 : kb s p = 0 := by rcases kb_rng s p with h | h | h | h | h <;> first | exact h | (exfalso; omega)
       have e1 := lst_0 hk0
       have he := scF_err (X := X) (f := f) hp (by omega) (by rw [e1]; show (2 : Int) ≠ 0; decide)
       simp only [e1] at he
       have e0 : scan s = ([], ((p : Nat) : Int), 2) := hsc.symm.trans he
       rw [e0]
       exact ⟨none, 0, rfl, hM.nilL.ownNil 69 4⟩
  ·
   refine Ends.exit rfl ?_
   replace hA : St 122 [(0, _), (5, _)] a := hA.sub ((.cons rfl (.cons rfl .nil)))
   refine Ends.seq (Ends.region ?_)
   refine S.val hA (R.move rfl) rfl ?_; clear hA a; intro a hA
   refine S.val hA (R.move rfl) rfl ?_; clear hA a; intro a hA
   refine S.val hA (R.lenStr Tryd.underlying9 rfl rfl) rfl ?_; clear hA a; intro a hA
   refine S.val hA (R.build (cells := #[.int .i64 3, .string (⟨#[]⟩), .int .i64 0, .int .i64 ((s.size : Int))]) rfl (by kernel_rfl)) rfl ?_; clear hA a; intro a hA
   refine S.buildSl (cells := #[.int .i64 3, .string (⟨#[]⟩), .int .i64 0, .int .i64 ((s.size : Int))]) hA hM Tryd.underlying65 info69 rfl rfl rfl rfl (by kernel_rfl) rfl ?_; clear hA hM a; intro b28 w19 hb29 hM a hA
   replace hM : Mem _ _ [pt b28 #[.int .i64 3, .string (⟨#[]⟩), .int .i64 0, .int .i64 ((s.size : Int))] 69, own 69 4 (.slice v X.length cap) X.length (tokv X)] _ := hM
   refine S.append (k := 1) (k2 := 0) hA hM rfl rfl Tryd.underlying65 info69 rfl rfl rfl rfl rfl rfl rfl rfl rfl (by first | omega | (show (_ + 1) * 40 ≤ 140737488355328; omega) | (unfold maxLen; omega)) (by first | omega | (show (_ + 1) * 40 ≤ 140737488355328; omega) | (unfold maxLen; omega)) rfl ?_; clear hA hM a; intro a30 c31 w20 hM a hA
   replace hM : Mem _ _ [pt b28 #[.int .i64 3, .string (⟨#[]⟩), .int .i64 0, .int .i64 ((s.size : Int))] 69, own 69 4 (.slice a30 (X.length + 1) c31) (X.length + 1) (tokv X ++ [.int .i64 3, .string (⟨#[]⟩), .int .i64 0, .int .i64 ((s.size : Int))])] _ := hM
   have hl32 : X.length + 1 = (X ++ [(⟨3, ⟨#[]⟩, 0, (s.size : Int)⟩ : Tok)]).length := by simp
   rw [hl32, show tokv X ++ [.int .i64 3, .string (⟨#[]⟩), .int .i64 0, .int .i64 ((s.size : Int))] = tokv (X ++ [(⟨3, ⟨#[]⟩, 0, (s.size : Int)⟩ : Tok)]) from tokv_app X (⟨3, ⟨#[]⟩, 0, (s.size : Int)⟩ : Tok)] at hM; rw [hl32] at hA
   clear hl32
   replace hM := hM.drop 0
   replace hM : Mem _ _ [own 69 4 (.slice a30 (((X ++ [(⟨3, ⟨#[]⟩, 0, (s.size : Int)⟩ : Tok)])).length) c31) (((X ++ [(⟨3, ⟨#[]⟩, 0, (s.size : Int)⟩ : Tok)])).length) (tokv ((X ++ [(⟨3, ⟨#[]⟩, 0, (s.size : Int)⟩ : Tok)])))] _ := hM
   refine S.val hA (R.assign rfl) rfl ?_; clear hA a; intro a hA
   refine S.val hA (R.assign rfl) rfl ?_; clear hA a; intro a hA
   refine S.val hA (R.assign rfl) rfl ?_; clear hA a; intro a hA
   refine S.done ?_
   replace hA : St 122 [(2, _), (3, _), (4, _)] a := hA.sub ((.cons rfl (.cons rfl (.cons rfl .nil))))
   refine Ends.ret3 Tryd.func49 Tryd.results49 hA rfl rfl rfl ?_
   replace hM := hM.firstN 1
   replace hM : Mem _ _ [own 69 4 (.slice a30 (((X ++ [(⟨3, ⟨#[]⟩, 0, (s.size : Int)⟩ : Tok)])).length) c31) (((X ++ [(⟨3, ⟨#[]⟩, 0, (s.size : Int)⟩ : Tok)])).length) (tokv ((X ++ [(⟨3, ⟨#[]⟩, 0, (s.size : Int)⟩ : Tok)])))] _ := hM
   have e0 : scan s = (X ++ [tend s], 0, 0) := hsc.symm.trans (scF_end (by omega) _ _)
   rw [e0]
   exact ⟨a30, c31, rfl, hM⟩
end Go.Proofs.YtakfcekfmdjklaaDoor
namespace Go.Proofs.YtakfcekfmdjklaaDoor
open Go.RowKit
theorem rscan_eq (s : ByteArray) (hsz : s.size ≤ 9223372036854775807) (X : List Tok) (p e0 : Int) (h : scan s = (X, p, e0)) (w : World) : Calls Tryd.prog 49 #[.string s] w fun e w' => ∃ a cap, e = .returned (.tuple #[.slice a X.length cap, .int .i64 p, .int .i64 e0]) ∧ Mem w nof [own 69 4 (.slice a X.length cap) X.length (tokv X)] w' := by
  have h1 := rscan_any s hsz w
  rwa [h] at h1
section
variable {w0 w w' : World} {F : Nat → Prop} {L : List Ck}
theorem Mem.tokRow {k g cap i : Nat} {e : TypeId} {X : List Tok} (hM : Mem w0 F L w) (hk : ith L k = some (own e 4 (.slice (some ⟨g, 0, none⟩) X.length cap) X.length (tokv X))) (hi : i < X.length) : w.rangeAt g (i * 4) [.int .i64 (X.getD i tz).k, .string (X.getD i tz).x, .int .i64 (X.getD i tz).n, .int .i64 (X.getD i tz).a] := by
  obtain ⟨h0, h1, h2, h3⟩ := tokv_get X i hi
  intro j v hj
  refine hM.ownCell hk (i := i * 4 + j) ?_
  match j, hj with
  | 0, hj => rw [← hj]; exact h0
  | 1, hj => rw [← hj]; exact h1
  | 2, hj => rw [← hj]; exact h2
  | 3, hj => rw [← hj]; exact h3
  | j + 4, hj => cases hj
end
theorem scF_len (s : ByteArray) : ∀ f p X, X.length + (s.size - p) ≤ 900000 → X.length ≤ p → p ≤ s.size → s.size ≤ 900000 → (scF s f p X).1.length ≤ 1000000
  | 0, p, X, h, _, _, _ => by simp [scF]; omega
  | f + 1, p, X, h, h2, h3, h4 => by
    rw [scF]
    split
    · rename_i hp
      have hbd := lst_bd hp
      split
      · simp
      · rename_i he
        have he' : (lst s p).1 = 0 := Classical.byContradiction he
        have := hbd.2.2.1 he'
        exact scF_len s f _ _ (by rw [List.length_append]; omega) (by rw [List.length_append]; omega) hbd.2.1 h4
    · simp; omega
theorem scan_len (s : ByteArray) : (scan s).1.length ≤ 1000000 := by
  unfold scan
  split
  · simp
  · exact scF_len s _ _ _ (by simp; omega) (by simp) (by omega) (by omega)
end Go.Proofs.YtakfcekfmdjklaaDoor
namespace Go.Proofs.YtakfcekfmdjklaaDoor
open Go.RowKit
section
variable {P : Program} {l : List (Nat × Value)} {w : World} {ty : TypeId} {x y z : Operand} {k k' : IntKind} {m n : Int} {t yt : TypeId}
theorem R.sliceR1 {e : TypeId} {g o o2 len cap sz : Nat} {j : TypeInfo} (ht : P.underlying t = some (.slice e)) (hj : P.info? e = some j) (h1 : j.size = sz) (hx : opv l x = some (.slice (some ⟨g, o, none⟩) len cap)) (hy : opv l y = some (.int k 1)) (hc : 1 < len) (hcc : len ≤ cap) (ho : o + sz = o2) :
    Run P l w (.slice t x (some y) none none) ty (.slice (some ⟨g, o2, none⟩) (len - 1) (cap - 1)) w := fun ev hev _ _ _ _ => by
  subst ho
  have h1' : (Instr.slice t (.slice (some ⟨g, o, none⟩) len cap) (some (.int k 1)) none none).run P w = .ok (.slice (some ⟨g, o + sz, none⟩) (len - 1) (cap - 1)) w := by
    simp only [Instr.slice, Sem.run_bind, run_underlying ht, Result.andThen_ok, Instr.sliceBounds, Instr.sliceBound, asIntOf, Sem.run_pure]
    have e1 : (1 : Nat) ≤ len := by omega
    have e2 : (1 : Nat) ≤ cap := by omega
    have e3 : ¬ cap = 1 := by omega
    simp [e1, e2, e3, hcc, run_sizeOf_of hj, h1, Addr.add]
    repeat' split
    all_goals first | rfl | omega | (simp_all; done)
  have h2 : (Instr.sliceAt t (.slice (some ⟨g, o, none⟩) len cap) (some (.int k 1)) none none).run P w = .ok (.slice (some ⟨g, o + sz, none⟩) (len - 1) (cap - 1)) w := by
    unfold Instr.sliceAt
    simp only [Sem.run_bind, run_underlying ht, Result.andThen_ok]
    exact h1'
  simp [execOp, hev _ _ hx, hev _ _ hy, h2]
end
set_option maxRecDepth 100000 in
set_option maxHeartbeats 400000 in
theorem next06 (g rb j cap : Nat) (at0 : Int) (X : List Tok) (hX : Toks X) (hj : j < X.length) (hcap : X.length ≤ cap) (w : World) (hM : Mem w (feet [pt rb #[.slice (some ⟨g, j * 4, none⟩) (X.length - j) (cap - j), .int .i64 at0] 62, own 77 4 (.slice ((some ⟨g, 0, none⟩)) X.length cap) X.length (tokv X)]) [pt rb #[.slice (some ⟨g, j * 4, none⟩) (X.length - j) (cap - j), .int .i64 at0] 62, own 77 4 (.slice ((some ⟨g, 0, none⟩)) X.length cap) X.length (tokv X)] w) :
    Calls Tryd.prog 79 #[.pointer (some ⟨rb, 0, none⟩)] w fun e w' => e = .returned (.agg #[.int .i64 ((X.getD j tz).k), .string ((X.getD j tz).x), .int .i64 ((X.getD j tz).n), .int .i64 ((X.getD j tz).a)]) ∧ Mem w (feet [pt rb #[.slice (some ⟨g, j * 4, none⟩) (X.length - j) (cap - j), .int .i64 at0] 62, own 77 4 (.slice ((some ⟨g, 0, none⟩)) X.length cap) X.length (tokv X)]) [pt rb #[.slice (some ⟨g, j * 4, none⟩) (X.length - j) (cap - j), .int .i64 at0] 62, own 77 4 (.slice ((some ⟨g, 0, none⟩)) X.length cap) X.length (tokv X)] w' := by
  have hbs := Below.refl (B := w.heap.size) w
  have hlX := hX.len
  refine Calls.of_ends (vs := [.pointer (some ⟨rb, 0, none⟩)]) Tryd.func79 rfl Tryd.ntmps79 rfl ?_
  intro a hA
  replace hA : St 9 [(0, _)] a := hA
  refine Ends.seq (Ends.region ?_)
  refine S.alloc hA hM info77 rfl rfl ?_; clear hA hM a; intro b1 w1 hb2 hM a hA
  replace hM : Mem _ _ [pt b1 #[.int .i64 0, .string (⟨#[]⟩), .int .i64 0, .int .i64 0] 77, pt rb #[.slice (some ⟨g, j * 4, none⟩) (X.length - j) (cap - j), .int .i64 at0] 62, own 77 4 (.slice ((some ⟨g, 0, none⟩)) X.length cap) X.length (tokv X)] _ := hM
  refine S.done ?_
  refine Ends.seq (Ends.region ?_)
  refine S.val hA (R.move rfl) rfl ?_; clear hA a; intro a hA
  refine S.val hA (R.nilCheck rfl) rfl ?_; clear hA a; intro a hA
  refine S.val hA (R.fieldAddr (q := 0) fi62_0 rfl rfl rfl) rfl ?_; clear hA a; intro a hA
  refine S.val hA (R.load sz48 rfl (hM.cell (k := 1) rfl rfl)) rfl ?_; clear hA a; intro a hA
  refine S.val hA (R.indexAddr (q := j * 4) sl48 rfl rfl (by omega) (by omega)) rfl ?_; clear hA a; intro a hA
  refine S.val hA (R.loadA sz77 rfl (hM.tokRow (k := 2) rfl (i := j) (by omega)) rfl) rfl ?_; clear hA a; intro a hA
  refine S.storeA (k := 0) hA hM sz77 rfl rfl rfl rfl rfl rfl ?_; clear hM
  intro w2 hM
  replace hM : Mem _ _ [pt b1 #[.int .i64 ((X.getD j tz).k), .string ((X.getD j tz).x), .int .i64 ((X.getD j tz).n), .int .i64 ((X.getD j tz).a)] 77, pt rb #[.slice (some ⟨g, j * 4, none⟩) (X.length - j) (cap - j), .int .i64 at0] 62, own 77 4 (.slice ((some ⟨g, 0, none⟩)) X.length cap) X.length (tokv X)] _ := hM
  refine S.done ?_
  replace hA : St 9 [(2, _)] a := hA.sub ((.cons rfl .nil))
  refine Ends.retC (k := 0) Tryd.func79 Tryd.results79 hA hM rfl rfl sz77 rfl ?_
  replace hM := hM.front (k := 2) rfl
  replace hM := hM.front (k := 2) rfl
  replace hM : Mem _ _ [pt rb #[.slice (some ⟨g, j * 4, none⟩) (X.length - j) (cap - j), .int .i64 at0] 62, own 77 4 (.slice ((some ⟨g, 0, none⟩)) X.length cap) X.length (tokv X), pt b1 #[.int .i64 ((X.getD j tz).k), .string ((X.getD j tz).x), .int .i64 ((X.getD j tz).n), .int .i64 ((X.getD j tz).a)] 77] _ := hM
  replace hM := hM.firstN 2
  replace hM : Mem _ _ [pt rb #[.slice (some ⟨g, j * 4, none⟩) (X.length - j) (cap - j), .int .i64 at0] 62, own 77 4 (.slice ((some ⟨g, 0, none⟩)) X.length cap) X.length (tokv X)] _ := hM
  exact ⟨rfl, hM⟩
set_option maxRecDepth 100000 in
set_option maxHeartbeats 400000 in
theorem take06 (g rb j cap : Nat) (at0 : Int) (X : List Tok) (hX : Toks X) (hj : j < X.length) (hcap : X.length ≤ cap) (hj1 : j + 1 < X.length) (w : World) (hM : Mem w (feet [pt rb #[.slice (some ⟨g, j * 4, none⟩) (X.length - j) (cap - j), .int .i64 at0] 62, own 77 4 (.slice ((some ⟨g, 0, none⟩)) X.length cap) X.length (tokv X)]) [pt rb #[.slice (some ⟨g, j * 4, none⟩) (X.length - j) (cap - j), .int .i64 at0] 62, own 77 4 (.slice ((some ⟨g, 0, none⟩)) X.length cap) X.length (tokv X)] w) :
    Calls Tryd.prog 80 #[.pointer (some ⟨rb, 0, none⟩)] w fun e w' => e = .returned (.tuple #[]) ∧ Mem w (feet [pt rb #[.slice (some ⟨g, j * 4, none⟩) (X.length - j) (cap - j), .int .i64 at0] 62, own 77 4 (.slice ((some ⟨g, 0, none⟩)) X.length cap) X.length (tokv X)]) [pt rb #[.slice (some ⟨g, (j + 1) * 4, none⟩) (X.length - (j + 1)) (cap - (j + 1)), .int .i64 at0] 62, own 77 4 (.slice ((some ⟨g, 0, none⟩)) X.length cap) X.length (tokv X)] w' := by
  have hbs := Below.refl (B := w.heap.size) w
  have hlX := hX.len
  refine Calls.of_ends (vs := [.pointer (some ⟨rb, 0, none⟩)]) Tryd.func80 rfl Tryd.ntmps80 rfl ?_
  intro a hA
  replace hA : St 10 [(0, _)] a := hA
  refine Ends.region ?_
  refine S.val hA (R.move rfl) rfl ?_; clear hA a; intro a hA
  refine S.val hA (R.move rfl) rfl ?_; clear hA a; intro a hA
  refine S.val hA (R.nilCheck rfl) rfl ?_; clear hA a; intro a hA
  refine S.val hA (R.fieldAddr (q := 0) fi62_0 rfl rfl rfl) rfl ?_; clear hA a; intro a hA
  refine S.val hA (R.load sz48 rfl (hM.cell (k := 0) rfl rfl)) rfl ?_; clear hA a; intro a hA
  refine S.val hA (R.to (v := .slice (some ⟨g, (j + 1) * 4, none⟩) (X.length - (j + 1)) (cap - (j + 1))) (R.sliceR1 (sz := 4) (o2 := (j + 1) * 4) Tryd.underlying48 info77 rfl rfl rfl (by omega) (by omega) (by omega)) (by rw [Nat.sub_sub, Nat.sub_sub])) rfl ?_; clear hA a; intro a hA
  refine S.val hA (R.nilCheck rfl) rfl ?_; clear hA a; intro a hA
  refine S.val hA (R.fieldAddr (q := 0) fi62_0 rfl rfl rfl) rfl ?_; clear hA a; intro a hA
  refine S.store (k := 0) hA hM sz48 rfl rfl rfl rfl rfl ?_; clear hM
  intro w1 hM
  replace hM : Mem _ _ [pt rb #[.slice (some ⟨g, (j + 1) * 4, none⟩) (X.length - (j + 1)) (cap - (j + 1)), .int .i64 at0] 62, own 77 4 (.slice ((some ⟨g, 0, none⟩)) X.length cap) X.length (tokv X)] _ := hM
  refine S.done ?_
  replace hA : St 10 [] a := hA.sub (.nil)
  refine Ends.end0 Tryd.func80 Tryd.results80 hA ?_
  replace hM := hM.firstN 2
  replace hM : Mem _ _ [pt rb #[.slice (some ⟨g, (j + 1) * 4, none⟩) (X.length - (j + 1)) (cap - (j + 1)), .int .i64 at0] 62, own 77 4 (.slice ((some ⟨g, 0, none⟩)) X.length cap) X.length (tokv X)] _ := hM
  exact ⟨rfl, hM⟩
set_option maxRecDepth 100000 in
set_option maxHeartbeats 400000 in
theorem number06 (g rb j cap : Nat) (at0 : Int) (X : List Tok) (hX : Toks X) (hj : j < X.length) (hcap : X.length ≤ cap) (most : Int) (w : World) (hM : Mem w (feet [pt rb #[.slice (some ⟨g, j * 4, none⟩) (X.length - j) (cap - j), .int .i64 at0] 62, own 77 4 (.slice ((some ⟨g, 0, none⟩)) X.length cap) X.length (tokv X)]) [pt rb #[.slice (some ⟨g, j * 4, none⟩) (X.length - j) (cap - j), .int .i64 at0] 62, own 77 4 (.slice ((some ⟨g, 0, none⟩)) X.length cap) X.length (tokv X)] w) :
  Calls Tryd.prog 81 #[.pointer (some ⟨rb, 0, none⟩), .int .i64 most] w fun e w' => e = .returned (.tuple #[.int .i64 (numN (X.getD j tz) most), .int .i64 (numR (X.getD j tz) most)]) ∧ Mem w (feet [pt rb #[.slice (some ⟨g, j * 4, none⟩) (X.length - j) (cap - j), .int .i64 at0] 62, own 77 4 (.slice ((some ⟨g, 0, none⟩)) X.length cap) X.length (tokv X)]) [pt rb #[.slice (some ⟨g, (nxJ j (numR (X.getD j tz) most)) * 4, none⟩) (X.length - (nxJ j (numR (X.getD j tz) most))) (cap - (nxJ j (numR (X.getD j tz) most))), .int .i64 ((X.getD j tz).a)] 62, own 77 4 (.slice ((some ⟨g, 0, none⟩)) X.length cap) X.length (tokv X)] w' := by
 have hbs := Below.refl (B := w.heap.size) w
 have hlX := hX.len
 refine Calls.of_ends (vs := [.pointer (some ⟨rb, 0, none⟩), .int .i64 most]) Tryd.func81 rfl Tryd.ntmps81 rfl ?_
 intro a hA
 replace hA : St 31 [(0, _), (1, _)] a := hA
 refine Ends.seq (Ends.region ?_)
 refine S.val hA (R.assign rfl) rfl ?_; clear hA a; intro a hA
 refine S.val hA (R.assign rfl) rfl ?_; clear hA a; intro a hA
 refine S.done ?_
 refine Ends.seq (Ends.region ?_)
 refine S.val hA (R.move rfl) rfl ?_; clear hA a; intro a hA
 refine S.call hA (R.callF Tryd.func79 rfl rfl rfl) rfl (next06 g rb j cap at0 X hX (by omega) hcap _ (hM.hereN 2)) ?_; clear hA a
 rintro e w1 ⟨rfl, hn⟩
 replace hM : Mem _ _ [pt rb #[.slice (some ⟨g, j * 4, none⟩) (X.length - j) (cap - j), .int .i64 at0] 62, own 77 4 (.slice ((some ⟨g, 0, none⟩)) X.length cap) X.length (tokv X)] _ := hM.callL 2 hn; clear hn
 refine ⟨.agg #[.int .i64 ((X.getD j tz).k), .string ((X.getD j tz).x), .int .i64 ((X.getD j tz).n), .int .i64 ((X.getD j tz).a)], rfl, fun a hA => ?_⟩
 refine S.alloc hA hM info77 rfl rfl ?_; clear hA hM a; intro b1 w2 hb2 hM a hA
 replace hM : Mem _ _ [pt b1 #[.int .i64 0, .string (⟨#[]⟩), .int .i64 0, .int .i64 0] 77, pt rb #[.slice (some ⟨g, j * 4, none⟩) (X.length - j) (cap - j), .int .i64 at0] 62, own 77 4 (.slice ((some ⟨g, 0, none⟩)) X.length cap) X.length (tokv X)] _ := hM
 refine S.storeA (k := 0) hA hM sz77 rfl rfl rfl rfl rfl rfl ?_; clear hM
 intro w3 hM
 replace hM : Mem _ _ [pt b1 #[.int .i64 ((X.getD j tz).k), .string ((X.getD j tz).x), .int .i64 ((X.getD j tz).n), .int .i64 ((X.getD j tz).a)] 77, pt rb #[.slice (some ⟨g, j * 4, none⟩) (X.length - j) (cap - j), .int .i64 at0] 62, own 77 4 (.slice ((some ⟨g, 0, none⟩)) X.length cap) X.length (tokv X)] _ := hM
 refine S.done ?_
 replace hA : St 31 [(0, _), (1, _), (6, _)] a := hA.sub ((.cons rfl (.cons rfl (.cons rfl .nil))))
 refine Ends.seq (Ends.region ?_)
 refine S.val hA (R.move rfl) rfl ?_; clear hA a; intro a hA
 refine S.val hA (R.fieldAddr (q := 3) fi77_3 rfl rfl rfl) rfl ?_; clear hA a; intro a hA
 refine S.val hA (R.load sz3 rfl (hM.cell (k := 0) rfl rfl)) rfl ?_; clear hA a; intro a hA
 refine S.val hA (R.nilCheck rfl) rfl ?_; clear hA a; intro a hA
 refine S.val hA (R.fieldAddr (q := 1) fi62_1 rfl rfl rfl) rfl ?_; clear hA a; intro a hA
 refine S.store (k := 1) hA hM sz3 rfl rfl rfl rfl rfl ?_; clear hM
 intro w4 hM
 replace hM : Mem _ _ [pt b1 #[.int .i64 ((X.getD j tz).k), .string ((X.getD j tz).x), .int .i64 ((X.getD j tz).n), .int .i64 ((X.getD j tz).a)] 77, pt rb #[.slice (some ⟨g, j * 4, none⟩) (X.length - j) (cap - j), .int .i64 ((X.getD j tz).a)] 62, own 77 4 (.slice ((some ⟨g, 0, none⟩)) X.length cap) X.length (tokv X)] _ := hM
 refine S.done ?_
 replace hA : St 31 [(0, _), (1, _), (6, _)] a := hA.sub ((.cons rfl (.cons rfl (.cons rfl .nil))))
 refine Ends.seq (Ends.block (Ends.seq (Ends.region ?_)))
 refine S.val hA (R.fieldAddr (q := 0) fi77_0 rfl rfl rfl) rfl ?_; clear hA a; intro a hA
 refine S.val hA (R.load sz3 rfl (hM.cell (k := 0) rfl rfl)) rfl ?_; clear hA a; intro a hA
 refine S.val hA (R.eql rfl rfl) rfl ?_; clear hA a; intro a hA
 refine S.val hA (R.assign rfl) rfl ?_; clear hA a; intro a hA
 refine S.done ?_
 refine Ends.ite hA rfl (fun hc3 => ?_) (fun hc3 => ?_)
 ·
  refine Ends.seq (Ends.region ?_)
  refine S.val hA (R.assign rfl) rfl ?_; clear hA a; intro a hA
  refine S.val hA (R.assign rfl) rfl ?_; clear hA a; intro a hA
  refine S.done ?_
  replace hA : St 31 [(0, _), (4, _), (5, _), (6, _)] a := hA.sub ((.cons rfl (.cons rfl (.cons rfl (.cons rfl .nil)))))
  refine Ends.ret2 Tryd.func81 Tryd.results81 hA rfl rfl ?_
  replace hM := hM.front (k := 2) rfl
  replace hM := hM.front (k := 2) rfl
  replace hM : Mem _ _ [pt rb #[.slice (some ⟨g, j * 4, none⟩) (X.length - j) (cap - j), .int .i64 ((X.getD j tz).a)] 62, own 77 4 (.slice ((some ⟨g, 0, none⟩)) X.length cap) X.length (tokv X), pt b1 #[.int .i64 ((X.getD j tz).k), .string ((X.getD j tz).x), .int .i64 ((X.getD j tz).n), .int .i64 ((X.getD j tz).a)] 77] _ := hM
  replace hM := hM.firstN 2
  replace hM : Mem _ _ [pt rb #[.slice (some ⟨g, j * 4, none⟩) (X.length - j) (cap - j), .int .i64 ((X.getD j tz).a)] 62, own 77 4 (.slice ((some ⟨g, 0, none⟩)) X.length cap) X.length (tokv X)] _ := hM
  obtain ⟨e1, e2⟩ := numR_end (m := most) hc3
  have e3 : nxJ j (numR (X.getD j tz) most) = j := by rw [e1]; rfl
  rw [e1] at e3
  exact ⟨by rw [e1, e2] <;> rfl, by rw [e1, e3]; exact hM⟩
 ·
  have hj1 := hX.next j hj hc3
  refine Ends.seq (Ends.region ?_)
  refine S.val hA (R.fieldAddr (q := 0) fi77_0 rfl rfl rfl) rfl ?_; clear hA a; intro a hA
  refine S.val hA (R.load sz3 rfl (hM.cell (k := 0) rfl rfl)) rfl ?_; clear hA a; intro a hA
  refine S.val hA (R.eql rfl rfl) rfl ?_; clear hA a; intro a hA
  refine S.val hA (R.assign rfl) rfl ?_; clear hA a; intro a hA
  refine S.done ?_
  replace hA : St 31 [(0, _), (1, _), (6, _), (18, _)] a := hA.sub ((.cons rfl (.cons rfl (.cons rfl (.cons rfl .nil)))))
  refine Ends.ite hA rfl (fun hc4 => ?_) (fun hc4 => ?_)
  ·
   refine Ends.seq (Ends.region ?_)
   refine S.val hA (R.assign rfl) rfl ?_; clear hA a; intro a hA
   refine S.val hA (R.assign rfl) rfl ?_; clear hA a; intro a hA
   refine S.done ?_
   refine Ends.ret2 Tryd.func81 Tryd.results81 hA rfl rfl ?_
   replace hM := hM.front (k := 2) rfl
   replace hM := hM.front (k := 2) rfl
   replace hM : Mem _ _ [pt rb #[.slice (some ⟨g, j * 4, none⟩) (X.length - j) (cap - j), .int .i64 ((X.getD j tz).a)] 62, own 77 4 (.slice ((some ⟨g, 0, none⟩)) X.length cap) X.length (tokv X), pt b1 #[.int .i64 ((X.getD j tz).k), .string ((X.getD j tz).x), .int .i64 ((X.getD j tz).n), .int .i64 ((X.getD j tz).a)] 77] _ := hM
   replace hM := hM.firstN 2
   replace hM : Mem _ _ [pt rb #[.slice (some ⟨g, j * 4, none⟩) (X.length - j) (cap - j), .int .i64 ((X.getD j tz).a)] 62, own 77 4 (.slice ((some ⟨g, 0, none⟩)) X.length cap) X.length (tokv X)] _ := hM
   obtain ⟨e1, e2⟩ := numR_word (m := most) hc3 hc4
   have e3 : nxJ j (numR (X.getD j tz) most) = j := by rw [e1]; rfl
   rw [e1] at e3
   exact ⟨by rw [e1, e2] <;> rfl, by rw [e1, e3]; exact hM⟩
  ·
   refine Ends.seq (Ends.region ?_)
   refine S.val hA (R.fieldAddr (q := 2) fi77_2 rfl rfl rfl) rfl ?_; clear hA a; intro a hA
   refine S.val hA (R.load sz3 rfl (hM.cell (k := 0) rfl rfl)) rfl ?_; clear hA a; intro a hA
   refine S.val hA (R.move rfl) rfl ?_; clear hA a; intro a hA
   refine S.val hA (R.gtr rfl rfl) rfl ?_; clear hA a; intro a hA
   refine S.val hA (R.assign rfl) rfl ?_; clear hA a; intro a hA
   refine S.done ?_
   replace hA : St 31 [(0, _), (6, _), (22, _)] a := hA.sub ((.cons rfl (.cons rfl (.cons rfl .nil))))
   refine Ends.ite hA rfl (fun hc5 => ?_) (fun hc5 => ?_)
   ·
    refine Ends.seq (Ends.region ?_)
    refine S.val hA (R.assign rfl) rfl ?_; clear hA a; intro a hA
    refine S.val hA (R.assign rfl) rfl ?_; clear hA a; intro a hA
    refine S.done ?_
    refine Ends.ret2 Tryd.func81 Tryd.results81 hA rfl rfl ?_
    replace hM := hM.front (k := 2) rfl
    replace hM := hM.front (k := 2) rfl
    replace hM : Mem _ _ [pt rb #[.slice (some ⟨g, j * 4, none⟩) (X.length - j) (cap - j), .int .i64 ((X.getD j tz).a)] 62, own 77 4 (.slice ((some ⟨g, 0, none⟩)) X.length cap) X.length (tokv X), pt b1 #[.int .i64 ((X.getD j tz).k), .string ((X.getD j tz).x), .int .i64 ((X.getD j tz).n), .int .i64 ((X.getD j tz).a)] 77] _ := hM
    replace hM := hM.firstN 2
    replace hM : Mem _ _ [pt rb #[.slice (some ⟨g, j * 4, none⟩) (X.length - j) (cap - j), .int .i64 ((X.getD j tz).a)] 62, own 77 4 (.slice ((some ⟨g, 0, none⟩)) X.length cap) X.length (tokv X)] _ := hM
    obtain ⟨e1, e2⟩ := numR_big hc3 hc4 hc5
    have e3 : nxJ j (numR (X.getD j tz) most) = j := by rw [e1]; rfl
    rw [e1] at e3
    exact ⟨by rw [e1, e2] <;> rfl, by rw [e1, e3]; exact hM⟩
   ·
    refine Ends.skip (Ends.inBlock (Ends.seq (Ends.region ?_)))
    refine S.val hA (R.move rfl) rfl ?_; clear hA a; intro a hA
    replace hM := hM.front (k := 2) rfl
    replace hM := hM.front (k := 2) rfl
    replace hM : Mem _ _ [pt rb #[.slice (some ⟨g, j * 4, none⟩) (X.length - j) (cap - j), .int .i64 ((X.getD j tz).a)] 62, own 77 4 (.slice ((some ⟨g, 0, none⟩)) X.length cap) X.length (tokv X), pt b1 #[.int .i64 ((X.getD j tz).k), .string ((X.getD j tz).x), .int .i64 ((X.getD j tz).n), .int .i64 ((X.getD j tz).a)] 77] _ := hM
    refine S.call hA (R.callF Tryd.func80 rfl rfl rfl) rfl (take06 g rb j cap ((X.getD j tz).a) X hX (by omega) hcap hj1 _ (hM.hereN 2)) ?_; clear hA a
    rintro e w5 ⟨rfl, hn⟩
    replace hM : Mem _ _ [pt rb #[.slice (some ⟨g, (j + 1) * 4, none⟩) (X.length - (j + 1)) (cap - (j + 1)), .int .i64 ((X.getD j tz).a)] 62, own 77 4 (.slice ((some ⟨g, 0, none⟩)) X.length cap) X.length (tokv X), pt b1 #[.int .i64 ((X.getD j tz).k), .string ((X.getD j tz).x), .int .i64 ((X.getD j tz).n), .int .i64 ((X.getD j tz).a)] 77] _ := hM.callL 2 hn; clear hn
    refine ⟨undef, rfl, fun a hA => ?_⟩
    refine S.done ?_
    replace hA : St 31 [(6, _)] a := hA.sub ((.cons rfl .nil))
    refine Ends.seq (Ends.region ?_)
    refine S.val hA (R.fieldAddr (q := 2) fi77_2 rfl rfl rfl) rfl ?_; clear hA a; intro a hA
    refine S.val hA (R.load sz3 rfl (hM.cell (k := 2) rfl rfl)) rfl ?_; clear hA a; intro a hA
    refine S.val hA (R.assign rfl) rfl ?_; clear hA a; intro a hA
    refine S.val hA (R.assign rfl) rfl ?_; clear hA a; intro a hA
    refine S.done ?_
    refine Ends.ret2 Tryd.func81 Tryd.results81 hA rfl rfl ?_
    replace hM := hM.firstN 2
    replace hM : Mem _ _ [pt rb #[.slice (some ⟨g, (j + 1) * 4, none⟩) (X.length - (j + 1)) (cap - (j + 1)), .int .i64 ((X.getD j tz).a)] 62, own 77 4 (.slice ((some ⟨g, 0, none⟩)) X.length cap) X.length (tokv X)] _ := hM
    obtain ⟨e1, e2⟩ := numR_ok hc3 hc4 hc5
    have e3 : nxJ j (numR (X.getD j tz) most) = j + 1 := by rw [e1]; rfl
    rw [e1] at e3
    exact ⟨by rw [e1, e2] <;> rfl, by rw [e1, e3]; exact hM⟩
set_option maxRecDepth 100000 in
set_option maxHeartbeats 400000 in
theorem count06 (g rb j cap : Nat) (at0 : Int) (X : List Tok) (hX : Toks X) (hj : j < X.length) (hcap : X.length ≤ cap) (most : Int) (w : World) (hM : Mem w (feet [pt rb #[.slice (some ⟨g, j * 4, none⟩) (X.length - j) (cap - j), .int .i64 at0] 62, own 77 4 (.slice ((some ⟨g, 0, none⟩)) X.length cap) X.length (tokv X)]) [pt rb #[.slice (some ⟨g, j * 4, none⟩) (X.length - j) (cap - j), .int .i64 at0] 62, own 77 4 (.slice ((some ⟨g, 0, none⟩)) X.length cap) X.length (tokv X)] w) :
  Calls Tryd.prog 64 #[.pointer (some ⟨rb, 0, none⟩), .int .i64 most] w fun e w' => e = .returned (.tuple #[.int .i64 (numN (X.getD j tz) most), .int .i64 (cntR (X.getD j tz) most)]) ∧ Mem w (feet [pt rb #[.slice (some ⟨g, j * 4, none⟩) (X.length - j) (cap - j), .int .i64 at0] 62, own 77 4 (.slice ((some ⟨g, 0, none⟩)) X.length cap) X.length (tokv X)]) [pt rb #[.slice (some ⟨g, (nxJ j (numR (X.getD j tz) most)) * 4, none⟩) (X.length - (nxJ j (numR (X.getD j tz) most))) (cap - (nxJ j (numR (X.getD j tz) most))), .int .i64 ((X.getD j tz).a)] 62, own 77 4 (.slice ((some ⟨g, 0, none⟩)) X.length cap) X.length (tokv X)] w' := by
 have hbs := Below.refl (B := w.heap.size) w
 have hlX := hX.len
 refine Calls.of_ends (vs := [.pointer (some ⟨rb, 0, none⟩), .int .i64 most]) Tryd.func64 rfl Tryd.ntmps64 rfl ?_
 intro a hA
 replace hA : St 22 [(0, _), (1, _)] a := hA
 refine Ends.seq (Ends.region ?_)
 refine S.val hA (R.assign rfl) rfl ?_; clear hA a; intro a hA
 refine S.val hA (R.assign rfl) rfl ?_; clear hA a; intro a hA
 refine S.done ?_
 refine Ends.seq (Ends.region ?_)
 refine S.val hA (R.move rfl) rfl ?_; clear hA a; intro a hA
 refine S.val hA (R.move rfl) rfl ?_; clear hA a; intro a hA
 refine S.call hA (R.callF Tryd.func81 rfl rfl rfl) rfl (number06 g rb j cap at0 X hX (by omega) hcap most _ (hM.hereN 2)) ?_; clear hA a
 rintro e w1 ⟨rfl, hn⟩
 replace hM : Mem _ _ [pt rb #[.slice (some ⟨g, (nxJ j (numR (X.getD j tz) most)) * 4, none⟩) (X.length - (nxJ j (numR (X.getD j tz) most))) (cap - (nxJ j (numR (X.getD j tz) most))), .int .i64 ((X.getD j tz).a)] 62, own 77 4 (.slice ((some ⟨g, 0, none⟩)) X.length cap) X.length (tokv X)] _ := hM.callL 2 hn; clear hn
 refine ⟨.tuple #[.int .i64 ((numN (X.getD j tz) most)), .int .i64 ((numR (X.getD j tz) most))], rfl, fun a hA => ?_⟩
 refine S.val hA (R.move rfl) rfl ?_; clear hA a; intro a hA
 refine S.val hA (R.extract (v := .int .i64 ((numN (X.getD j tz) most))) rfl rfl) rfl ?_; clear hA a; intro a hA
 refine S.val hA (R.extract (v := .int .i64 ((numR (X.getD j tz) most))) rfl rfl) rfl ?_; clear hA a; intro a hA
 refine S.val hA (R.assign rfl) rfl ?_; clear hA a; intro a hA
 refine S.val hA (R.assign rfl) rfl ?_; clear hA a; intro a hA
 refine S.done ?_
 replace hA : St 22 [(6, _), (7, _)] a := hA.sub ((.cons rfl (.cons rfl .nil)))
 refine Ends.seq (Ends.seq ?_)
 refine Ends.cut (fun (a : Act) (wv : World) => St 22 [(6, .int .i64 ((numN (X.getD j tz) most))), (7, .int .i64 ((numR (X.getD j tz) most))), (19, .bool (decide ((((numR (X.getD j tz) most)) = 0 ∧ ((numN (X.getD j tz) most)) = 0))))] a ∧ Mem w (feet [pt rb #[.slice (some ⟨g, j * 4, none⟩) (X.length - j) (cap - j), .int .i64 at0] 62, own 77 4 (.slice ((some ⟨g, 0, none⟩)) X.length cap) X.length (tokv X)]) [pt rb #[.slice (some ⟨g, (nxJ j (numR (X.getD j tz) most)) * 4, none⟩) (X.length - (nxJ j (numR (X.getD j tz) most))) (cap - (nxJ j (numR (X.getD j tz) most))), .int .i64 ((X.getD j tz).a)] 62, own 77 4 (.slice ((some ⟨g, 0, none⟩)) X.length cap) X.length (tokv X)] wv) ?_ (fun k2 hJ => ?_)
 ·
  clear hA hM a; rintro a w2 ⟨hA, hM⟩
  refine Ends.ite hA rfl (fun hc1 => ?_) (fun hc1 => ?_)
  ·
   refine Ends.region ?_
   refine S.val hA (R.assign rfl) rfl ?_; clear hA a; intro a hA
   refine S.done ?_
   refine Ends.seq (Ends.region ?_)
   refine S.val hA (R.move rfl) rfl ?_; clear hA a; intro a hA
   refine S.val hA (R.move rfl) rfl ?_; clear hA a; intro a hA
   refine S.val hA (R.assign rfl) rfl ?_; clear hA a; intro a hA
   refine S.val hA (R.assign rfl) rfl ?_; clear hA a; intro a hA
   refine S.done ?_
   replace hA : St 22 [(4, _), (5, _)] a := hA.sub ((.cons rfl (.cons rfl .nil)))
   refine Ends.ret2 Tryd.func64 Tryd.results64 hA rfl rfl ?_
   replace hM := hM.firstN 2
   replace hM : Mem _ _ [pt rb #[.slice (some ⟨g, (nxJ j (numR (X.getD j tz) most)) * 4, none⟩) (X.length - (nxJ j (numR (X.getD j tz) most))) (cap - (nxJ j (numR (X.getD j tz) most))), .int .i64 ((X.getD j tz).a)] 62, own 77 4 (.slice ((some ⟨g, 0, none⟩)) X.length cap) X.length (tokv X)] _ := hM
   have e1 := cntR_pos hc1
   exact ⟨by rw [e1] <;> rfl, hM⟩
  ·
   refine Ends.skip (Ends.seq (Ends.region ?_))
   refine S.val hA (R.move rfl) rfl ?_; clear hA a; intro a hA
   refine S.val hA (R.move rfl) rfl ?_; clear hA a; intro a hA
   refine S.val hA (R.assign rfl) rfl ?_; clear hA a; intro a hA
   refine S.val hA (R.assign rfl) rfl ?_; clear hA a; intro a hA
   refine S.done ?_
   replace hA : St 22 [(4, _), (5, _)] a := hA.sub ((.cons rfl (.cons rfl .nil)))
   refine Ends.ret2 Tryd.func64 Tryd.results64 hA rfl rfl ?_
   replace hM := hM.firstN 2
   replace hM : Mem _ _ [pt rb #[.slice (some ⟨g, (nxJ j (numR (X.getD j tz) most)) * 4, none⟩) (X.length - (nxJ j (numR (X.getD j tz) most))) (cap - (nxJ j (numR (X.getD j tz) most))), .int .i64 ((X.getD j tz).a)] 62, own 77 4 (.slice ((some ⟨g, 0, none⟩)) X.length cap) X.length (tokv X)] _ := hM
   have e1 := cntR_neg hc1
   exact ⟨by rw [e1] <;> rfl, hM⟩
 ·
  refine Ends.region ?_
  refine S.val hA (R.move rfl) rfl ?_; clear hA a; intro a hA
  refine S.val hA (R.eql rfl rfl) rfl ?_; clear hA a; intro a hA
  refine S.val hA (R.move rfl) rfl ?_; clear hA a; intro a hA
  refine hA.split (d := 16) rfl ?_ ?_
  ·
   clear hA; intro hg2 hA
   refine S.valg (dj := 16) hA (by kernel_rfl) rfl (R.move rfl) rfl ?_; clear hA a; intro a hA
   refine S.valg (dj := 16) hA (by kernel_rfl) rfl (R.eql rfl rfl) rfl ?_; clear hA a; intro a hA
   refine S.val hA (R.pickT rfl rfl) rfl ?_; clear hA a; intro a hA
   refine S.done ?_
   replace hA : St 22 [(6, _), (7, _), (19, _)] a := hA.sub ((.cons rfl (.cons rfl (.cons rfl .nil))))
   exact hJ _ _ ⟨hA.sub (.cons rfl (.cons rfl (.cons (by first | rfl | exact congrArg (fun b => some (Value.bool b)) (by first | exact decide_eq_decide.2 (by omega) | exact or_bool (by omega) | exact and_bool (by omega) | (simp; done) | (simp [hg2]; done) | (have h80 := hg2; (try simp at h80); simp [h80]; done) | exact (decide_eq_false (fun h9 => hg2 h9.1)).symm)) .nil))), hM⟩
  ·
   clear hA; intro hg2 hA
   refine S.no (dj := 16) hA (by kernel_rfl) rfl rfl rfl ?_; clear hA a; intro a hA
   refine S.no (dj := 16) hA (by kernel_rfl) rfl rfl rfl ?_; clear hA a; intro a hA
   refine S.val hA (R.pickF rfl rfl) rfl ?_; clear hA a; intro a hA
   refine S.done ?_
   replace hA : St 22 [(6, _), (7, _), (19, _)] a := hA.sub ((.cons rfl (.cons rfl (.cons rfl .nil))))
   exact hJ _ _ ⟨hA.sub (.cons rfl (.cons rfl (.cons (by first | rfl | exact congrArg (fun b => some (Value.bool b)) (by first | exact decide_eq_decide.2 (by omega) | exact or_bool (by omega) | exact and_bool (by omega) | (simp; done) | (simp [hg2]; done) | (have h80 := hg2; (try simp at h80); simp [h80]; done) | exact (decide_eq_false (fun h9 => hg2 h9.1)).symm)) .nil))), hM⟩
set_option maxRecDepth 100000 in
set_option maxHeartbeats 400000 in
theorem end06 (g rb j cap : Nat) (at0 : Int) (X : List Tok) (hX : Toks X) (hj : j < X.length) (hcap : X.length ≤ cap) (w : World) (hM : Mem w (feet [pt rb #[.slice (some ⟨g, j * 4, none⟩) (X.length - j) (cap - j), .int .i64 at0] 62, own 77 4 (.slice ((some ⟨g, 0, none⟩)) X.length cap) X.length (tokv X)]) [pt rb #[.slice (some ⟨g, j * 4, none⟩) (X.length - j) (cap - j), .int .i64 at0] 62, own 77 4 (.slice ((some ⟨g, 0, none⟩)) X.length cap) X.length (tokv X)] w) :
  Calls Tryd.prog 66 #[.pointer (some ⟨rb, 0, none⟩)] w fun e w' => e = .returned (.int .i64 (endR (X.getD j tz))) ∧ Mem w (feet [pt rb #[.slice (some ⟨g, j * 4, none⟩) (X.length - j) (cap - j), .int .i64 at0] 62, own 77 4 (.slice ((some ⟨g, 0, none⟩)) X.length cap) X.length (tokv X)]) [pt rb #[.slice (some ⟨g, j * 4, none⟩) (X.length - j) (cap - j), .int .i64 ((X.getD j tz).a)] 62, own 77 4 (.slice ((some ⟨g, 0, none⟩)) X.length cap) X.length (tokv X)] w' := by
 have hbs := Below.refl (B := w.heap.size) w
 have hlX := hX.len
 refine Calls.of_ends (vs := [.pointer (some ⟨rb, 0, none⟩)]) Tryd.func66 rfl Tryd.ntmps66 rfl ?_
 intro a hA
 replace hA : St 14 [(0, _)] a := hA
 refine Ends.seq (Ends.region ?_)
 refine S.val hA (R.assign rfl) rfl ?_; clear hA a; intro a hA
 refine S.done ?_
 refine Ends.seq (Ends.region ?_)
 refine S.val hA (R.move rfl) rfl ?_; clear hA a; intro a hA
 refine S.call hA (R.callF Tryd.func79 rfl rfl rfl) rfl (next06 g rb j cap at0 X hX (by omega) hcap _ (hM.hereN 2)) ?_; clear hA a
 rintro e w1 ⟨rfl, hn⟩
 replace hM : Mem _ _ [pt rb #[.slice (some ⟨g, j * 4, none⟩) (X.length - j) (cap - j), .int .i64 at0] 62, own 77 4 (.slice ((some ⟨g, 0, none⟩)) X.length cap) X.length (tokv X)] _ := hM.callL 2 hn; clear hn
 refine ⟨.agg #[.int .i64 ((X.getD j tz).k), .string ((X.getD j tz).x), .int .i64 ((X.getD j tz).n), .int .i64 ((X.getD j tz).a)], rfl, fun a hA => ?_⟩
 refine S.alloc hA hM info77 rfl rfl ?_; clear hA hM a; intro b1 w2 hb2 hM a hA
 replace hM : Mem _ _ [pt b1 #[.int .i64 0, .string (⟨#[]⟩), .int .i64 0, .int .i64 0] 77, pt rb #[.slice (some ⟨g, j * 4, none⟩) (X.length - j) (cap - j), .int .i64 at0] 62, own 77 4 (.slice ((some ⟨g, 0, none⟩)) X.length cap) X.length (tokv X)] _ := hM
 refine S.storeA (k := 0) hA hM sz77 rfl rfl rfl rfl rfl rfl ?_; clear hM
 intro w3 hM
 replace hM : Mem _ _ [pt b1 #[.int .i64 ((X.getD j tz).k), .string ((X.getD j tz).x), .int .i64 ((X.getD j tz).n), .int .i64 ((X.getD j tz).a)] 77, pt rb #[.slice (some ⟨g, j * 4, none⟩) (X.length - j) (cap - j), .int .i64 at0] 62, own 77 4 (.slice ((some ⟨g, 0, none⟩)) X.length cap) X.length (tokv X)] _ := hM
 refine S.done ?_
 refine Ends.seq (Ends.region ?_)
 refine S.val hA (R.move rfl) rfl ?_; clear hA a; intro a hA
 refine S.val hA (R.fieldAddr (q := 3) fi77_3 rfl rfl rfl) rfl ?_; clear hA a; intro a hA
 refine S.val hA (R.load sz3 rfl (hM.cell (k := 0) rfl rfl)) rfl ?_; clear hA a; intro a hA
 refine S.val hA (R.nilCheck rfl) rfl ?_; clear hA a; intro a hA
 refine S.val hA (R.fieldAddr (q := 1) fi62_1 rfl rfl rfl) rfl ?_; clear hA a; intro a hA
 refine S.store (k := 1) hA hM sz3 rfl rfl rfl rfl rfl ?_; clear hM
 intro w4 hM
 replace hM : Mem _ _ [pt b1 #[.int .i64 ((X.getD j tz).k), .string ((X.getD j tz).x), .int .i64 ((X.getD j tz).n), .int .i64 ((X.getD j tz).a)] 77, pt rb #[.slice (some ⟨g, j * 4, none⟩) (X.length - j) (cap - j), .int .i64 ((X.getD j tz).a)] 62, own 77 4 (.slice ((some ⟨g, 0, none⟩)) X.length cap) X.length (tokv X)] _ := hM
 refine S.done ?_
 replace hA : St 14 [(3, _)] a := hA.sub ((.cons rfl .nil))
 refine Ends.seq (Ends.seq (Ends.region ?_))
 refine S.val hA (R.fieldAddr (q := 0) fi77_0 rfl rfl rfl) rfl ?_; clear hA a; intro a hA
 refine S.val hA (R.load sz3 rfl (hM.cell (k := 0) rfl rfl)) rfl ?_; clear hA a; intro a hA
 refine S.val hA (R.neq rfl rfl) rfl ?_; clear hA a; intro a hA
 refine S.done ?_
 refine Ends.ite hA rfl (fun hc3 => ?_) (fun hc3 => ?_)
 ·
  refine Ends.seq (Ends.region ?_)
  refine S.val hA (R.assign rfl) rfl ?_; clear hA a; intro a hA
  refine S.done ?_
  replace hA : St 14 [(2, _)] a := hA.sub ((.cons rfl .nil))
  refine Ends.ret1 Tryd.func66 Tryd.results66 hA rfl ?_
  replace hM := hM.front (k := 2) rfl
  replace hM := hM.front (k := 2) rfl
  replace hM : Mem _ _ [pt rb #[.slice (some ⟨g, j * 4, none⟩) (X.length - j) (cap - j), .int .i64 ((X.getD j tz).a)] 62, own 77 4 (.slice ((some ⟨g, 0, none⟩)) X.length cap) X.length (tokv X), pt b1 #[.int .i64 ((X.getD j tz).k), .string ((X.getD j tz).x), .int .i64 ((X.getD j tz).n), .int .i64 ((X.getD j tz).a)] 77] _ := hM
  replace hM := hM.firstN 2
  replace hM : Mem _ _ [pt rb #[.slice (some ⟨g, j * 4, none⟩) (X.length - j) (cap - j), .int .i64 ((X.getD j tz).a)] 62, own 77 4 (.slice ((some ⟨g, 0, none⟩)) X.length cap) X.length (tokv X)] _ := hM
  have e1 : endR (X.getD j tz) = 7 := if_pos hc3
  exact ⟨by rw [e1] <;> rfl, hM⟩
 ·
  refine Ends.skip (Ends.seq (Ends.region ?_))
  refine S.val hA (R.assign rfl) rfl ?_; clear hA a; intro a hA
  refine S.done ?_
  replace hA : St 14 [(2, _)] a := hA.sub ((.cons rfl .nil))
  refine Ends.ret1 Tryd.func66 Tryd.results66 hA rfl ?_
  replace hM := hM.front (k := 2) rfl
  replace hM := hM.front (k := 2) rfl
  replace hM : Mem _ _ [pt rb #[.slice (some ⟨g, j * 4, none⟩) (X.length - j) (cap - j), .int .i64 ((X.getD j tz).a)] 62, own 77 4 (.slice ((some ⟨g, 0, none⟩)) X.length cap) X.length (tokv X), pt b1 #[.int .i64 ((X.getD j tz).k), .string ((X.getD j tz).x), .int .i64 ((X.getD j tz).n), .int .i64 ((X.getD j tz).a)] 77] _ := hM
  replace hM := hM.firstN 2
  replace hM : Mem _ _ [pt rb #[.slice (some ⟨g, j * 4, none⟩) (X.length - j) (cap - j), .int .i64 ((X.getD j tz).a)] 62, own 77 4 (.slice ((some ⟨g, 0, none⟩)) X.length cap) X.length (tokv X)] _ := hM
  have e1 : endR (X.getD j tz) = 0 := if_neg hc3
  exact ⟨by rw [e1] <;> rfl, hM⟩
set_option maxRecDepth 100000 in
set_option maxHeartbeats 400000 in
theorem word06_3 (g rb j cap : Nat) (at0 : Int) (X : List Tok) (hX : Toks X) (hj : j < X.length) (hcap : X.length ≤ cap) (sb : Nat) (s1 s2 s3 : ByteArray) (w : World) (hM : Mem w (feet [pt rb #[.slice (some ⟨g, j * 4, none⟩) (X.length - j) (cap - j), .int .i64 at0] 62, own 77 4 (.slice ((some ⟨g, 0, none⟩)) X.length cap) X.length (tokv X), pt sb #[.string s1, .string s2, .string s3] 9]) [pt rb #[.slice (some ⟨g, j * 4, none⟩) (X.length - j) (cap - j), .int .i64 at0] 62, own 77 4 (.slice ((some ⟨g, 0, none⟩)) X.length cap) X.length (tokv X), pt sb #[.string s1, .string s2, .string s3] 9] w) :
  Calls Tryd.prog 61 #[.pointer (some ⟨rb, 0, none⟩), .slice (some ⟨sb, 0, none⟩) 3 3] w fun e w' => e = .returned (.tuple #[.int .i64 (wordR (X.getD j tz) [s1, s2, s3]).1, .int .i64 (wordR (X.getD j tz) [s1, s2, s3]).2]) ∧ Mem w (feet [pt rb #[.slice (some ⟨g, j * 4, none⟩) (X.length - j) (cap - j), .int .i64 at0] 62, own 77 4 (.slice ((some ⟨g, 0, none⟩)) X.length cap) X.length (tokv X), pt sb #[.string s1, .string s2, .string s3] 9]) [pt rb #[.slice (some ⟨g, (nxJ j (wordR (X.getD j tz) [s1, s2, s3]).2) * 4, none⟩) (X.length - (nxJ j (wordR (X.getD j tz) [s1, s2, s3]).2)) (cap - (nxJ j (wordR (X.getD j tz) [s1, s2, s3]).2)), .int .i64 ((X.getD j tz).a)] 62, own 77 4 (.slice ((some ⟨g, 0, none⟩)) X.length cap) X.length (tokv X), pt sb #[.string s1, .string s2, .string s3] 9] w' := by
 have hbs := Below.refl (B := w.heap.size) w
 have hlX := hX.len
 refine Calls.of_ends (vs := [.pointer (some ⟨rb, 0, none⟩), .slice (some ⟨sb, 0, none⟩) 3 3]) Tryd.func61 rfl Tryd.ntmps61 rfl ?_
 intro a hA
 replace hA : St 39 [(0, _), (1, _)] a := hA
 refine Ends.seq (Ends.region ?_)
 refine S.val hA (R.assign rfl) rfl ?_; clear hA a; intro a hA
 refine S.val hA (R.assign rfl) rfl ?_; clear hA a; intro a hA
 refine S.done ?_
 refine Ends.seq (Ends.region ?_)
 refine S.val hA (R.move rfl) rfl ?_; clear hA a; intro a hA
 refine S.call hA (R.callF Tryd.func79 rfl rfl rfl) rfl (next06 g rb j cap at0 X hX (by omega) hcap _ (hM.hereN 2)) ?_; clear hA a
 rintro e w1 ⟨rfl, hn⟩
 replace hM : Mem _ _ [pt rb #[.slice (some ⟨g, j * 4, none⟩) (X.length - j) (cap - j), .int .i64 at0] 62, own 77 4 (.slice ((some ⟨g, 0, none⟩)) X.length cap) X.length (tokv X), pt sb #[.string s1, .string s2, .string s3] 9] _ := hM.callL 2 hn; clear hn
 refine ⟨.agg #[.int .i64 ((X.getD j tz).k), .string ((X.getD j tz).x), .int .i64 ((X.getD j tz).n), .int .i64 ((X.getD j tz).a)], rfl, fun a hA => ?_⟩
 refine S.alloc hA hM info77 rfl rfl ?_; clear hA hM a; intro b1 w2 hb2 hM a hA
 replace hM : Mem _ _ [pt b1 #[.int .i64 0, .string (⟨#[]⟩), .int .i64 0, .int .i64 0] 77, pt rb #[.slice (some ⟨g, j * 4, none⟩) (X.length - j) (cap - j), .int .i64 at0] 62, own 77 4 (.slice ((some ⟨g, 0, none⟩)) X.length cap) X.length (tokv X), pt sb #[.string s1, .string s2, .string s3] 9] _ := hM
 refine S.storeA (k := 0) hA hM sz77 rfl rfl rfl rfl rfl rfl ?_; clear hM
 intro w3 hM
 replace hM : Mem _ _ [pt b1 #[.int .i64 ((X.getD j tz).k), .string ((X.getD j tz).x), .int .i64 ((X.getD j tz).n), .int .i64 ((X.getD j tz).a)] 77, pt rb #[.slice (some ⟨g, j * 4, none⟩) (X.length - j) (cap - j), .int .i64 at0] 62, own 77 4 (.slice ((some ⟨g, 0, none⟩)) X.length cap) X.length (tokv X), pt sb #[.string s1, .string s2, .string s3] 9] _ := hM
 refine S.done ?_
 replace hA : St 39 [(0, _), (1, _), (6, _)] a := hA.sub ((.cons rfl (.cons rfl (.cons rfl .nil))))
 refine Ends.seq (Ends.region ?_)
 refine S.val hA (R.move rfl) rfl ?_; clear hA a; intro a hA
 refine S.val hA (R.fieldAddr (q := 3) fi77_3 rfl rfl rfl) rfl ?_; clear hA a; intro a hA
 refine S.val hA (R.load sz3 rfl (hM.cell (k := 0) rfl rfl)) rfl ?_; clear hA a; intro a hA
 refine S.val hA (R.nilCheck rfl) rfl ?_; clear hA a; intro a hA
 refine S.val hA (R.fieldAddr (q := 1) fi62_1 rfl rfl rfl) rfl ?_; clear hA a; intro a hA
 refine S.store (k := 1) hA hM sz3 rfl rfl rfl rfl rfl ?_; clear hM
 intro w4 hM
 replace hM : Mem _ _ [pt b1 #[.int .i64 ((X.getD j tz).k), .string ((X.getD j tz).x), .int .i64 ((X.getD j tz).n), .int .i64 ((X.getD j tz).a)] 77, pt rb #[.slice (some ⟨g, j * 4, none⟩) (X.length - j) (cap - j), .int .i64 ((X.getD j tz).a)] 62, own 77 4 (.slice ((some ⟨g, 0, none⟩)) X.length cap) X.length (tokv X), pt sb #[.string s1, .string s2, .string s3] 9] _ := hM
 refine S.done ?_
 replace hA : St 39 [(0, _), (1, _), (6, _)] a := hA.sub ((.cons rfl (.cons rfl (.cons rfl .nil))))
 refine Ends.seq (Ends.seq (Ends.region ?_))
 refine S.val hA (R.fieldAddr (q := 0) fi77_0 rfl rfl rfl) rfl ?_; clear hA a; intro a hA
 refine S.val hA (R.load sz3 rfl (hM.cell (k := 0) rfl rfl)) rfl ?_; clear hA a; intro a hA
 refine S.val hA (R.eql rfl rfl) rfl ?_; clear hA a; intro a hA
 refine S.done ?_
 refine Ends.ite hA rfl (fun hc3 => ?_) (fun hc3 => ?_)
 ·
  refine Ends.seq (Ends.region ?_)
  refine S.val hA (R.assign rfl) rfl ?_; clear hA a; intro a hA
  refine S.val hA (R.assign rfl) rfl ?_; clear hA a; intro a hA
  refine S.done ?_
  refine Ends.ret2 Tryd.func61 Tryd.results61 hA rfl rfl ?_
  replace hM := hM.front (k := 3) rfl
  replace hM := hM.front (k := 3) rfl
  replace hM := hM.front (k := 3) rfl
  replace hM : Mem _ _ [pt rb #[.slice (some ⟨g, j * 4, none⟩) (X.length - j) (cap - j), .int .i64 ((X.getD j tz).a)] 62, own 77 4 (.slice ((some ⟨g, 0, none⟩)) X.length cap) X.length (tokv X), pt sb #[.string s1, .string s2, .string s3] 9, pt b1 #[.int .i64 ((X.getD j tz).k), .string ((X.getD j tz).x), .int .i64 ((X.getD j tz).n), .int .i64 ((X.getD j tz).a)] 77] _ := hM
  replace hM := hM.firstN 3
  replace hM : Mem _ _ [pt rb #[.slice (some ⟨g, j * 4, none⟩) (X.length - j) (cap - j), .int .i64 ((X.getD j tz).a)] 62, own 77 4 (.slice ((some ⟨g, 0, none⟩)) X.length cap) X.length (tokv X), pt sb #[.string s1, .string s2, .string s3] 9] _ := hM
  have e1 : (wordR (X.getD j tz) [s1, s2, s3]) = (0, 6) := wordR_end hc3
  have e2 : nxJ j (wordR (X.getD j tz) [s1, s2, s3]).2 = j := by rw [e1]; rfl
  rw [e1] at e2
  exact ⟨by rw [e1] <;> rfl, by rw [e1, e2]; exact hM⟩
 ·
  have hj1 := hX.next j hj hc3
  refine Ends.skip (Ends.seq (Ends.seq (Ends.region ?_)))
  refine S.val hA (R.move rfl) rfl ?_; clear hA a; intro a hA
  refine S.val hA (R.lenS Tryd.underlying34 rfl rfl) rfl ?_; clear hA a; intro a hA
  refine S.val hA (R.move rfl) rfl ?_; clear hA a; intro a hA
  refine S.done ?_
  replace hA : St 39 [(0, _), (6, _), (19, _), (20, _), (21, _)] a := hA.sub ((.cons rfl (.cons rfl (.cons rfl (.cons rfl (.cons rfl .nil))))))
  refine Ends.block ?_
  refine Ends.unroll ?_
  refine Ends.seq (Ends.region ?_)
  refine S.val hA (R.tt (R.lss rfl rfl) (by first | decide | simp | omega)) rfl ?_; clear hA a; intro a hA
  refine S.done ?_
  refine Ends.seq ?_
  refine Ends.condT hA rfl ?_
  refine Ends.skip (Ends.seq (Ends.block (Ends.seq (Ends.region ?_))))
  refine S.val hA (R.move rfl) rfl ?_; clear hA a; intro a hA
  refine S.val hA (R.indexAddr (q := 0) sl34 rfl rfl (by omega) (rfl)) rfl ?_; clear hA a; intro a hA
  refine S.val hA (R.load sz9 rfl (hM.cell (k := 3) rfl rfl)) rfl ?_; clear hA a; intro a hA
  refine S.val hA (R.assign rfl) rfl ?_; clear hA a; intro a hA
  refine S.val hA (R.assign rfl) rfl ?_; clear hA a; intro a hA
  refine S.done ?_
  replace hA : St 39 [(0, _), (6, _), (7, _), (8, _), (19, _), (20, _), (21, _)] a := hA.sub ((.cons rfl (.cons rfl (.cons rfl (.cons rfl (.cons rfl (.cons rfl (.cons rfl .nil))))))))
  refine Ends.seq ?_
  refine Ends.cut (fun (a : Act) (wv : World) => St 39 [(0, .pointer (some ⟨rb, 0, none⟩)), (6, .pointer (some ⟨b1, 0, none⟩)), (7, .int .i64 0), (19, .slice (some ⟨sb, 0, none⟩) 3 3), (20, .int .i64 3), (21, .int .i64 0), (34, .bool (decide ((((X.getD j tz).k) = 1 ∧ (X.getD j tz).x = s1))))] a ∧ Mem w (feet [pt rb #[.slice (some ⟨g, j * 4, none⟩) (X.length - j) (cap - j), .int .i64 at0] 62, own 77 4 (.slice ((some ⟨g, 0, none⟩)) X.length cap) X.length (tokv X), pt sb #[.string s1, .string s2, .string s3] 9]) [pt b1 #[.int .i64 ((X.getD j tz).k), .string ((X.getD j tz).x), .int .i64 ((X.getD j tz).n), .int .i64 ((X.getD j tz).a)] 77, pt rb #[.slice (some ⟨g, j * 4, none⟩) (X.length - j) (cap - j), .int .i64 ((X.getD j tz).a)] 62, own 77 4 (.slice ((some ⟨g, 0, none⟩)) X.length cap) X.length (tokv X), pt sb #[.string s1, .string s2, .string s3] 9] wv) ?_ (fun k2 hJ => ?_)
  ·
   clear hA hM a; rintro a w5 ⟨hA, hM⟩
   refine Ends.ite hA rfl (fun hc4 => ?_) (fun hc4 => ?_)
   ·
    refine Ends.seq (Ends.region ?_)
    refine S.val hA (R.move rfl) rfl ?_; clear hA a; intro a hA
    replace hM := hM.front (k := 2) rfl
    replace hM := hM.front (k := 2) rfl
    replace hM : Mem _ _ [pt rb #[.slice (some ⟨g, j * 4, none⟩) (X.length - j) (cap - j), .int .i64 ((X.getD j tz).a)] 62, own 77 4 (.slice ((some ⟨g, 0, none⟩)) X.length cap) X.length (tokv X), pt b1 #[.int .i64 ((X.getD j tz).k), .string ((X.getD j tz).x), .int .i64 ((X.getD j tz).n), .int .i64 ((X.getD j tz).a)] 77, pt sb #[.string s1, .string s2, .string s3] 9] _ := hM
    refine S.call hA (R.callF Tryd.func80 rfl rfl rfl) rfl (take06 g rb j cap ((X.getD j tz).a) X hX (by omega) hcap hj1 _ (hM.hereN 2)) ?_; clear hA a
    rintro e w6 ⟨rfl, hn⟩
    replace hM : Mem _ _ [pt rb #[.slice (some ⟨g, (j + 1) * 4, none⟩) (X.length - (j + 1)) (cap - (j + 1)), .int .i64 ((X.getD j tz).a)] 62, own 77 4 (.slice ((some ⟨g, 0, none⟩)) X.length cap) X.length (tokv X), pt b1 #[.int .i64 ((X.getD j tz).k), .string ((X.getD j tz).x), .int .i64 ((X.getD j tz).n), .int .i64 ((X.getD j tz).a)] 77, pt sb #[.string s1, .string s2, .string s3] 9] _ := hM.callL 2 hn; clear hn
    refine ⟨undef, rfl, fun a hA => ?_⟩
    refine S.done ?_
    refine Ends.seq (Ends.region ?_)
    refine S.val hA (R.move rfl) rfl ?_; clear hA a; intro a hA
    refine S.val hA (R.assign rfl) rfl ?_; clear hA a; intro a hA
    refine S.val hA (R.assign rfl) rfl ?_; clear hA a; intro a hA
    refine S.done ?_
    replace hA : St 39 [(0, _), (4, _), (5, _), (6, _), (19, _), (20, _), (21, _)] a := hA.sub ((.cons rfl (.cons rfl (.cons rfl (.cons rfl (.cons rfl (.cons rfl (.cons rfl .nil))))))))
    refine Ends.ret2 Tryd.func61 Tryd.results61 hA rfl rfl ?_
    replace hM := hM.front (k := 3) rfl
    replace hM := hM.front (k := 2) rfl
    replace hM := hM.front (k := 2) rfl
    replace hM : Mem _ _ [pt rb #[.slice (some ⟨g, (j + 1) * 4, none⟩) (X.length - (j + 1)) (cap - (j + 1)), .int .i64 ((X.getD j tz).a)] 62, own 77 4 (.slice ((some ⟨g, 0, none⟩)) X.length cap) X.length (tokv X), pt sb #[.string s1, .string s2, .string s3] 9, pt b1 #[.int .i64 ((X.getD j tz).k), .string ((X.getD j tz).x), .int .i64 ((X.getD j tz).n), .int .i64 ((X.getD j tz).a)] 77] _ := hM
    replace hM := hM.firstN 3
    replace hM : Mem _ _ [pt rb #[.slice (some ⟨g, (j + 1) * 4, none⟩) (X.length - (j + 1)) (cap - (j + 1)), .int .i64 ((X.getD j tz).a)] 62, own 77 4 (.slice ((some ⟨g, 0, none⟩)) X.length cap) X.length (tokv X), pt sb #[.string s1, .string s2, .string s3] 9] _ := hM
    have e1 : (wordR (X.getD j tz) [s1, s2, s3]) = (0, 0) := by
     rw [wordR_in hc3, wdI_hit hc4] <;> rfl
    have e2 : nxJ j (wordR (X.getD j tz) [s1, s2, s3]).2 = j + 1 := by rw [e1]; rfl
    rw [e1] at e2
    exact ⟨by rw [e1] <;> rfl, by rw [e1, e2]; exact hM⟩
   ·
    refine Ends.skip (Ends.inBlock (Ends.region ?_))
    refine S.val hA (R.addI rfl rfl (r := 1) rfl (by omega)) rfl ?_; clear hA a; intro a hA
    refine S.val hA (R.move rfl) rfl ?_; clear hA a; intro a hA
    refine S.done ?_
    refine Ends.inLoop ?_
    refine Ends.seq (Ends.region ?_)
    refine S.val hA (R.tt (R.lss rfl rfl) (by first | decide | simp | omega)) rfl ?_; clear hA a; intro a hA
    refine S.done ?_
    refine Ends.seq ?_
    refine Ends.condT hA rfl ?_
    refine Ends.skip (Ends.seq (Ends.block (Ends.seq (Ends.region ?_))))
    refine S.val hA (R.move rfl) rfl ?_; clear hA a; intro a hA
    refine S.val hA (R.indexAddr (q := 1) sl34 rfl rfl (by omega) (rfl)) rfl ?_; clear hA a; intro a hA
    refine S.val hA (R.load sz9 rfl (hM.cell (k := 3) rfl rfl)) rfl ?_; clear hA a; intro a hA
    refine S.val hA (R.assign rfl) rfl ?_; clear hA a; intro a hA
    refine S.val hA (R.assign rfl) rfl ?_; clear hA a; intro a hA
    refine S.done ?_
    replace hA : St 39 [(0, _), (6, _), (7, _), (8, _), (19, _), (20, _), (21, _)] a := hA.sub ((.cons rfl (.cons rfl (.cons rfl (.cons rfl (.cons rfl (.cons rfl (.cons rfl .nil))))))))
    refine Ends.seq ?_
    refine Ends.cut (fun (a : Act) (wv : World) => St 39 [(0, .pointer (some ⟨rb, 0, none⟩)), (6, .pointer (some ⟨b1, 0, none⟩)), (7, .int .i64 1), (19, .slice (some ⟨sb, 0, none⟩) 3 3), (20, .int .i64 3), (21, .int .i64 1), (34, .bool (decide ((((X.getD j tz).k) = 1 ∧ (X.getD j tz).x = s2))))] a ∧ Mem w (feet [pt rb #[.slice (some ⟨g, j * 4, none⟩) (X.length - j) (cap - j), .int .i64 at0] 62, own 77 4 (.slice ((some ⟨g, 0, none⟩)) X.length cap) X.length (tokv X), pt sb #[.string s1, .string s2, .string s3] 9]) [pt b1 #[.int .i64 ((X.getD j tz).k), .string ((X.getD j tz).x), .int .i64 ((X.getD j tz).n), .int .i64 ((X.getD j tz).a)] 77, pt rb #[.slice (some ⟨g, j * 4, none⟩) (X.length - j) (cap - j), .int .i64 ((X.getD j tz).a)] 62, own 77 4 (.slice ((some ⟨g, 0, none⟩)) X.length cap) X.length (tokv X), pt sb #[.string s1, .string s2, .string s3] 9] wv) ?_ (fun k2 hJ => ?_)
    ·
     clear hA hM a; rintro a w7 ⟨hA, hM⟩
     refine Ends.ite hA rfl (fun hc5 => ?_) (fun hc5 => ?_)
     ·
      refine Ends.seq (Ends.region ?_)
      refine S.val hA (R.move rfl) rfl ?_; clear hA a; intro a hA
      replace hM := hM.front (k := 2) rfl
      replace hM := hM.front (k := 2) rfl
      replace hM : Mem _ _ [pt rb #[.slice (some ⟨g, j * 4, none⟩) (X.length - j) (cap - j), .int .i64 ((X.getD j tz).a)] 62, own 77 4 (.slice ((some ⟨g, 0, none⟩)) X.length cap) X.length (tokv X), pt b1 #[.int .i64 ((X.getD j tz).k), .string ((X.getD j tz).x), .int .i64 ((X.getD j tz).n), .int .i64 ((X.getD j tz).a)] 77, pt sb #[.string s1, .string s2, .string s3] 9] _ := hM
      refine S.call hA (R.callF Tryd.func80 rfl rfl rfl) rfl (take06 g rb j cap ((X.getD j tz).a) X hX (by omega) hcap hj1 _ (hM.hereN 2)) ?_; clear hA a
      rintro e w8 ⟨rfl, hn⟩
      replace hM : Mem _ _ [pt rb #[.slice (some ⟨g, (j + 1) * 4, none⟩) (X.length - (j + 1)) (cap - (j + 1)), .int .i64 ((X.getD j tz).a)] 62, own 77 4 (.slice ((some ⟨g, 0, none⟩)) X.length cap) X.length (tokv X), pt b1 #[.int .i64 ((X.getD j tz).k), .string ((X.getD j tz).x), .int .i64 ((X.getD j tz).n), .int .i64 ((X.getD j tz).a)] 77, pt sb #[.string s1, .string s2, .string s3] 9] _ := hM.callL 2 hn; clear hn
      refine ⟨undef, rfl, fun a hA => ?_⟩
      refine S.done ?_
      refine Ends.seq (Ends.region ?_)
      refine S.val hA (R.move rfl) rfl ?_; clear hA a; intro a hA
      refine S.val hA (R.assign rfl) rfl ?_; clear hA a; intro a hA
      refine S.val hA (R.assign rfl) rfl ?_; clear hA a; intro a hA
      refine S.done ?_
      replace hA : St 39 [(0, _), (4, _), (5, _), (6, _), (19, _), (20, _), (21, _)] a := hA.sub ((.cons rfl (.cons rfl (.cons rfl (.cons rfl (.cons rfl (.cons rfl (.cons rfl .nil))))))))
      refine Ends.ret2 Tryd.func61 Tryd.results61 hA rfl rfl ?_
      replace hM := hM.front (k := 3) rfl
      replace hM := hM.front (k := 2) rfl
      replace hM := hM.front (k := 2) rfl
      replace hM : Mem _ _ [pt rb #[.slice (some ⟨g, (j + 1) * 4, none⟩) (X.length - (j + 1)) (cap - (j + 1)), .int .i64 ((X.getD j tz).a)] 62, own 77 4 (.slice ((some ⟨g, 0, none⟩)) X.length cap) X.length (tokv X), pt sb #[.string s1, .string s2, .string s3] 9, pt b1 #[.int .i64 ((X.getD j tz).k), .string ((X.getD j tz).x), .int .i64 ((X.getD j tz).n), .int .i64 ((X.getD j tz).a)] 77] _ := hM
      replace hM := hM.firstN 3
      replace hM : Mem _ _ [pt rb #[.slice (some ⟨g, (j + 1) * 4, none⟩) (X.length - (j + 1)) (cap - (j + 1)), .int .i64 ((X.getD j tz).a)] 62, own 77 4 (.slice ((some ⟨g, 0, none⟩)) X.length cap) X.length (tokv X), pt sb #[.string s1, .string s2, .string s3] 9] _ := hM
      have e1 : (wordR (X.getD j tz) [s1, s2, s3]) = (1, 0) := by
       rw [wordR_in hc3, wdI_miss hc4, wdI_hit hc5] <;> rfl
      have e2 : nxJ j (wordR (X.getD j tz) [s1, s2, s3]).2 = j + 1 := by rw [e1]; rfl
      rw [e1] at e2
      exact ⟨by rw [e1] <;> rfl, by rw [e1, e2]; exact hM⟩
     ·
      refine Ends.skip (Ends.inBlock (Ends.region ?_))
      refine S.val hA (R.addI rfl rfl (r := 2) rfl (by omega)) rfl ?_; clear hA a; intro a hA
      refine S.val hA (R.move rfl) rfl ?_; clear hA a; intro a hA
      refine S.done ?_
      refine Ends.inLoop ?_
      refine Ends.seq (Ends.region ?_)
      refine S.val hA (R.tt (R.lss rfl rfl) (by first | decide | simp | omega)) rfl ?_; clear hA a; intro a hA
      refine S.done ?_
      refine Ends.seq ?_
      refine Ends.condT hA rfl ?_
      refine Ends.skip (Ends.seq (Ends.block (Ends.seq (Ends.region ?_))))
      refine S.val hA (R.move rfl) rfl ?_; clear hA a; intro a hA
      refine S.val hA (R.indexAddr (q := 2) sl34 rfl rfl (by omega) (rfl)) rfl ?_; clear hA a; intro a hA
      refine S.val hA (R.load sz9 rfl (hM.cell (k := 3) rfl rfl)) rfl ?_; clear hA a; intro a hA
      refine S.val hA (R.assign rfl) rfl ?_; clear hA a; intro a hA
      refine S.val hA (R.assign rfl) rfl ?_; clear hA a; intro a hA
      refine S.done ?_
      replace hA : St 39 [(0, _), (6, _), (7, _), (8, _), (19, _), (20, _), (21, _)] a := hA.sub ((.cons rfl (.cons rfl (.cons rfl (.cons rfl (.cons rfl (.cons rfl (.cons rfl .nil))))))))
      refine Ends.seq ?_
      refine Ends.cut (fun (a : Act) (wv : World) => St 39 [(0, .pointer (some ⟨rb, 0, none⟩)), (6, .pointer (some ⟨b1, 0, none⟩)), (7, .int .i64 2), (19, .slice (some ⟨sb, 0, none⟩) 3 3), (20, .int .i64 3), (21, .int .i64 2), (34, .bool (decide ((((X.getD j tz).k) = 1 ∧ (X.getD j tz).x = s3))))] a ∧ Mem w (feet [pt rb #[.slice (some ⟨g, j * 4, none⟩) (X.length - j) (cap - j), .int .i64 at0] 62, own 77 4 (.slice ((some ⟨g, 0, none⟩)) X.length cap) X.length (tokv X), pt sb #[.string s1, .string s2, .string s3] 9]) [pt b1 #[.int .i64 ((X.getD j tz).k), .string ((X.getD j tz).x), .int .i64 ((X.getD j tz).n), .int .i64 ((X.getD j tz).a)] 77, pt rb #[.slice (some ⟨g, j * 4, none⟩) (X.length - j) (cap - j), .int .i64 ((X.getD j tz).a)] 62, own 77 4 (.slice ((some ⟨g, 0, none⟩)) X.length cap) X.length (tokv X), pt sb #[.string s1, .string s2, .string s3] 9] wv) ?_ (fun k2 hJ => ?_)
      ·
       clear hA hM a; rintro a w9 ⟨hA, hM⟩
       refine Ends.ite hA rfl (fun hc6 => ?_) (fun hc6 => ?_)
       ·
        refine Ends.seq (Ends.region ?_)
        refine S.val hA (R.move rfl) rfl ?_; clear hA a; intro a hA
        replace hM := hM.front (k := 2) rfl
        replace hM := hM.front (k := 2) rfl
        replace hM : Mem _ _ [pt rb #[.slice (some ⟨g, j * 4, none⟩) (X.length - j) (cap - j), .int .i64 ((X.getD j tz).a)] 62, own 77 4 (.slice ((some ⟨g, 0, none⟩)) X.length cap) X.length (tokv X), pt b1 #[.int .i64 ((X.getD j tz).k), .string ((X.getD j tz).x), .int .i64 ((X.getD j tz).n), .int .i64 ((X.getD j tz).a)] 77, pt sb #[.string s1, .string s2, .string s3] 9] _ := hM
        refine S.call hA (R.callF Tryd.func80 rfl rfl rfl) rfl (take06 g rb j cap ((X.getD j tz).a) X hX (by omega) hcap hj1 _ (hM.hereN 2)) ?_; clear hA a
        rintro e w10 ⟨rfl, hn⟩
        replace hM : Mem _ _ [pt rb #[.slice (some ⟨g, (j + 1) * 4, none⟩) (X.length - (j + 1)) (cap - (j + 1)), .int .i64 ((X.getD j tz).a)] 62, own 77 4 (.slice ((some ⟨g, 0, none⟩)) X.length cap) X.length (tokv X), pt b1 #[.int .i64 ((X.getD j tz).k), .string ((X.getD j tz).x), .int .i64 ((X.getD j tz).n), .int .i64 ((X.getD j tz).a)] 77, pt sb #[.string s1, .string s2, .string s3] 9] _ := hM.callL 2 hn; clear hn
        refine ⟨undef, rfl, fun a hA => ?_⟩
        refine S.done ?_
        refine Ends.seq (Ends.region ?_)
        refine S.val hA (R.move rfl) rfl ?_; clear hA a; intro a hA
        refine S.val hA (R.assign rfl) rfl ?_; clear hA a; intro a hA
        refine S.val hA (R.assign rfl) rfl ?_; clear hA a; intro a hA
        refine S.done ?_
        replace hA : St 39 [(0, _), (4, _), (5, _), (6, _), (19, _), (20, _), (21, _)] a := hA.sub ((.cons rfl (.cons rfl (.cons rfl (.cons rfl (.cons rfl (.cons rfl (.cons rfl .nil))))))))
        refine Ends.ret2 Tryd.func61 Tryd.results61 hA rfl rfl ?_
        replace hM := hM.front (k := 3) rfl
        replace hM := hM.front (k := 2) rfl
        replace hM := hM.front (k := 2) rfl
        replace hM : Mem _ _ [pt rb #[.slice (some ⟨g, (j + 1) * 4, none⟩) (X.length - (j + 1)) (cap - (j + 1)), .int .i64 ((X.getD j tz).a)] 62, own 77 4 (.slice ((some ⟨g, 0, none⟩)) X.length cap) X.length (tokv X), pt sb #[.string s1, .string s2, .string s3] 9, pt b1 #[.int .i64 ((X.getD j tz).k), .string ((X.getD j tz).x), .int .i64 ((X.getD j tz).n), .int .i64 ((X.getD j tz).a)] 77] _ := hM
        replace hM := hM.firstN 3
        replace hM : Mem _ _ [pt rb #[.slice (some ⟨g, (j + 1) * 4, none⟩) (X.length - (j + 1)) (cap - (j + 1)), .int .i64 ((X.getD j tz).a)] 62, own 77 4 (.slice ((some ⟨g, 0, none⟩)) X.length cap) X.length (tokv X), pt sb #[.string s1, .string s2, .string s3] 9] _ := hM
        have e1 : (wordR (X.getD j tz) [s1, s2, s3]) = (2, 0) := by
         rw [wordR_in hc3, wdI_miss hc4, wdI_miss hc5, wdI_hit hc6] <;> rfl
        have e2 : nxJ j (wordR (X.getD j tz) [s1, s2, s3]).2 = j + 1 := by rw [e1]; rfl
        rw [e1] at e2
        exact ⟨by rw [e1] <;> rfl, by rw [e1, e2]; exact hM⟩
       ·
        refine Ends.skip (Ends.inBlock (Ends.region ?_))
        refine S.val hA (R.addI rfl rfl (r := 3) rfl (by omega)) rfl ?_; clear hA a; intro a hA
        refine S.val hA (R.move rfl) rfl ?_; clear hA a; intro a hA
        refine S.done ?_
        refine Ends.inLoop ?_
        refine Ends.seq (Ends.region ?_)
        refine S.val hA (R.ff (R.lss rfl rfl) (by first | decide | simp | omega)) rfl ?_; clear hA a; intro a hA
        refine S.done ?_
        refine Ends.seq ?_
        refine Ends.condF hA rfl ?_
        refine Ends.exit rfl ?_
        replace hA : St 39 [] a := hA.sub (.nil)
        refine Ends.seq (Ends.region ?_)
        refine S.val hA (R.assign rfl) rfl ?_; clear hA a; intro a hA
        refine S.val hA (R.assign rfl) rfl ?_; clear hA a; intro a hA
        refine S.done ?_
        refine Ends.ret2 Tryd.func61 Tryd.results61 hA rfl rfl ?_
        replace hM := hM.front (k := 3) rfl
        replace hM := hM.front (k := 3) rfl
        replace hM := hM.front (k := 3) rfl
        replace hM : Mem _ _ [pt rb #[.slice (some ⟨g, j * 4, none⟩) (X.length - j) (cap - j), .int .i64 ((X.getD j tz).a)] 62, own 77 4 (.slice ((some ⟨g, 0, none⟩)) X.length cap) X.length (tokv X), pt sb #[.string s1, .string s2, .string s3] 9, pt b1 #[.int .i64 ((X.getD j tz).k), .string ((X.getD j tz).x), .int .i64 ((X.getD j tz).n), .int .i64 ((X.getD j tz).a)] 77] _ := hM
        replace hM := hM.firstN 3
        replace hM : Mem _ _ [pt rb #[.slice (some ⟨g, j * 4, none⟩) (X.length - j) (cap - j), .int .i64 ((X.getD j tz).a)] 62, own 77 4 (.slice ((some ⟨g, 0, none⟩)) X.length cap) X.length (tokv X), pt sb #[.string s1, .string s2, .string s3] 9] _ := hM
        have e1 : (wordR (X.getD j tz) [s1, s2, s3]) = (0, 3) := by
         rw [wordR_in hc3, wdI_miss hc4, wdI_miss hc5, wdI_miss hc6] <;> rfl
        have e2 : nxJ j (wordR (X.getD j tz) [s1, s2, s3]).2 = j := by rw [e1]; rfl
        rw [e1] at e2
        exact ⟨by rw [e1] <;> rfl, by rw [e1, e2]; exact hM⟩
      ·
       refine Ends.region ?_
       refine S.val hA (R.fieldAddr (q := 0) fi77_0 rfl rfl rfl) rfl ?_; clear hA a; intro a hA
       refine S.val hA (R.load sz3 rfl (hM.cell (k := 0) rfl rfl)) rfl ?_; clear hA a; intro a hA
       refine S.val hA (R.eql rfl rfl) rfl ?_; clear hA a; intro a hA
       refine S.val hA (R.move rfl) rfl ?_; clear hA a; intro a hA
       refine hA.split (d := 29) rfl ?_ ?_
       ·
        clear hA; intro hg7 hA
        refine S.valg (dj := 29) hA (by kernel_rfl) rfl (R.fieldAddr (q := 1) fi77_1 rfl rfl rfl) rfl ?_; clear hA a; intro a hA
        refine S.valg (dj := 29) hA (by kernel_rfl) rfl (R.load sz9 rfl (hM.cell (k := 0) rfl rfl)) rfl ?_; clear hA a; intro a hA
        refine S.valg (dj := 29) hA (by kernel_rfl) rfl (R.move rfl) rfl ?_; clear hA a; intro a hA
        refine S.valg (dj := 29) hA (by kernel_rfl) rfl (R.eqlStr rfl rfl) rfl ?_; clear hA a; intro a hA
        refine S.val hA (R.pickT rfl rfl) rfl ?_; clear hA a; intro a hA
        refine S.done ?_
        replace hA : St 39 [(0, _), (6, _), (7, _), (19, _), (20, _), (21, _), (34, _)] a := hA.sub ((.cons rfl (.cons rfl (.cons rfl (.cons rfl (.cons rfl (.cons rfl (.cons rfl .nil))))))))
        exact hJ _ _ ⟨hA.sub (.cons rfl (.cons rfl (.cons rfl (.cons rfl (.cons rfl (.cons rfl (.cons (by first | rfl | exact congrArg (fun b => some (Value.bool b)) (by first | exact decide_eq_decide.2 (by omega) | exact or_bool (by omega) | exact and_bool (by omega) | (simp; done) | (simp [hg7]; done) | (have h80 := hg7; (try simp at h80); simp [h80]; done) | exact (decide_eq_false (fun h9 => hg7 h9.1)).symm)) .nil))))))), hM⟩
       ·
        clear hA; intro hg7 hA
        refine S.no (dj := 29) hA (by kernel_rfl) rfl rfl rfl ?_; clear hA a; intro a hA
        refine S.no (dj := 29) hA (by kernel_rfl) rfl rfl rfl ?_; clear hA a; intro a hA
        refine S.no (dj := 29) hA (by kernel_rfl) rfl rfl rfl ?_; clear hA a; intro a hA
        refine S.no (dj := 29) hA (by kernel_rfl) rfl rfl rfl ?_; clear hA a; intro a hA
        refine S.val hA (R.pickF rfl rfl) rfl ?_; clear hA a; intro a hA
        refine S.done ?_
        replace hA : St 39 [(0, _), (6, _), (7, _), (19, _), (20, _), (21, _), (34, _)] a := hA.sub ((.cons rfl (.cons rfl (.cons rfl (.cons rfl (.cons rfl (.cons rfl (.cons rfl .nil))))))))
        exact hJ _ _ ⟨hA.sub (.cons rfl (.cons rfl (.cons rfl (.cons rfl (.cons rfl (.cons rfl (.cons (by first | rfl | exact congrArg (fun b => some (Value.bool b)) (by first | exact decide_eq_decide.2 (by omega) | exact or_bool (by omega) | exact and_bool (by omega) | (simp; done) | (simp [hg7]; done) | (have h80 := hg7; (try simp at h80); simp [h80]; done) | exact (decide_eq_false (fun h9 => hg7 h9.1)).symm)) .nil))))))), hM⟩
    ·
     refine Ends.region ?_
     refine S.val hA (R.fieldAddr (q := 0) fi77_0 rfl rfl rfl) rfl ?_; clear hA a; intro a hA
     refine S.val hA (R.load sz3 rfl (hM.cell (k := 0) rfl rfl)) rfl ?_; clear hA a; intro a hA
     refine S.val hA (R.eql rfl rfl) rfl ?_; clear hA a; intro a hA
     refine S.val hA (R.move rfl) rfl ?_; clear hA a; intro a hA
     refine hA.split (d := 29) rfl ?_ ?_
     ·
      clear hA; intro hg8 hA
      refine S.valg (dj := 29) hA (by kernel_rfl) rfl (R.fieldAddr (q := 1) fi77_1 rfl rfl rfl) rfl ?_; clear hA a; intro a hA
      refine S.valg (dj := 29) hA (by kernel_rfl) rfl (R.load sz9 rfl (hM.cell (k := 0) rfl rfl)) rfl ?_; clear hA a; intro a hA
      refine S.valg (dj := 29) hA (by kernel_rfl) rfl (R.move rfl) rfl ?_; clear hA a; intro a hA
      refine S.valg (dj := 29) hA (by kernel_rfl) rfl (R.eqlStr rfl rfl) rfl ?_; clear hA a; intro a hA
      refine S.val hA (R.pickT rfl rfl) rfl ?_; clear hA a; intro a hA
      refine S.done ?_
      replace hA : St 39 [(0, _), (6, _), (7, _), (19, _), (20, _), (21, _), (34, _)] a := hA.sub ((.cons rfl (.cons rfl (.cons rfl (.cons rfl (.cons rfl (.cons rfl (.cons rfl .nil))))))))
      exact hJ _ _ ⟨hA.sub (.cons rfl (.cons rfl (.cons rfl (.cons rfl (.cons rfl (.cons rfl (.cons (by first | rfl | exact congrArg (fun b => some (Value.bool b)) (by first | exact decide_eq_decide.2 (by omega) | exact or_bool (by omega) | exact and_bool (by omega) | (simp; done) | (simp [hg8]; done) | (have h80 := hg8; (try simp at h80); simp [h80]; done) | exact (decide_eq_false (fun h9 => hg8 h9.1)).symm)) .nil))))))), hM⟩
     ·
      clear hA; intro hg8 hA
      refine S.no (dj := 29) hA (by kernel_rfl) rfl rfl rfl ?_; clear hA a; intro a hA
      refine S.no (dj := 29) hA (by kernel_rfl) rfl rfl rfl ?_; clear hA a; intro a hA
      refine S.no (dj := 29) hA (by kernel_rfl) rfl rfl rfl ?_; clear hA a; intro a hA
      refine S.no (dj := 29) hA (by kernel_rfl) rfl rfl rfl ?_; clear hA a; intro a hA
      refine S.val hA (R.pickF rfl rfl) rfl ?_; clear hA a; intro a hA
      refine S.done ?_
      replace hA : St 39 [(0, _), (6, _), (7, _), (19, _), (20, _), (21, _), (34, _)] a := hA.sub ((.cons rfl (.cons rfl (.cons rfl (.cons rfl (.cons rfl (.cons rfl (.cons rfl .nil))))))))
      exact hJ _ _ ⟨hA.sub (.cons rfl (.cons rfl (.cons rfl (.cons rfl (.cons rfl (.cons rfl (.cons (by first | rfl | exact congrArg (fun b => some (Value.bool b)) (by first | exact decide_eq_decide.2 (by omega) | exact or_bool (by omega) | exact and_bool (by omega) | (simp; done) | (simp [hg8]; done) | (have h80 := hg8; (try simp at h80); simp [h80]; done) | exact (decide_eq_false (fun h9 => hg8 h9.1)).symm)) .nil))))))), hM⟩
  ·
   refine Ends.region ?_
   refine S.val hA (R.fieldAddr (q := 0) fi77_0 rfl rfl rfl) rfl ?_; clear hA a; intro a hA
   refine S.val hA (R.load sz3 rfl (hM.cell (k := 0) rfl rfl)) rfl ?_; clear hA a; intro a hA
   refine S.val hA (R.eql rfl rfl) rfl ?_; clear hA a; intro a hA
   refine S.val hA (R.move rfl) rfl ?_; clear hA a; intro a hA
   refine hA.split (d := 29) rfl ?_ ?_
   ·
    clear hA; intro hg9 hA
    refine S.valg (dj := 29) hA (by kernel_rfl) rfl (R.fieldAddr (q := 1) fi77_1 rfl rfl rfl) rfl ?_; clear hA a; intro a hA
    refine S.valg (dj := 29) hA (by kernel_rfl) rfl (R.load sz9 rfl (hM.cell (k := 0) rfl rfl)) rfl ?_; clear hA a; intro a hA
    refine S.valg (dj := 29) hA (by kernel_rfl) rfl (R.move rfl) rfl ?_; clear hA a; intro a hA
    refine S.valg (dj := 29) hA (by kernel_rfl) rfl (R.eqlStr rfl rfl) rfl ?_; clear hA a; intro a hA
    refine S.val hA (R.pickT rfl rfl) rfl ?_; clear hA a; intro a hA
    refine S.done ?_
    replace hA : St 39 [(0, _), (6, _), (7, _), (19, _), (20, _), (21, _), (34, _)] a := hA.sub ((.cons rfl (.cons rfl (.cons rfl (.cons rfl (.cons rfl (.cons rfl (.cons rfl .nil))))))))
    exact hJ _ _ ⟨hA.sub (.cons rfl (.cons rfl (.cons rfl (.cons rfl (.cons rfl (.cons rfl (.cons (by first | rfl | exact congrArg (fun b => some (Value.bool b)) (by first | exact decide_eq_decide.2 (by omega) | exact or_bool (by omega) | exact and_bool (by omega) | (simp; done) | (simp [hg9]; done) | (have h80 := hg9; (try simp at h80); simp [h80]; done) | exact (decide_eq_false (fun h9 => hg9 h9.1)).symm)) .nil))))))), hM⟩
   ·
    clear hA; intro hg9 hA
    refine S.no (dj := 29) hA (by kernel_rfl) rfl rfl rfl ?_; clear hA a; intro a hA
    refine S.no (dj := 29) hA (by kernel_rfl) rfl rfl rfl ?_; clear hA a; intro a hA
    refine S.no (dj := 29) hA (by kernel_rfl) rfl rfl rfl ?_; clear hA a; intro a hA
    refine S.no (dj := 29) hA (by kernel_rfl) rfl rfl rfl ?_; clear hA a; intro a hA
    refine S.val hA (R.pickF rfl rfl) rfl ?_; clear hA a; intro a hA
    refine S.done ?_
    replace hA : St 39 [(0, _), (6, _), (7, _), (19, _), (20, _), (21, _), (34, _)] a := hA.sub ((.cons rfl (.cons rfl (.cons rfl (.cons rfl (.cons rfl (.cons rfl (.cons rfl .nil))))))))
    exact hJ _ _ ⟨hA.sub (.cons rfl (.cons rfl (.cons rfl (.cons rfl (.cons rfl (.cons rfl (.cons (by first | rfl | exact congrArg (fun b => some (Value.bool b)) (by first | exact decide_eq_decide.2 (by omega) | exact or_bool (by omega) | exact and_bool (by omega) | (simp; done) | (simp [hg9]; done) | (have h80 := hg9; (try simp at h80); simp [h80]; done) | exact (decide_eq_false (fun h9 => hg9 h9.1)).symm)) .nil))))))), hM⟩
set_option maxRecDepth 100000 in
set_option maxHeartbeats 400000 in
theorem word06_2 (g rb j cap : Nat) (at0 : Int) (X : List Tok) (hX : Toks X) (hj : j < X.length) (hcap : X.length ≤ cap) (sb : Nat) (s1 s2 : ByteArray) (w : World) (hM : Mem w (feet [pt rb #[.slice (some ⟨g, j * 4, none⟩) (X.length - j) (cap - j), .int .i64 at0] 62, own 77 4 (.slice ((some ⟨g, 0, none⟩)) X.length cap) X.length (tokv X), pt sb #[.string s1, .string s2] 9]) [pt rb #[.slice (some ⟨g, j * 4, none⟩) (X.length - j) (cap - j), .int .i64 at0] 62, own 77 4 (.slice ((some ⟨g, 0, none⟩)) X.length cap) X.length (tokv X), pt sb #[.string s1, .string s2] 9] w) :
  Calls Tryd.prog 61 #[.pointer (some ⟨rb, 0, none⟩), .slice (some ⟨sb, 0, none⟩) 2 2] w fun e w' => e = .returned (.tuple #[.int .i64 (wordR (X.getD j tz) [s1, s2]).1, .int .i64 (wordR (X.getD j tz) [s1, s2]).2]) ∧ Mem w (feet [pt rb #[.slice (some ⟨g, j * 4, none⟩) (X.length - j) (cap - j), .int .i64 at0] 62, own 77 4 (.slice ((some ⟨g, 0, none⟩)) X.length cap) X.length (tokv X), pt sb #[.string s1, .string s2] 9]) [pt rb #[.slice (some ⟨g, (nxJ j (wordR (X.getD j tz) [s1, s2]).2) * 4, none⟩) (X.length - (nxJ j (wordR (X.getD j tz) [s1, s2]).2)) (cap - (nxJ j (wordR (X.getD j tz) [s1, s2]).2)), .int .i64 ((X.getD j tz).a)] 62, own 77 4 (.slice ((some ⟨g, 0, none⟩)) X.length cap) X.length (tokv X), pt sb #[.string s1, .string s2] 9] w' := by
 have hbs := Below.refl (B := w.heap.size) w
 have hlX := hX.len
 refine Calls.of_ends (vs := [.pointer (some ⟨rb, 0, none⟩), .slice (some ⟨sb, 0, none⟩) 2 2]) Tryd.func61 rfl Tryd.ntmps61 rfl ?_
 intro a hA
 replace hA : St 39 [(0, _), (1, _)] a := hA
 refine Ends.seq (Ends.region ?_)
 refine S.val hA (R.assign rfl) rfl ?_; clear hA a; intro a hA
 refine S.val hA (R.assign rfl) rfl ?_; clear hA a; intro a hA
 refine S.done ?_
 refine Ends.seq (Ends.region ?_)
 refine S.val hA (R.move rfl) rfl ?_; clear hA a; intro a hA
 refine S.call hA (R.callF Tryd.func79 rfl rfl rfl) rfl (next06 g rb j cap at0 X hX (by omega) hcap _ (hM.hereN 2)) ?_; clear hA a
 rintro e w1 ⟨rfl, hn⟩
 replace hM : Mem _ _ [pt rb #[.slice (some ⟨g, j * 4, none⟩) (X.length - j) (cap - j), .int .i64 at0] 62, own 77 4 (.slice ((some ⟨g, 0, none⟩)) X.length cap) X.length (tokv X), pt sb #[.string s1, .string s2] 9] _ := hM.callL 2 hn; clear hn
 refine ⟨.agg #[.int .i64 ((X.getD j tz).k), .string ((X.getD j tz).x), .int .i64 ((X.getD j tz).n), .int .i64 ((X.getD j tz).a)], rfl, fun a hA => ?_⟩
 refine S.alloc hA hM info77 rfl rfl ?_; clear hA hM a; intro b1 w2 hb2 hM a hA
 replace hM : Mem _ _ [pt b1 #[.int .i64 0, .string (⟨#[]⟩), .int .i64 0, .int .i64 0] 77, pt rb #[.slice (some ⟨g, j * 4, none⟩) (X.length - j) (cap - j), .int .i64 at0] 62, own 77 4 (.slice ((some ⟨g, 0, none⟩)) X.length cap) X.length (tokv X), pt sb #[.string s1, .string s2] 9] _ := hM
 refine S.storeA (k := 0) hA hM sz77 rfl rfl rfl rfl rfl rfl ?_; clear hM
 intro w3 hM
 replace hM : Mem _ _ [pt b1 #[.int .i64 ((X.getD j tz).k), .string ((X.getD j tz).x), .int .i64 ((X.getD j tz).n), .int .i64 ((X.getD j tz).a)] 77, pt rb #[.slice (some ⟨g, j * 4, none⟩) (X.length - j) (cap - j), .int .i64 at0] 62, own 77 4 (.slice ((some ⟨g, 0, none⟩)) X.length cap) X.length (tokv X), pt sb #[.string s1, .string s2] 9] _ := hM
 refine S.done ?_
 replace hA : St 39 [(0, _), (1, _), (6, _)] a := hA.sub ((.cons rfl (.cons rfl (.cons rfl .nil))))
 refine Ends.seq (Ends.region ?_)
 refine S.val hA (R.move rfl) rfl ?_; clear hA a; intro a hA
 refine S.val hA (R.fieldAddr (q := 3) fi77_3 rfl rfl rfl) rfl ?_; clear hA a; intro a hA
 refine S.val hA (R.load sz3 rfl (hM.cell (k := 0) rfl rfl)) rfl ?_; clear hA a; intro a hA
 refine S.val hA (R.nilCheck rfl) rfl ?_; clear hA a; intro a hA
 refine S.val hA (R.fieldAddr (q := 1) fi62_1 rfl rfl rfl) rfl ?_; clear hA a; intro a hA
 refine S.store (k := 1) hA hM sz3 rfl rfl rfl rfl rfl ?_; clear hM
 intro w4 hM
 replace hM : Mem _ _ [pt b1 #[.int .i64 ((X.getD j tz).k), .string ((X.getD j tz).x), .int .i64 ((X.getD j tz).n), .int .i64 ((X.getD j tz).a)] 77, pt rb #[.slice (some ⟨g, j * 4, none⟩) (X.length - j) (cap - j), .int .i64 ((X.getD j tz).a)] 62, own 77 4 (.slice ((some ⟨g, 0, none⟩)) X.length cap) X.length (tokv X), pt sb #[.string s1, .string s2] 9] _ := hM
 refine S.done ?_
 replace hA : St 39 [(0, _), (1, _), (6, _)] a := hA.sub ((.cons rfl (.cons rfl (.cons rfl .nil))))
 refine Ends.seq (Ends.seq (Ends.region ?_))
 refine S.val hA (R.fieldAddr (q := 0) fi77_0 rfl rfl rfl) rfl ?_; clear hA a; intro a hA
 refine S.val hA (R.load sz3 rfl (hM.cell (k := 0) rfl rfl)) rfl ?_; clear hA a; intro a hA
 refine S.val hA (R.eql rfl rfl) rfl ?_; clear hA a; intro a hA
 refine S.done ?_
 refine Ends.ite hA rfl (fun hc3 => ?_) (fun hc3 => ?_)
 ·
  refine Ends.seq (Ends.region ?_)
  refine S.val hA (R.assign rfl) rfl ?_; clear hA a; intro a hA
  refine S.val hA (R.assign rfl) rfl ?_; clear hA a; intro a hA
  refine S.done ?_
  refine Ends.ret2 Tryd.func61 Tryd.results61 hA rfl rfl ?_
  replace hM := hM.front (k := 3) rfl
  replace hM := hM.front (k := 3) rfl
  replace hM := hM.front (k := 3) rfl
  replace hM : Mem _ _ [pt rb #[.slice (some ⟨g, j * 4, none⟩) (X.length - j) (cap - j), .int .i64 ((X.getD j tz).a)] 62, own 77 4 (.slice ((some ⟨g, 0, none⟩)) X.length cap) X.length (tokv X), pt sb #[.string s1, .string s2] 9, pt b1 #[.int .i64 ((X.getD j tz).k), .string ((X.getD j tz).x), .int .i64 ((X.getD j tz).n), .int .i64 ((X.getD j tz).a)] 77] _ := hM
  replace hM := hM.firstN 3
  replace hM : Mem _ _ [pt rb #[.slice (some ⟨g, j * 4, none⟩) (X.length - j) (cap - j), .int .i64 ((X.getD j tz).a)] 62, own 77 4 (.slice ((some ⟨g, 0, none⟩)) X.length cap) X.length (tokv X), pt sb #[.string s1, .string s2] 9] _ := hM
  have e1 : (wordR (X.getD j tz) [s1, s2]) = (0, 6) := wordR_end hc3
  have e2 : nxJ j (wordR (X.getD j tz) [s1, s2]).2 = j := by rw [e1]; rfl
  rw [e1] at e2
  exact ⟨by rw [e1] <;> rfl, by rw [e1, e2]; exact hM⟩
 ·
  have hj1 := hX.next j hj hc3
  refine Ends.skip (Ends.seq (Ends.seq (Ends.region ?_)))
  refine S.val hA (R.move rfl) rfl ?_; clear hA a; intro a hA
  refine S.val hA (R.lenS Tryd.underlying34 rfl rfl) rfl ?_; clear hA a; intro a hA
  refine S.val hA (R.move rfl) rfl ?_; clear hA a; intro a hA
  refine S.done ?_
  replace hA : St 39 [(0, _), (6, _), (19, _), (20, _), (21, _)] a := hA.sub ((.cons rfl (.cons rfl (.cons rfl (.cons rfl (.cons rfl .nil))))))
  refine Ends.block ?_
  refine Ends.unroll ?_
  refine Ends.seq (Ends.region ?_)
  refine S.val hA (R.tt (R.lss rfl rfl) (by first | decide | simp | omega)) rfl ?_; clear hA a; intro a hA
  refine S.done ?_
  refine Ends.seq ?_
  refine Ends.condT hA rfl ?_
  refine Ends.skip (Ends.seq (Ends.block (Ends.seq (Ends.region ?_))))
  refine S.val hA (R.move rfl) rfl ?_; clear hA a; intro a hA
  refine S.val hA (R.indexAddr (q := 0) sl34 rfl rfl (by omega) (rfl)) rfl ?_; clear hA a; intro a hA
  refine S.val hA (R.load sz9 rfl (hM.cell (k := 3) rfl rfl)) rfl ?_; clear hA a; intro a hA
  refine S.val hA (R.assign rfl) rfl ?_; clear hA a; intro a hA
  refine S.val hA (R.assign rfl) rfl ?_; clear hA a; intro a hA
  refine S.done ?_
  replace hA : St 39 [(0, _), (6, _), (7, _), (8, _), (19, _), (20, _), (21, _)] a := hA.sub ((.cons rfl (.cons rfl (.cons rfl (.cons rfl (.cons rfl (.cons rfl (.cons rfl .nil))))))))
  refine Ends.seq ?_
  refine Ends.cut (fun (a : Act) (wv : World) => St 39 [(0, .pointer (some ⟨rb, 0, none⟩)), (6, .pointer (some ⟨b1, 0, none⟩)), (7, .int .i64 0), (19, .slice (some ⟨sb, 0, none⟩) 2 2), (20, .int .i64 2), (21, .int .i64 0), (34, .bool (decide ((((X.getD j tz).k) = 1 ∧ (X.getD j tz).x = s1))))] a ∧ Mem w (feet [pt rb #[.slice (some ⟨g, j * 4, none⟩) (X.length - j) (cap - j), .int .i64 at0] 62, own 77 4 (.slice ((some ⟨g, 0, none⟩)) X.length cap) X.length (tokv X), pt sb #[.string s1, .string s2] 9]) [pt b1 #[.int .i64 ((X.getD j tz).k), .string ((X.getD j tz).x), .int .i64 ((X.getD j tz).n), .int .i64 ((X.getD j tz).a)] 77, pt rb #[.slice (some ⟨g, j * 4, none⟩) (X.length - j) (cap - j), .int .i64 ((X.getD j tz).a)] 62, own 77 4 (.slice ((some ⟨g, 0, none⟩)) X.length cap) X.length (tokv X), pt sb #[.string s1, .string s2] 9] wv) ?_ (fun k2 hJ => ?_)
  ·
   clear hA hM a; rintro a w5 ⟨hA, hM⟩
   refine Ends.ite hA rfl (fun hc4 => ?_) (fun hc4 => ?_)
   ·
    refine Ends.seq (Ends.region ?_)
    refine S.val hA (R.move rfl) rfl ?_; clear hA a; intro a hA
    replace hM := hM.front (k := 2) rfl
    replace hM := hM.front (k := 2) rfl
    replace hM : Mem _ _ [pt rb #[.slice (some ⟨g, j * 4, none⟩) (X.length - j) (cap - j), .int .i64 ((X.getD j tz).a)] 62, own 77 4 (.slice ((some ⟨g, 0, none⟩)) X.length cap) X.length (tokv X), pt b1 #[.int .i64 ((X.getD j tz).k), .string ((X.getD j tz).x), .int .i64 ((X.getD j tz).n), .int .i64 ((X.getD j tz).a)] 77, pt sb #[.string s1, .string s2] 9] _ := hM
    refine S.call hA (R.callF Tryd.func80 rfl rfl rfl) rfl (take06 g rb j cap ((X.getD j tz).a) X hX (by omega) hcap hj1 _ (hM.hereN 2)) ?_; clear hA a
    rintro e w6 ⟨rfl, hn⟩
    replace hM : Mem _ _ [pt rb #[.slice (some ⟨g, (j + 1) * 4, none⟩) (X.length - (j + 1)) (cap - (j + 1)), .int .i64 ((X.getD j tz).a)] 62, own 77 4 (.slice ((some ⟨g, 0, none⟩)) X.length cap) X.length (tokv X), pt b1 #[.int .i64 ((X.getD j tz).k), .string ((X.getD j tz).x), .int .i64 ((X.getD j tz).n), .int .i64 ((X.getD j tz).a)] 77, pt sb #[.string s1, .string s2] 9] _ := hM.callL 2 hn; clear hn
    refine ⟨undef, rfl, fun a hA => ?_⟩
    refine S.done ?_
    refine Ends.seq (Ends.region ?_)
    refine S.val hA (R.move rfl) rfl ?_; clear hA a; intro a hA
    refine S.val hA (R.assign rfl) rfl ?_; clear hA a; intro a hA
    refine S.val hA (R.assign rfl) rfl ?_; clear hA a; intro a hA
    refine S.done ?_
    replace hA : St 39 [(0, _), (4, _), (5, _), (6, _), (19, _), (20, _), (21, _)] a := hA.sub ((.cons rfl (.cons rfl (.cons rfl (.cons rfl (.cons rfl (.cons rfl (.cons rfl .nil))))))))
    refine Ends.ret2 Tryd.func61 Tryd.results61 hA rfl rfl ?_
    replace hM := hM.front (k := 3) rfl
    replace hM := hM.front (k := 2) rfl
    replace hM := hM.front (k := 2) rfl
    replace hM : Mem _ _ [pt rb #[.slice (some ⟨g, (j + 1) * 4, none⟩) (X.length - (j + 1)) (cap - (j + 1)), .int .i64 ((X.getD j tz).a)] 62, own 77 4 (.slice ((some ⟨g, 0, none⟩)) X.length cap) X.length (tokv X), pt sb #[.string s1, .string s2] 9, pt b1 #[.int .i64 ((X.getD j tz).k), .string ((X.getD j tz).x), .int .i64 ((X.getD j tz).n), .int .i64 ((X.getD j tz).a)] 77] _ := hM
    replace hM := hM.firstN 3
    replace hM : Mem _ _ [pt rb #[.slice (some ⟨g, (j + 1) * 4, none⟩) (X.length - (j + 1)) (cap - (j + 1)), .int .i64 ((X.getD j tz).a)] 62, own 77 4 (.slice ((some ⟨g, 0, none⟩)) X.length cap) X.length (tokv X), pt sb #[.string s1, .string s2] 9] _ := hM
    have e1 : (wordR (X.getD j tz) [s1, s2]) = (0, 0) := by
     rw [wordR_in hc3, wdI_hit hc4] <;> rfl
    have e2 : nxJ j (wordR (X.getD j tz) [s1, s2]).2 = j + 1 := by rw [e1]; rfl
    rw [e1] at e2
    exact ⟨by rw [e1] <;> rfl, by rw [e1, e2]; exact hM⟩
   ·
    refine Ends.skip (Ends.inBlock (Ends.region ?_))
    refine S.val hA (R.addI rfl rfl (r := 1) rfl (by omega)) rfl ?_; clear hA a; intro a hA
    refine S.val hA (R.move rfl) rfl ?_; clear hA a; intro a hA
    refine S.done ?_
    refine Ends.inLoop ?_
    refine Ends.seq (Ends.region ?_)
    refine S.val hA (R.tt (R.lss rfl rfl) (by first | decide | simp | omega)) rfl ?_; clear hA a; intro a hA
    refine S.done ?_
    refine Ends.seq ?_
    refine Ends.condT hA rfl ?_
    refine Ends.skip (Ends.seq (Ends.block (Ends.seq (Ends.region ?_))))
    refine S.val hA (R.move rfl) rfl ?_; clear hA a; intro a hA
    refine S.val hA (R.indexAddr (q := 1) sl34 rfl rfl (by omega) (rfl)) rfl ?_; clear hA a; intro a hA
    refine S.val hA (R.load sz9 rfl (hM.cell (k := 3) rfl rfl)) rfl ?_; clear hA a; intro a hA
    refine S.val hA (R.assign rfl) rfl ?_; clear hA a; intro a hA
    refine S.val hA (R.assign rfl) rfl ?_; clear hA a; intro a hA
    refine S.done ?_
    replace hA : St 39 [(0, _), (6, _), (7, _), (8, _), (19, _), (20, _), (21, _)] a := hA.sub ((.cons rfl (.cons rfl (.cons rfl (.cons rfl (.cons rfl (.cons rfl (.cons rfl .nil))))))))
    refine Ends.seq ?_
    refine Ends.cut (fun (a : Act) (wv : World) => St 39 [(0, .pointer (some ⟨rb, 0, none⟩)), (6, .pointer (some ⟨b1, 0, none⟩)), (7, .int .i64 1), (19, .slice (some ⟨sb, 0, none⟩) 2 2), (20, .int .i64 2), (21, .int .i64 1), (34, .bool (decide ((((X.getD j tz).k) = 1 ∧ (X.getD j tz).x = s2))))] a ∧ Mem w (feet [pt rb #[.slice (some ⟨g, j * 4, none⟩) (X.length - j) (cap - j), .int .i64 at0] 62, own 77 4 (.slice ((some ⟨g, 0, none⟩)) X.length cap) X.length (tokv X), pt sb #[.string s1, .string s2] 9]) [pt b1 #[.int .i64 ((X.getD j tz).k), .string ((X.getD j tz).x), .int .i64 ((X.getD j tz).n), .int .i64 ((X.getD j tz).a)] 77, pt rb #[.slice (some ⟨g, j * 4, none⟩) (X.length - j) (cap - j), .int .i64 ((X.getD j tz).a)] 62, own 77 4 (.slice ((some ⟨g, 0, none⟩)) X.length cap) X.length (tokv X), pt sb #[.string s1, .string s2] 9] wv) ?_ (fun k2 hJ => ?_)
    ·
     clear hA hM a; rintro a w7 ⟨hA, hM⟩
     refine Ends.ite hA rfl (fun hc5 => ?_) (fun hc5 => ?_)
     ·
      refine Ends.seq (Ends.region ?_)
      refine S.val hA (R.move rfl) rfl ?_; clear hA a; intro a hA
      replace hM := hM.front (k := 2) rfl
      replace hM := hM.front (k := 2) rfl
      replace hM : Mem _ _ [pt rb #[.slice (some ⟨g, j * 4, none⟩) (X.length - j) (cap - j), .int .i64 ((X.getD j tz).a)] 62, own 77 4 (.slice ((some ⟨g, 0, none⟩)) X.length cap) X.length (tokv X), pt b1 #[.int .i64 ((X.getD j tz).k), .string ((X.getD j tz).x), .int .i64 ((X.getD j tz).n), .int .i64 ((X.getD j tz).a)] 77, pt sb #[.string s1, .string s2] 9] _ := hM
      refine S.call hA (R.callF Tryd.func80 rfl rfl rfl) rfl (take06 g rb j cap ((X.getD j tz).a) X hX (by omega) hcap hj1 _ (hM.hereN 2)) ?_; clear hA a
      rintro e w8 ⟨rfl, hn⟩
      replace hM : Mem _ _ [pt rb #[.slice (some ⟨g, (j + 1) * 4, none⟩) (X.length - (j + 1)) (cap - (j + 1)), .int .i64 ((X.getD j tz).a)] 62, own 77 4 (.slice ((some ⟨g, 0, none⟩)) X.length cap) X.length (tokv X), pt b1 #[.int .i64 ((X.getD j tz).k), .string ((X.getD j tz).x), .int .i64 ((X.getD j tz).n), .int .i64 ((X.getD j tz).a)] 77, pt sb #[.string s1, .string s2] 9] _ := hM.callL 2 hn; clear hn
      refine ⟨undef, rfl, fun a hA => ?_⟩
      refine S.done ?_
      refine Ends.seq (Ends.region ?_)
      refine S.val hA (R.move rfl) rfl ?_; clear hA a; intro a hA
      refine S.val hA (R.assign rfl) rfl ?_; clear hA a; intro a hA
      refine S.val hA (R.assign rfl) rfl ?_; clear hA a; intro a hA
      refine S.done ?_
      replace hA : St 39 [(0, _), (4, _), (5, _), (6, _), (19, _), (20, _), (21, _)] a := hA.sub ((.cons rfl (.cons rfl (.cons rfl (.cons rfl (.cons rfl (.cons rfl (.cons rfl .nil))))))))
      refine Ends.ret2 Tryd.func61 Tryd.results61 hA rfl rfl ?_
      replace hM := hM.front (k := 3) rfl
      replace hM := hM.front (k := 2) rfl
      replace hM := hM.front (k := 2) rfl
      replace hM : Mem _ _ [pt rb #[.slice (some ⟨g, (j + 1) * 4, none⟩) (X.length - (j + 1)) (cap - (j + 1)), .int .i64 ((X.getD j tz).a)] 62, own 77 4 (.slice ((some ⟨g, 0, none⟩)) X.length cap) X.length (tokv X), pt sb #[.string s1, .string s2] 9, pt b1 #[.int .i64 ((X.getD j tz).k), .string ((X.getD j tz).x), .int .i64 ((X.getD j tz).n), .int .i64 ((X.getD j tz).a)] 77] _ := hM
      replace hM := hM.firstN 3
      replace hM : Mem _ _ [pt rb #[.slice (some ⟨g, (j + 1) * 4, none⟩) (X.length - (j + 1)) (cap - (j + 1)), .int .i64 ((X.getD j tz).a)] 62, own 77 4 (.slice ((some ⟨g, 0, none⟩)) X.length cap) X.length (tokv X), pt sb #[.string s1, .string s2] 9] _ := hM
      have e1 : (wordR (X.getD j tz) [s1, s2]) = (1, 0) := by
       rw [wordR_in hc3, wdI_miss hc4, wdI_hit hc5] <;> rfl
      have e2 : nxJ j (wordR (X.getD j tz) [s1, s2]).2 = j + 1 := by rw [e1]; rfl
      rw [e1] at e2
      exact ⟨by rw [e1] <;> rfl, by rw [e1, e2]; exact hM⟩
     ·
      refine Ends.skip (Ends.inBlock (Ends.region ?_))
      refine S.val hA (R.addI rfl rfl (r := 2) rfl (by omega)) rfl ?_; clear hA a; intro a hA
      refine S.val hA (R.move rfl) rfl ?_; clear hA a; intro a hA
      refine S.done ?_
      refine Ends.inLoop ?_
      refine Ends.seq (Ends.region ?_)
      refine S.val hA (R.ff (R.lss rfl rfl) (by first | decide | simp | omega)) rfl ?_; clear hA a; intro a hA
      refine S.done ?_
      refine Ends.seq ?_
      refine Ends.condF hA rfl ?_
      refine Ends.exit rfl ?_
      replace hA : St 39 [] a := hA.sub (.nil)
      refine Ends.seq (Ends.region ?_)
      refine S.val hA (R.assign rfl) rfl ?_; clear hA a; intro a hA
      refine S.val hA (R.assign rfl) rfl ?_; clear hA a; intro a hA
      refine S.done ?_
      refine Ends.ret2 Tryd.func61 Tryd.results61 hA rfl rfl ?_
      replace hM := hM.front (k := 3) rfl
      replace hM := hM.front (k := 3) rfl
      replace hM := hM.front (k := 3) rfl
      replace hM : Mem _ _ [pt rb #[.slice (some ⟨g, j * 4, none⟩) (X.length - j) (cap - j), .int .i64 ((X.getD j tz).a)] 62, own 77 4 (.slice ((some ⟨g, 0, none⟩)) X.length cap) X.length (tokv X), pt sb #[.string s1, .string s2] 9, pt b1 #[.int .i64 ((X.getD j tz).k), .string ((X.getD j tz).x), .int .i64 ((X.getD j tz).n), .int .i64 ((X.getD j tz).a)] 77] _ := hM
      replace hM := hM.firstN 3
      replace hM : Mem _ _ [pt rb #[.slice (some ⟨g, j * 4, none⟩) (X.length - j) (cap - j), .int .i64 ((X.getD j tz).a)] 62, own 77 4 (.slice ((some ⟨g, 0, none⟩)) X.length cap) X.length (tokv X), pt sb #[.string s1, .string s2] 9] _ := hM
      have e1 : (wordR (X.getD j tz) [s1, s2]) = (0, 3) := by
       rw [wordR_in hc3, wdI_miss hc4, wdI_miss hc5] <;> rfl
      have e2 : nxJ j (wordR (X.getD j tz) [s1, s2]).2 = j := by rw [e1]; rfl
      rw [e1] at e2
      exact ⟨by rw [e1] <;> rfl, by rw [e1, e2]; exact hM⟩
    ·
     refine Ends.region ?_
     refine S.val hA (R.fieldAddr (q := 0) fi77_0 rfl rfl rfl) rfl ?_; clear hA a; intro a hA
     refine S.val hA (R.load sz3 rfl (hM.cell (k := 0) rfl rfl)) rfl ?_; clear hA a; intro a hA
     refine S.val hA (R.eql rfl rfl) rfl ?_; clear hA a; intro a hA
     refine S.val hA (R.move rfl) rfl ?_; clear hA a; intro a hA
     refine hA.split (d := 29) rfl ?_ ?_
     ·
      clear hA; intro hg6 hA
      refine S.valg (dj := 29) hA (by kernel_rfl) rfl (R.fieldAddr (q := 1) fi77_1 rfl rfl rfl) rfl ?_; clear hA a; intro a hA
      refine S.valg (dj := 29) hA (by kernel_rfl) rfl (R.load sz9 rfl (hM.cell (k := 0) rfl rfl)) rfl ?_; clear hA a; intro a hA
      refine S.valg (dj := 29) hA (by kernel_rfl) rfl (R.move rfl) rfl ?_; clear hA a; intro a hA
      refine S.valg (dj := 29) hA (by kernel_rfl) rfl (R.eqlStr rfl rfl) rfl ?_; clear hA a; intro a hA
      refine S.val hA (R.pickT rfl rfl) rfl ?_; clear hA a; intro a hA
      refine S.done ?_
      replace hA : St 39 [(0, _), (6, _), (7, _), (19, _), (20, _), (21, _), (34, _)] a := hA.sub ((.cons rfl (.cons rfl (.cons rfl (.cons rfl (.cons rfl (.cons rfl (.cons rfl .nil))))))))
      exact hJ _ _ ⟨hA.sub (.cons rfl (.cons rfl (.cons rfl (.cons rfl (.cons rfl (.cons rfl (.cons (by first | rfl | exact congrArg (fun b => some (Value.bool b)) (by first | exact decide_eq_decide.2 (by omega) | exact or_bool (by omega) | exact and_bool (by omega) | (simp; done) | (simp [hg6]; done) | (have h80 := hg6; (try simp at h80); simp [h80]; done) | exact (decide_eq_false (fun h9 => hg6 h9.1)).symm)) .nil))))))), hM⟩
     ·
      clear hA; intro hg6 hA
      refine S.no (dj := 29) hA (by kernel_rfl) rfl rfl rfl ?_; clear hA a; intro a hA
      refine S.no (dj := 29) hA (by kernel_rfl) rfl rfl rfl ?_; clear hA a; intro a hA
      refine S.no (dj := 29) hA (by kernel_rfl) rfl rfl rfl ?_; clear hA a; intro a hA
      refine S.no (dj := 29) hA (by kernel_rfl) rfl rfl rfl ?_; clear hA a; intro a hA
      refine S.val hA (R.pickF rfl rfl) rfl ?_; clear hA a; intro a hA
      refine S.done ?_
      replace hA : St 39 [(0, _), (6, _), (7, _), (19, _), (20, _), (21, _), (34, _)] a := hA.sub ((.cons rfl (.cons rfl (.cons rfl (.cons rfl (.cons rfl (.cons rfl (.cons rfl .nil))))))))
      exact hJ _ _ ⟨hA.sub (.cons rfl (.cons rfl (.cons rfl (.cons rfl (.cons rfl (.cons rfl (.cons (by first | rfl | exact congrArg (fun b => some (Value.bool b)) (by first | exact decide_eq_decide.2 (by omega) | exact or_bool (by omega) | exact and_bool (by omega) | (simp; done) | (simp [hg6]; done) | (have h80 := hg6; (try simp at h80); simp [h80]; done) | exact (decide_eq_false (fun h9 => hg6 h9.1)).symm)) .nil))))))), hM⟩
  ·
   refine Ends.region ?_
   refine S.val hA (R.fieldAddr (q := 0) fi77_0 rfl rfl rfl) rfl ?_; clear hA a; intro a hA
   refine S.val hA (R.load sz3 rfl (hM.cell (k := 0) rfl rfl)) rfl ?_; clear hA a; intro a hA
   refine S.val hA (R.eql rfl rfl) rfl ?_; clear hA a; intro a hA
   refine S.val hA (R.move rfl) rfl ?_; clear hA a; intro a hA
   refine hA.split (d := 29) rfl ?_ ?_
   ·
    clear hA; intro hg7 hA
    refine S.valg (dj := 29) hA (by kernel_rfl) rfl (R.fieldAddr (q := 1) fi77_1 rfl rfl rfl) rfl ?_; clear hA a; intro a hA
    refine S.valg (dj := 29) hA (by kernel_rfl) rfl (R.load sz9 rfl (hM.cell (k := 0) rfl rfl)) rfl ?_; clear hA a; intro a hA
    refine S.valg (dj := 29) hA (by kernel_rfl) rfl (R.move rfl) rfl ?_; clear hA a; intro a hA
    refine S.valg (dj := 29) hA (by kernel_rfl) rfl (R.eqlStr rfl rfl) rfl ?_; clear hA a; intro a hA
    refine S.val hA (R.pickT rfl rfl) rfl ?_; clear hA a; intro a hA
    refine S.done ?_
    replace hA : St 39 [(0, _), (6, _), (7, _), (19, _), (20, _), (21, _), (34, _)] a := hA.sub ((.cons rfl (.cons rfl (.cons rfl (.cons rfl (.cons rfl (.cons rfl (.cons rfl .nil))))))))
    exact hJ _ _ ⟨hA.sub (.cons rfl (.cons rfl (.cons rfl (.cons rfl (.cons rfl (.cons rfl (.cons (by first | rfl | exact congrArg (fun b => some (Value.bool b)) (by first | exact decide_eq_decide.2 (by omega) | exact or_bool (by omega) | exact and_bool (by omega) | (simp; done) | (simp [hg7]; done) | (have h80 := hg7; (try simp at h80); simp [h80]; done) | exact (decide_eq_false (fun h9 => hg7 h9.1)).symm)) .nil))))))), hM⟩
   ·
    clear hA; intro hg7 hA
    refine S.no (dj := 29) hA (by kernel_rfl) rfl rfl rfl ?_; clear hA a; intro a hA
    refine S.no (dj := 29) hA (by kernel_rfl) rfl rfl rfl ?_; clear hA a; intro a hA
    refine S.no (dj := 29) hA (by kernel_rfl) rfl rfl rfl ?_; clear hA a; intro a hA
    refine S.no (dj := 29) hA (by kernel_rfl) rfl rfl rfl ?_; clear hA a; intro a hA
    refine S.val hA (R.pickF rfl rfl) rfl ?_; clear hA a; intro a hA
    refine S.done ?_
    replace hA : St 39 [(0, _), (6, _), (7, _), (19, _), (20, _), (21, _), (34, _)] a := hA.sub ((.cons rfl (.cons rfl (.cons rfl (.cons rfl (.cons rfl (.cons rfl (.cons rfl .nil))))))))
    exact hJ _ _ ⟨hA.sub (.cons rfl (.cons rfl (.cons rfl (.cons rfl (.cons rfl (.cons rfl (.cons (by first | rfl | exact congrArg (fun b => some (Value.bool b)) (by first | exact decide_eq_decide.2 (by omega) | exact or_bool (by omega) | exact and_bool (by omega) | (simp; done) | (simp [hg7]; done) | (have h80 := hg7; (try simp at h80); simp [h80]; done) | exact (decide_eq_false (fun h9 => hg7 h9.1)).symm)) .nil))))))), hM⟩
end Go.Proofs.YtakfcekfmdjklaaDoor
