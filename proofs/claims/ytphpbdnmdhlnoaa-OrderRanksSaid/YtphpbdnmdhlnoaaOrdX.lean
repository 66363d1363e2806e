/-
  order.ByKey, ByRatio, Is, and what kurganref09 says of them.
-/
import Derived.Test.YtphpbdnmdhlnoaaOrdW
import Derived.Test.YtphpbdnmdhlnoaaOrd3
import Derived.Test.YtphpbdnmdhlnoaaOrd4
import Derived.Test.YtphpbdnmdhlnoaaArith4
import Derived.Test.YtphpbdnmdhlnoaaSg
namespace Go.Proofs.Ytphpbdnmdhlnoaa
open Go.RowKit
theorem plain_n (n : Nat) (hn : n ≤ 1000) (w : World) : Calls Try.prog 27 #[.int .i64 (n : Int)] w fun e w' => ∃ a c, e = .returned (.slice a (pl n).length c) ∧ IntSl w' (.slice a (pl n).length c) (pl n) ∧ Below w.heap.size w w' :=
  plain_rs n (by omega) w
set_option maxRecDepth 100000 in
set_option maxHeartbeats 400000 in
theorem bykey1 (bx : Nat) (ak : Option Addr) (K : List Int) (ck : Nat) (x y : Int) (hx : inR K.length x) (hy : inR K.length y) (w : World) (hbx : w.heap[bx]? = some (.cells #[.slice ak K.length ck] 22 (0, 0))) (hk : IntSl w (.slice ak K.length ck) K) :
    Calls Try.prog 34 #[.int .i64 x, .int .i64 y, .pointer (some ⟨bx, 0, none⟩)] w fun e w' => e = .returned (.bool (ltk K x y)) ∧ Below w.heap.size w w' := by
  have hbs := Below.refl (B := w.heap.size) w
  unfold inR at hx hy
  have hM := Mem.start w
  refine Calls.of_ends (vs := [.int .i64 x, .int .i64 y, .pointer (some ⟨bx, 0, none⟩)]) Try.func34 rfl Try.ntmps34 rfl ?_
  intro a hA
  replace hA : St 15 [(0, _), (1, _), (2, _)] a := hA
  refine Ends.seq ?_
  refine Ends.region ?_
  refine S.val hA (R.assign rfl) rfl ?_; clear hA a; intro a hA
  refine S.done ?_
  replace hA : St 15 [(0, _), (1, _), (2, _)] a := hA.sub ((.cons rfl (.cons rfl (.cons rfl .nil))))
  refine Ends.seq ?_
  refine Ends.drawn (Mem w nof []) (.cons (0, true) (.cons (1, true) (.cons (2, true) (.cons (3, true) (.cons (4, true) (.cons (5, true) (.cons (6, true) (.cons (7, true) (.cons (8, true) (.cons (9, true) .nil)))))))))) 10 mixed (by kernel_rfl) (by kernel_rfl) (by kernel_rfl) hM.drew ?_
  replace hM := hM.drew
  refine D.val hA rfl (by kernel_rfl) (fun _ hM => R.load sz22 rfl (hM.cellB hbx rfl)) rfl ?_; clear hA a; intro a hA
  refine D.valF hA rfl (fun _ => R.move rfl) rfl ?_; clear hA a; intro a hA
  refine D.valF hA rfl (fun _ => R.idxI hk (j := x.toNat) sl22 rfl rfl (by omega) (rfl)) rfl ?_; clear hA a; intro a hA
  refine D.val hA rfl (by kernel_rfl) (fun _ hM => R.loadI (hk.mem hM) sz3 rfl (by omega)) rfl ?_; clear hA a; intro a hA
  refine D.val hA rfl (by kernel_rfl) (fun _ hM => R.load sz22 rfl (hM.cellB hbx rfl)) rfl ?_; clear hA a; intro a hA
  refine D.valF hA rfl (fun _ => R.move rfl) rfl ?_; clear hA a; intro a hA
  refine D.valF hA rfl (fun _ => R.idxI hk (j := y.toNat) sl22 rfl rfl (by omega) (rfl)) rfl ?_; clear hA a; intro a hA
  refine D.val hA rfl (by kernel_rfl) (fun _ hM => R.loadI (hk.mem hM) sz3 rfl (by omega)) rfl ?_; clear hA a; intro a hA
  refine D.valF hA rfl (fun _ => R.lss rfl rfl) rfl ?_; clear hA a; intro a hA
  refine D.valF hA rfl (fun _ => R.assign rfl) rfl ?_; clear hA a; intro a hA
  refine D.done ?_
  replace hA : St 15 [(5, _)] a := hA.sub ((.cons rfl .nil))
  refine Ends.ret1 Try.func34 Try.results34 hA rfl ?_
  exact ⟨rfl, Mem.trans0 hbs hM.nilL⟩
set_option maxRecDepth 100000 in
set_option maxHeartbeats 400000 in
theorem bykey (ak : Option Addr) (K : List Int) (ck : Nat) (hK : K.length ≤ 900) (w : World) (hk : IntSl w (.slice ak K.length ck) K) :
    Calls Try.prog 16 #[.slice ak K.length ck] w fun e w' => ∃ a c, e = .returned (.slice a (byK K).length c) ∧ IntSl w' (.slice a (byK K).length c) (byK K) ∧ Below w.heap.size w w' := by
  have hbs := Below.refl (B := w.heap.size) w
  have hM := Mem.start w
  refine Calls.of_ends (vs := [.slice ak K.length ck]) Try.func16 rfl Try.ntmps16 rfl ?_
  intro a hA
  replace hA : St 8 [(0, _)] a := hA
  refine Ends.seq ?_
  refine Ends.region ?_
  refine S.box hA hM rfl rfl ?_; clear hA hM a; intro b1 w1 hb2 hM a hA
  replace hM : Mem _ _ [pt b1 #[.slice ak K.length ck] 22] _ := hM
  refine S.val hA (R.assign rfl) rfl ?_; clear hA a; intro a hA
  refine S.done ?_
  replace hA : St 8 [(1, _)] a := hA.sub ((.cons rfl .nil))
  refine Ends.seq ?_
  refine Ends.region ?_
  refine S.val hA (R.load sz22 rfl (hM.cell (k := 0) rfl rfl)) rfl ?_; clear hA a; intro a hA
  refine S.val hA (R.lenS Try.underlying22 rfl rfl) rfl ?_; clear hA a; intro a hA
  refine S.call hA (R.callF Try.func27 rfl rfl rfl) rfl (plain_n K.length (by omega) _) ?_; clear hA a
  rintro e w2 ⟨ra3, rc4, rfl, rh5, hb⟩
  replace hM := hM.callB hb; clear hb
  have hbx6 := hM.block (k := 0) rfl
  have hbs := hbs.trans (hM.below.mono hbs.size)
  have hk := hk.mem hM
  replace hM := Mem.start w2
  refine ⟨.slice ra3 (((pl K.length)).length) rc4, rfl, fun a hA => ?_⟩
  refine S.val hA (R.to (v := .func (.func 34) #[] #[.pointer (some ⟨b1, 0, none⟩)]) (R.makeFunc rfl) rfl) rfl ?_; clear hA a; intro a hA
  have hah : AheadAt (inR K.length) (ltk K) 34 #[.pointer (some ⟨b1, 0, none⟩)] w2 := fun w' hb x y hx hy => bykey1 b1 ak K ck x y hx hy w' ((Mem.of_below hb).keepB hbx6) (hk.below hb (Nat.le_refl _))
  refine S.call hA (R.callF Try.func26 rfl rfl rfl) rfl (merge_any Try.func34 (by kernel_rfl) rfl K.length ra3 ((pl K.length)) rc4 _ (by rw [pl_len]; omega) (by rw [pl_len]; omega) (fun x hx => mem_pl.1 hx) (rh5.mem hM) hah) ?_; clear hA a
  rintro e w3 ⟨ra7, rc8, rfl, rh9, hb⟩
  replace hM := hM.callB hb; clear hb
  have hbs := hbs.trans (hM.below.mono hbs.size)
  have hk := hk.mem hM
  have rh5 := rh5.mem hM
  have hbx6 := hM.keepB hbx6
  replace hM := Mem.start w3
  refine ⟨.slice ra7 (((byK K)).length) rc8, rfl, fun a hA => ?_⟩
  refine S.val hA (R.assign rfl) rfl ?_; clear hA a; intro a hA
  refine S.done ?_
  replace hA : St 8 [(2, _)] a := hA.sub ((.cons rfl .nil))
  refine Ends.ret1 Try.func16 Try.results16 hA rfl ?_
  exact ⟨_, _, rfl, rh9, Mem.trans0 hbs hM.nilL⟩
set_option maxRecDepth 100000 in
set_option maxHeartbeats 400000 in
theorem rbykey (ak : Option Addr) (K : List Int) (ck : Nat) (hK : K.length ≤ 900) (w : World) (hk : IntSl w (.slice ak K.length ck) K) :
    Calls Try.prog 17 #[.slice ak K.length ck] w fun e w' => ∃ a c, e = .returned (.slice a (byK K).length c) ∧ IntSl w' (.slice a (byK K).length c) (byK K) ∧ Below w.heap.size w w' := by
  have hbs := Below.refl (B := w.heap.size) w
  have hM := Mem.start w
  refine Calls.of_ends (vs := [.slice ak K.length ck]) Try.func17 rfl Try.ntmps17 rfl ?_
  intro a hA
  replace hA : St 54 [(0, _)] a := hA
  refine Ends.seq ?_
  refine Ends.region ?_
  refine S.val hA (R.assign rfl) rfl ?_; clear hA a; intro a hA
  refine S.done ?_
  replace hA : St 54 [(0, _)] a := hA.sub ((.cons rfl .nil))
  refine Ends.seq ?_
  refine Ends.region ?_
  refine S.val hA (R.move rfl) rfl ?_; clear hA a; intro a hA
  refine S.val hA (R.lenS Try.underlying22 rfl rfl) rfl ?_; clear hA a; intro a hA
  refine S.make hA hM Try.underlying22 info3 rfl rfl rfl (by omega) (by show (8 : Int) * _ ≤ _; omega) (by omega) rfl ?_; clear hA hM a; intro b1 w1 hb2 hM a hA
  replace hM : Mem _ _ [pt b1 (madeCells #[.int .i64 0] (K.length * 1)) 3] _ := hM
  rw [Nat.mul_one, made_ints] at hM
  replace hM : Mem _ _ [pt b1 ((ints (List.replicate K.length 0))) 3] _ := hM
  refine S.val hA (R.assign rfl) rfl ?_; clear hA a; intro a hA
  refine S.done ?_
  replace hA : St 54 [(0, _), (3, _)] a := hA.sub ((.cons rfl (.cons rfl .nil)))
  refine Ends.seq ?_
  refine Ends.seq ?_
  refine Ends.region ?_
  refine S.val hA (R.assign rfl) rfl ?_; clear hA a; intro a hA
  refine S.done ?_
  replace hA : St 54 [(0, _), (3, _), (4, _)] a := hA.sub ((.cons rfl (.cons rfl (.cons rfl .nil))))
  refine Ends.block ?_
  refine Ends.loop (σ := Nat × List Int) (fun (m, out) (a : Act) (wv : World) => St 54 [(0, .slice ak K.length ck), (3, .slice (some ⟨b1, 0, none⟩) K.length K.length), (4, .int .i64 ((m : Int)))] a ∧ Mem w nof [pt b1 ((ints out)) 3] wv ∧ (m ≤ K.length) ∧ (laid K.length (byK K) out m)) (fun (m, out) => K.length - m) ((0, List.replicate K.length 0)) ⟨hA.sub ((.cons rfl (.cons rfl (.cons rfl .nil)))), hM, (Nat.zero_le _), (laid_zero (byK_perm K))⟩ ?_
  clear hA hM a
  rintro ⟨m, out⟩ a w2 ⟨hA, hM, hm, hld⟩ hNext
  refine Ends.seq ?_
  refine Ends.seq ?_
  refine Ends.region ?_
  refine S.val hA (R.move rfl) rfl ?_; clear hA a; intro a hA
  refine S.val hA (R.move rfl) rfl ?_; clear hA a; intro a hA
  refine S.val hA (R.lenS Try.underlying22 rfl rfl) rfl ?_; clear hA a; intro a hA
  refine S.val hA (R.lss rfl rfl) rfl ?_; clear hA a; intro a hA
  refine S.done ?_
  replace hA : St 54 [(0, _), (3, _), (4, _), (13, _)] a := hA.sub ((.cons rfl (.cons rfl (.cons rfl (.cons rfl .nil)))))
  refine Ends.ite hA rfl (fun hc3 => ?_) (fun hc3 => ?_)
  ·
    have hol := hld.1
    have hrl := rk_le (rb := (rbo (ltk K))) K.length (m : Int)
    refine Ends.skip ?_
    refine Ends.seq ?_
    refine Ends.block ?_
    refine Ends.seq ?_
    refine Ends.region ?_
    refine S.val hA (R.assign rfl) rfl ?_; clear hA a; intro a hA
    refine S.done ?_
    replace hA : St 54 [(0, _), (3, _), (4, _), (5, _)] a := hA.sub ((.cons rfl (.cons rfl (.cons rfl (.cons rfl .nil)))))
    refine Ends.seq ?_
    refine Ends.seq ?_
    refine Ends.region ?_
    refine S.val hA (R.assign rfl) rfl ?_; clear hA a; intro a hA
    refine S.done ?_
    replace hA : St 54 [(0, _), (3, _), (4, _), (5, _), (6, _)] a := hA.sub ((.cons rfl (.cons rfl (.cons rfl (.cons rfl (.cons rfl .nil))))))
    refine Ends.block ?_
    refine Ends.loop (σ := Nat) (fun b (a : Act) (wv : World) => St 54 [(0, .slice ak K.length ck), (3, .slice (some ⟨b1, 0, none⟩) K.length K.length), (4, .int .i64 ((m : Int))), (5, .int .i64 (((rk (rbo (ltk K)) b (m : Int) : Nat) : Int))), (6, .int .i64 ((b : Int)))] a ∧ Mem w nof [pt b1 ((ints out)) 3] wv ∧ (b ≤ K.length)) (fun b => K.length - b) 0 ⟨hA.sub ((.cons rfl (.cons rfl (.cons rfl (.cons rfl (.cons rfl .nil)))))), hM, (Nat.zero_le _)⟩ ?_
    clear hA hM a
    rintro b a w3 ⟨hA, hM, hb⟩ hNext1
    refine Ends.seq ?_
    refine Ends.seq ?_
    refine Ends.region ?_
    refine S.val hA (R.move rfl) rfl ?_; clear hA a; intro a hA
    refine S.val hA (R.move rfl) rfl ?_; clear hA a; intro a hA
    refine S.val hA (R.lenS Try.underlying22 rfl rfl) rfl ?_; clear hA a; intro a hA
    refine S.val hA (R.lss rfl rfl) rfl ?_; clear hA a; intro a hA
    refine S.done ?_
    replace hA : St 54 [(0, _), (3, _), (4, _), (5, _), (6, _), (19, _)] a := hA.sub ((.cons rfl (.cons rfl (.cons rfl (.cons rfl (.cons rfl (.cons rfl .nil)))))))
    refine Ends.ite hA rfl (fun hc4 => ?_) (fun hc4 => ?_)
    ·
      have hrb := rk_le (rb := (rbo (ltk K))) b (m : Int)
      refine Ends.skip ?_
      refine Ends.seq ?_
      refine Ends.block ?_
      refine Ends.seq ?_
      refine Ends.cut (fun (a : Act) (wv : World) => St 54 [(0, .slice ak K.length ck), (3, .slice (some ⟨b1, 0, none⟩) K.length K.length), (4, .int .i64 ((m : Int))), (5, .int .i64 (((rk (rbo (ltk K)) b (m : Int) : Nat) : Int))), (6, .int .i64 ((b : Int))), (46, .bool (decide (((K.getD b 0) < (K.getD m 0) ∨ ((K.getD b 0) = (K.getD m 0) ∧ ((b : Int)) < ((m : Int)))))))] a ∧ Mem w nof [pt b1 ((ints out)) 3] wv) ?_ (fun k2 hJ => ?_)
      · clear hA hM a; rintro a w4 ⟨hA, hM⟩
        refine Ends.ite hA rfl (fun hc5 => ?_) (fun hc5 => ?_)
        ·
          refine Ends.region ?_
          refine S.val hA (R.move rfl) rfl ?_; clear hA a; intro a hA
          refine S.val hA (R.addI rfl rfl (r := (((rk (rbo (ltk K)) b (m : Int) : Nat) : Int)) + 1) rfl (by omega)) rfl ?_; clear hA a; intro a hA
          refine S.val hA (R.assign rfl) rfl ?_; clear hA a; intro a hA
          refine S.done ?_
          replace hA : St 54 [(0, _), (3, _), (4, _), (5, _), (6, _)] a := hA.sub ((.cons rfl (.cons rfl (.cons rfl (.cons rfl (.cons rfl .nil))))))
          refine Ends.inBlock ?_
          refine Ends.region ?_
          refine S.val hA (R.move rfl) rfl ?_; clear hA a; intro a hA
          refine S.val hA (R.addI rfl rfl (r := ((b : Int)) + 1) rfl (by omega)) rfl ?_; clear hA a; intro a hA
          refine S.val hA (R.assign rfl) rfl ?_; clear hA a; intro a hA
          refine S.done ?_
          replace hA : St 54 [(0, _), (3, _), (4, _), (5, _), (6, _)] a := hA.sub ((.cons rfl (.cons rfl (.cons rfl (.cons rfl (.cons rfl .nil))))))
          have hrk := rk_succ (rb := (rbo (ltk K))) b (m : Int)
          have hcond : (rbo (ltk K)) (b : Int) (m : Int) = true := by rw [rbk_eq]; exact decide_eq_true hc5
          rw [hcond] at hrk
          rw [show ((rk (rbo (ltk K)) b (m : Int) : Nat) : Int) + 1 = ((rk (rbo (ltk K)) (b + 1) (m : Int) : Nat) : Int) by rw [hrk]; simp] at hA
          exact hNext1 ((b + 1)) _ _ ((by show K.length - (b + 1) < K.length - b; omega)) ⟨hA.sub ((.cons rfl (.cons rfl (.cons rfl (.cons rfl (.cons rfl .nil)))))), hM, (by omega)⟩
        ·
          refine Ends.skip ?_
          refine Ends.inBlock ?_
          refine Ends.region ?_
          refine S.val hA (R.move rfl) rfl ?_; clear hA a; intro a hA
          refine S.val hA (R.addI rfl rfl (r := ((b : Int)) + 1) rfl (by omega)) rfl ?_; clear hA a; intro a hA
          refine S.val hA (R.assign rfl) rfl ?_; clear hA a; intro a hA
          refine S.done ?_
          replace hA : St 54 [(0, _), (3, _), (4, _), (5, _), (6, _)] a := hA.sub ((.cons rfl (.cons rfl (.cons rfl (.cons rfl (.cons rfl .nil))))))
          have hrk := rk_succ (rb := (rbo (ltk K))) b (m : Int)
          have hcond : (rbo (ltk K)) (b : Int) (m : Int) = false := by rw [rbk_eq]; exact decide_eq_false hc5
          rw [hcond] at hrk
          rw [show ((rk (rbo (ltk K)) b (m : Int) : Nat) : Int) = ((rk (rbo (ltk K)) (b + 1) (m : Int) : Nat) : Int) by rw [hrk]; simp] at hA
          exact hNext1 ((b + 1)) _ _ ((by show K.length - (b + 1) < K.length - b; omega)) ⟨hA.sub ((.cons rfl (.cons rfl (.cons rfl (.cons rfl (.cons rfl .nil)))))), hM, (by omega)⟩
      ·
        refine Ends.drawn (Mem w nof [pt b1 ((ints out)) 3]) (.cons (0, true) (.cons (1, true) (.cons (2, true) (.cons (3, true) (.cons (4, true) (.cons (5, true) (.cons (6, true) (.cons (7, true) (.cons (8, true) (.cons (9, true) (.cons (10, true) (.cons (11, true) (.cons (12, true) (.cons (13, true) (.cons (14, true) (.cons (15, true) (.cons (16, true) (.cons (17, true) (.cons (18, true) (.cons (19, true) (.cons (20, true) (.cons (21, true) (.cons (22, true) (.cons (23, true) (.cons (24, true) .nil))))))))))))))))))))))))) 25 mixed (by kernel_rfl) (by kernel_rfl) (by kernel_rfl) hM.drew ?_
        replace hM := hM.drew
        refine D.valF hA rfl (fun _ => R.move rfl) rfl ?_; clear hA a; intro a hA
        refine D.valF hA rfl (fun _ => R.move rfl) rfl ?_; clear hA a; intro a hA
        refine D.valF hA rfl (fun _ => R.idxI hk (j := b) sl22 rfl rfl (by omega) (rfl)) rfl ?_; clear hA a; intro a hA
        refine D.val hA rfl (by kernel_rfl) (fun _ hM => R.loadI (hk.mem hM) sz3 rfl (by omega)) rfl ?_; clear hA a; intro a hA
        refine D.valF hA rfl (fun _ => R.move rfl) rfl ?_; clear hA a; intro a hA
        refine D.valF hA rfl (fun _ => R.move rfl) rfl ?_; clear hA a; intro a hA
        refine D.valF hA rfl (fun _ => R.idxI hk (j := m) sl22 rfl rfl (by omega) (rfl)) rfl ?_; clear hA a; intro a hA
        refine D.val hA rfl (by kernel_rfl) (fun _ hM => R.loadI (hk.mem hM) sz3 rfl (by omega)) rfl ?_; clear hA a; intro a hA
        refine D.valF hA rfl (fun _ => R.lss rfl rfl) rfl ?_; clear hA a; intro a hA
        refine D.valF hA rfl (fun _ => R.move rfl) rfl ?_; clear hA a; intro a hA
        refine hA.split (d := 31) rfl ?_ ?_
        · clear hA; intro hg6 hA
          refine D.no (dj := 31) hA rfl (by kernel_rfl) rfl rfl rfl ?_; clear hA a; intro a hA
          refine D.no (dj := 31) hA rfl (by kernel_rfl) rfl rfl rfl ?_; clear hA a; intro a hA
          refine D.no (dj := 31) hA rfl (by kernel_rfl) rfl rfl rfl ?_; clear hA a; intro a hA
          refine D.no (dj := 31) hA rfl (by kernel_rfl) rfl rfl rfl ?_; clear hA a; intro a hA
          refine D.no (dj := 31) hA rfl (by kernel_rfl) rfl rfl rfl ?_; clear hA a; intro a hA
          refine D.no (dj := 31) hA rfl (by kernel_rfl) rfl rfl rfl ?_; clear hA a; intro a hA
          refine D.no (dj := 31) hA rfl (by kernel_rfl) rfl rfl rfl ?_; clear hA a; intro a hA
          refine D.no (dj := 31) hA rfl (by kernel_rfl) rfl rfl rfl ?_; clear hA a; intro a hA
          refine D.no (dj := 31) hA rfl (by kernel_rfl) rfl rfl rfl ?_; clear hA a; intro a hA
          refine D.no (dj := 31) hA rfl (by kernel_rfl) rfl rfl rfl ?_; clear hA a; intro a hA
          refine D.noU (dj := 41) hA rfl (by kernel_rfl) rfl rfl ?_; clear hA a; intro a hA
          refine D.noU (dj := 41) hA rfl (by kernel_rfl) rfl rfl ?_; clear hA a; intro a hA
          refine D.noU (dj := 41) hA rfl (by kernel_rfl) rfl rfl ?_; clear hA a; intro a hA
          refine D.no (dj := 31) hA rfl (by kernel_rfl) rfl rfl rfl ?_; clear hA a; intro a hA
          refine D.valF hA rfl (fun _ => R.pickT rfl rfl) rfl ?_; clear hA a; intro a hA
          refine D.done ?_
          replace hA : St 54 [(0, _), (3, _), (4, _), (5, _), (6, _), (46, _)] a := hA.sub ((.cons rfl (.cons rfl (.cons rfl (.cons rfl (.cons rfl (.cons rfl .nil)))))))
          exact hJ _ _ ⟨hA.sub (.cons rfl (.cons rfl (.cons rfl (.cons rfl (.cons rfl (.cons (by first | rfl | exact congrArg (fun b => some (Value.bool b)) (by first | exact decide_eq_decide.2 (by omega) | exact or_bool (by omega) | exact and_bool (by omega) | (simp; done) | (simp [hg6]; done) | (have h80 := hg6; (try simp at h80); simp [h80]; done) | exact (decide_eq_false (fun h9 => hg6 h9.1)).symm)) .nil)))))), hM⟩
        · clear hA; intro hg6 hA
          refine D.valgF (dj := 31) hA rfl (by kernel_rfl) rfl (fun _ => R.move rfl) rfl ?_; clear hA a; intro a hA
          refine D.valgF (dj := 31) hA rfl (by kernel_rfl) rfl (fun _ => R.move rfl) rfl ?_; clear hA a; intro a hA
          refine D.valgF (dj := 31) hA rfl (by kernel_rfl) rfl (fun _ => R.idxI hk (j := b) sl22 rfl rfl (by omega) (rfl)) rfl ?_; clear hA a; intro a hA
          refine D.valg (dj := 31) hA rfl (by kernel_rfl) (by kernel_rfl) rfl (fun _ hM => R.loadI (hk.mem hM) sz3 rfl (by omega)) rfl ?_; clear hA a; intro a hA
          refine D.valgF (dj := 31) hA rfl (by kernel_rfl) rfl (fun _ => R.move rfl) rfl ?_; clear hA a; intro a hA
          refine D.valgF (dj := 31) hA rfl (by kernel_rfl) rfl (fun _ => R.move rfl) rfl ?_; clear hA a; intro a hA
          refine D.valgF (dj := 31) hA rfl (by kernel_rfl) rfl (fun _ => R.idxI hk (j := m) sl22 rfl rfl (by omega) (rfl)) rfl ?_; clear hA a; intro a hA
          refine D.valg (dj := 31) hA rfl (by kernel_rfl) (by kernel_rfl) rfl (fun _ hM => R.loadI (hk.mem hM) sz3 rfl (by omega)) rfl ?_; clear hA a; intro a hA
          refine D.valgF (dj := 31) hA rfl (by kernel_rfl) rfl (fun _ => R.eql rfl rfl) rfl ?_; clear hA a; intro a hA
          refine D.valgF (dj := 31) hA rfl (by kernel_rfl) rfl (fun _ => R.move rfl) rfl ?_; clear hA a; intro a hA
          refine hA.split (d := 41) rfl ?_ ?_
          · clear hA; intro hg7 hA
            refine D.valgF (dj := 41) hA rfl (by kernel_rfl) rfl (fun _ => R.move rfl) rfl ?_; clear hA a; intro a hA
            refine D.valgF (dj := 41) hA rfl (by kernel_rfl) rfl (fun _ => R.move rfl) rfl ?_; clear hA a; intro a hA
            refine D.valgF (dj := 41) hA rfl (by kernel_rfl) rfl (fun _ => R.lss rfl rfl) rfl ?_; clear hA a; intro a hA
            refine D.valgF (dj := 31) hA rfl (by kernel_rfl) rfl (fun _ => R.pickT rfl rfl) rfl ?_; clear hA a; intro a hA
            refine D.valF hA rfl (fun _ => R.pickF rfl rfl) rfl ?_; clear hA a; intro a hA
            refine D.done ?_
            replace hA : St 54 [(0, _), (3, _), (4, _), (5, _), (6, _), (46, _)] a := hA.sub ((.cons rfl (.cons rfl (.cons rfl (.cons rfl (.cons rfl (.cons rfl .nil)))))))
            exact hJ _ _ ⟨hA.sub (.cons rfl (.cons rfl (.cons rfl (.cons rfl (.cons rfl (.cons (by first | rfl | exact congrArg (fun b => some (Value.bool b)) (by first | exact decide_eq_decide.2 (by omega) | exact or_bool (by omega) | exact and_bool (by omega) | (simp; done) | (simp [hg6, hg7]; done) | (have h80 := hg6; (try simp at h80); have h81 := hg7; (try simp at h81); simp [h80, h81]; done) | exact (decide_eq_false (fun h9 => hg6 h9.1)).symm | exact (decide_eq_false (fun h9 => hg7 h9.1)).symm)) .nil)))))), hM⟩
          · clear hA; intro hg7 hA
            refine D.no (dj := 41) hA rfl (by kernel_rfl) rfl rfl rfl ?_; clear hA a; intro a hA
            refine D.no (dj := 41) hA rfl (by kernel_rfl) rfl rfl rfl ?_; clear hA a; intro a hA
            refine D.no (dj := 41) hA rfl (by kernel_rfl) rfl rfl rfl ?_; clear hA a; intro a hA
            refine D.valgF (dj := 31) hA rfl (by kernel_rfl) rfl (fun _ => R.pickF rfl rfl) rfl ?_; clear hA a; intro a hA
            refine D.valF hA rfl (fun _ => R.pickF rfl rfl) rfl ?_; clear hA a; intro a hA
            refine D.done ?_
            replace hA : St 54 [(0, _), (3, _), (4, _), (5, _), (6, _), (46, _)] a := hA.sub ((.cons rfl (.cons rfl (.cons rfl (.cons rfl (.cons rfl (.cons rfl .nil)))))))
            exact hJ _ _ ⟨hA.sub (.cons rfl (.cons rfl (.cons rfl (.cons rfl (.cons rfl (.cons (by first | rfl | exact congrArg (fun b => some (Value.bool b)) (by first | exact decide_eq_decide.2 (by omega) | exact or_bool (by omega) | exact and_bool (by omega) | (simp; done) | (simp [hg6, hg7]; done) | (have h80 := hg6; (try simp at h80); have h81 := hg7; (try simp at h81); simp [h80, h81]; done) | exact (decide_eq_false (fun h9 => hg6 h9.1)).symm | exact (decide_eq_false (fun h9 => hg7 h9.1)).symm)) .nil)))))), hM⟩
    ·
      obtain rfl : b = K.length := by omega
      have hlt : rk (rbo (ltk K)) K.length (m : Int) < K.length := laid_lt (byK_perm K) (byK_pw K) (rbk_irr K) (fun a b _ _ => rbk_asym K a b) (by omega)
      refine Ends.exit rfl ?_
      replace hA : St 54 [(0, _), (3, _), (4, _), (5, _)] a := hA.sub ((.cons rfl (.cons rfl (.cons rfl (.cons rfl .nil)))))
      refine Ends.region ?_
      refine S.val hA (R.move rfl) rfl ?_; clear hA a; intro a hA
      refine S.val hA (R.move rfl) rfl ?_; clear hA a; intro a hA
      refine S.val hA (R.move rfl) rfl ?_; clear hA a; intro a hA
      refine S.val hA (R.indexAddr (q := (rk (rbo (ltk K)) K.length (m : Int))) sl22 rfl rfl (by omega) (by omega)) rfl ?_; clear hA a; intro a hA
      refine S.store (k := 0) hA hM sz3 rfl rfl rfl rfl (ints_getD out _ (by omega)) ?_; clear hM
      intro w5 hM
      rw [ints_set] at hM
      replace hM : Mem _ _ [pt b1 ((ints (out.set ((rk (rbo (ltk K)) K.length (m : Int))) ((m : Int))))) 3] _ := hM
      refine S.done ?_
      replace hA : St 54 [(0, _), (3, _), (4, _)] a := hA.sub ((.cons rfl (.cons rfl (.cons rfl .nil))))
      refine Ends.inBlock ?_
      refine Ends.region ?_
      refine S.val hA (R.move rfl) rfl ?_; clear hA a; intro a hA
      refine S.val hA (R.addI rfl rfl (r := ((m : Int)) + 1) rfl (by omega)) rfl ?_; clear hA a; intro a hA
      refine S.val hA (R.assign rfl) rfl ?_; clear hA a; intro a hA
      refine S.done ?_
      replace hA : St 54 [(0, _), (3, _), (4, _)] a := hA.sub ((.cons rfl (.cons rfl (.cons rfl .nil))))
      exact hNext ((m + 1, (out.set ((rk (rbo (ltk K)) K.length (m : Int))) ((m : Int))))) _ _ ((by show K.length - (m + 1) < K.length - m; omega)) ⟨hA.sub ((.cons rfl (.cons rfl (.cons rfl .nil)))), hM, (by omega), (laid_succ (byK_perm K) (byK_pw K) (rbk_irr K) (fun a b _ _ => rbk_asym K a b) (by omega) hld)⟩
  ·
    obtain rfl : m = K.length := by omega
    refine Ends.exit rfl ?_
    replace hA : St 54 [(3, _)] a := hA.sub ((.cons rfl .nil))
    refine Ends.seq ?_
    refine Ends.region ?_
    refine S.val hA (R.move rfl) rfl ?_; clear hA a; intro a hA
    refine S.val hA (R.assign rfl) rfl ?_; clear hA a; intro a hA
    refine S.done ?_
    replace hA : St 54 [(2, _)] a := hA.sub ((.cons rfl .nil))
    refine Ends.ret1 Try.func17 Try.results17 hA rfl ?_
    have hol := hld.1
    have hr := hM.ptRs (k := 0) rfl (by omega)
    have he := laid_end (byK_perm K) hld
    rw [he] at hr hol
    rw [hol] at hr
    exact ⟨_, _, by rw [hol], by rw [hol]; exact hr, Mem.trans0 hbs hM.nilL⟩
set_option maxRecDepth 100000 in
set_option maxHeartbeats 400000 in
theorem below09 (n : Int) (w : World) :
    Calls Try.prog 25 #[.int .i64 n] w fun e w' => e = .returned (.bool (decide (n < 0))) ∧ w = w' := by
  have hbs := Below.refl (B := w.heap.size) w
  have hM := Mem.start w
  refine Calls.of_ends (vs := [.int .i64 n]) Try.func25 rfl Try.ntmps25 rfl ?_
  intro a hA
  replace hA : St 5 [(0, _)] a := hA
  refine Ends.seq ?_
  refine Ends.region ?_
  refine S.val hA (R.assign rfl) rfl ?_; clear hA a; intro a hA
  refine S.done ?_
  replace hA : St 5 [(0, _)] a := hA.sub ((.cons rfl .nil))
  refine Ends.seq ?_
  refine Ends.region ?_
  refine S.val hA (R.move rfl) rfl ?_; clear hA a; intro a hA
  refine S.val hA (R.lss rfl rfl) rfl ?_; clear hA a; intro a hA
  refine S.val hA (R.assign rfl) rfl ?_; clear hA a; intro a hA
  refine S.done ?_
  replace hA : St 5 [(2, _)] a := hA.sub ((.cons rfl .nil))
  refine Ends.ret1 Try.func25 Try.results25 hA rfl ?_
  exact ⟨rfl, rfl⟩
theorem dec_bool {p : Prop} [Decidable p] {b : Bool} (h : p ↔ b = true) : decide p = b := by cases b <;> simp_all
theorem callsNil {P : Program} {f : FuncId} {vs : Array Value} {w : World} {R : Ending → World → Prop} (h : Calls P f vs w R) : Calls P f (vs ++ #[]) w R := by rwa [Array.append_empty]
set_option maxRecDepth 100000 in
set_option maxHeartbeats 400000 in
theorem index09 (ax : Option Addr) (X : List Int) (cx : Nat) (w : World) (hx : IntSl w (.slice ax X.length cx) X) :
    Calls Try.prog 36 #[.slice ax X.length cx, .func (.func 25) #[] #[]] w fun e w' => ∃ r : Int, e = .returned (.int .i64 r) ∧ (0 ≤ r ↔ hasNeg X = true) ∧ Below w.heap.size w w' := by
  have hbs := Below.refl (B := w.heap.size) w
  have hlX := hx.lenB
  have hM := Mem.start w
  refine Calls.of_ends (vs := [.slice ax X.length cx, .func (.func 25) #[] #[]]) Try.func36 rfl Try.ntmps36 rfl ?_
  intro a hA
  replace hA : St 19 [(0, _), (1, _)] a := hA
  refine Ends.seq ?_
  refine Ends.region ?_
  refine S.val hA (R.assign rfl) rfl ?_; clear hA a; intro a hA
  refine S.done ?_
  replace hA : St 19 [(0, _), (1, _)] a := hA.sub ((.cons rfl (.cons rfl .nil)))
  refine Ends.seq ?_
  refine Ends.seq ?_
  refine Ends.region ?_
  refine S.val hA (R.move rfl) rfl ?_; clear hA a; intro a hA
  refine S.val hA (R.lenS Try.underlying22 rfl rfl) rfl ?_; clear hA a; intro a hA
  refine S.val hA (R.move rfl) rfl ?_; clear hA a; intro a hA
  refine S.done ?_
  replace hA : St 19 [(0, _), (1, _), (7, _), (8, _)] a := hA.sub ((.cons rfl (.cons rfl (.cons rfl (.cons rfl .nil)))))
  refine Ends.block ?_
  refine Ends.loop (σ := Nat) (fun k (a : Act) (wv : World) => St 19 [(0, .slice ax X.length cx), (1, .func (.func 25) #[] #[]), (7, .int .i64 ((X.length : Int))), (8, .int .i64 ((k : Int)))] a ∧ Mem w nof [] wv ∧ (k ≤ X.length) ∧ (∀ j, j < k → 0 ≤ X.getD j 0)) (fun k => X.length - k) 0 ⟨hA.sub ((.cons rfl (.cons rfl (.cons rfl (.cons rfl .nil))))), hM, (Nat.zero_le _), (fun j hj => absurd hj (Nat.not_lt_zero _))⟩ ?_
  clear hA hM a
  rintro k a w1 ⟨hA, hM, hk, hk2⟩ hNext
  refine Ends.seq ?_
  refine Ends.region ?_
  refine S.val hA (R.lss rfl rfl) rfl ?_; clear hA a; intro a hA
  refine S.done ?_
  replace hA : St 19 [(0, _), (1, _), (7, _), (8, _), (9, _)] a := hA.sub ((.cons rfl (.cons rfl (.cons rfl (.cons rfl (.cons rfl .nil))))))
  refine Ends.seq ?_
  refine Ends.ite hA rfl (fun hc1 => ?_) (fun hc1 => ?_)
  ·
    refine Ends.skip ?_
    refine Ends.seq ?_
    refine Ends.block ?_
    refine Ends.seq ?_
    refine Ends.region ?_
    refine S.val hA (R.move rfl) rfl ?_; clear hA a; intro a hA
    refine S.val hA (R.assign rfl) rfl ?_; clear hA a; intro a hA
    refine S.done ?_
    replace hA : St 19 [(0, _), (1, _), (5, _), (7, _), (8, _)] a := hA.sub ((.cons rfl (.cons rfl (.cons rfl (.cons rfl (.cons rfl .nil))))))
    refine Ends.seq ?_
    refine Ends.region ?_
    refine S.val hA (R.move rfl) rfl ?_; clear hA a; intro a hA
    refine S.val hA (R.move rfl) rfl ?_; clear hA a; intro a hA
    refine S.val hA (R.move rfl) rfl ?_; clear hA a; intro a hA
    refine S.val hA (R.idxI hx (j := k) sl22 rfl rfl (by omega) (rfl)) rfl ?_; clear hA a; intro a hA
    refine S.val hA (R.loadI (hx.mem hM) sz3 rfl (by omega)) rfl ?_; clear hA a; intro a hA
    refine S.call hA (R.callV Try.func25 (by kernel_rfl) rfl rfl rfl) rfl (callsNil (below09 (X.getD k 0) _)) ?_; clear hA a
    rintro e w2 ⟨rfl, rfl⟩
    refine ⟨.bool (decide (X.getD k 0 < 0)), rfl, fun a hA => ?_⟩
    refine S.done ?_
    replace hA : St 19 [(0, _), (1, _), (5, _), (7, _), (8, _), (16, _)] a := hA.sub ((.cons rfl (.cons rfl (.cons rfl (.cons rfl (.cons rfl (.cons rfl .nil)))))))
    refine Ends.ite hA rfl (fun hc2 => ?_) (fun hc2 => ?_)
    ·
      refine Ends.seq ?_
      refine Ends.region ?_
      refine S.val hA (R.move rfl) rfl ?_; clear hA a; intro a hA
      refine S.val hA (R.assign rfl) rfl ?_; clear hA a; intro a hA
      refine S.done ?_
      replace hA : St 19 [(0, _), (1, _), (4, _), (7, _), (8, _)] a := hA.sub ((.cons rfl (.cons rfl (.cons rfl (.cons rfl (.cons rfl .nil))))))
      refine Ends.ret1 Try.func36 Try.results36 hA rfl ?_
      exact ⟨(k : Int), rfl, by rw [hasNeg_at (k := k) (by omega) (by omega)]; simp, Mem.trans0 hbs hM.nilL⟩
    ·
      refine Ends.skip ?_
      refine Ends.inBlock ?_
      refine Ends.region ?_
      refine S.val hA (R.addI rfl rfl (r := ((k : Int)) + 1) rfl (by omega)) rfl ?_; clear hA a; intro a hA
      refine S.val hA (R.move rfl) rfl ?_; clear hA a; intro a hA
      refine S.done ?_
      replace hA : St 19 [(0, _), (1, _), (7, _), (8, _)] a := hA.sub ((.cons rfl (.cons rfl (.cons rfl (.cons rfl .nil)))))
      exact hNext ((k + 1)) _ _ ((by show X.length - (k + 1) < X.length - k; omega)) ⟨hA.sub ((.cons rfl (.cons rfl (.cons rfl (.cons rfl .nil))))), hM, (by omega), (fun j hj => (Nat.lt_or_ge j k).elim (fun g => hk2 j g) (fun g => by have e : j = k := (by omega); rw [e]; omega))⟩
  ·
    refine Ends.exit rfl ?_
    replace hA : St 19 [] a := hA.sub (.nil)
    refine Ends.seq ?_
    refine Ends.region ?_
    refine S.val hA (R.assign rfl) rfl ?_; clear hA a; intro a hA
    refine S.done ?_
    replace hA : St 19 [(4, _)] a := hA.sub ((.cons rfl .nil))
    refine Ends.ret1 Try.func36 Try.results36 hA rfl ?_
    obtain rfl : k = X.length := by omega
    exact ⟨-1, rfl, by rw [hasNeg_no hk2]; simp, Mem.trans0 hbs hM.nilL⟩
set_option maxRecDepth 100000 in
set_option maxHeartbeats 400000 in
theorem contains09 (ax : Option Addr) (X : List Int) (cx : Nat) (w : World) (hx : IntSl w (.slice ax X.length cx) X) :
    Calls Try.prog 24 #[.slice ax X.length cx, .func (.func 25) #[] #[]] w fun e w' => e = .returned (.bool (hasNeg X)) ∧ Below w.heap.size w w' := by
  have hbs := Below.refl (B := w.heap.size) w
  have hM := Mem.start w
  refine Calls.of_ends (vs := [.slice ax X.length cx, .func (.func 25) #[] #[]]) Try.func24 rfl Try.ntmps24 rfl ?_
  intro a hA
  replace hA : St 9 [(0, _), (1, _)] a := hA
  refine Ends.seq ?_
  refine Ends.region ?_
  refine S.val hA (R.assign rfl) rfl ?_; clear hA a; intro a hA
  refine S.done ?_
  replace hA : St 9 [(0, _), (1, _)] a := hA.sub ((.cons rfl (.cons rfl .nil)))
  refine Ends.seq ?_
  refine Ends.region ?_
  refine S.val hA (R.move rfl) rfl ?_; clear hA a; intro a hA
  refine S.val hA (R.move rfl) rfl ?_; clear hA a; intro a hA
  refine S.call hA (R.callF Try.func36 rfl rfl rfl) rfl (index09 ax X cx _ (hx.mem hM)) ?_; clear hA a
  rintro e w1 ⟨ri1, rfl, hri2, hb⟩
  replace hM := hM.callB hb; clear hb
  refine ⟨.int .i64 ri1, rfl, fun a hA => ?_⟩
  refine S.val hA (R.geq rfl rfl) rfl ?_; clear hA a; intro a hA
  refine S.val hA (R.assign rfl) rfl ?_; clear hA a; intro a hA
  refine S.done ?_
  replace hA : St 9 [(4, _)] a := hA.sub ((.cons rfl .nil))
  refine Ends.ret1 Try.func24 Try.results24 hA rfl ?_
  exact ⟨by rw [dec_bool hri2], Mem.trans0 hbs hM.nilL⟩
theorem cmpI_pos (z : Int) : 0 < cmpI z ↔ 0 < z := by unfold cmpI; repeat' split; all_goals omega
def bdI (X : List Int) : Prop := ∀ z, -9223372036854775808 ≤ X.getD z 0 ∧ X.getD z 0 ≤ 9223372036854775807
theorem bdI_of {X : List Int} (h : ∀ x ∈ X, (Lit.int .i64 x).wf = true) : bdI X := fun z => by
  rw [List.getD_eq_getElem?_getD]
  cases e : X[z]? with
  | none => exact ⟨by decide, by decide⟩
  | some y => exact bd_i64 (h y (List.mem_of_getElem? e))
set_option maxRecDepth 100000 in
set_option maxHeartbeats 400000 in
theorem byratio1 (bw bv : Nat) (au : Option Addr) (U : List Int) (cu : Nat) (av : Option Addr) (V : List Int) (cv : Nat) (x y : Int) (hvw : V.length = U.length) (hbv : bdI V) (hbw : bdI U) (hx : inR V.length x) (hy : inR V.length y) (w : World) (hqbw : w.heap[bw]? = some (.cells #[.slice au U.length cu] 22 (0, 0))) (hqbv : w.heap[bv]? = some (.cells #[.slice av V.length cv] 22 (0, 0))) (hu : IntSl w (.slice au U.length cu) U) (hv : IntSl w (.slice av V.length cv) V) :
    Calls Try.prog 28 #[.int .i64 x, .int .i64 y, .pointer (some ⟨bw, 0, none⟩), .pointer (some ⟨bv, 0, none⟩)] w fun e w' => e = .returned (.bool (ltq V U x y)) ∧ Below w.heap.size w w' := by
  have hbs := Below.refl (B := w.heap.size) w
  unfold inR at hx hy
  have hM := Mem.start w
  refine Calls.of_ends (vs := [.int .i64 x, .int .i64 y, .pointer (some ⟨bw, 0, none⟩), .pointer (some ⟨bv, 0, none⟩)]) Try.func28 rfl Try.ntmps28 rfl ?_
  intro a hA
  replace hA : St 37 [(0, _), (1, _), (2, _), (3, _)] a := hA
  refine Ends.seq ?_
  refine Ends.region ?_
  refine S.val hA (R.assign rfl) rfl ?_; clear hA a; intro a hA
  refine S.done ?_
  replace hA : St 37 [(0, _), (1, _), (2, _), (3, _)] a := hA.sub ((.cons rfl (.cons rfl (.cons rfl (.cons rfl .nil)))))
  refine Ends.seq ?_
  refine Ends.block ?_
  refine Ends.seq ?_
  refine Ends.region ?_
  refine S.val hA (R.load sz22 rfl (hM.cellB hqbw rfl)) rfl ?_; clear hA a; intro a hA
  refine S.val hA (R.move rfl) rfl ?_; clear hA a; intro a hA
  refine S.val hA (R.idxI hu (j := y.toNat) sl22 rfl rfl (by omega) (rfl)) rfl ?_; clear hA a; intro a hA
  refine S.val hA (R.loadI (hu.mem hM) sz3 rfl (by omega)) rfl ?_; clear hA a; intro a hA
  refine S.val hA (R.eql rfl rfl) rfl ?_; clear hA a; intro a hA
  refine S.val hA (R.assign rfl) rfl ?_; clear hA a; intro a hA
  refine S.done ?_
  replace hA : St 37 [(0, _), (1, _), (2, _), (3, _), (7, _)] a := hA.sub ((.cons rfl (.cons rfl (.cons rfl (.cons rfl (.cons rfl .nil))))))
  refine Ends.ite hA rfl (fun hc1 => ?_) (fun hc1 => ?_)
  ·
    refine Ends.seq ?_
    refine Ends.region ?_
    refine S.val hA (R.assign rfl) rfl ?_; clear hA a; intro a hA
    refine S.done ?_
    replace hA : St 37 [(0, _), (1, _), (2, _), (3, _), (6, _)] a := hA.sub ((.cons rfl (.cons rfl (.cons rfl (.cons rfl (.cons rfl .nil))))))
    refine Ends.ret1 Try.func28 Try.results28 hA rfl ?_
    exact ⟨by unfold ltq; rw [if_pos (by omega)], Mem.trans0 hbs hM.nilL⟩
  ·
    refine Ends.seq ?_
    refine Ends.region ?_
    refine S.val hA (R.load sz22 rfl (hM.cellB hqbw rfl)) rfl ?_; clear hA a; intro a hA
    refine S.val hA (R.move rfl) rfl ?_; clear hA a; intro a hA
    refine S.val hA (R.idxI hu (j := x.toNat) sl22 rfl rfl (by omega) (rfl)) rfl ?_; clear hA a; intro a hA
    refine S.val hA (R.loadI (hu.mem hM) sz3 rfl (by omega)) rfl ?_; clear hA a; intro a hA
    refine S.val hA (R.eql rfl rfl) rfl ?_; clear hA a; intro a hA
    refine S.val hA (R.assign rfl) rfl ?_; clear hA a; intro a hA
    refine S.done ?_
    replace hA : St 37 [(0, _), (1, _), (2, _), (3, _), (13, _)] a := hA.sub ((.cons rfl (.cons rfl (.cons rfl (.cons rfl (.cons rfl .nil))))))
    refine Ends.ite hA rfl (fun hc2 => ?_) (fun hc2 => ?_)
    ·
      refine Ends.seq ?_
      refine Ends.region ?_
      refine S.val hA (R.assign rfl) rfl ?_; clear hA a; intro a hA
      refine S.done ?_
      replace hA : St 37 [(0, _), (1, _), (2, _), (3, _), (6, _)] a := hA.sub ((.cons rfl (.cons rfl (.cons rfl (.cons rfl (.cons rfl .nil))))))
      refine Ends.ret1 Try.func28 Try.results28 hA rfl ?_
      exact ⟨by unfold ltq; rw [if_neg (by omega), if_pos (by omega)], Mem.trans0 hbs hM.nilL⟩
    ·
      refine Ends.skip ?_
      refine Ends.inBlock ?_
      refine Ends.seq ?_
      refine Ends.drawn (Mem w nof []) (.cons (0, true) (.cons (1, true) (.cons (2, true) (.cons (3, true) (.cons (4, true) (.cons (5, true) (.cons (6, true) (.cons (7, true) (.cons (8, true) (.cons (9, true) (.cons (10, true) (.cons (11, true) (.cons (12, true) (.cons (13, true) (.cons (14, true) (.cons (15, true) (.cons (16, false) (.cons (17, true) (.cons (18, true) .nil))))))))))))))))))) 19 mixed (by kernel_rfl) (by kernel_rfl) (by kernel_rfl) hM.drew ?_
      replace hM := hM.drew
      refine D.val hA rfl (by kernel_rfl) (fun _ hM => R.load sz22 rfl (hM.cellB hqbv rfl)) rfl ?_; clear hA a; intro a hA
      refine D.valF hA rfl (fun _ => R.move rfl) rfl ?_; clear hA a; intro a hA
      refine D.valF hA rfl (fun _ => R.idxI hv (j := x.toNat) sl22 rfl rfl (by omega) (rfl)) rfl ?_; clear hA a; intro a hA
      refine D.val hA rfl (by kernel_rfl) (fun _ hM => R.loadI (hv.mem hM) sz3 rfl (by omega)) rfl ?_; clear hA a; intro a hA
      refine D.val hA rfl (by kernel_rfl) (fun _ hM => R.load sz22 rfl (hM.cellB hqbw rfl)) rfl ?_; clear hA a; intro a hA
      refine D.valF hA rfl (fun _ => R.move rfl) rfl ?_; clear hA a; intro a hA
      refine D.valF hA rfl (fun _ => R.idxI hu (j := y.toNat) sl22 rfl rfl (by omega) (rfl)) rfl ?_; clear hA a; intro a hA
      refine D.val hA rfl (by kernel_rfl) (fun _ hM => R.loadI (hu.mem hM) sz3 rfl (by omega)) rfl ?_; clear hA a; intro a hA
      refine D.val hA rfl (by kernel_rfl) (fun _ hM => R.load sz22 rfl (hM.cellB hqbv rfl)) rfl ?_; clear hA a; intro a hA
      refine D.valF hA rfl (fun _ => R.move rfl) rfl ?_; clear hA a; intro a hA
      refine D.valF hA rfl (fun _ => R.idxI hv (j := y.toNat) sl22 rfl rfl (by omega) (rfl)) rfl ?_; clear hA a; intro a hA
      refine D.val hA rfl (by kernel_rfl) (fun _ hM => R.loadI (hv.mem hM) sz3 rfl (by omega)) rfl ?_; clear hA a; intro a hA
      refine D.val hA rfl (by kernel_rfl) (fun _ hM => R.load sz22 rfl (hM.cellB hqbw rfl)) rfl ?_; clear hA a; intro a hA
      refine D.valF hA rfl (fun _ => R.move rfl) rfl ?_; clear hA a; intro a hA
      refine D.valF hA rfl (fun _ => R.idxI hu (j := x.toNat) sl22 rfl rfl (by omega) (rfl)) rfl ?_; clear hA a; intro a hA
      refine D.val hA rfl (by kernel_rfl) (fun _ hM => R.loadI (hu.mem hM) sz3 rfl (by omega)) rfl ?_; clear hA a; intro a hA
      refine D.call hA rfl (R.callF Try.func29 rfl rfl rfl) rfl (cross_any (V.getD x.toNat 0) (U.getD y.toNat 0) (V.getD y.toNat 0) (U.getD x.toNat 0) (hbv _).1 (hbv _).2 (hbw _).1 (hbw _).2 (hbv _).1 (hbv _).2 (hbw _).1 (hbw _).2 _) ?_; clear hA a
      rintro e w1 ⟨rfl, hb⟩
      replace hM := hM.callB hb; clear hb
      refine ⟨.int .i64 (cmpI ((V.getD x.toNat 0) * (U.getD y.toNat 0) - (V.getD y.toNat 0) * (U.getD x.toNat 0))), rfl, hM, fun a hA => ?_⟩
      refine D.valF hA rfl (fun _ => R.gtr rfl rfl) rfl ?_; clear hA a; intro a hA
      refine D.valF hA rfl (fun _ => R.assign rfl) rfl ?_; clear hA a; intro a hA
      refine D.done ?_
      replace hA : St 37 [(6, _)] a := hA.sub ((.cons rfl .nil))
      refine Ends.ret1 Try.func28 Try.results28 hA rfl ?_
      exact ⟨by unfold ltq; rw [if_neg (by omega), if_neg (by omega)]; exact congrArg (fun z => Ending.returned (.bool z)) (decide_eq_decide.2 ((cmpI_pos _).trans (by omega))), Mem.trans0 hbs hM.nilL⟩
def badQ (v w : List Int) : Prop := ((v.length ≠ w.length ∨ 64 < v.length) ∨ hasNeg v = true) ∨ hasNeg w = true
instance (v w : List Int) : Decidable (badQ v w) := by unfold badQ; infer_instance
theorem badQ_iff {v w : List Int} : badQ v w ↔ ((((v.length : Int) ≠ (w.length : Int)) ∨ (64 : Int) < (v.length : Int)) ∨ (hasNeg v) = true) ∨ (hasNeg w) = true := by
  unfold badQ
  have e1 : ((v.length : Int) ≠ (w.length : Int)) ↔ v.length ≠ w.length := by omega
  have e2 : ((64 : Int) < (v.length : Int)) ↔ 64 < v.length := by omega
  rw [e1, e2]
def qL (v w : List Int) : List Int := if badQ v w then [] else byQ v w
def qE (v w : List Int) : Int := if badQ v w then 1 else 0
theorem not_bad {v w : List Int} (h : ¬ badQ v w) : v.length = w.length ∧ v.length ≤ 64 ∧ (∀ x ∈ v, 0 ≤ x) ∧ ∀ x ∈ w, 0 ≤ x := by
  unfold badQ at h
  simp only [not_or, Bool.not_eq_true, Decidable.not_not] at h
  exact ⟨h.1.1.1, by omega, nn_of h.1.2, nn_of h.2⟩
set_option maxRecDepth 100000 in
set_option maxHeartbeats 400000 in
theorem byratio (av : Option Addr) (V : List Int) (cv : Nat) (au : Option Addr) (U : List Int) (cu : Nat) (hbv : bdI V) (hbu : bdI U) (w : World) (hv : IntSl w (.slice av V.length cv) V) (hu : IntSl w (.slice au U.length cu) U) :
    Calls Try.prog 9 #[.slice av V.length cv, .slice au U.length cu] w fun e w' => ∃ a c, e = .returned (.tuple #[.slice a (qL V U).length c, .int .i64 (qE V U)]) ∧ IntSl w' (.slice a (qL V U).length c) (qL V U) ∧ Below w.heap.size w w' := by
  have hbs := Below.refl (B := w.heap.size) w
  have hlV := hv.lenB
  have hlU := hu.lenB
  have hM := Mem.start w
  refine Calls.of_ends (vs := [.slice av V.length cv, .slice au U.length cu]) Try.func9 rfl Try.ntmps9 rfl ?_
  intro a hA
  replace hA : St 29 [(0, _), (1, _)] a := hA
  refine Ends.seq ?_
  refine Ends.region ?_
  refine S.box hA hM rfl rfl ?_; clear hA hM a; intro b1 w1 hb2 hM a hA
  replace hM : Mem _ _ [pt b1 #[.slice av V.length cv] 22] _ := hM
  refine S.box hA hM rfl rfl ?_; clear hA hM a; intro b3 w2 hb4 hM a hA
  replace hM : Mem _ _ [pt b3 #[.slice au U.length cu] 22, pt b1 #[.slice av V.length cv] 22] _ := hM
  refine S.val hA (R.assign rfl) rfl ?_; clear hA a; intro a hA
  refine S.val hA (R.assign rfl) rfl ?_; clear hA a; intro a hA
  refine S.done ?_
  replace hA : St 29 [(2, _), (3, _)] a := hA.sub ((.cons rfl (.cons rfl .nil)))
  refine Ends.seq ?_
  refine Ends.seq ?_
  refine Ends.cut (fun (a : Act) (wv : World) => St 29 [(2, .pointer (some ⟨b1, 0, none⟩)), (3, .pointer (some ⟨b3, 0, none⟩)), (23, .bool (decide ((((((V.length : Int)) ≠ ((U.length : Int)) ∨ 64 < ((V.length : Int))) ∨ ((hasNeg V)) = true) ∨ ((hasNeg U)) = true))))] a ∧ Mem w nof [pt b3 #[.slice au U.length cu] 22, pt b1 #[.slice av V.length cv] 22] wv) ?_ (fun k2 hJ => ?_)
  · clear hA hM a; rintro a w3 ⟨hA, hM⟩
    refine Ends.ite hA rfl (fun hc5 => ?_) (fun hc5 => ?_)
    ·
      have hnb : badQ V U := badQ_iff.2 hc5
      refine Ends.seq ?_
      refine Ends.region ?_
      refine S.val hA (R.assign rfl) rfl ?_; clear hA a; intro a hA
      refine S.val hA (R.assign rfl) rfl ?_; clear hA a; intro a hA
      refine S.done ?_
      replace hA : St 29 [(2, _), (3, _), (4, _), (5, _)] a := hA.sub ((.cons rfl (.cons rfl (.cons rfl (.cons rfl .nil)))))
      refine Ends.ret2 Try.func9 Try.results9 hA rfl rfl ?_
      rw [show qL V U = [] from if_pos hnb, show qE V U = 1 from if_pos hnb]
      exact ⟨none, 0, rfl, IntSl.nil _, Mem.trans0 hbs hM.nilL⟩
    ·
      have hnb : ¬ badQ V U := fun h9 => hc5 (badQ_iff.1 h9)
      obtain ⟨hvw, h64, hnv, hnu⟩ := not_bad hnb
      refine Ends.skip ?_
      refine Ends.seq ?_
      refine Ends.region ?_
      refine S.val hA (R.load sz22 rfl (hM.cell (k := 1) rfl rfl)) rfl ?_; clear hA a; intro a hA
      refine S.val hA (R.lenS Try.underlying22 rfl rfl) rfl ?_; clear hA a; intro a hA
      refine S.call hA (R.callF Try.func27 rfl rfl rfl) rfl (plain_n V.length (by omega) _) ?_; clear hA a
      rintro e w4 ⟨ra6, rc7, rfl, rh8, hb⟩
      replace hM := hM.callB hb; clear hb
      have hbx9 := hM.block (k := 0) rfl
      have hbx10 := hM.block (k := 1) rfl
      have hbs := hbs.trans (hM.below.mono hbs.size)
      have hv := hv.mem hM
      have hu := hu.mem hM
      replace hM := Mem.start w4
      refine ⟨.slice ra6 (((pl V.length)).length) rc7, rfl, fun a hA => ?_⟩
      refine S.val hA (R.to (v := .func (.func 28) #[] #[.pointer (some ⟨b3, 0, none⟩), .pointer (some ⟨b1, 0, none⟩)]) (R.makeFunc rfl) rfl) rfl ?_; clear hA a; intro a hA
      have hah : AheadAt (inR V.length) (ltq V U) 28 #[.pointer (some ⟨b3, 0, none⟩), .pointer (some ⟨b1, 0, none⟩)] w4 := fun w' hb x y hx hy => byratio1 b3 b1 au U cu av V cv x y hvw hbv hbu hx hy w' ((Mem.of_below hb).keepB hbx9) ((Mem.of_below hb).keepB hbx10) (hu.below hb (Nat.le_refl _)) (hv.below hb (Nat.le_refl _))
      refine S.call hA (R.callF Try.func26 rfl rfl rfl) rfl (merge_any Try.func28 (by kernel_rfl) rfl V.length ra6 ((pl V.length)) rc7 _ (by rw [pl_len]; omega) (by rw [pl_len]; omega) (fun x hx => mem_pl.1 hx) (rh8.mem hM) hah) ?_; clear hA a
      rintro e w5 ⟨ra11, rc12, rfl, rh13, hb⟩
      replace hM := hM.callB hb; clear hb
      have hbs := hbs.trans (hM.below.mono hbs.size)
      have hv := hv.mem hM
      have hu := hu.mem hM
      have rh8 := rh8.mem hM
      have hbx9 := hM.keepB hbx9
      have hbx10 := hM.keepB hbx10
      replace hM := Mem.start w5
      refine ⟨.slice ra11 (((byQ V U)).length) rc12, rfl, fun a hA => ?_⟩
      refine S.val hA (R.assign rfl) rfl ?_; clear hA a; intro a hA
      refine S.val hA (R.assign rfl) rfl ?_; clear hA a; intro a hA
      refine S.done ?_
      replace hA : St 29 [(4, _), (5, _)] a := hA.sub ((.cons rfl (.cons rfl .nil)))
      refine Ends.ret2 Try.func9 Try.results9 hA rfl rfl ?_
      rw [show qL V U = byQ V U from if_neg hnb, show qE V U = 0 from if_neg hnb]
      exact ⟨_, _, rfl, rh13, Mem.trans0 hbs hM.nilL⟩
  ·
    refine Ends.region ?_
    refine S.val hA (R.load sz22 rfl (hM.cell (k := 1) rfl rfl)) rfl ?_; clear hA a; intro a hA
    refine S.val hA (R.lenS Try.underlying22 rfl rfl) rfl ?_; clear hA a; intro a hA
    refine S.val hA (R.load sz22 rfl (hM.cell (k := 0) rfl rfl)) rfl ?_; clear hA a; intro a hA
    refine S.val hA (R.lenS Try.underlying22 rfl rfl) rfl ?_; clear hA a; intro a hA
    refine S.val hA (R.neq rfl rfl) rfl ?_; clear hA a; intro a hA
    refine S.val hA (R.move rfl) rfl ?_; clear hA a; intro a hA
    refine hA.split (d := 11) rfl ?_ ?_
    · clear hA; intro hg14 hA
      refine S.no (dj := 11) hA (by kernel_rfl) rfl rfl rfl ?_; clear hA a; intro a hA
      refine S.no (dj := 11) hA (by kernel_rfl) rfl rfl rfl ?_; clear hA a; intro a hA
      refine S.no (dj := 11) hA (by kernel_rfl) rfl rfl rfl ?_; clear hA a; intro a hA
      refine S.val hA (R.pickT rfl rfl) rfl ?_; clear hA a; intro a hA
      refine S.val hA (R.move rfl) rfl ?_; clear hA a; intro a hA
      refine S.no (dj := 16) hA (by kernel_rfl) rfl rfl rfl ?_; clear hA a; intro a hA
      refine S.no (dj := 16) hA (by kernel_rfl) rfl rfl rfl ?_; clear hA a; intro a hA
      refine S.val hA (R.pickT rfl rfl) rfl ?_; clear hA a; intro a hA
      refine S.val hA (R.move rfl) rfl ?_; clear hA a; intro a hA
      refine S.no (dj := 20) hA (by kernel_rfl) rfl rfl rfl ?_; clear hA a; intro a hA
      refine S.no (dj := 20) hA (by kernel_rfl) rfl rfl rfl ?_; clear hA a; intro a hA
      refine S.val hA (R.pickT rfl rfl) rfl ?_; clear hA a; intro a hA
      refine S.done ?_
      replace hA : St 29 [(2, _), (3, _), (23, _)] a := hA.sub ((.cons rfl (.cons rfl (.cons rfl .nil))))
      exact hJ _ _ ⟨hA.sub (.cons rfl (.cons rfl (.cons (by first | rfl | exact congrArg (fun b => some (Value.bool b)) (by first | exact decide_eq_decide.2 (by omega) | exact or_bool (by omega) | exact and_bool (by omega) | (simp; done) | (simp [hg14]; done) | (have h80 := hg14; (try simp at h80); simp [h80]; done) | exact (decide_eq_false (fun h9 => hg14 h9.1)).symm)) .nil))), hM⟩
    · clear hA; intro hg14 hA
      refine S.valg (dj := 11) hA (by kernel_rfl) rfl (R.load sz22 rfl (hM.cell (k := 1) rfl rfl)) rfl ?_; clear hA a; intro a hA
      refine S.valg (dj := 11) hA (by kernel_rfl) rfl (R.lenS Try.underlying22 rfl rfl) rfl ?_; clear hA a; intro a hA
      refine S.valg (dj := 11) hA (by kernel_rfl) rfl (R.gtr rfl rfl) rfl ?_; clear hA a; intro a hA
      refine S.val hA (R.pickF rfl rfl) rfl ?_; clear hA a; intro a hA
      refine S.val hA (R.move rfl) rfl ?_; clear hA a; intro a hA
      refine hA.split (d := 16) rfl ?_ ?_
      · clear hA; intro hg15 hA
        refine S.no (dj := 16) hA (by kernel_rfl) rfl rfl rfl ?_; clear hA a; intro a hA
        refine S.no (dj := 16) hA (by kernel_rfl) rfl rfl rfl ?_; clear hA a; intro a hA
        refine S.val hA (R.pickT rfl rfl) rfl ?_; clear hA a; intro a hA
        refine S.val hA (R.move rfl) rfl ?_; clear hA a; intro a hA
        refine S.no (dj := 20) hA (by kernel_rfl) rfl rfl rfl ?_; clear hA a; intro a hA
        refine S.no (dj := 20) hA (by kernel_rfl) rfl rfl rfl ?_; clear hA a; intro a hA
        refine S.val hA (R.pickT rfl rfl) rfl ?_; clear hA a; intro a hA
        refine S.done ?_
        replace hA : St 29 [(2, _), (3, _), (23, _)] a := hA.sub ((.cons rfl (.cons rfl (.cons rfl .nil))))
        exact hJ _ _ ⟨hA.sub (.cons rfl (.cons rfl (.cons (by first | rfl | exact congrArg (fun b => some (Value.bool b)) (by first | exact decide_eq_decide.2 (by omega) | exact or_bool (by omega) | exact and_bool (by omega) | (simp; done) | (simp [hg14, hg15]; done) | (have h80 := hg14; (try simp at h80); have h81 := hg15; (try simp at h81); simp [h80, h81]; done) | exact (decide_eq_false (fun h9 => hg14 h9.1)).symm | exact (decide_eq_false (fun h9 => hg15 h9.1)).symm)) .nil))), hM⟩
      · clear hA; intro hg15 hA
        refine S.valg (dj := 16) hA (by kernel_rfl) rfl (R.load sz22 rfl (hM.cell (k := 1) rfl rfl)) rfl ?_; clear hA a; intro a hA
        refine S.callg (dj := 16) hA (by kernel_rfl) rfl (R.callF Try.func24 rfl rfl rfl) rfl (contains09 av V cv _ (hv.mem hM)) ?_; clear hA a
        rintro e w6 ⟨rfl, hb⟩
        replace hM := hM.callB hb; clear hb
        refine ⟨.bool ((hasNeg V)), rfl, fun a hA => ?_⟩
        refine S.val hA (R.pickF rfl rfl) rfl ?_; clear hA a; intro a hA
        refine S.val hA (R.move rfl) rfl ?_; clear hA a; intro a hA
        refine hA.splitB (d := 20) rfl ?_ ?_
        · clear hA; intro hg16 hA
          refine S.no (dj := 20) hA (by kernel_rfl) rfl rfl rfl ?_; clear hA a; intro a hA
          refine S.no (dj := 20) hA (by kernel_rfl) rfl rfl rfl ?_; clear hA a; intro a hA
          refine S.val hA (R.pickT rfl rfl) rfl ?_; clear hA a; intro a hA
          refine S.done ?_
          replace hA : St 29 [(2, _), (3, _), (23, _)] a := hA.sub ((.cons rfl (.cons rfl (.cons rfl .nil))))
          exact hJ _ _ ⟨hA.sub (.cons rfl (.cons rfl (.cons (by first | rfl | exact congrArg (fun b => some (Value.bool b)) (by first | exact decide_eq_decide.2 (by omega) | exact or_bool (by omega) | exact and_bool (by omega) | (simp; done) | (simp [hg14, hg15, hg16]; done) | (have h80 := hg14; (try simp at h80); have h81 := hg15; (try simp at h81); have h82 := hg16; (try simp at h82); simp [h80, h81, h82]; done) | exact (decide_eq_false (fun h9 => hg14 h9.1)).symm | exact (decide_eq_false (fun h9 => hg15 h9.1)).symm | exact (decide_eq_false (fun h9 => hg16 h9.1)).symm)) .nil))), hM⟩
        · clear hA; intro hg16 hA
          refine S.valg (dj := 20) hA (by kernel_rfl) rfl (R.load sz22 rfl (hM.cell (k := 0) rfl rfl)) rfl ?_; clear hA a; intro a hA
          refine S.callg (dj := 20) hA (by kernel_rfl) rfl (R.callF Try.func24 rfl rfl rfl) rfl (contains09 au U cu _ (hu.mem hM)) ?_; clear hA a
          rintro e w7 ⟨rfl, hb⟩
          replace hM := hM.callB hb; clear hb
          refine ⟨.bool ((hasNeg U)), rfl, fun a hA => ?_⟩
          refine S.val hA (R.pickF rfl rfl) rfl ?_; clear hA a; intro a hA
          refine S.done ?_
          replace hA : St 29 [(2, _), (3, _), (23, _)] a := hA.sub ((.cons rfl (.cons rfl (.cons rfl .nil))))
          exact hJ _ _ ⟨hA.sub (.cons rfl (.cons rfl (.cons (by first | rfl | exact congrArg (fun b => some (Value.bool b)) (by first | exact decide_eq_decide.2 (by omega) | exact or_bool (by omega) | exact and_bool (by omega) | (simp; done) | (simp [hg14, hg15, hg16]; done) | (have h80 := hg14; (try simp at h80); have h81 := hg15; (try simp at h81); have h82 := hg16; (try simp at h82); simp [h80, h81, h82]; done) | exact (decide_eq_false (fun h9 => hg14 h9.1)).symm | exact (decide_eq_false (fun h9 => hg15 h9.1)).symm | exact (decide_eq_false (fun h9 => hg16 h9.1)).symm)) .nil))), hM⟩
theorem cmpI_zero (z : Int) : cmpI z = 0 ↔ z = 0 := by unfold cmpI; repeat' split; all_goals omega
set_option maxRecDepth 100000 in
set_option maxHeartbeats 400000 in
theorem better09 (av : Option Addr) (V : List Int) (cv : Nat) (au : Option Addr) (U : List Int) (cu : Nat) (i j : Nat) (hi : i < V.length ∧ i < U.length) (hj : j < V.length ∧ j < U.length) (hbv : bdI V) (hbu : bdI U) (w : World) (hv : IntSl w (.slice av V.length cv) V) (hu : IntSl w (.slice au U.length cu) U) :
    Calls Try.prog 30 #[.slice av V.length cv, .slice au U.length cu, .int .i64 ((i : Int)), .int .i64 ((j : Int))] w fun e w' => e = .returned (.bool (btr V U i j)) ∧ Below w.heap.size w w' := by
  have hbs := Below.refl (B := w.heap.size) w
  have q1 := hbv i
  have q2 := hbv j
  have q3 := hbu i
  have q4 := hbu j
  have hM := Mem.start w
  refine Calls.of_ends (vs := [.slice av V.length cv, .slice au U.length cu, .int .i64 ((i : Int)), .int .i64 ((j : Int))]) Try.func30 rfl Try.ntmps30 rfl ?_
  intro a hA
  replace hA : St 73 [(0, _), (1, _), (2, _), (3, _)] a := hA
  refine Ends.seq ?_
  refine Ends.region ?_
  refine S.val hA (R.assign rfl) rfl ?_; clear hA a; intro a hA
  refine S.done ?_
  replace hA : St 73 [(0, _), (1, _), (2, _), (3, _)] a := hA.sub ((.cons rfl (.cons rfl (.cons rfl (.cons rfl .nil)))))
  refine Ends.seq ?_
  refine Ends.seq ?_
  refine Ends.cut (fun (a : Act) (wv : World) => St 73 [(0, .slice av V.length cv), (1, .slice au U.length cu), (2, .int .i64 ((i : Int))), (3, .int .i64 ((j : Int))), (21, .bool (decide (((U.getD i 0) = 0 ∨ (U.getD j 0) = 0))))] a ∧ Mem w nof [] wv) ?_ (fun k2 hJ => ?_)
  · clear hA hM a; rintro a w1 ⟨hA, hM⟩
    refine Ends.ite hA rfl (fun hc1 => ?_) (fun hc1 => ?_)
    ·
      refine Ends.seq ?_
      refine Ends.cut (fun (a : Act) (wv : World) => St 73 [(0, .slice av V.length cv), (1, .slice au U.length cu), (2, .int .i64 ((i : Int))), (3, .int .i64 ((j : Int))), (8, .bool (decide (((U.getD i 0) = 0 ∧ ((U.getD j 0) ≠ 0 ∨ ((i : Int)) < ((j : Int)))))))] a ∧ Mem w nof [] wv) ?_ (fun k2 hJ => ?_)
      · clear hA hM a; rintro a w2 ⟨hA, hM⟩
        refine Ends.ret1 Try.func30 Try.results30 hA rfl ?_
        exact ⟨by unfold btr; rw [if_pos (by omega)] <;> exact congrArg (fun z => Ending.returned (.bool z)) (decide_eq_decide.2 (by omega)), Mem.trans0 hbs hM.nilL⟩
      ·
        refine Ends.region ?_
        refine S.val hA (R.move rfl) rfl ?_; clear hA a; intro a hA
        refine S.val hA (R.move rfl) rfl ?_; clear hA a; intro a hA
        refine S.val hA (R.idxI hu (j := i) sl22 rfl rfl (by omega) (rfl)) rfl ?_; clear hA a; intro a hA
        refine S.val hA (R.loadI (hu.mem hM) sz3 rfl (by omega)) rfl ?_; clear hA a; intro a hA
        refine S.val hA (R.eql rfl rfl) rfl ?_; clear hA a; intro a hA
        refine S.val hA (R.move rfl) rfl ?_; clear hA a; intro a hA
        refine hA.split (d := 27) rfl ?_ ?_
        · clear hA; intro hg2 hA
          refine S.valg (dj := 27) hA (by kernel_rfl) rfl (R.move rfl) rfl ?_; clear hA a; intro a hA
          refine S.valg (dj := 27) hA (by kernel_rfl) rfl (R.move rfl) rfl ?_; clear hA a; intro a hA
          refine S.valg (dj := 27) hA (by kernel_rfl) rfl (R.idxI hu (j := j) sl22 rfl rfl (by omega) (rfl)) rfl ?_; clear hA a; intro a hA
          refine S.valg (dj := 27) hA (by kernel_rfl) rfl (R.loadI (hu.mem hM) sz3 rfl (by omega)) rfl ?_; clear hA a; intro a hA
          refine S.valg (dj := 27) hA (by kernel_rfl) rfl (R.neq rfl rfl) rfl ?_; clear hA a; intro a hA
          refine S.valg (dj := 27) hA (by kernel_rfl) rfl (R.move rfl) rfl ?_; clear hA a; intro a hA
          refine hA.split (d := 33) rfl ?_ ?_
          · clear hA; intro hg3 hA
            refine S.no (dj := 33) hA (by kernel_rfl) rfl rfl rfl ?_; clear hA a; intro a hA
            refine S.no (dj := 33) hA (by kernel_rfl) rfl rfl rfl ?_; clear hA a; intro a hA
            refine S.no (dj := 33) hA (by kernel_rfl) rfl rfl rfl ?_; clear hA a; intro a hA
            refine S.valg (dj := 27) hA (by kernel_rfl) rfl (R.pickT rfl rfl) rfl ?_; clear hA a; intro a hA
            refine S.val hA (R.pickT rfl rfl) rfl ?_; clear hA a; intro a hA
            refine S.val hA (R.assign rfl) rfl ?_; clear hA a; intro a hA
            refine S.done ?_
            replace hA : St 73 [(0, _), (1, _), (2, _), (3, _), (8, _)] a := hA.sub ((.cons rfl (.cons rfl (.cons rfl (.cons rfl (.cons rfl .nil))))))
            exact hJ _ _ ⟨hA.sub (.cons rfl (.cons rfl (.cons rfl (.cons rfl (.cons (by first | rfl | exact congrArg (fun b => some (Value.bool b)) (by first | exact decide_eq_decide.2 (by omega) | exact or_bool (by omega) | exact and_bool (by omega) | (simp; done) | (simp [hg2, hg3]; done) | (have h80 := hg2; (try simp at h80); have h81 := hg3; (try simp at h81); simp [h80, h81]; done) | exact (decide_eq_false (fun h9 => hg2 h9.1)).symm | exact (decide_eq_false (fun h9 => hg3 h9.1)).symm)) .nil))))), hM⟩
          · clear hA; intro hg3 hA
            refine S.valg (dj := 33) hA (by kernel_rfl) rfl (R.move rfl) rfl ?_; clear hA a; intro a hA
            refine S.valg (dj := 33) hA (by kernel_rfl) rfl (R.move rfl) rfl ?_; clear hA a; intro a hA
            refine S.valg (dj := 33) hA (by kernel_rfl) rfl (R.lss rfl rfl) rfl ?_; clear hA a; intro a hA
            refine S.valg (dj := 27) hA (by kernel_rfl) rfl (R.pickF rfl rfl) rfl ?_; clear hA a; intro a hA
            refine S.val hA (R.pickT rfl rfl) rfl ?_; clear hA a; intro a hA
            refine S.val hA (R.assign rfl) rfl ?_; clear hA a; intro a hA
            refine S.done ?_
            replace hA : St 73 [(0, _), (1, _), (2, _), (3, _), (8, _)] a := hA.sub ((.cons rfl (.cons rfl (.cons rfl (.cons rfl (.cons rfl .nil))))))
            exact hJ _ _ ⟨hA.sub (.cons rfl (.cons rfl (.cons rfl (.cons rfl (.cons (by first | rfl | exact congrArg (fun b => some (Value.bool b)) (by first | exact decide_eq_decide.2 (by omega) | exact or_bool (by omega) | exact and_bool (by omega) | (simp; done) | (simp [hg2, hg3]; done) | (have h80 := hg2; (try simp at h80); have h81 := hg3; (try simp at h81); simp [h80, h81]; done) | exact (decide_eq_false (fun h9 => hg2 h9.1)).symm | exact (decide_eq_false (fun h9 => hg3 h9.1)).symm)) .nil))))), hM⟩
        · clear hA; intro hg2 hA
          refine S.no (dj := 27) hA (by kernel_rfl) rfl rfl rfl ?_; clear hA a; intro a hA
          refine S.no (dj := 27) hA (by kernel_rfl) rfl rfl rfl ?_; clear hA a; intro a hA
          refine S.no (dj := 27) hA (by kernel_rfl) rfl rfl rfl ?_; clear hA a; intro a hA
          refine S.no (dj := 27) hA (by kernel_rfl) rfl rfl rfl ?_; clear hA a; intro a hA
          refine S.no (dj := 27) hA (by kernel_rfl) rfl rfl rfl ?_; clear hA a; intro a hA
          refine S.no (dj := 27) hA (by kernel_rfl) rfl rfl rfl ?_; clear hA a; intro a hA
          refine S.noU (dj := 33) hA (by kernel_rfl) rfl rfl ?_; clear hA a; intro a hA
          refine S.noU (dj := 33) hA (by kernel_rfl) rfl rfl ?_; clear hA a; intro a hA
          refine S.noU (dj := 33) hA (by kernel_rfl) rfl rfl ?_; clear hA a; intro a hA
          refine S.no (dj := 27) hA (by kernel_rfl) rfl rfl rfl ?_; clear hA a; intro a hA
          refine S.val hA (R.pickF rfl rfl) rfl ?_; clear hA a; intro a hA
          refine S.val hA (R.assign rfl) rfl ?_; clear hA a; intro a hA
          refine S.done ?_
          replace hA : St 73 [(0, _), (1, _), (2, _), (3, _), (8, _)] a := hA.sub ((.cons rfl (.cons rfl (.cons rfl (.cons rfl (.cons rfl .nil))))))
          exact hJ _ _ ⟨hA.sub (.cons rfl (.cons rfl (.cons rfl (.cons rfl (.cons (by first | rfl | exact congrArg (fun b => some (Value.bool b)) (by first | exact decide_eq_decide.2 (by omega) | exact or_bool (by omega) | exact and_bool (by omega) | (simp; done) | (simp [hg2]; done) | (have h80 := hg2; (try simp at h80); simp [h80]; done) | exact (decide_eq_false (fun h9 => hg2 h9.1)).symm)) .nil))))), hM⟩
    ·
      refine Ends.skip ?_
      refine Ends.seq ?_
      refine Ends.drawn (Mem w nof []) (.cons (0, true) (.cons (1, true) (.cons (2, true) (.cons (3, true) (.cons (5, true) (.cons (6, true) (.cons (7, true) (.cons (8, true) (.cons (11, true) (.cons (12, true) (.cons (13, true) (.cons (14, true) (.cons (16, true) (.cons (17, true) (.cons (18, true) (.cons (19, true) (.cons (4, false) (.cons (9, false) (.cons (10, false) (.cons (15, false) (.cons (20, false) (.cons (21, false) (.cons (22, false) (.cons (23, true) .nil)))))))))))))))))))))))) 24 mixed (by kernel_rfl) (by kernel_rfl) (by kernel_rfl) hM.drew ?_
      replace hM := hM.drew
      refine D.valF hA rfl (fun _ => R.move rfl) rfl ?_; clear hA a; intro a hA
      refine D.valF hA rfl (fun _ => R.move rfl) rfl ?_; clear hA a; intro a hA
      refine D.valF hA rfl (fun _ => R.idxI hv (j := i) sl22 rfl rfl (by omega) (rfl)) rfl ?_; clear hA a; intro a hA
      refine D.val hA rfl (by kernel_rfl) (fun _ hM => R.loadI (hv.mem hM) sz3 rfl (by omega)) rfl ?_; clear hA a; intro a hA
      refine D.valF hA rfl (fun _ => R.move rfl) rfl ?_; clear hA a; intro a hA
      refine D.valF hA rfl (fun _ => R.move rfl) rfl ?_; clear hA a; intro a hA
      refine D.valF hA rfl (fun _ => R.idxI hu (j := j) sl22 rfl rfl (by omega) (rfl)) rfl ?_; clear hA a; intro a hA
      refine D.val hA rfl (by kernel_rfl) (fun _ hM => R.loadI (hu.mem hM) sz3 rfl (by omega)) rfl ?_; clear hA a; intro a hA
      refine D.valF hA rfl (fun _ => R.move rfl) rfl ?_; clear hA a; intro a hA
      refine D.valF hA rfl (fun _ => R.move rfl) rfl ?_; clear hA a; intro a hA
      refine D.valF hA rfl (fun _ => R.idxI hv (j := j) sl22 rfl rfl (by omega) (rfl)) rfl ?_; clear hA a; intro a hA
      refine D.val hA rfl (by kernel_rfl) (fun _ hM => R.loadI (hv.mem hM) sz3 rfl (by omega)) rfl ?_; clear hA a; intro a hA
      refine D.valF hA rfl (fun _ => R.move rfl) rfl ?_; clear hA a; intro a hA
      refine D.valF hA rfl (fun _ => R.move rfl) rfl ?_; clear hA a; intro a hA
      refine D.valF hA rfl (fun _ => R.idxI hu (j := i) sl22 rfl rfl (by omega) (rfl)) rfl ?_; clear hA a; intro a hA
      refine D.val hA rfl (by kernel_rfl) (fun _ hM => R.loadI (hu.mem hM) sz3 rfl (by omega)) rfl ?_; clear hA a; intro a hA
      refine D.call hA rfl (R.callF Try.func41 rfl rfl rfl) rfl (num_v (V.getD i 0) (by omega) (by omega) _) ?_; clear hA a
      rintro e w3 ⟨x4, rfl, sg5, hb⟩
      replace hM := hM.callB hb; clear hb
      refine ⟨.agg x4, rfl, hM, fun a hA => ?_⟩
      refine D.call hA rfl (R.callF Try.func41 rfl rfl rfl) rfl (num_v (U.getD j 0) (by omega) (by omega) _) ?_; clear hA a
      rintro e w4 ⟨x6, rfl, sg7, hb⟩
      replace hM := hM.callB hb; clear hb
      refine ⟨.agg x6, rfl, hM, fun a hA => ?_⟩
      refine D.call hA rfl (R.callF Try.func40 rfl rfl rfl) rfl (mul_v sg5 sg7 ((Lt.int (by omega) (by omega)).up (by decide)) ((Lt.int (by omega) (by omega)).up (by decide)) _) ?_; clear hA a
      rintro e w5 ⟨x8, rfl, sg9, hb⟩
      replace hM := hM.callB hb; clear hb
      refine ⟨.agg x8, rfl, hM, fun a hA => ?_⟩
      refine D.call hA rfl (R.callF Try.func41 rfl rfl rfl) rfl (num_v (V.getD j 0) (by omega) (by omega) _) ?_; clear hA a
      rintro e w6 ⟨x10, rfl, sg11, hb⟩
      replace hM := hM.callB hb; clear hb
      refine ⟨.agg x10, rfl, hM, fun a hA => ?_⟩
      refine D.call hA rfl (R.callF Try.func41 rfl rfl rfl) rfl (num_v (U.getD i 0) (by omega) (by omega) _) ?_; clear hA a
      rintro e w7 ⟨x12, rfl, sg13, hb⟩
      replace hM := hM.callB hb; clear hb
      refine ⟨.agg x12, rfl, hM, fun a hA => ?_⟩
      refine D.call hA rfl (R.callF Try.func40 rfl rfl rfl) rfl (mul_v sg11 sg13 ((Lt.int (by omega) (by omega)).up (by decide)) ((Lt.int (by omega) (by omega)).up (by decide)) _) ?_; clear hA a
      rintro e w8 ⟨x14, rfl, sg15, hb⟩
      replace hM := hM.callB hb; clear hb
      refine ⟨.agg x14, rfl, hM, fun a hA => ?_⟩
      refine D.call hA rfl (R.callF Try.func39 rfl rfl rfl) rfl (cmp_v sg9 sg15 (((Lt.int (by omega) (by omega)).mul (Lt.int (by omega) (by omega))).up (by decide)) (((Lt.int (by omega) (by omega)).mul (Lt.int (by omega) (by omega))).up (by decide)) _) ?_; clear hA a
      rintro e w9 ⟨rfl, hb⟩
      replace hM := hM.callB hb; clear hb
      refine ⟨.int .i64 (cmpI ((V.getD i 0) * (U.getD j 0) - ((V.getD j 0) * (U.getD i 0)))), rfl, hM, fun a hA => ?_⟩
      refine D.valF hA rfl (fun _ => R.assign rfl) rfl ?_; clear hA a; intro a hA
      refine D.done ?_
      replace hA : St 73 [(2, _), (3, _), (9, _)] a := hA.sub ((.cons rfl (.cons rfl (.cons rfl .nil))))
      refine Ends.seq ?_
      refine Ends.cut (fun (a : Act) (wv : World) => St 73 [(8, .bool (decide ((0 < (cmpI ((V.getD i 0) * (U.getD j 0) - ((V.getD j 0) * (U.getD i 0)))) ∨ ((cmpI ((V.getD i 0) * (U.getD j 0) - ((V.getD j 0) * (U.getD i 0)))) = 0 ∧ ((i : Int)) < ((j : Int)))))))] a ∧ Mem w nof [] wv) ?_ (fun k2 hJ => ?_)
      · clear hA hM a; rintro a w10 ⟨hA, hM⟩
        refine Ends.ret1 Try.func30 Try.results30 hA rfl ?_
        have hcp := cmpI_pos (V.getD i 0 * U.getD j 0 - V.getD j 0 * U.getD i 0)
        have hcz := cmpI_zero (V.getD i 0 * U.getD j 0 - V.getD j 0 * U.getD i 0)
        exact ⟨by unfold btr; rw [if_neg (by omega)] <;> exact congrArg (fun z => Ending.returned (.bool z)) (decide_eq_decide.2 (by omega)), Mem.trans0 hbs hM.nilL⟩
      ·
        refine Ends.region ?_
        refine S.val hA (R.move rfl) rfl ?_; clear hA a; intro a hA
        refine S.val hA (R.gtr rfl rfl) rfl ?_; clear hA a; intro a hA
        refine S.val hA (R.move rfl) rfl ?_; clear hA a; intro a hA
        refine hA.split (d := 64) rfl ?_ ?_
        · clear hA; intro hg16 hA
          refine S.no (dj := 64) hA (by kernel_rfl) rfl rfl rfl ?_; clear hA a; intro a hA
          refine S.no (dj := 64) hA (by kernel_rfl) rfl rfl rfl ?_; clear hA a; intro a hA
          refine S.no (dj := 64) hA (by kernel_rfl) rfl rfl rfl ?_; clear hA a; intro a hA
          refine S.noU (dj := 67) hA (by kernel_rfl) rfl rfl ?_; clear hA a; intro a hA
          refine S.noU (dj := 67) hA (by kernel_rfl) rfl rfl ?_; clear hA a; intro a hA
          refine S.noU (dj := 67) hA (by kernel_rfl) rfl rfl ?_; clear hA a; intro a hA
          refine S.no (dj := 64) hA (by kernel_rfl) rfl rfl rfl ?_; clear hA a; intro a hA
          refine S.val hA (R.pickT rfl rfl) rfl ?_; clear hA a; intro a hA
          refine S.val hA (R.assign rfl) rfl ?_; clear hA a; intro a hA
          refine S.done ?_
          replace hA : St 73 [(8, _)] a := hA.sub ((.cons rfl .nil))
          exact hJ _ _ ⟨hA.sub (.cons (by first | rfl | exact congrArg (fun b => some (Value.bool b)) (by first | exact decide_eq_decide.2 (by omega) | exact or_bool (by omega) | exact and_bool (by omega) | (simp; done) | (simp [hg16]; done) | (have h80 := hg16; (try simp at h80); simp [h80]; done) | exact (decide_eq_false (fun h9 => hg16 h9.1)).symm)) .nil), hM⟩
        · clear hA; intro hg16 hA
          refine S.valg (dj := 64) hA (by kernel_rfl) rfl (R.move rfl) rfl ?_; clear hA a; intro a hA
          refine S.valg (dj := 64) hA (by kernel_rfl) rfl (R.eql rfl rfl) rfl ?_; clear hA a; intro a hA
          refine S.valg (dj := 64) hA (by kernel_rfl) rfl (R.move rfl) rfl ?_; clear hA a; intro a hA
          refine hA.split (d := 67) rfl ?_ ?_
          · clear hA; intro hg17 hA
            refine S.valg (dj := 67) hA (by kernel_rfl) rfl (R.move rfl) rfl ?_; clear hA a; intro a hA
            refine S.valg (dj := 67) hA (by kernel_rfl) rfl (R.move rfl) rfl ?_; clear hA a; intro a hA
            refine S.valg (dj := 67) hA (by kernel_rfl) rfl (R.lss rfl rfl) rfl ?_; clear hA a; intro a hA
            refine S.valg (dj := 64) hA (by kernel_rfl) rfl (R.pickT rfl rfl) rfl ?_; clear hA a; intro a hA
            refine S.val hA (R.pickF rfl rfl) rfl ?_; clear hA a; intro a hA
            refine S.val hA (R.assign rfl) rfl ?_; clear hA a; intro a hA
            refine S.done ?_
            replace hA : St 73 [(8, _)] a := hA.sub ((.cons rfl .nil))
            exact hJ _ _ ⟨hA.sub (.cons (by first | rfl | exact congrArg (fun b => some (Value.bool b)) (by first | exact decide_eq_decide.2 (by omega) | exact or_bool (by omega) | exact and_bool (by omega) | (simp; done) | (simp [hg16, hg17]; done) | (have h80 := hg16; (try simp at h80); have h81 := hg17; (try simp at h81); simp [h80, h81]; done) | exact (decide_eq_false (fun h9 => hg16 h9.1)).symm | exact (decide_eq_false (fun h9 => hg17 h9.1)).symm)) .nil), hM⟩
          · clear hA; intro hg17 hA
            refine S.no (dj := 67) hA (by kernel_rfl) rfl rfl rfl ?_; clear hA a; intro a hA
            refine S.no (dj := 67) hA (by kernel_rfl) rfl rfl rfl ?_; clear hA a; intro a hA
            refine S.no (dj := 67) hA (by kernel_rfl) rfl rfl rfl ?_; clear hA a; intro a hA
            refine S.valg (dj := 64) hA (by kernel_rfl) rfl (R.pickF rfl rfl) rfl ?_; clear hA a; intro a hA
            refine S.val hA (R.pickF rfl rfl) rfl ?_; clear hA a; intro a hA
            refine S.val hA (R.assign rfl) rfl ?_; clear hA a; intro a hA
            refine S.done ?_
            replace hA : St 73 [(8, _)] a := hA.sub ((.cons rfl .nil))
            exact hJ _ _ ⟨hA.sub (.cons (by first | rfl | exact congrArg (fun b => some (Value.bool b)) (by first | exact decide_eq_decide.2 (by omega) | exact or_bool (by omega) | exact and_bool (by omega) | (simp; done) | (simp [hg16, hg17]; done) | (have h80 := hg16; (try simp at h80); have h81 := hg17; (try simp at h81); simp [h80, h81]; done) | exact (decide_eq_false (fun h9 => hg16 h9.1)).symm | exact (decide_eq_false (fun h9 => hg17 h9.1)).symm)) .nil), hM⟩
  ·
    refine Ends.region ?_
    refine S.val hA (R.move rfl) rfl ?_; clear hA a; intro a hA
    refine S.val hA (R.move rfl) rfl ?_; clear hA a; intro a hA
    refine S.val hA (R.idxI hu (j := i) sl22 rfl rfl (by omega) (rfl)) rfl ?_; clear hA a; intro a hA
    refine S.val hA (R.loadI (hu.mem hM) sz3 rfl (by omega)) rfl ?_; clear hA a; intro a hA
    refine S.val hA (R.eql rfl rfl) rfl ?_; clear hA a; intro a hA
    refine S.val hA (R.move rfl) rfl ?_; clear hA a; intro a hA
    refine hA.split (d := 15) rfl ?_ ?_
    · clear hA; intro hg18 hA
      refine S.no (dj := 15) hA (by kernel_rfl) rfl rfl rfl ?_; clear hA a; intro a hA
      refine S.no (dj := 15) hA (by kernel_rfl) rfl rfl rfl ?_; clear hA a; intro a hA
      refine S.no (dj := 15) hA (by kernel_rfl) rfl rfl rfl ?_; clear hA a; intro a hA
      refine S.no (dj := 15) hA (by kernel_rfl) rfl rfl rfl ?_; clear hA a; intro a hA
      refine S.no (dj := 15) hA (by kernel_rfl) rfl rfl rfl ?_; clear hA a; intro a hA
      refine S.val hA (R.pickT rfl rfl) rfl ?_; clear hA a; intro a hA
      refine S.done ?_
      replace hA : St 73 [(0, _), (1, _), (2, _), (3, _), (21, _)] a := hA.sub ((.cons rfl (.cons rfl (.cons rfl (.cons rfl (.cons rfl .nil))))))
      exact hJ _ _ ⟨hA.sub (.cons rfl (.cons rfl (.cons rfl (.cons rfl (.cons (by first | rfl | exact congrArg (fun b => some (Value.bool b)) (by first | exact decide_eq_decide.2 (by omega) | exact or_bool (by omega) | exact and_bool (by omega) | (simp; done) | (simp [hg18]; done) | (have h80 := hg18; (try simp at h80); simp [h80]; done) | exact (decide_eq_false (fun h9 => hg18 h9.1)).symm)) .nil))))), hM⟩
    · clear hA; intro hg18 hA
      refine S.valg (dj := 15) hA (by kernel_rfl) rfl (R.move rfl) rfl ?_; clear hA a; intro a hA
      refine S.valg (dj := 15) hA (by kernel_rfl) rfl (R.move rfl) rfl ?_; clear hA a; intro a hA
      refine S.valg (dj := 15) hA (by kernel_rfl) rfl (R.idxI hu (j := j) sl22 rfl rfl (by omega) (rfl)) rfl ?_; clear hA a; intro a hA
      refine S.valg (dj := 15) hA (by kernel_rfl) rfl (R.loadI (hu.mem hM) sz3 rfl (by omega)) rfl ?_; clear hA a; intro a hA
      refine S.valg (dj := 15) hA (by kernel_rfl) rfl (R.eql rfl rfl) rfl ?_; clear hA a; intro a hA
      refine S.val hA (R.pickF rfl rfl) rfl ?_; clear hA a; intro a hA
      refine S.done ?_
      replace hA : St 73 [(0, _), (1, _), (2, _), (3, _), (21, _)] a := hA.sub ((.cons rfl (.cons rfl (.cons rfl (.cons rfl (.cons rfl .nil))))))
      exact hJ _ _ ⟨hA.sub (.cons rfl (.cons rfl (.cons rfl (.cons rfl (.cons (by first | rfl | exact congrArg (fun b => some (Value.bool b)) (by first | exact decide_eq_decide.2 (by omega) | exact or_bool (by omega) | exact and_bool (by omega) | (simp; done) | (simp [hg18]; done) | (have h80 := hg18; (try simp at h80); simp [h80]; done) | exact (decide_eq_false (fun h9 => hg18 h9.1)).symm)) .nil))))), hM⟩
set_option maxRecDepth 100000 in
set_option maxHeartbeats 400000 in
theorem rbyratio (av : Option Addr) (V : List Int) (cv : Nat) (au : Option Addr) (U : List Int) (cu : Nat) (hbv : bdI V) (hbu : bdI U) (w : World) (hv : IntSl w (.slice av V.length cv) V) (hu : IntSl w (.slice au U.length cu) U) :
    Calls Try.prog 10 #[.slice av V.length cv, .slice au U.length cu] w fun e w' => ∃ a c, e = .returned (.tuple #[.slice a (qL V U).length c, .int .i64 (qE V U)]) ∧ IntSl w' (.slice a (qL V U).length c) (qL V U) ∧ Below w.heap.size w w' := by
  have hbs := Below.refl (B := w.heap.size) w
  have hlV := hv.lenB
  have hlU := hu.lenB
  have hM := Mem.start w
  refine Calls.of_ends (vs := [.slice av V.length cv, .slice au U.length cu]) Try.func10 rfl Try.ntmps10 rfl ?_
  intro a hA
  replace hA : St 71 [(0, _), (1, _)] a := hA
  refine Ends.seq ?_
  refine Ends.region ?_
  refine S.val hA (R.assign rfl) rfl ?_; clear hA a; intro a hA
  refine S.val hA (R.assign rfl) rfl ?_; clear hA a; intro a hA
  refine S.done ?_
  replace hA : St 71 [(0, _), (1, _)] a := hA.sub ((.cons rfl (.cons rfl .nil)))
  refine Ends.seq ?_
  refine Ends.seq ?_
  refine Ends.cut (fun (a : Act) (wv : World) => St 71 [(0, .slice av V.length cv), (1, .slice au U.length cu), (20, .bool (decide ((((V.length : Int)) ≠ ((U.length : Int)) ∨ 64 < ((V.length : Int))))))] a ∧ Mem w nof [] wv) ?_ (fun k2 hJ => ?_)
  · clear hA hM a; rintro a w1 ⟨hA, hM⟩
    refine Ends.ite hA rfl (fun hc1 => ?_) (fun hc1 => ?_)
    ·
      refine Ends.seq ?_
      refine Ends.region ?_
      refine S.val hA (R.assign rfl) rfl ?_; clear hA a; intro a hA
      refine S.val hA (R.assign rfl) rfl ?_; clear hA a; intro a hA
      refine S.done ?_
      replace hA : St 71 [(0, _), (1, _), (4, _), (5, _)] a := hA.sub ((.cons rfl (.cons rfl (.cons rfl (.cons rfl .nil)))))
      refine Ends.ret2 Try.func10 Try.results10 hA rfl rfl ?_
      have hnb : badQ V U := .inl (.inl (by omega))
      rw [show qL V U = [] from if_pos hnb, show qE V U = 1 from if_pos hnb]
      exact ⟨none, 0, rfl, IntSl.nil _, Mem.trans0 hbs hM.nilL⟩
    ·
      have hvw : V.length = U.length := by omega
      refine Ends.skip ?_
      refine Ends.seq ?_
      refine Ends.seq ?_
      refine Ends.region ?_
      refine S.val hA (R.assign rfl) rfl ?_; clear hA a; intro a hA
      refine S.done ?_
      replace hA : St 71 [(0, _), (1, _), (6, _)] a := hA.sub ((.cons rfl (.cons rfl (.cons rfl .nil))))
      refine Ends.block ?_
      refine Ends.loop (σ := Nat) (fun k (a : Act) (wv : World) => St 71 [(0, .slice av V.length cv), (1, .slice au U.length cu), (6, .int .i64 ((k : Int)))] a ∧ Mem w nof [] wv ∧ (k ≤ V.length) ∧ (∀ j, j < k → 0 ≤ V.getD j 0) ∧ (∀ j, j < k → 0 ≤ U.getD j 0)) (fun k => V.length - k) 0 ⟨hA.sub ((.cons rfl (.cons rfl (.cons rfl .nil)))), hM, (Nat.zero_le _), (fun j hj => absurd hj (Nat.not_lt_zero _)), (fun j hj => absurd hj (Nat.not_lt_zero _))⟩ ?_
      clear hA hM a
      rintro k a w2 ⟨hA, hM, hk, hk2, hk3⟩ hNext
      refine Ends.seq ?_
      refine Ends.seq ?_
      refine Ends.region ?_
      refine S.val hA (R.move rfl) rfl ?_; clear hA a; intro a hA
      refine S.val hA (R.move rfl) rfl ?_; clear hA a; intro a hA
      refine S.val hA (R.lenS Try.underlying22 rfl rfl) rfl ?_; clear hA a; intro a hA
      refine S.val hA (R.lss rfl rfl) rfl ?_; clear hA a; intro a hA
      refine S.done ?_
      replace hA : St 71 [(0, _), (1, _), (6, _), (24, _)] a := hA.sub ((.cons rfl (.cons rfl (.cons rfl (.cons rfl .nil)))))
      refine Ends.ite hA rfl (fun hc2 => ?_) (fun hc2 => ?_)
      ·
        refine Ends.skip ?_
        refine Ends.seq ?_
        refine Ends.block ?_
        refine Ends.seq ?_
        refine Ends.cut (fun (a : Act) (wv : World) => St 71 [(0, .slice av V.length cv), (1, .slice au U.length cu), (6, .int .i64 ((k : Int))), (38, .bool (decide (((V.getD k 0) < 0 ∨ (U.getD k 0) < 0))))] a ∧ Mem w nof [] wv) ?_ (fun k2 hJ => ?_)
        · clear hA hM a; rintro a w3 ⟨hA, hM⟩
          refine Ends.ite hA rfl (fun hc3 => ?_) (fun hc3 => ?_)
          ·
            refine Ends.seq ?_
            refine Ends.region ?_
            refine S.val hA (R.assign rfl) rfl ?_; clear hA a; intro a hA
            refine S.val hA (R.assign rfl) rfl ?_; clear hA a; intro a hA
            refine S.done ?_
            replace hA : St 71 [(0, _), (1, _), (4, _), (5, _), (6, _)] a := hA.sub ((.cons rfl (.cons rfl (.cons rfl (.cons rfl (.cons rfl .nil))))))
            refine Ends.ret2 Try.func10 Try.results10 hA rfl rfl ?_
            have hnb : badQ V U := by
              rcases hc3 with g | g
              · exact .inl (.inr (hasNeg_at (k := k) (by omega) (by omega)))
              · exact .inr (hasNeg_at (k := k) (by omega) (by omega))
            rw [show qL V U = [] from if_pos hnb, show qE V U = 1 from if_pos hnb]
            exact ⟨none, 0, rfl, IntSl.nil _, Mem.trans0 hbs hM.nilL⟩
          ·
            refine Ends.skip ?_
            refine Ends.inBlock ?_
            refine Ends.region ?_
            refine S.val hA (R.move rfl) rfl ?_; clear hA a; intro a hA
            refine S.val hA (R.addI rfl rfl (r := ((k : Int)) + 1) rfl (by omega)) rfl ?_; clear hA a; intro a hA
            refine S.val hA (R.assign rfl) rfl ?_; clear hA a; intro a hA
            refine S.done ?_
            replace hA : St 71 [(0, _), (1, _), (6, _)] a := hA.sub ((.cons rfl (.cons rfl (.cons rfl .nil))))
            exact hNext ((k + 1)) _ _ ((by show V.length - (k + 1) < V.length - k; omega)) ⟨hA.sub ((.cons rfl (.cons rfl (.cons rfl .nil)))), hM, (by omega), (fun j hj => (Nat.lt_or_ge j k).elim (fun g => hk2 j g) (fun g => by have e : j = k := (by omega); rw [e]; omega)), (fun j hj => (Nat.lt_or_ge j k).elim (fun g => hk3 j g) (fun g => by have e : j = k := (by omega); rw [e]; omega))⟩
        ·
          refine Ends.region ?_
          refine S.val hA (R.move rfl) rfl ?_; clear hA a; intro a hA
          refine S.val hA (R.move rfl) rfl ?_; clear hA a; intro a hA
          refine S.val hA (R.idxI hv (j := k) sl22 rfl rfl (by omega) (rfl)) rfl ?_; clear hA a; intro a hA
          refine S.val hA (R.loadI (hv.mem hM) sz3 rfl (by omega)) rfl ?_; clear hA a; intro a hA
          refine S.val hA (R.lss rfl rfl) rfl ?_; clear hA a; intro a hA
          refine S.val hA (R.move rfl) rfl ?_; clear hA a; intro a hA
          refine hA.split (d := 32) rfl ?_ ?_
          · clear hA; intro hg4 hA
            refine S.no (dj := 32) hA (by kernel_rfl) rfl rfl rfl ?_; clear hA a; intro a hA
            refine S.no (dj := 32) hA (by kernel_rfl) rfl rfl rfl ?_; clear hA a; intro a hA
            refine S.no (dj := 32) hA (by kernel_rfl) rfl rfl rfl ?_; clear hA a; intro a hA
            refine S.no (dj := 32) hA (by kernel_rfl) rfl rfl rfl ?_; clear hA a; intro a hA
            refine S.no (dj := 32) hA (by kernel_rfl) rfl rfl rfl ?_; clear hA a; intro a hA
            refine S.val hA (R.pickT rfl rfl) rfl ?_; clear hA a; intro a hA
            refine S.done ?_
            replace hA : St 71 [(0, _), (1, _), (6, _), (38, _)] a := hA.sub ((.cons rfl (.cons rfl (.cons rfl (.cons rfl .nil)))))
            exact hJ _ _ ⟨hA.sub (.cons rfl (.cons rfl (.cons rfl (.cons (by first | rfl | exact congrArg (fun b => some (Value.bool b)) (by first | exact decide_eq_decide.2 (by omega) | exact or_bool (by omega) | exact and_bool (by omega) | (simp; done) | (simp [hg4]; done) | (have h80 := hg4; (try simp at h80); simp [h80]; done) | exact (decide_eq_false (fun h9 => hg4 h9.1)).symm)) .nil)))), hM⟩
          · clear hA; intro hg4 hA
            refine S.valg (dj := 32) hA (by kernel_rfl) rfl (R.move rfl) rfl ?_; clear hA a; intro a hA
            refine S.valg (dj := 32) hA (by kernel_rfl) rfl (R.move rfl) rfl ?_; clear hA a; intro a hA
            refine S.valg (dj := 32) hA (by kernel_rfl) rfl (R.idxI hu (j := k) sl22 rfl rfl (by omega) (rfl)) rfl ?_; clear hA a; intro a hA
            refine S.valg (dj := 32) hA (by kernel_rfl) rfl (R.loadI (hu.mem hM) sz3 rfl (by omega)) rfl ?_; clear hA a; intro a hA
            refine S.valg (dj := 32) hA (by kernel_rfl) rfl (R.lss rfl rfl) rfl ?_; clear hA a; intro a hA
            refine S.val hA (R.pickF rfl rfl) rfl ?_; clear hA a; intro a hA
            refine S.done ?_
            replace hA : St 71 [(0, _), (1, _), (6, _), (38, _)] a := hA.sub ((.cons rfl (.cons rfl (.cons rfl (.cons rfl .nil)))))
            exact hJ _ _ ⟨hA.sub (.cons rfl (.cons rfl (.cons rfl (.cons (by first | rfl | exact congrArg (fun b => some (Value.bool b)) (by first | exact decide_eq_decide.2 (by omega) | exact or_bool (by omega) | exact and_bool (by omega) | (simp; done) | (simp [hg4]; done) | (have h80 := hg4; (try simp at h80); simp [h80]; done) | exact (decide_eq_false (fun h9 => hg4 h9.1)).symm)) .nil)))), hM⟩
      ·
        obtain rfl : k = V.length := by omega
        have hnv0 := hasNeg_no hk2
        have hnuf := hasNeg_no (X := U) (fun j hj => hk3 j (by omega))
        have hnu0 := getD_nn (nn_of hnuf)
        have hnb : ¬ badQ V U := fun h9 => by
          rcases h9 with ((g | g) | g) | g
          · omega
          · omega
          · rw [hnv0] at g; cases g
          · rw [hnuf] at g; cases g
        refine Ends.exit rfl ?_
        replace hA : St 71 [(0, _), (1, _)] a := hA.sub ((.cons rfl (.cons rfl .nil)))
        refine Ends.seq ?_
        refine Ends.region ?_
        refine S.val hA (R.move rfl) rfl ?_; clear hA a; intro a hA
        refine S.val hA (R.lenS Try.underlying22 rfl rfl) rfl ?_; clear hA a; intro a hA
        refine S.make hA hM Try.underlying22 info3 rfl rfl rfl (by omega) (by show (8 : Int) * _ ≤ _; omega) (by omega) rfl ?_; clear hA hM a; intro b5 w4 hb6 hM a hA
        replace hM : Mem _ _ [pt b5 (madeCells #[.int .i64 0] (V.length * 1)) 3] _ := hM
        rw [Nat.mul_one, made_ints] at hM
        replace hM : Mem _ _ [pt b5 ((ints (List.replicate V.length 0))) 3] _ := hM
        refine S.val hA (R.assign rfl) rfl ?_; clear hA a; intro a hA
        refine S.done ?_
        replace hA : St 71 [(0, _), (1, _), (7, _)] a := hA.sub ((.cons rfl (.cons rfl (.cons rfl .nil))))
        refine Ends.seq ?_
        refine Ends.seq ?_
        refine Ends.region ?_
        refine S.val hA (R.assign rfl) rfl ?_; clear hA a; intro a hA
        refine S.done ?_
        replace hA : St 71 [(0, _), (1, _), (7, _), (8, _)] a := hA.sub ((.cons rfl (.cons rfl (.cons rfl (.cons rfl .nil)))))
        refine Ends.block ?_
        refine Ends.loop (σ := Nat × List Int) (fun (m, out) (a : Act) (wv : World) => St 71 [(0, .slice av V.length cv), (1, .slice au U.length cu), (7, .slice (some ⟨b5, 0, none⟩) V.length V.length), (8, .int .i64 ((m : Int)))] a ∧ Mem w nof [pt b5 ((ints out)) 3] wv ∧ (m ≤ V.length) ∧ (laid V.length (byQ V U) out m)) (fun (m, out) => V.length - m) ((0, List.replicate V.length 0)) ⟨hA.sub ((.cons rfl (.cons rfl (.cons rfl (.cons rfl .nil))))), hM, (Nat.zero_le _), (laid_zero (byQ_perm V U))⟩ ?_
        clear hA hM a
        rintro ⟨m, out⟩ a w5 ⟨hA, hM, hm, hld⟩ hNext1
        refine Ends.seq ?_
        refine Ends.seq ?_
        refine Ends.region ?_
        refine S.val hA (R.move rfl) rfl ?_; clear hA a; intro a hA
        refine S.val hA (R.move rfl) rfl ?_; clear hA a; intro a hA
        refine S.val hA (R.lenS Try.underlying22 rfl rfl) rfl ?_; clear hA a; intro a hA
        refine S.val hA (R.lss rfl rfl) rfl ?_; clear hA a; intro a hA
        refine S.done ?_
        replace hA : St 71 [(0, _), (1, _), (7, _), (8, _), (45, _)] a := hA.sub ((.cons rfl (.cons rfl (.cons rfl (.cons rfl (.cons rfl .nil))))))
        refine Ends.ite hA rfl (fun hc7 => ?_) (fun hc7 => ?_)
        ·
          have hol := hld.1
          have hrl := rk_le (rb := (rbo (ltq V U))) V.length (m : Int)
          refine Ends.skip ?_
          refine Ends.seq ?_
          refine Ends.block ?_
          refine Ends.seq ?_
          refine Ends.region ?_
          refine S.val hA (R.assign rfl) rfl ?_; clear hA a; intro a hA
          refine S.done ?_
          replace hA : St 71 [(0, _), (1, _), (7, _), (8, _), (9, _)] a := hA.sub ((.cons rfl (.cons rfl (.cons rfl (.cons rfl (.cons rfl .nil))))))
          refine Ends.seq ?_
          refine Ends.seq ?_
          refine Ends.region ?_
          refine S.val hA (R.assign rfl) rfl ?_; clear hA a; intro a hA
          refine S.done ?_
          replace hA : St 71 [(0, _), (1, _), (7, _), (8, _), (9, _), (10, _)] a := hA.sub ((.cons rfl (.cons rfl (.cons rfl (.cons rfl (.cons rfl (.cons rfl .nil)))))))
          refine Ends.block ?_
          refine Ends.loop (σ := Nat) (fun b (a : Act) (wv : World) => St 71 [(0, .slice av V.length cv), (1, .slice au U.length cu), (7, .slice (some ⟨b5, 0, none⟩) V.length V.length), (8, .int .i64 ((m : Int))), (9, .int .i64 (((rk (rbo (ltq V U)) b (m : Int) : Nat) : Int))), (10, .int .i64 ((b : Int)))] a ∧ Mem w nof [pt b5 ((ints out)) 3] wv ∧ (b ≤ V.length)) (fun b => V.length - b) 0 ⟨hA.sub ((.cons rfl (.cons rfl (.cons rfl (.cons rfl (.cons rfl (.cons rfl .nil))))))), hM, (Nat.zero_le _)⟩ ?_
          clear hA hM a
          rintro b a w6 ⟨hA, hM, hb⟩ hNext2
          refine Ends.seq ?_
          refine Ends.seq ?_
          refine Ends.region ?_
          refine S.val hA (R.move rfl) rfl ?_; clear hA a; intro a hA
          refine S.val hA (R.move rfl) rfl ?_; clear hA a; intro a hA
          refine S.val hA (R.lenS Try.underlying22 rfl rfl) rfl ?_; clear hA a; intro a hA
          refine S.val hA (R.lss rfl rfl) rfl ?_; clear hA a; intro a hA
          refine S.done ?_
          replace hA : St 71 [(0, _), (1, _), (7, _), (8, _), (9, _), (10, _), (51, _)] a := hA.sub ((.cons rfl (.cons rfl (.cons rfl (.cons rfl (.cons rfl (.cons rfl (.cons rfl .nil))))))))
          refine Ends.ite hA rfl (fun hc8 => ?_) (fun hc8 => ?_)
          ·
            have hrb := rk_le (rb := (rbo (ltq V U))) b (m : Int)
            refine Ends.skip ?_
            refine Ends.seq ?_
            refine Ends.block ?_
            refine Ends.seq ?_
            refine Ends.cut (fun (a : Act) (wv : World) => St 71 [(0, .slice av V.length cv), (1, .slice au U.length cu), (7, .slice (some ⟨b5, 0, none⟩) V.length V.length), (8, .int .i64 ((m : Int))), (9, .int .i64 (((rk (rbo (ltq V U)) b (m : Int) : Nat) : Int))), (10, .int .i64 ((b : Int))), (63, .bool (decide ((((b : Int)) ≠ ((m : Int)) ∧ ((btr V U b m)) = true))))] a ∧ Mem w nof [pt b5 ((ints out)) 3] wv) ?_ (fun k2 hJ => ?_)
            · clear hA hM a; rintro a w7 ⟨hA, hM⟩
              refine Ends.ite hA rfl (fun hc9 => ?_) (fun hc9 => ?_)
              ·
                refine Ends.region ?_
                refine S.val hA (R.move rfl) rfl ?_; clear hA a; intro a hA
                refine S.val hA (R.addI rfl rfl (r := (((rk (rbo (ltq V U)) b (m : Int) : Nat) : Int)) + 1) rfl (by omega)) rfl ?_; clear hA a; intro a hA
                refine S.val hA (R.assign rfl) rfl ?_; clear hA a; intro a hA
                refine S.done ?_
                replace hA : St 71 [(0, _), (1, _), (7, _), (8, _), (9, _), (10, _)] a := hA.sub ((.cons rfl (.cons rfl (.cons rfl (.cons rfl (.cons rfl (.cons rfl .nil)))))))
                refine Ends.inBlock ?_
                refine Ends.region ?_
                refine S.val hA (R.move rfl) rfl ?_; clear hA a; intro a hA
                refine S.val hA (R.addI rfl rfl (r := ((b : Int)) + 1) rfl (by omega)) rfl ?_; clear hA a; intro a hA
                refine S.val hA (R.assign rfl) rfl ?_; clear hA a; intro a hA
                refine S.done ?_
                replace hA : St 71 [(0, _), (1, _), (7, _), (8, _), (9, _), (10, _)] a := hA.sub ((.cons rfl (.cons rfl (.cons rfl (.cons rfl (.cons rfl (.cons rfl .nil)))))))
                have hrk := rk_succ (rb := (rbo (ltq V U))) b (m : Int)
                have hcond : (rbo (ltq V U)) (b : Int) (m : Int) = true := by rw [rbq_eq]; exact hc9.2
                rw [hcond] at hrk
                rw [show ((rk (rbo (ltq V U)) b (m : Int) : Nat) : Int) + 1 = ((rk (rbo (ltq V U)) (b + 1) (m : Int) : Nat) : Int) by rw [hrk]; simp] at hA
                exact hNext2 ((b + 1)) _ _ ((by show V.length - (b + 1) < V.length - b; omega)) ⟨hA.sub ((.cons rfl (.cons rfl (.cons rfl (.cons rfl (.cons rfl (.cons rfl .nil))))))), hM, (by omega)⟩
              ·
                refine Ends.skip ?_
                refine Ends.inBlock ?_
                refine Ends.region ?_
                refine S.val hA (R.move rfl) rfl ?_; clear hA a; intro a hA
                refine S.val hA (R.addI rfl rfl (r := ((b : Int)) + 1) rfl (by omega)) rfl ?_; clear hA a; intro a hA
                refine S.val hA (R.assign rfl) rfl ?_; clear hA a; intro a hA
                refine S.done ?_
                replace hA : St 71 [(0, _), (1, _), (7, _), (8, _), (9, _), (10, _)] a := hA.sub ((.cons rfl (.cons rfl (.cons rfl (.cons rfl (.cons rfl (.cons rfl .nil)))))))
                have hrk := rk_succ (rb := (rbo (ltq V U))) b (m : Int)
                have hcond : (rbo (ltq V U)) (b : Int) (m : Int) = false := by
                  rw [rbq_eq]
                  by_cases hbm : b = m
                  · rw [hbm]; exact btr_irr V U m
                  · have := hc9; cases hq : btr V U b m with
                    | false => rfl
                    | true => exact absurd ⟨by omega, hq⟩ this
                rw [hcond] at hrk
                rw [show ((rk (rbo (ltq V U)) b (m : Int) : Nat) : Int) = ((rk (rbo (ltq V U)) (b + 1) (m : Int) : Nat) : Int) by rw [hrk]; simp] at hA
                exact hNext2 ((b + 1)) _ _ ((by show V.length - (b + 1) < V.length - b; omega)) ⟨hA.sub ((.cons rfl (.cons rfl (.cons rfl (.cons rfl (.cons rfl (.cons rfl .nil))))))), hM, (by omega)⟩
            ·
              refine Ends.region ?_
              refine S.val hA (R.move rfl) rfl ?_; clear hA a; intro a hA
              refine S.val hA (R.move rfl) rfl ?_; clear hA a; intro a hA
              refine S.val hA (R.neq rfl rfl) rfl ?_; clear hA a; intro a hA
              refine S.val hA (R.move rfl) rfl ?_; clear hA a; intro a hA
              refine hA.split (d := 57) rfl ?_ ?_
              · clear hA; intro hg10 hA
                refine S.valg (dj := 57) hA (by kernel_rfl) rfl (R.move rfl) rfl ?_; clear hA a; intro a hA
                refine S.valg (dj := 57) hA (by kernel_rfl) rfl (R.move rfl) rfl ?_; clear hA a; intro a hA
                refine S.valg (dj := 57) hA (by kernel_rfl) rfl (R.move rfl) rfl ?_; clear hA a; intro a hA
                refine S.valg (dj := 57) hA (by kernel_rfl) rfl (R.move rfl) rfl ?_; clear hA a; intro a hA
                refine S.callg (dj := 57) hA (by kernel_rfl) rfl (R.callF Try.func30 rfl rfl rfl) rfl (better09 av V cv au U cu b m (by omega) (by omega) hbv hbu _ (hv.mem hM) (hu.mem hM)) ?_; clear hA a
                rintro e w8 ⟨rfl, hb⟩
                replace hM := hM.callB hb; clear hb
                refine ⟨.bool ((btr V U b m)), rfl, fun a hA => ?_⟩
                refine S.val hA (R.pickT rfl rfl) rfl ?_; clear hA a; intro a hA
                refine S.done ?_
                replace hA : St 71 [(0, _), (1, _), (7, _), (8, _), (9, _), (10, _), (63, _)] a := hA.sub ((.cons rfl (.cons rfl (.cons rfl (.cons rfl (.cons rfl (.cons rfl (.cons rfl .nil))))))))
                exact hJ _ _ ⟨hA.sub (.cons rfl (.cons rfl (.cons rfl (.cons rfl (.cons rfl (.cons rfl (.cons (by first | rfl | exact congrArg (fun b => some (Value.bool b)) (by first | exact decide_eq_decide.2 (by omega) | exact or_bool (by omega) | exact and_bool (by omega) | (simp; done) | (simp [hg10]; done) | (have h80 := hg10; (try simp at h80); simp [h80]; done) | exact (decide_eq_false (fun h9 => hg10 h9.1)).symm)) .nil))))))), hM⟩
              · clear hA; intro hg10 hA
                refine S.no (dj := 57) hA (by kernel_rfl) rfl rfl rfl ?_; clear hA a; intro a hA
                refine S.no (dj := 57) hA (by kernel_rfl) rfl rfl rfl ?_; clear hA a; intro a hA
                refine S.no (dj := 57) hA (by kernel_rfl) rfl rfl rfl ?_; clear hA a; intro a hA
                refine S.no (dj := 57) hA (by kernel_rfl) rfl rfl rfl ?_; clear hA a; intro a hA
                refine S.no (dj := 57) hA (by kernel_rfl) rfl rfl rfl ?_; clear hA a; intro a hA
                refine S.val hA (R.pickF rfl rfl) rfl ?_; clear hA a; intro a hA
                refine S.done ?_
                replace hA : St 71 [(0, _), (1, _), (7, _), (8, _), (9, _), (10, _), (63, _)] a := hA.sub ((.cons rfl (.cons rfl (.cons rfl (.cons rfl (.cons rfl (.cons rfl (.cons rfl .nil))))))))
                exact hJ _ _ ⟨hA.sub (.cons rfl (.cons rfl (.cons rfl (.cons rfl (.cons rfl (.cons rfl (.cons (by first | rfl | exact congrArg (fun b => some (Value.bool b)) (by first | exact decide_eq_decide.2 (by omega) | exact or_bool (by omega) | exact and_bool (by omega) | (simp; done) | (simp [hg10]; done) | (have h80 := hg10; (try simp at h80); simp [h80]; done) | exact (decide_eq_false (fun h9 => hg10 h9.1)).symm)) .nil))))))), hM⟩
          ·
            obtain rfl : b = V.length := by omega
            have hlt : rk (rbo (ltq V U)) V.length (m : Int) < V.length := laid_lt (byQ_perm V U) (byQ_pw V U hnu0) (rbq_irr V U) (fun a b _ _ => rbq_asym V U a b) (by omega)
            refine Ends.exit rfl ?_
            replace hA : St 71 [(0, _), (1, _), (7, _), (8, _), (9, _)] a := hA.sub ((.cons rfl (.cons rfl (.cons rfl (.cons rfl (.cons rfl .nil))))))
            refine Ends.region ?_
            refine S.val hA (R.move rfl) rfl ?_; clear hA a; intro a hA
            refine S.val hA (R.move rfl) rfl ?_; clear hA a; intro a hA
            refine S.val hA (R.move rfl) rfl ?_; clear hA a; intro a hA
            refine S.val hA (R.indexAddr (q := (rk (rbo (ltq V U)) V.length (m : Int))) sl22 rfl rfl (by omega) (by omega)) rfl ?_; clear hA a; intro a hA
            refine S.store (k := 0) hA hM sz3 rfl rfl rfl rfl (ints_getD out _ (by omega)) ?_; clear hM
            intro w9 hM
            rw [ints_set] at hM
            replace hM : Mem _ _ [pt b5 ((ints (out.set ((rk (rbo (ltq V U)) V.length (m : Int))) ((m : Int))))) 3] _ := hM
            refine S.done ?_
            replace hA : St 71 [(0, _), (1, _), (7, _), (8, _)] a := hA.sub ((.cons rfl (.cons rfl (.cons rfl (.cons rfl .nil)))))
            refine Ends.inBlock ?_
            refine Ends.region ?_
            refine S.val hA (R.move rfl) rfl ?_; clear hA a; intro a hA
            refine S.val hA (R.addI rfl rfl (r := ((m : Int)) + 1) rfl (by omega)) rfl ?_; clear hA a; intro a hA
            refine S.val hA (R.assign rfl) rfl ?_; clear hA a; intro a hA
            refine S.done ?_
            replace hA : St 71 [(0, _), (1, _), (7, _), (8, _)] a := hA.sub ((.cons rfl (.cons rfl (.cons rfl (.cons rfl .nil)))))
            exact hNext1 ((m + 1, (out.set ((rk (rbo (ltq V U)) V.length (m : Int))) ((m : Int))))) _ _ ((by show V.length - (m + 1) < V.length - m; omega)) ⟨hA.sub ((.cons rfl (.cons rfl (.cons rfl (.cons rfl .nil))))), hM, (by omega), (laid_succ (byQ_perm V U) (byQ_pw V U hnu0) (rbq_irr V U) (fun a b _ _ => rbq_asym V U a b) (by omega) hld)⟩
        ·
          obtain rfl : m = V.length := by omega
          refine Ends.exit rfl ?_
          replace hA : St 71 [(7, _)] a := hA.sub ((.cons rfl .nil))
          refine Ends.seq ?_
          refine Ends.region ?_
          refine S.val hA (R.move rfl) rfl ?_; clear hA a; intro a hA
          refine S.val hA (R.assign rfl) rfl ?_; clear hA a; intro a hA
          refine S.val hA (R.assign rfl) rfl ?_; clear hA a; intro a hA
          refine S.done ?_
          replace hA : St 71 [(4, _), (5, _)] a := hA.sub ((.cons rfl (.cons rfl .nil)))
          refine Ends.ret2 Try.func10 Try.results10 hA rfl rfl ?_
          have hol := hld.1
          have hr := hM.ptRs (k := 0) rfl (by omega)
          have he := laid_end (byQ_perm V U) hld
          rw [he] at hr hol
          rw [hol] at hr
          rw [show qL V U = byQ V U from if_neg hnb, show qE V U = 0 from if_neg hnb]
          exact ⟨_, _, by rw [hol], by rw [hol]; exact hr, Mem.trans0 hbs hM.nilL⟩
  ·
    refine Ends.region ?_
    refine S.val hA (R.move rfl) rfl ?_; clear hA a; intro a hA
    refine S.val hA (R.lenS Try.underlying22 rfl rfl) rfl ?_; clear hA a; intro a hA
    refine S.val hA (R.move rfl) rfl ?_; clear hA a; intro a hA
    refine S.val hA (R.lenS Try.underlying22 rfl rfl) rfl ?_; clear hA a; intro a hA
    refine S.val hA (R.neq rfl rfl) rfl ?_; clear hA a; intro a hA
    refine S.val hA (R.move rfl) rfl ?_; clear hA a; intro a hA
    refine hA.split (d := 16) rfl ?_ ?_
    · clear hA; intro hg11 hA
      refine S.no (dj := 16) hA (by kernel_rfl) rfl rfl rfl ?_; clear hA a; intro a hA
      refine S.no (dj := 16) hA (by kernel_rfl) rfl rfl rfl ?_; clear hA a; intro a hA
      refine S.no (dj := 16) hA (by kernel_rfl) rfl rfl rfl ?_; clear hA a; intro a hA
      refine S.val hA (R.pickT rfl rfl) rfl ?_; clear hA a; intro a hA
      refine S.done ?_
      replace hA : St 71 [(0, _), (1, _), (20, _)] a := hA.sub ((.cons rfl (.cons rfl (.cons rfl .nil))))
      exact hJ _ _ ⟨hA.sub (.cons rfl (.cons rfl (.cons (by first | rfl | exact congrArg (fun b => some (Value.bool b)) (by first | exact decide_eq_decide.2 (by omega) | exact or_bool (by omega) | exact and_bool (by omega) | (simp; done) | (simp [hg11]; done) | (have h80 := hg11; (try simp at h80); simp [h80]; done) | exact (decide_eq_false (fun h9 => hg11 h9.1)).symm)) .nil))), hM⟩
    · clear hA; intro hg11 hA
      refine S.valg (dj := 16) hA (by kernel_rfl) rfl (R.move rfl) rfl ?_; clear hA a; intro a hA
      refine S.valg (dj := 16) hA (by kernel_rfl) rfl (R.lenS Try.underlying22 rfl rfl) rfl ?_; clear hA a; intro a hA
      refine S.valg (dj := 16) hA (by kernel_rfl) rfl (R.gtr rfl rfl) rfl ?_; clear hA a; intro a hA
      refine S.val hA (R.pickF rfl rfl) rfl ?_; clear hA a; intro a hA
      refine S.done ?_
      replace hA : St 71 [(0, _), (1, _), (20, _)] a := hA.sub ((.cons rfl (.cons rfl (.cons rfl .nil))))
      exact hJ _ _ ⟨hA.sub (.cons rfl (.cons rfl (.cons (by first | rfl | exact congrArg (fun b => some (Value.bool b)) (by first | exact decide_eq_decide.2 (by omega) | exact or_bool (by omega) | exact and_bool (by omega) | (simp; done) | (simp [hg11]; done) | (have h80 := hg11; (try simp at h80); simp [h80]; done) | exact (decide_eq_false (fun h9 => hg11 h9.1)).symm)) .nil))), hM⟩
set_option maxRecDepth 100000 in
set_option maxHeartbeats 400000 in
theorem is09 (ax : Option Addr) (X : List Int) (cx : Nat) (hX : X.length ≤ 1000) (w : World) (hx : IntSl w (.slice ax X.length cx) X) :
    Calls Try.prog 18 #[.slice ax X.length cx] w fun e w' => e = .returned (.bool (okP X)) ∧ Below w.heap.size w w' := by
  have hbs := Below.refl (B := w.heap.size) w
  have hM := Mem.start w
  refine Calls.of_ends (vs := [.slice ax X.length cx]) Try.func18 rfl Try.ntmps18 rfl ?_
  intro a hA
  replace hA : St 33 [(0, _)] a := hA
  refine Ends.seq ?_
  refine Ends.region ?_
  refine S.val hA (R.assign rfl) rfl ?_; clear hA a; intro a hA
  refine S.done ?_
  replace hA : St 33 [(0, _)] a := hA.sub ((.cons rfl .nil))
  refine Ends.seq ?_
  refine Ends.region ?_
  refine S.val hA (R.move rfl) rfl ?_; clear hA a; intro a hA
  refine S.val hA (R.lenS Try.underlying22 rfl rfl) rfl ?_; clear hA a; intro a hA
  refine S.make hA hM Try.underlying45 info4 rfl rfl rfl (by omega) (by show (1 : Int) * _ ≤ _; omega) (by omega) rfl ?_; clear hA hM a; intro b1 w1 hb2 hM a hA
  replace hM : Mem _ _ [pt b1 (madeCells #[.bool false] (X.length * 1)) 4] _ := hM
  rw [Nat.mul_one, made_boo] at hM
  replace hM : Mem _ _ [pt b1 ((boo (List.replicate X.length false))) 4] _ := hM
  refine S.val hA (R.assign rfl) rfl ?_; clear hA a; intro a hA
  refine S.done ?_
  replace hA : St 33 [(0, _), (3, _)] a := hA.sub ((.cons rfl (.cons rfl .nil)))
  refine Ends.seq ?_
  refine Ends.seq ?_
  refine Ends.region ?_
  refine S.val hA (R.move rfl) rfl ?_; clear hA a; intro a hA
  refine S.val hA (R.lenS Try.underlying22 rfl rfl) rfl ?_; clear hA a; intro a hA
  refine S.val hA (R.move rfl) rfl ?_; clear hA a; intro a hA
  refine S.done ?_
  replace hA : St 33 [(0, _), (3, _), (9, _), (10, _), (11, _)] a := hA.sub ((.cons rfl (.cons rfl (.cons rfl (.cons rfl (.cons rfl .nil))))))
  refine Ends.block ?_
  refine Ends.loop (σ := Nat × List Bool) (fun (k, sn) (a : Act) (wv : World) => St 33 [(0, .slice ax X.length cx), (3, .slice (some ⟨b1, 0, none⟩) X.length X.length), (9, .slice ax X.length cx), (10, .int .i64 ((X.length : Int))), (11, .int .i64 ((k : Int)))] a ∧ Mem w nof [pt b1 ((boo sn)) 4] wv ∧ (k ≤ X.length) ∧ (seenOK X k sn)) (fun (k, sn) => X.length - k) ((0, List.replicate X.length false)) ⟨hA.sub ((.cons rfl (.cons rfl (.cons rfl (.cons rfl (.cons rfl .nil)))))), hM, (Nat.zero_le _), (seen_zero X)⟩ ?_
  clear hA hM a
  rintro ⟨k, sn⟩ a w2 ⟨hA, hM, hk, hso⟩ hNext
  refine Ends.seq ?_
  refine Ends.region ?_
  refine S.val hA (R.lss rfl rfl) rfl ?_; clear hA a; intro a hA
  refine S.done ?_
  replace hA : St 33 [(0, _), (3, _), (9, _), (10, _), (11, _), (12, _)] a := hA.sub ((.cons rfl (.cons rfl (.cons rfl (.cons rfl (.cons rfl (.cons rfl .nil)))))))
  refine Ends.seq ?_
  refine Ends.ite hA rfl (fun hc3 => ?_) (fun hc3 => ?_)
  ·
    have hsl := hso.1
    refine Ends.skip ?_
    refine Ends.seq ?_
    refine Ends.block ?_
    refine Ends.seq ?_
    refine Ends.region ?_
    refine S.val hA (R.idxI hx (j := k) sl22 rfl rfl (by omega) (rfl)) rfl ?_; clear hA a; intro a hA
    refine S.val hA (R.loadI (hx.mem hM) sz3 rfl (by omega)) rfl ?_; clear hA a; intro a hA
    refine S.val hA (R.assign rfl) rfl ?_; clear hA a; intro a hA
    refine S.done ?_
    replace hA : St 33 [(0, _), (3, _), (5, _), (9, _), (10, _), (11, _)] a := hA.sub ((.cons rfl (.cons rfl (.cons rfl (.cons rfl (.cons rfl (.cons rfl .nil)))))))
    refine Ends.seq ?_
    refine Ends.seq ?_
    refine Ends.cut (fun (a : Act) (wv : World) => St 33 [(0, .slice ax X.length cx), (3, .slice (some ⟨b1, 0, none⟩) X.length X.length), (5, .int .i64 (X.getD k 0)), (9, .slice ax X.length cx), (10, .int .i64 ((X.length : Int))), (11, .int .i64 ((k : Int))), (28, .bool (decide ((((X.getD k 0) < 0 ∨ ((X.length : Int)) ≤ (X.getD k 0)) ∨ ((sn.getD ((X.getD k 0).toNat) false)) = true))))] a ∧ Mem w nof [pt b1 ((boo sn)) 4] wv) ?_ (fun k2 hJ => ?_)
    · clear hA hM a; rintro a w3 ⟨hA, hM⟩
      refine Ends.ite hA rfl (fun hc4 => ?_) (fun hc4 => ?_)
      ·
        refine Ends.seq ?_
        refine Ends.region ?_
        refine S.val hA (R.assign rfl) rfl ?_; clear hA a; intro a hA
        refine S.done ?_
        replace hA : St 33 [(0, _), (2, _), (3, _), (5, _), (9, _), (10, _), (11, _)] a := hA.sub ((.cons rfl (.cons rfl (.cons rfl (.cons rfl (.cons rfl (.cons rfl (.cons rfl .nil))))))))
        refine Ends.ret1 Try.func18 Try.results18 hA rfl ?_
        exact ⟨by rw [seen_bad hso (by omega) hc4], Mem.trans0 hbs hM.nilL⟩
      ·
        refine Ends.skip ?_
        refine Ends.region ?_
        refine S.val hA (R.move rfl) rfl ?_; clear hA a; intro a hA
        refine S.val hA (R.move rfl) rfl ?_; clear hA a; intro a hA
        refine S.val hA (R.indexAddr (q := (X.getD k 0).toNat) sl45 rfl rfl (by omega) (by omega)) rfl ?_; clear hA a; intro a hA
        refine S.store (k := 0) hA hM sz4 rfl rfl rfl rfl (boo_get _ _ (by omega)) ?_; clear hM
        intro w4 hM
        rw [boo_set] at hM
        replace hM : Mem _ _ [pt b1 ((boo (sn.set ((X.getD k 0).toNat) true))) 4] _ := hM
        refine S.done ?_
        replace hA : St 33 [(0, _), (3, _), (9, _), (10, _), (11, _)] a := hA.sub ((.cons rfl (.cons rfl (.cons rfl (.cons rfl (.cons rfl .nil))))))
        refine Ends.inBlock ?_
        refine Ends.region ?_
        refine S.val hA (R.addI rfl rfl (r := ((k : Int)) + 1) rfl (by omega)) rfl ?_; clear hA a; intro a hA
        refine S.val hA (R.move rfl) rfl ?_; clear hA a; intro a hA
        refine S.done ?_
        replace hA : St 33 [(0, _), (3, _), (9, _), (10, _), (11, _)] a := hA.sub ((.cons rfl (.cons rfl (.cons rfl (.cons rfl (.cons rfl .nil))))))
        exact hNext ((k + 1, (sn.set ((X.getD k 0).toNat) true))) _ _ ((by show X.length - (k + 1) < X.length - k; omega)) ⟨hA.sub ((.cons rfl (.cons rfl (.cons rfl (.cons rfl (.cons rfl .nil)))))), hM, (by omega), (seen_succ hso (by omega) (by omega) (by cases hq : sn.getD (X.getD k 0).toNat false with | false => rfl | true => exact absurd (.inr hq) hc4))⟩
    ·
      refine Ends.region ?_
      refine S.val hA (R.move rfl) rfl ?_; clear hA a; intro a hA
      refine S.val hA (R.lss rfl rfl) rfl ?_; clear hA a; intro a hA
      refine S.val hA (R.move rfl) rfl ?_; clear hA a; intro a hA
      refine hA.split (d := 17) rfl ?_ ?_
      · clear hA; intro hg5 hA
        refine S.no (dj := 17) hA (by kernel_rfl) rfl rfl rfl ?_; clear hA a; intro a hA
        refine S.no (dj := 17) hA (by kernel_rfl) rfl rfl rfl ?_; clear hA a; intro a hA
        refine S.no (dj := 17) hA (by kernel_rfl) rfl rfl rfl ?_; clear hA a; intro a hA
        refine S.no (dj := 17) hA (by kernel_rfl) rfl rfl rfl ?_; clear hA a; intro a hA
        refine S.val hA (R.pickT rfl rfl) rfl ?_; clear hA a; intro a hA
        refine S.val hA (R.move rfl) rfl ?_; clear hA a; intro a hA
        refine S.no (dj := 23) hA (by kernel_rfl) rfl rfl rfl ?_; clear hA a; intro a hA
        refine S.no (dj := 23) hA (by kernel_rfl) rfl rfl rfl ?_; clear hA a; intro a hA
        refine S.no (dj := 23) hA (by kernel_rfl) rfl rfl rfl ?_; clear hA a; intro a hA
        refine S.no (dj := 23) hA (by kernel_rfl) rfl rfl rfl ?_; clear hA a; intro a hA
        refine S.val hA (R.pickT rfl rfl) rfl ?_; clear hA a; intro a hA
        refine S.done ?_
        replace hA : St 33 [(0, _), (3, _), (5, _), (9, _), (10, _), (11, _), (28, _)] a := hA.sub ((.cons rfl (.cons rfl (.cons rfl (.cons rfl (.cons rfl (.cons rfl (.cons rfl .nil))))))))
        exact hJ _ _ ⟨hA.sub (.cons rfl (.cons rfl (.cons rfl (.cons rfl (.cons rfl (.cons rfl (.cons (by first | rfl | exact congrArg (fun b => some (Value.bool b)) (by first | exact decide_eq_decide.2 (by omega) | exact or_bool (by omega) | exact and_bool (by omega) | (simp; done) | (simp [hg5]; done) | (have h80 := hg5; (try simp at h80); simp [h80]; done) | exact (decide_eq_false (fun h9 => hg5 h9.1)).symm)) .nil))))))), hM⟩
      · clear hA; intro hg5 hA
        refine S.valg (dj := 17) hA (by kernel_rfl) rfl (R.move rfl) rfl ?_; clear hA a; intro a hA
        refine S.valg (dj := 17) hA (by kernel_rfl) rfl (R.move rfl) rfl ?_; clear hA a; intro a hA
        refine S.valg (dj := 17) hA (by kernel_rfl) rfl (R.lenS Try.underlying22 rfl rfl) rfl ?_; clear hA a; intro a hA
        refine S.valg (dj := 17) hA (by kernel_rfl) rfl (R.geq rfl rfl) rfl ?_; clear hA a; intro a hA
        refine S.val hA (R.pickF rfl rfl) rfl ?_; clear hA a; intro a hA
        refine S.val hA (R.move rfl) rfl ?_; clear hA a; intro a hA
        refine hA.split (d := 23) rfl ?_ ?_
        · clear hA; intro hg6 hA
          refine S.no (dj := 23) hA (by kernel_rfl) rfl rfl rfl ?_; clear hA a; intro a hA
          refine S.no (dj := 23) hA (by kernel_rfl) rfl rfl rfl ?_; clear hA a; intro a hA
          refine S.no (dj := 23) hA (by kernel_rfl) rfl rfl rfl ?_; clear hA a; intro a hA
          refine S.no (dj := 23) hA (by kernel_rfl) rfl rfl rfl ?_; clear hA a; intro a hA
          refine S.val hA (R.pickT rfl rfl) rfl ?_; clear hA a; intro a hA
          refine S.done ?_
          replace hA : St 33 [(0, _), (3, _), (5, _), (9, _), (10, _), (11, _), (28, _)] a := hA.sub ((.cons rfl (.cons rfl (.cons rfl (.cons rfl (.cons rfl (.cons rfl (.cons rfl .nil))))))))
          exact hJ _ _ ⟨hA.sub (.cons rfl (.cons rfl (.cons rfl (.cons rfl (.cons rfl (.cons rfl (.cons (by first | rfl | exact congrArg (fun b => some (Value.bool b)) (by first | exact decide_eq_decide.2 (by omega) | exact or_bool (by omega) | exact and_bool (by omega) | (simp; done) | (simp [hg5, hg6]; done) | (have h80 := hg5; (try simp at h80); have h81 := hg6; (try simp at h81); simp [h80, h81]; done) | exact (decide_eq_false (fun h9 => hg5 h9.1)).symm | exact (decide_eq_false (fun h9 => hg6 h9.1)).symm)) .nil))))))), hM⟩
        · clear hA; intro hg6 hA
          refine S.valg (dj := 23) hA (by kernel_rfl) rfl (R.move rfl) rfl ?_; clear hA a; intro a hA
          refine S.valg (dj := 23) hA (by kernel_rfl) rfl (R.move rfl) rfl ?_; clear hA a; intro a hA
          refine S.valg (dj := 23) hA (by kernel_rfl) rfl (R.indexAddr (q := (X.getD k 0).toNat) sl45 rfl rfl (by omega) (by omega)) rfl ?_; clear hA a; intro a hA
          refine S.valg (dj := 23) hA (by kernel_rfl) rfl (R.load sz4 rfl (hM.cell (k := 0) rfl (boo_get sn _ (by omega)))) rfl ?_; clear hA a; intro a hA
          refine S.val hA (R.pickF rfl rfl) rfl ?_; clear hA a; intro a hA
          refine S.done ?_
          replace hA : St 33 [(0, _), (3, _), (5, _), (9, _), (10, _), (11, _), (28, _)] a := hA.sub ((.cons rfl (.cons rfl (.cons rfl (.cons rfl (.cons rfl (.cons rfl (.cons rfl .nil))))))))
          exact hJ _ _ ⟨hA.sub (.cons rfl (.cons rfl (.cons rfl (.cons rfl (.cons rfl (.cons rfl (.cons (by first | rfl | exact congrArg (fun b => some (Value.bool b)) (by first | exact decide_eq_decide.2 (by omega) | exact or_bool (by omega) | exact and_bool (by omega) | (simp; done) | (simp [hg5, hg6]; done) | (have h80 := hg5; (try simp at h80); have h81 := hg6; (try simp at h81); simp [h80, h81]; done) | exact (decide_eq_false (fun h9 => hg5 h9.1)).symm | exact (decide_eq_false (fun h9 => hg6 h9.1)).symm)) .nil))))))), hM⟩
  ·
    obtain rfl : k = X.length := by omega
    refine Ends.exit rfl ?_
    replace hA : St 33 [] a := hA.sub (.nil)
    refine Ends.seq ?_
    refine Ends.region ?_
    refine S.val hA (R.assign rfl) rfl ?_; clear hA a; intro a hA
    refine S.done ?_
    replace hA : St 33 [(2, _)] a := hA.sub ((.cons rfl .nil))
    refine Ends.ret1 Try.func18 Try.results18 hA rfl ?_
    exact ⟨by rw [seen_end hso], Mem.trans0 hbs hM.nilL⟩
set_option maxRecDepth 100000 in
set_option maxHeartbeats 400000 in
theorem ris09 (ax : Option Addr) (X : List Int) (cx : Nat) (hX : X.length ≤ 1000) (w : World) (hx : IntSl w (.slice ax X.length cx) X) :
    Calls Try.prog 14 #[.slice ax X.length cx] w fun e w' => e = .returned (.bool (okP X)) ∧ Below w.heap.size w w' := by
  have hbs := Below.refl (B := w.heap.size) w
  have hM := Mem.start w
  refine Calls.of_ends (vs := [.slice ax X.length cx]) Try.func14 rfl Try.ntmps14 rfl ?_
  intro a hA
  replace hA : St 28 [(0, _)] a := hA
  refine Ends.seq ?_
  refine Ends.region ?_
  refine S.val hA (R.assign rfl) rfl ?_; clear hA a; intro a hA
  refine S.done ?_
  replace hA : St 28 [(0, _)] a := hA.sub ((.cons rfl .nil))
  refine Ends.seq ?_
  refine Ends.seq ?_
  refine Ends.region ?_
  refine S.val hA (R.assign rfl) rfl ?_; clear hA a; intro a hA
  refine S.done ?_
  replace hA : St 28 [(0, _), (3, _)] a := hA.sub ((.cons rfl (.cons rfl .nil)))
  refine Ends.block ?_
  refine Ends.loop (σ := Nat) (fun m (a : Act) (wv : World) => St 28 [(0, .slice ax X.length cx), (3, .int .i64 ((m : Int)))] a ∧ Mem w nof [] wv ∧ (m ≤ X.length) ∧ (∀ j, j < m → X.count (j : Int) = 1)) (fun m => X.length - m) 0 ⟨hA.sub ((.cons rfl (.cons rfl .nil))), hM, (Nat.zero_le _), (fun j hj => absurd hj (Nat.not_lt_zero _))⟩ ?_
  clear hA hM a
  rintro m a w1 ⟨hA, hM, hm, hm2⟩ hNext
  refine Ends.seq ?_
  refine Ends.seq ?_
  refine Ends.region ?_
  refine S.val hA (R.move rfl) rfl ?_; clear hA a; intro a hA
  refine S.val hA (R.move rfl) rfl ?_; clear hA a; intro a hA
  refine S.val hA (R.lenS Try.underlying22 rfl rfl) rfl ?_; clear hA a; intro a hA
  refine S.val hA (R.lss rfl rfl) rfl ?_; clear hA a; intro a hA
  refine S.done ?_
  replace hA : St 28 [(0, _), (3, _), (9, _)] a := hA.sub ((.cons rfl (.cons rfl (.cons rfl .nil))))
  refine Ends.ite hA rfl (fun hc1 => ?_) (fun hc1 => ?_)
  ·
    refine Ends.skip ?_
    refine Ends.seq ?_
    refine Ends.block ?_
    refine Ends.seq ?_
    refine Ends.region ?_
    refine S.val hA (R.assign rfl) rfl ?_; clear hA a; intro a hA
    refine S.done ?_
    replace hA : St 28 [(0, _), (3, _), (4, _)] a := hA.sub ((.cons rfl (.cons rfl (.cons rfl .nil))))
    refine Ends.seq ?_
    refine Ends.seq ?_
    refine Ends.region ?_
    refine S.val hA (R.assign rfl) rfl ?_; clear hA a; intro a hA
    refine S.done ?_
    replace hA : St 28 [(0, _), (3, _), (4, _), (5, _)] a := hA.sub ((.cons rfl (.cons rfl (.cons rfl (.cons rfl .nil)))))
    refine Ends.block ?_
    refine Ends.loop (σ := Nat) (fun b (a : Act) (wv : World) => St 28 [(0, .slice ax X.length cx), (3, .int .i64 ((m : Int))), (4, .int .i64 ((((X.take b).count (m : Int) : Nat) : Int))), (5, .int .i64 ((b : Int)))] a ∧ Mem w nof [] wv ∧ (b ≤ X.length)) (fun b => X.length - b) 0 ⟨hA.sub ((.cons rfl (.cons rfl (.cons rfl (.cons rfl .nil))))), hM, (Nat.zero_le _)⟩ ?_
    clear hA hM a
    rintro b a w2 ⟨hA, hM, hb⟩ hNext1
    refine Ends.seq ?_
    refine Ends.seq ?_
    refine Ends.region ?_
    refine S.val hA (R.move rfl) rfl ?_; clear hA a; intro a hA
    refine S.val hA (R.move rfl) rfl ?_; clear hA a; intro a hA
    refine S.val hA (R.lenS Try.underlying22 rfl rfl) rfl ?_; clear hA a; intro a hA
    refine S.val hA (R.lss rfl rfl) rfl ?_; clear hA a; intro a hA
    refine S.done ?_
    replace hA : St 28 [(0, _), (3, _), (4, _), (5, _), (15, _)] a := hA.sub ((.cons rfl (.cons rfl (.cons rfl (.cons rfl (.cons rfl .nil))))))
    refine Ends.ite hA rfl (fun hc2 => ?_) (fun hc2 => ?_)
    ·
      have hcl := count_le (X.take b) (m : Int)
      rw [List.length_take] at hcl
      refine Ends.skip ?_
      refine Ends.seq ?_
      refine Ends.block ?_
      refine Ends.seq ?_
      refine Ends.region ?_
      refine S.val hA (R.move rfl) rfl ?_; clear hA a; intro a hA
      refine S.val hA (R.move rfl) rfl ?_; clear hA a; intro a hA
      refine S.val hA (R.idxI hx (j := b) sl22 rfl rfl (by omega) (rfl)) rfl ?_; clear hA a; intro a hA
      refine S.val hA (R.loadI (hx.mem hM) sz3 rfl (by omega)) rfl ?_; clear hA a; intro a hA
      refine S.val hA (R.move rfl) rfl ?_; clear hA a; intro a hA
      refine S.val hA (R.eql rfl rfl) rfl ?_; clear hA a; intro a hA
      refine S.done ?_
      replace hA : St 28 [(0, _), (3, _), (4, _), (5, _), (23, _)] a := hA.sub ((.cons rfl (.cons rfl (.cons rfl (.cons rfl (.cons rfl .nil))))))
      refine Ends.ite hA rfl (fun hc3 => ?_) (fun hc3 => ?_)
      ·
        refine Ends.region ?_
        refine S.val hA (R.move rfl) rfl ?_; clear hA a; intro a hA
        refine S.val hA (R.addI rfl rfl (r := ((((X.take b).count (m : Int) : Nat) : Int)) + 1) rfl (by omega)) rfl ?_; clear hA a; intro a hA
        refine S.val hA (R.assign rfl) rfl ?_; clear hA a; intro a hA
        refine S.done ?_
        replace hA : St 28 [(0, _), (3, _), (4, _), (5, _)] a := hA.sub ((.cons rfl (.cons rfl (.cons rfl (.cons rfl .nil)))))
        refine Ends.inBlock ?_
        refine Ends.region ?_
        refine S.val hA (R.move rfl) rfl ?_; clear hA a; intro a hA
        refine S.val hA (R.addI rfl rfl (r := ((b : Int)) + 1) rfl (by omega)) rfl ?_; clear hA a; intro a hA
        refine S.val hA (R.assign rfl) rfl ?_; clear hA a; intro a hA
        refine S.done ?_
        replace hA : St 28 [(0, _), (3, _), (4, _), (5, _)] a := hA.sub ((.cons rfl (.cons rfl (.cons rfl (.cons rfl .nil)))))
        have hct := count_take (X := X) (a := b) (by omega) (m : Int)
        rw [if_pos hc3] at hct
        rw [show (((X.take b).count (m : Int) : Nat) : Int) + 1 = (((X.take (b + 1)).count (m : Int) : Nat) : Int) by rw [hct]; simp] at hA
        exact hNext1 ((b + 1)) _ _ ((by show X.length - (b + 1) < X.length - b; omega)) ⟨hA.sub ((.cons rfl (.cons rfl (.cons rfl (.cons rfl .nil))))), hM, (by omega)⟩
      ·
        refine Ends.skip ?_
        refine Ends.inBlock ?_
        refine Ends.region ?_
        refine S.val hA (R.move rfl) rfl ?_; clear hA a; intro a hA
        refine S.val hA (R.addI rfl rfl (r := ((b : Int)) + 1) rfl (by omega)) rfl ?_; clear hA a; intro a hA
        refine S.val hA (R.assign rfl) rfl ?_; clear hA a; intro a hA
        refine S.done ?_
        replace hA : St 28 [(0, _), (3, _), (4, _), (5, _)] a := hA.sub ((.cons rfl (.cons rfl (.cons rfl (.cons rfl .nil)))))
        have hct := count_take (X := X) (a := b) (by omega) (m : Int)
        rw [if_neg hc3] at hct
        rw [show (((X.take b).count (m : Int) : Nat) : Int) = (((X.take (b + 1)).count (m : Int) : Nat) : Int) by rw [hct]; simp] at hA
        exact hNext1 ((b + 1)) _ _ ((by show X.length - (b + 1) < X.length - b; omega)) ⟨hA.sub ((.cons rfl (.cons rfl (.cons rfl (.cons rfl .nil))))), hM, (by omega)⟩
    ·
      obtain rfl : b = X.length := by omega
      rw [List.take_length] at hA
      refine Ends.exit rfl ?_
      replace hA : St 28 [(0, _), (3, _), (4, _)] a := hA.sub ((.cons rfl (.cons rfl (.cons rfl .nil))))
      refine Ends.seq ?_
      refine Ends.region ?_
      refine S.val hA (R.move rfl) rfl ?_; clear hA a; intro a hA
      refine S.val hA (R.neq rfl rfl) rfl ?_; clear hA a; intro a hA
      refine S.done ?_
      replace hA : St 28 [(0, _), (3, _), (27, _)] a := hA.sub ((.cons rfl (.cons rfl (.cons rfl .nil))))
      refine Ends.ite hA rfl (fun hc4 => ?_) (fun hc4 => ?_)
      ·
        refine Ends.seq ?_
        refine Ends.region ?_
        refine S.val hA (R.assign rfl) rfl ?_; clear hA a; intro a hA
        refine S.done ?_
        replace hA : St 28 [(0, _), (2, _), (3, _)] a := hA.sub ((.cons rfl (.cons rfl (.cons rfl .nil))))
        refine Ends.ret1 Try.func14 Try.results14 hA rfl ?_
        exact ⟨by rw [okP_no (k := m) (by omega) (by omega)], Mem.trans0 hbs hM.nilL⟩
      ·
        refine Ends.skip ?_
        refine Ends.inBlock ?_
        refine Ends.region ?_
        refine S.val hA (R.move rfl) rfl ?_; clear hA a; intro a hA
        refine S.val hA (R.addI rfl rfl (r := ((m : Int)) + 1) rfl (by omega)) rfl ?_; clear hA a; intro a hA
        refine S.val hA (R.assign rfl) rfl ?_; clear hA a; intro a hA
        refine S.done ?_
        replace hA : St 28 [(0, _), (3, _)] a := hA.sub ((.cons rfl (.cons rfl .nil)))
        exact hNext ((m + 1)) _ _ ((by show X.length - (m + 1) < X.length - m; omega)) ⟨hA.sub ((.cons rfl (.cons rfl .nil))), hM, (by omega), (fun j hj => (Nat.lt_or_ge j m).elim (fun g => hm2 j g) (fun g => by have e : j = m := (by omega); rw [e]; omega))⟩
  ·
    obtain rfl : m = X.length := by omega
    refine Ends.exit rfl ?_
    replace hA : St 28 [] a := hA.sub (.nil)
    refine Ends.seq ?_
    refine Ends.region ?_
    refine S.val hA (R.assign rfl) rfl ?_; clear hA a; intro a hA
    refine S.done ?_
    replace hA : St 28 [(2, _)] a := hA.sub ((.cons rfl .nil))
    refine Ends.ret1 Try.func14 Try.results14 hA rfl ?_
    exact ⟨by rw [okP_count.2 hm2], Mem.trans0 hbs hM.nilL⟩
end Go.Proofs.Ytphpbdnmdhlnoaa
