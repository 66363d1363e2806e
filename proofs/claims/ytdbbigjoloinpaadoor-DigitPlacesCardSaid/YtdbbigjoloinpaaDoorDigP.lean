/-
  kurganref03.more and Place; the law DigitPlaces.
-/
import Derived.Test.YtdbbigjoloinpaaDoorDigL
namespace Go.Proofs.YtdbbigjoloinpaaDoor
open Go.RowKit
/-- What is asked of the first byte behind. -/
def loB (c : Int) : Int := if c = 224 then 160 else if c = 240 then 144 else 128
def hiB (c : Int) : Int := if c = 237 then 159 else if c = 244 then 143 else 191
def cntB (c : Int) : Nat := if 194 ≤ c ∧ c ≤ 223 then 1 else if 224 ≤ c ∧ c ≤ 239 then 2 else if 240 ≤ c ∧ c ≤ 244 then 3 else 0
/-- Are the bytes from one on that belong to the sign there? -/
def okB (s : ByteArray) (p i : Nat) : Prop := cnt s (p + i) (if i = 1 then loB (byt s p) else 128) (if i = 1 then hiB (byt s p) else 191)
theorem mw_all {s : ByteArray} {p : Nat} (h : ∀ i, 1 ≤ i → i ≤ cntB (byt s p) → okB s p i) : mw s p = cntB (byt s p) + 1 := by
  have h1 := h 1 (by omega)
  have h2 := h 2 (by omega)
  have h3 := h 3 (by omega)
  revert h1 h2 h3
  unfold mw okB cntB loB hiB
  repeat' split
  all_goals (intro h1 h2 h3; first | rfl | (exfalso; omega) | (exfalso; simp_all; done) | (exfalso; simp_all; omega))
theorem mw_not {s : ByteArray} {p i : Nat} (h0 : 1 ≤ i) (h1 : i ≤ cntB (byt s p)) (h : ¬ okB s p i) : mw s p = 1 := by
  revert h h0 h1
  unfold mw okB cntB loB hiB
  intro h0 h1 h
  have hi : i = 1 ∨ i = 2 ∨ i = 3 := by
    revert h1
    repeat' split
    all_goals (intro h1; omega)
  rcases hi with rfl | rfl | rfl
  all_goals (revert h h1; repeat' split)
  all_goals (intro h1 h; first | rfl | (exfalso; omega) | (exfalso; simp_all; done) | (exfalso; simp_all; omega))

set_option maxRecDepth 100000 in
set_option maxHeartbeats 400000 in
theorem more_any (s : ByteArray) (p : Nat) (hp : p < s.size) (hsz : s.size ≤ 4611686018427387904) (w : World) :
    Calls Tryd.prog 32 #[.string s, .int .i64 ((p : Int))] w fun e w' => e = .returned (.int .i64 (((Utf8.decode s p).2 : Int) - 1)) ∧ Below w.heap.size w w' := by
  have hM := Mem.start w
  refine Calls.of_ends (vs := [.string s, .int .i64 ((p : Int))]) Tryd.func32 rfl Tryd.ntmps32 rfl ?_
  intro a hA
  replace hA : St 72 [(0, _), (1, _)] a := hA
  refine Ends.seq ?_
  refine Ends.region ?_
  refine S.val hA (R.assign rfl) rfl ?_; clear hA a; intro a hA
  refine S.done ?_
  replace hA : St 72 [(0, _), (1, _)] a := hA.sub ((.cons rfl (.cons rfl .nil)))
  refine Ends.seq ?_
  refine Ends.region ?_
  refine S.val hA (R.move rfl) rfl ?_; clear hA a; intro a hA
  refine S.val hA (R.move rfl) rfl ?_; clear hA a; intro a hA
  refine S.val hA (R.to (v := .int .u8 (byt s p)) (R.idxS Tryd.underlying9 rfl rfl (by omega)) (by first | rfl | (congr 2; done) | (congr 2; omega))) rfl ?_; clear hA a; intro a hA
  refine S.val hA (R.assign rfl) rfl ?_; clear hA a; intro a hA
  refine S.done ?_
  replace hA : St 72 [(0, _), (1, _), (5, _)] a := hA.sub ((.cons rfl (.cons rfl (.cons rfl .nil))))
  refine Ends.seq ?_
  refine Ends.region ?_
  refine S.val hA (R.assign rfl) rfl ?_; clear hA a; intro a hA
  refine S.val hA (R.assign rfl) rfl ?_; clear hA a; intro a hA
  refine S.val hA (R.assign rfl) rfl ?_; clear hA a; intro a hA
  refine S.done ?_
  replace hA : St 72 [(0, _), (1, _), (5, _), (6, _), (7, _), (8, _)] a := hA.sub ((.cons rfl (.cons rfl (.cons rfl (.cons rfl (.cons rfl (.cons rfl .nil)))))))
  refine Ends.seq ?_
  refine Ends.block ?_
  refine Ends.seq ?_
  refine Ends.cut (fun (a : Act) (wv : World) => St 72 [(0, .string s), (1, .int .i64 ((p : Int))), (5, .int .u8 (byt s p)), (6, .int .i64 0), (7, .int .u8 128), (8, .int .u8 191), (13, .bool (decide ((194 ≤ (byt s p) ∧ (byt s p) ≤ 223))))] a ∧ Mem w nof [] wv) ?_ (fun k2 hJ => ?_)
  · clear hA hM a; rintro a w1 ⟨hA, hM⟩
    refine Ends.ite hA rfl (fun hc1 => ?_) (fun hc1 => ?_)
    ·
      rw [decide_eq_true hc1] at hA
      refine Ends.region ?_
      refine S.val hA (R.assign rfl) rfl ?_; clear hA a; intro a hA
      refine S.done ?_
      replace hA : St 72 [(0, _), (1, _), (6, _), (7, _), (8, _)] a := hA.sub ((.cons rfl (.cons rfl (.cons rfl (.cons rfl (.cons rfl .nil))))))
      refine Ends.inBlock ?_
      refine Ends.seq ?_
      refine Ends.seq ?_
      refine Ends.region ?_
      refine S.val hA (R.assign rfl) rfl ?_; clear hA a; intro a hA
      refine S.done ?_
      replace hA : St 72 [(0, _), (1, _), (6, _), (7, _), (8, _), (9, _)] a := hA.sub ((.cons rfl (.cons rfl (.cons rfl (.cons rfl (.cons rfl (.cons rfl .nil)))))))
      refine Ends.block ?_
      have hn : ((1 : Int)) = (cntB (byt s p) : Int) := by unfold cntB; (repeat' split) <;> first | rfl | omega
      have hlo : loB (byt s p) = 128 ∨ cntB (byt s p) = 0 := by unfold loB cntB; (repeat' split) <;> first | (left; rfl) | (right; rfl) | omega
      have hhi : hiB (byt s p) = 191 ∨ cntB (byt s p) = 0 := by unfold hiB cntB; (repeat' split) <;> first | (left; rfl) | (right; rfl) | omega
      refine Ends.loop (σ := Nat) (fun i (a : Act) (wv : World) => St 72 [(0, .string s), (1, .int .i64 ((p : Int))), (6, .int .i64 1), (7, .int .u8 ((if i = 1 then 128 else 128))), (8, .int .u8 ((if i = 1 then 191 else 191))), (9, .int .i64 ((i : Int)))] a ∧ Mem w nof [] wv ∧ (1 ≤ i ∧ i ≤ cntB (byt s p) + 1) ∧ (∀ j, 1 ≤ j → j < i → okB s p j)) (fun i => cntB (byt s p) + 1 - i) 1 ⟨hA.sub ((.cons rfl (.cons rfl (.cons rfl (.cons rfl (.cons rfl (.cons rfl .nil))))))), hM, (by omega), (fun j h1 h2 => absurd h1 (by omega))⟩ ?_
      clear hA hM a
      rintro i a w2 ⟨hA, hM, hi, hall⟩ hNext
      refine Ends.seq ?_
      refine Ends.seq ?_
      refine Ends.region ?_
      refine S.val hA (R.move rfl) rfl ?_; clear hA a; intro a hA
      refine S.val hA (R.move rfl) rfl ?_; clear hA a; intro a hA
      refine S.val hA (R.leq rfl rfl) rfl ?_; clear hA a; intro a hA
      refine S.done ?_
      replace hA : St 72 [(0, _), (1, _), (6, _), (7, _), (8, _), (9, _), (44, _)] a := hA.sub ((.cons rfl (.cons rfl (.cons rfl (.cons rfl (.cons rfl (.cons rfl (.cons rfl .nil))))))))
      refine Ends.ite hA rfl (fun hc2 => ?_) (fun hc2 => ?_)
      ·
        rw [decide_eq_true hc2] at hA
        refine Ends.skip ?_
        refine Ends.seq ?_
        refine Ends.block ?_
        refine Ends.seq ?_
        refine Ends.seq ?_
        by_cases hs3 : okB s p i
        ·
          have hk : p + i < s.size ∧ (if i = 1 then 128 else 128) ≤ byt s (p + i) ∧ byt s (p + i) ≤ (if i = 1 then 191 else 191) := by
            have h0 := hs3
            unfold okB cnt at h0
            have hlo2 : loB (byt s p) = 128 := hlo.resolve_right (by omega)
            have hhi2 : hiB (byt s p) = 191 := hhi.resolve_right (by omega)
            rwa [hlo2, hhi2] at h0
          obtain ⟨hk1, hk2, hk3⟩ := hk
          refine Ends.region ?_
          refine S.val hA (R.move rfl) rfl ?_; clear hA a; intro a hA
          refine S.val hA (R.move rfl) rfl ?_; clear hA a; intro a hA
          refine S.val hA (R.addI rfl rfl (r := ((p : Int)) + ((i : Int))) rfl (by omega)) rfl ?_; clear hA a; intro a hA
          refine S.val hA (R.move rfl) rfl ?_; clear hA a; intro a hA
          refine S.val hA (R.lenStr Tryd.underlying9 rfl rfl) rfl ?_; clear hA a; intro a hA
          refine S.val hA (R.ff (R.geq rfl rfl) (by omega)) rfl ?_; clear hA a; intro a hA
          refine S.val hA (R.move rfl) rfl ?_; clear hA a; intro a hA
          refine S.valg (dj := 53) hA (by kernel_rfl) rfl (R.move rfl) rfl ?_; clear hA a; intro a hA
          refine S.valg (dj := 53) hA (by kernel_rfl) rfl (R.move rfl) rfl ?_; clear hA a; intro a hA
          refine S.valg (dj := 53) hA (by kernel_rfl) rfl (R.move rfl) rfl ?_; clear hA a; intro a hA
          refine S.valg (dj := 53) hA (by kernel_rfl) rfl (R.addI rfl rfl (r := ((p : Int)) + ((i : Int))) rfl (by omega)) rfl ?_; clear hA a; intro a hA
          refine S.valg (dj := 53) hA (by kernel_rfl) rfl (R.to (v := .int .u8 (byt s (p + i))) (R.idxS Tryd.underlying9 rfl rfl (by omega)) (by first | rfl | (congr 2; done) | (congr 2; omega))) rfl ?_; clear hA a; intro a hA
          refine S.valg (dj := 53) hA (by kernel_rfl) rfl (R.move rfl) rfl ?_; clear hA a; intro a hA
          refine S.valg (dj := 53) hA (by kernel_rfl) rfl (R.ff (R.lss rfl rfl) (Int.not_lt.2 hk2)) rfl ?_; clear hA a; intro a hA
          refine S.val hA (R.pickF rfl rfl) rfl ?_; clear hA a; intro a hA
          refine S.val hA (R.move rfl) rfl ?_; clear hA a; intro a hA
          refine S.valg (dj := 62) hA (by kernel_rfl) rfl (R.move rfl) rfl ?_; clear hA a; intro a hA
          refine S.valg (dj := 62) hA (by kernel_rfl) rfl (R.move rfl) rfl ?_; clear hA a; intro a hA
          refine S.valg (dj := 62) hA (by kernel_rfl) rfl (R.move rfl) rfl ?_; clear hA a; intro a hA
          refine S.valg (dj := 62) hA (by kernel_rfl) rfl (R.addI rfl rfl (r := ((p : Int)) + ((i : Int))) rfl (by omega)) rfl ?_; clear hA a; intro a hA
          refine S.valg (dj := 62) hA (by kernel_rfl) rfl (R.to (v := .int .u8 (byt s (p + i))) (R.idxS Tryd.underlying9 rfl rfl (by omega)) (by first | rfl | (congr 2; done) | (congr 2; omega))) rfl ?_; clear hA a; intro a hA
          refine S.valg (dj := 62) hA (by kernel_rfl) rfl (R.move rfl) rfl ?_; clear hA a; intro a hA
          refine S.valg (dj := 62) hA (by kernel_rfl) rfl (R.ff (R.gtr rfl rfl) (Int.not_lt.2 hk3)) rfl ?_; clear hA a; intro a hA
          refine S.val hA (R.pickF rfl rfl) rfl ?_; clear hA a; intro a hA
          refine S.done ?_
          replace hA : St 72 [(0, _), (1, _), (6, _), (9, _), (70, _)] a := hA.sub ((.cons rfl (.cons rfl (.cons rfl (.cons rfl (.cons rfl .nil))))))
          refine Ends.condF hA rfl ?_
          refine Ends.skip ?_
          refine Ends.region ?_
          refine S.val hA (R.to (v := .int .u8 (if i + 1 = 1 then 128 else 128)) (R.assign rfl) (congrArg (Value.int .u8) (by rw [if_neg (by omega)]))) rfl ?_; clear hA a; intro a hA
          refine S.val hA (R.to (v := .int .u8 (if i + 1 = 1 then 191 else 191)) (R.assign rfl) (congrArg (Value.int .u8) (by rw [if_neg (by omega)]))) rfl ?_; clear hA a; intro a hA
          refine S.done ?_
          replace hA : St 72 [(0, _), (1, _), (6, _), (7, _), (8, _), (9, _)] a := hA.sub ((.cons rfl (.cons rfl (.cons rfl (.cons rfl (.cons rfl (.cons rfl .nil)))))))
          refine Ends.inBlock ?_
          refine Ends.region ?_
          refine S.val hA (R.move rfl) rfl ?_; clear hA a; intro a hA
          refine S.val hA (R.addI rfl rfl (r := ((i : Int)) + 1) rfl (by omega)) rfl ?_; clear hA a; intro a hA
          refine S.val hA (R.assign rfl) rfl ?_; clear hA a; intro a hA
          refine S.done ?_
          replace hA : St 72 [(0, _), (1, _), (6, _), (7, _), (8, _), (9, _)] a := hA.sub ((.cons rfl (.cons rfl (.cons rfl (.cons rfl (.cons rfl (.cons rfl .nil)))))))
          skip
          exact hNext ((i + 1)) _ _ ((by show cntB (byt s p) + 1 - (i + 1) < cntB (byt s p) + 1 - i; omega)) ⟨hA.sub ((.cons rfl (.cons rfl (.cons rfl (.cons rfl (.cons rfl (.cons rfl .nil))))))), hM, (by omega), (fun j h1 h2 => by rcases Nat.lt_or_ge j i with g | g; exact hall j h1 g; have e : j = i := (by omega); exact e ▸ hs3)⟩
        ·
          have hk : ¬ (p + i < s.size ∧ (if i = 1 then 128 else 128) ≤ byt s (p + i) ∧ byt s (p + i) ≤ (if i = 1 then 191 else 191)) := by
            have h0 := hs3
            unfold okB cnt at h0
            have hlo2 : loB (byt s p) = 128 := hlo.resolve_right (by omega)
            have hhi2 : hiB (byt s p) = 191 := hhi.resolve_right (by omega)
            rwa [hlo2, hhi2] at h0
          by_cases hs4 : p + i < s.size
          ·
            by_cases hs5 : byt s (p + i) < (if i = 1 then 128 else 128)
            ·
              refine Ends.region ?_
              refine S.val hA (R.move rfl) rfl ?_; clear hA a; intro a hA
              refine S.val hA (R.move rfl) rfl ?_; clear hA a; intro a hA
              refine S.val hA (R.addI rfl rfl (r := ((p : Int)) + ((i : Int))) rfl (by omega)) rfl ?_; clear hA a; intro a hA
              refine S.val hA (R.move rfl) rfl ?_; clear hA a; intro a hA
              refine S.val hA (R.lenStr Tryd.underlying9 rfl rfl) rfl ?_; clear hA a; intro a hA
              refine S.val hA (R.ff (R.geq rfl rfl) (by omega)) rfl ?_; clear hA a; intro a hA
              refine S.val hA (R.move rfl) rfl ?_; clear hA a; intro a hA
              refine S.valg (dj := 53) hA (by kernel_rfl) rfl (R.move rfl) rfl ?_; clear hA a; intro a hA
              refine S.valg (dj := 53) hA (by kernel_rfl) rfl (R.move rfl) rfl ?_; clear hA a; intro a hA
              refine S.valg (dj := 53) hA (by kernel_rfl) rfl (R.move rfl) rfl ?_; clear hA a; intro a hA
              refine S.valg (dj := 53) hA (by kernel_rfl) rfl (R.addI rfl rfl (r := ((p : Int)) + ((i : Int))) rfl (by omega)) rfl ?_; clear hA a; intro a hA
              refine S.valg (dj := 53) hA (by kernel_rfl) rfl (R.to (v := .int .u8 (byt s (p + i))) (R.idxS Tryd.underlying9 rfl rfl (by omega)) (by first | rfl | (congr 2; done) | (congr 2; omega))) rfl ?_; clear hA a; intro a hA
              refine S.valg (dj := 53) hA (by kernel_rfl) rfl (R.move rfl) rfl ?_; clear hA a; intro a hA
              refine S.valg (dj := 53) hA (by kernel_rfl) rfl (R.tt (R.lss rfl rfl) (hs5)) rfl ?_; clear hA a; intro a hA
              refine S.val hA (R.pickF rfl rfl) rfl ?_; clear hA a; intro a hA
              refine S.val hA (R.move rfl) rfl ?_; clear hA a; intro a hA
              refine S.no (dj := 62) hA (by kernel_rfl) rfl rfl rfl ?_; clear hA a; intro a hA
              refine S.no (dj := 62) hA (by kernel_rfl) rfl rfl rfl ?_; clear hA a; intro a hA
              refine S.no (dj := 62) hA (by kernel_rfl) rfl rfl rfl ?_; clear hA a; intro a hA
              refine S.no (dj := 62) hA (by kernel_rfl) rfl rfl rfl ?_; clear hA a; intro a hA
              refine S.no (dj := 62) hA (by kernel_rfl) rfl rfl rfl ?_; clear hA a; intro a hA
              refine S.no (dj := 62) hA (by kernel_rfl) rfl rfl rfl ?_; clear hA a; intro a hA
              refine S.no (dj := 62) hA (by kernel_rfl) rfl rfl rfl ?_; clear hA a; intro a hA
              refine S.val hA (R.pickT rfl rfl) rfl ?_; clear hA a; intro a hA
              refine S.done ?_
              replace hA : St 72 [(0, _), (1, _), (6, _), (9, _), (70, _)] a := hA.sub ((.cons rfl (.cons rfl (.cons rfl (.cons rfl (.cons rfl .nil))))))
              refine Ends.condT hA rfl ?_
              refine Ends.seq ?_
              refine Ends.region ?_
              refine S.val hA (R.assign rfl) rfl ?_; clear hA a; intro a hA
              refine S.done ?_
              replace hA : St 72 [(0, _), (1, _), (4, _), (6, _), (9, _)] a := hA.sub ((.cons rfl (.cons rfl (.cons rfl (.cons rfl (.cons rfl .nil))))))
              refine Ends.ret1 Tryd.func32 Tryd.results32 hA rfl ?_
              have e0 := mw_not (by omega) (by omega) hs3
              rw [dec_w, e0]
              exact ⟨rfl, hM.nilL.below⟩
            ·
              refine Ends.region ?_
              refine S.val hA (R.move rfl) rfl ?_; clear hA a; intro a hA
              refine S.val hA (R.move rfl) rfl ?_; clear hA a; intro a hA
              refine S.val hA (R.addI rfl rfl (r := ((p : Int)) + ((i : Int))) rfl (by omega)) rfl ?_; clear hA a; intro a hA
              refine S.val hA (R.move rfl) rfl ?_; clear hA a; intro a hA
              refine S.val hA (R.lenStr Tryd.underlying9 rfl rfl) rfl ?_; clear hA a; intro a hA
              refine S.val hA (R.ff (R.geq rfl rfl) (by omega)) rfl ?_; clear hA a; intro a hA
              refine S.val hA (R.move rfl) rfl ?_; clear hA a; intro a hA
              refine S.valg (dj := 53) hA (by kernel_rfl) rfl (R.move rfl) rfl ?_; clear hA a; intro a hA
              refine S.valg (dj := 53) hA (by kernel_rfl) rfl (R.move rfl) rfl ?_; clear hA a; intro a hA
              refine S.valg (dj := 53) hA (by kernel_rfl) rfl (R.move rfl) rfl ?_; clear hA a; intro a hA
              refine S.valg (dj := 53) hA (by kernel_rfl) rfl (R.addI rfl rfl (r := ((p : Int)) + ((i : Int))) rfl (by omega)) rfl ?_; clear hA a; intro a hA
              refine S.valg (dj := 53) hA (by kernel_rfl) rfl (R.to (v := .int .u8 (byt s (p + i))) (R.idxS Tryd.underlying9 rfl rfl (by omega)) (by first | rfl | (congr 2; done) | (congr 2; omega))) rfl ?_; clear hA a; intro a hA
              refine S.valg (dj := 53) hA (by kernel_rfl) rfl (R.move rfl) rfl ?_; clear hA a; intro a hA
              refine S.valg (dj := 53) hA (by kernel_rfl) rfl (R.ff (R.lss rfl rfl) (hs5)) rfl ?_; clear hA a; intro a hA
              refine S.val hA (R.pickF rfl rfl) rfl ?_; clear hA a; intro a hA
              refine S.val hA (R.move rfl) rfl ?_; clear hA a; intro a hA
              refine S.valg (dj := 62) hA (by kernel_rfl) rfl (R.move rfl) rfl ?_; clear hA a; intro a hA
              refine S.valg (dj := 62) hA (by kernel_rfl) rfl (R.move rfl) rfl ?_; clear hA a; intro a hA
              refine S.valg (dj := 62) hA (by kernel_rfl) rfl (R.move rfl) rfl ?_; clear hA a; intro a hA
              refine S.valg (dj := 62) hA (by kernel_rfl) rfl (R.addI rfl rfl (r := ((p : Int)) + ((i : Int))) rfl (by omega)) rfl ?_; clear hA a; intro a hA
              refine S.valg (dj := 62) hA (by kernel_rfl) rfl (R.to (v := .int .u8 (byt s (p + i))) (R.idxS Tryd.underlying9 rfl rfl (by omega)) (by first | rfl | (congr 2; done) | (congr 2; omega))) rfl ?_; clear hA a; intro a hA
              refine S.valg (dj := 62) hA (by kernel_rfl) rfl (R.move rfl) rfl ?_; clear hA a; intro a hA
              refine S.valg (dj := 62) hA (by kernel_rfl) rfl (R.tt (R.gtr rfl rfl) (Int.not_le.1 (fun h9 => hk ⟨hs4, Int.not_lt.1 hs5, h9⟩))) rfl ?_; clear hA a; intro a hA
              refine S.val hA (R.pickF rfl rfl) rfl ?_; clear hA a; intro a hA
              refine S.done ?_
              replace hA : St 72 [(0, _), (1, _), (6, _), (9, _), (70, _)] a := hA.sub ((.cons rfl (.cons rfl (.cons rfl (.cons rfl (.cons rfl .nil))))))
              refine Ends.condT hA rfl ?_
              refine Ends.seq ?_
              refine Ends.region ?_
              refine S.val hA (R.assign rfl) rfl ?_; clear hA a; intro a hA
              refine S.done ?_
              replace hA : St 72 [(0, _), (1, _), (4, _), (6, _), (9, _)] a := hA.sub ((.cons rfl (.cons rfl (.cons rfl (.cons rfl (.cons rfl .nil))))))
              refine Ends.ret1 Tryd.func32 Tryd.results32 hA rfl ?_
              have e0 := mw_not (by omega) (by omega) hs3
              rw [dec_w, e0]
              exact ⟨rfl, hM.nilL.below⟩
          ·
            refine Ends.region ?_
            refine S.val hA (R.move rfl) rfl ?_; clear hA a; intro a hA
            refine S.val hA (R.move rfl) rfl ?_; clear hA a; intro a hA
            refine S.val hA (R.addI rfl rfl (r := ((p : Int)) + ((i : Int))) rfl (by omega)) rfl ?_; clear hA a; intro a hA
            refine S.val hA (R.move rfl) rfl ?_; clear hA a; intro a hA
            refine S.val hA (R.lenStr Tryd.underlying9 rfl rfl) rfl ?_; clear hA a; intro a hA
            refine S.val hA (R.tt (R.geq rfl rfl) (by omega)) rfl ?_; clear hA a; intro a hA
            refine S.val hA (R.move rfl) rfl ?_; clear hA a; intro a hA
            refine S.no (dj := 53) hA (by kernel_rfl) rfl rfl rfl ?_; clear hA a; intro a hA
            refine S.no (dj := 53) hA (by kernel_rfl) rfl rfl rfl ?_; clear hA a; intro a hA
            refine S.no (dj := 53) hA (by kernel_rfl) rfl rfl rfl ?_; clear hA a; intro a hA
            refine S.no (dj := 53) hA (by kernel_rfl) rfl rfl rfl ?_; clear hA a; intro a hA
            refine S.no (dj := 53) hA (by kernel_rfl) rfl rfl rfl ?_; clear hA a; intro a hA
            refine S.no (dj := 53) hA (by kernel_rfl) rfl rfl rfl ?_; clear hA a; intro a hA
            refine S.no (dj := 53) hA (by kernel_rfl) rfl rfl rfl ?_; clear hA a; intro a hA
            refine S.val hA (R.pickT rfl rfl) rfl ?_; clear hA a; intro a hA
            refine S.val hA (R.move rfl) rfl ?_; clear hA a; intro a hA
            refine S.no (dj := 62) hA (by kernel_rfl) rfl rfl rfl ?_; clear hA a; intro a hA
            refine S.no (dj := 62) hA (by kernel_rfl) rfl rfl rfl ?_; clear hA a; intro a hA
            refine S.no (dj := 62) hA (by kernel_rfl) rfl rfl rfl ?_; clear hA a; intro a hA
            refine S.no (dj := 62) hA (by kernel_rfl) rfl rfl rfl ?_; clear hA a; intro a hA
            refine S.no (dj := 62) hA (by kernel_rfl) rfl rfl rfl ?_; clear hA a; intro a hA
            refine S.no (dj := 62) hA (by kernel_rfl) rfl rfl rfl ?_; clear hA a; intro a hA
            refine S.no (dj := 62) hA (by kernel_rfl) rfl rfl rfl ?_; clear hA a; intro a hA
            refine S.val hA (R.pickT rfl rfl) rfl ?_; clear hA a; intro a hA
            refine S.done ?_
            replace hA : St 72 [(0, _), (1, _), (6, _), (9, _), (70, _)] a := hA.sub ((.cons rfl (.cons rfl (.cons rfl (.cons rfl (.cons rfl .nil))))))
            refine Ends.condT hA rfl ?_
            refine Ends.seq ?_
            refine Ends.region ?_
            refine S.val hA (R.assign rfl) rfl ?_; clear hA a; intro a hA
            refine S.done ?_
            replace hA : St 72 [(0, _), (1, _), (4, _), (6, _), (9, _)] a := hA.sub ((.cons rfl (.cons rfl (.cons rfl (.cons rfl (.cons rfl .nil))))))
            refine Ends.ret1 Tryd.func32 Tryd.results32 hA rfl ?_
            have e0 := mw_not (by omega) (by omega) hs3
            rw [dec_w, e0]
            exact ⟨rfl, hM.nilL.below⟩
      ·
        rw [decide_eq_false hc2] at hA
        refine Ends.exit rfl ?_
        replace hA : St 72 [(6, _)] a := hA.sub ((.cons rfl .nil))
        refine Ends.seq ?_
        refine Ends.region ?_
        refine S.val hA (R.move rfl) rfl ?_; clear hA a; intro a hA
        refine S.val hA (R.assign rfl) rfl ?_; clear hA a; intro a hA
        refine S.done ?_
        replace hA : St 72 [(4, _)] a := hA.sub ((.cons rfl .nil))
        refine Ends.ret1 Tryd.func32 Tryd.results32 hA rfl ?_
        have e0 := mw_all (fun i2 h1 h2 => hall i2 h1 (by omega))
        rw [dec_w, e0, show (((cntB (byt s p) + 1 : Nat) : Int) - 1) = (cntB (byt s p) : Int) by omega, ← hn]
        exact ⟨rfl, hM.nilL.below⟩
    ·
      rw [decide_eq_false hc1] at hA
      refine Ends.seq ?_
      refine Ends.cut (fun (a : Act) (wv : World) => St 72 [(0, .string s), (1, .int .i64 ((p : Int))), (5, .int .u8 (byt s p)), (6, .int .i64 0), (7, .int .u8 128), (8, .int .u8 191), (20, .bool (decide ((224 ≤ (byt s p) ∧ (byt s p) ≤ 239))))] a ∧ Mem w nof [] wv) ?_ (fun k2 hJ => ?_)
      · clear hA hM a; rintro a w3 ⟨hA, hM⟩
        refine Ends.ite hA rfl (fun hc6 => ?_) (fun hc6 => ?_)
        ·
          rw [decide_eq_true hc6] at hA
          refine Ends.seq ?_
          refine Ends.region ?_
          refine S.val hA (R.assign rfl) rfl ?_; clear hA a; intro a hA
          refine S.done ?_
          replace hA : St 72 [(0, _), (1, _), (5, _), (6, _), (7, _), (8, _)] a := hA.sub ((.cons rfl (.cons rfl (.cons rfl (.cons rfl (.cons rfl (.cons rfl .nil)))))))
          refine Ends.seq ?_
          refine Ends.seq ?_
          refine Ends.region ?_
          refine S.val hA (R.move rfl) rfl ?_; clear hA a; intro a hA
          refine S.val hA (R.eql rfl rfl) rfl ?_; clear hA a; intro a hA
          refine S.done ?_
          replace hA : St 72 [(0, _), (1, _), (5, _), (6, _), (7, _), (8, _), (28, _)] a := hA.sub ((.cons rfl (.cons rfl (.cons rfl (.cons rfl (.cons rfl (.cons rfl (.cons rfl .nil))))))))
          refine Ends.ite hA rfl (fun hc7 => ?_) (fun hc7 => ?_)
          ·
            rw [decide_eq_true hc7] at hA
            refine Ends.region ?_
            refine S.val hA (R.assign rfl) rfl ?_; clear hA a; intro a hA
            refine S.done ?_
            replace hA : St 72 [(0, _), (1, _), (5, _), (6, _), (7, _), (8, _)] a := hA.sub ((.cons rfl (.cons rfl (.cons rfl (.cons rfl (.cons rfl (.cons rfl .nil)))))))
            refine Ends.seq ?_
            refine Ends.region ?_
            refine S.val hA (R.move rfl) rfl ?_; clear hA a; intro a hA
            refine S.val hA (R.eql rfl rfl) rfl ?_; clear hA a; intro a hA
            refine S.done ?_
            replace hA : St 72 [(0, _), (1, _), (6, _), (7, _), (8, _), (30, _)] a := hA.sub ((.cons rfl (.cons rfl (.cons rfl (.cons rfl (.cons rfl (.cons rfl .nil)))))))
            refine Ends.ite hA rfl (fun hc8 => ?_) (fun hc8 => ?_)
            ·
              rw [decide_eq_true hc8] at hA
              refine Ends.region ?_
              refine S.val hA (R.assign rfl) rfl ?_; clear hA a; intro a hA
              refine S.done ?_
              replace hA : St 72 [(0, _), (1, _), (6, _), (7, _), (8, _)] a := hA.sub ((.cons rfl (.cons rfl (.cons rfl (.cons rfl (.cons rfl .nil))))))
              refine Ends.inBlock ?_
              refine Ends.seq ?_
              refine Ends.seq ?_
              refine Ends.region ?_
              refine S.val hA (R.assign rfl) rfl ?_; clear hA a; intro a hA
              refine S.done ?_
              replace hA : St 72 [(0, _), (1, _), (6, _), (7, _), (8, _), (9, _)] a := hA.sub ((.cons rfl (.cons rfl (.cons rfl (.cons rfl (.cons rfl (.cons rfl .nil)))))))
              refine Ends.block ?_
              have hn : ((2 : Int)) = (cntB (byt s p) : Int) := by unfold cntB; (repeat' split) <;> first | rfl | omega
              have hlo : loB (byt s p) = 160 ∨ cntB (byt s p) = 0 := by unfold loB cntB; (repeat' split) <;> first | (left; rfl) | (right; rfl) | omega
              have hhi : hiB (byt s p) = 159 ∨ cntB (byt s p) = 0 := by unfold hiB cntB; (repeat' split) <;> first | (left; rfl) | (right; rfl) | omega
              refine Ends.loop (σ := Nat) (fun i (a : Act) (wv : World) => St 72 [(0, .string s), (1, .int .i64 ((p : Int))), (6, .int .i64 2), (7, .int .u8 ((if i = 1 then 160 else 128))), (8, .int .u8 ((if i = 1 then 159 else 191))), (9, .int .i64 ((i : Int)))] a ∧ Mem w nof [] wv ∧ (1 ≤ i ∧ i ≤ cntB (byt s p) + 1) ∧ (∀ j, 1 ≤ j → j < i → okB s p j)) (fun i => cntB (byt s p) + 1 - i) 1 ⟨hA.sub ((.cons rfl (.cons rfl (.cons rfl (.cons rfl (.cons rfl (.cons rfl .nil))))))), hM, (by omega), (fun j h1 h2 => absurd h1 (by omega))⟩ ?_
              clear hA hM a
              rintro i a w4 ⟨hA, hM, hi, hall⟩ hNext
              refine Ends.seq ?_
              refine Ends.seq ?_
              refine Ends.region ?_
              refine S.val hA (R.move rfl) rfl ?_; clear hA a; intro a hA
              refine S.val hA (R.move rfl) rfl ?_; clear hA a; intro a hA
              refine S.val hA (R.leq rfl rfl) rfl ?_; clear hA a; intro a hA
              refine S.done ?_
              replace hA : St 72 [(0, _), (1, _), (6, _), (7, _), (8, _), (9, _), (44, _)] a := hA.sub ((.cons rfl (.cons rfl (.cons rfl (.cons rfl (.cons rfl (.cons rfl (.cons rfl .nil))))))))
              refine Ends.ite hA rfl (fun hc9 => ?_) (fun hc9 => ?_)
              ·
                rw [decide_eq_true hc9] at hA
                refine Ends.skip ?_
                refine Ends.seq ?_
                refine Ends.block ?_
                refine Ends.seq ?_
                refine Ends.seq ?_
                by_cases hs10 : okB s p i
                ·
                  have hk : p + i < s.size ∧ (if i = 1 then 160 else 128) ≤ byt s (p + i) ∧ byt s (p + i) ≤ (if i = 1 then 159 else 191) := by
                    have h0 := hs10
                    unfold okB cnt at h0
                    have hlo2 : loB (byt s p) = 160 := hlo.resolve_right (by omega)
                    have hhi2 : hiB (byt s p) = 159 := hhi.resolve_right (by omega)
                    rwa [hlo2, hhi2] at h0
                  obtain ⟨hk1, hk2, hk3⟩ := hk
                  refine Ends.region ?_
                  refine S.val hA (R.move rfl) rfl ?_; clear hA a; intro a hA
                  refine S.val hA (R.move rfl) rfl ?_; clear hA a; intro a hA
                  refine S.val hA (R.addI rfl rfl (r := ((p : Int)) + ((i : Int))) rfl (by omega)) rfl ?_; clear hA a; intro a hA
                  refine S.val hA (R.move rfl) rfl ?_; clear hA a; intro a hA
                  refine S.val hA (R.lenStr Tryd.underlying9 rfl rfl) rfl ?_; clear hA a; intro a hA
                  refine S.val hA (R.ff (R.geq rfl rfl) (by omega)) rfl ?_; clear hA a; intro a hA
                  refine S.val hA (R.move rfl) rfl ?_; clear hA a; intro a hA
                  refine S.valg (dj := 53) hA (by kernel_rfl) rfl (R.move rfl) rfl ?_; clear hA a; intro a hA
                  refine S.valg (dj := 53) hA (by kernel_rfl) rfl (R.move rfl) rfl ?_; clear hA a; intro a hA
                  refine S.valg (dj := 53) hA (by kernel_rfl) rfl (R.move rfl) rfl ?_; clear hA a; intro a hA
                  refine S.valg (dj := 53) hA (by kernel_rfl) rfl (R.addI rfl rfl (r := ((p : Int)) + ((i : Int))) rfl (by omega)) rfl ?_; clear hA a; intro a hA
                  refine S.valg (dj := 53) hA (by kernel_rfl) rfl (R.to (v := .int .u8 (byt s (p + i))) (R.idxS Tryd.underlying9 rfl rfl (by omega)) (by first | rfl | (congr 2; done) | (congr 2; omega))) rfl ?_; clear hA a; intro a hA
                  refine S.valg (dj := 53) hA (by kernel_rfl) rfl (R.move rfl) rfl ?_; clear hA a; intro a hA
                  refine S.valg (dj := 53) hA (by kernel_rfl) rfl (R.ff (R.lss rfl rfl) (Int.not_lt.2 hk2)) rfl ?_; clear hA a; intro a hA
                  refine S.val hA (R.pickF rfl rfl) rfl ?_; clear hA a; intro a hA
                  refine S.val hA (R.move rfl) rfl ?_; clear hA a; intro a hA
                  refine S.valg (dj := 62) hA (by kernel_rfl) rfl (R.move rfl) rfl ?_; clear hA a; intro a hA
                  refine S.valg (dj := 62) hA (by kernel_rfl) rfl (R.move rfl) rfl ?_; clear hA a; intro a hA
                  refine S.valg (dj := 62) hA (by kernel_rfl) rfl (R.move rfl) rfl ?_; clear hA a; intro a hA
                  refine S.valg (dj := 62) hA (by kernel_rfl) rfl (R.addI rfl rfl (r := ((p : Int)) + ((i : Int))) rfl (by omega)) rfl ?_; clear hA a; intro a hA
                  refine S.valg (dj := 62) hA (by kernel_rfl) rfl (R.to (v := .int .u8 (byt s (p + i))) (R.idxS Tryd.underlying9 rfl rfl (by omega)) (by first | rfl | (congr 2; done) | (congr 2; omega))) rfl ?_; clear hA a; intro a hA
                  refine S.valg (dj := 62) hA (by kernel_rfl) rfl (R.move rfl) rfl ?_; clear hA a; intro a hA
                  refine S.valg (dj := 62) hA (by kernel_rfl) rfl (R.ff (R.gtr rfl rfl) (Int.not_lt.2 hk3)) rfl ?_; clear hA a; intro a hA
                  refine S.val hA (R.pickF rfl rfl) rfl ?_; clear hA a; intro a hA
                  refine S.done ?_
                  replace hA : St 72 [(0, _), (1, _), (6, _), (9, _), (70, _)] a := hA.sub ((.cons rfl (.cons rfl (.cons rfl (.cons rfl (.cons rfl .nil))))))
                  refine Ends.condF hA rfl ?_
                  refine Ends.skip ?_
                  refine Ends.region ?_
                  refine S.val hA (R.to (v := .int .u8 (if i + 1 = 1 then 160 else 128)) (R.assign rfl) (congrArg (Value.int .u8) (by rw [if_neg (by omega)]))) rfl ?_; clear hA a; intro a hA
                  refine S.val hA (R.to (v := .int .u8 (if i + 1 = 1 then 159 else 191)) (R.assign rfl) (congrArg (Value.int .u8) (by rw [if_neg (by omega)]))) rfl ?_; clear hA a; intro a hA
                  refine S.done ?_
                  replace hA : St 72 [(0, _), (1, _), (6, _), (7, _), (8, _), (9, _)] a := hA.sub ((.cons rfl (.cons rfl (.cons rfl (.cons rfl (.cons rfl (.cons rfl .nil)))))))
                  refine Ends.inBlock ?_
                  refine Ends.region ?_
                  refine S.val hA (R.move rfl) rfl ?_; clear hA a; intro a hA
                  refine S.val hA (R.addI rfl rfl (r := ((i : Int)) + 1) rfl (by omega)) rfl ?_; clear hA a; intro a hA
                  refine S.val hA (R.assign rfl) rfl ?_; clear hA a; intro a hA
                  refine S.done ?_
                  replace hA : St 72 [(0, _), (1, _), (6, _), (7, _), (8, _), (9, _)] a := hA.sub ((.cons rfl (.cons rfl (.cons rfl (.cons rfl (.cons rfl (.cons rfl .nil)))))))
                  skip
                  exact hNext ((i + 1)) _ _ ((by show cntB (byt s p) + 1 - (i + 1) < cntB (byt s p) + 1 - i; omega)) ⟨hA.sub ((.cons rfl (.cons rfl (.cons rfl (.cons rfl (.cons rfl (.cons rfl .nil))))))), hM, (by omega), (fun j h1 h2 => by rcases Nat.lt_or_ge j i with g | g; exact hall j h1 g; have e : j = i := (by omega); exact e ▸ hs10)⟩
                ·
                  have hk : ¬ (p + i < s.size ∧ (if i = 1 then 160 else 128) ≤ byt s (p + i) ∧ byt s (p + i) ≤ (if i = 1 then 159 else 191)) := by
                    have h0 := hs10
                    unfold okB cnt at h0
                    have hlo2 : loB (byt s p) = 160 := hlo.resolve_right (by omega)
                    have hhi2 : hiB (byt s p) = 159 := hhi.resolve_right (by omega)
                    rwa [hlo2, hhi2] at h0
                  by_cases hs11 : p + i < s.size
                  ·
                    by_cases hs12 : byt s (p + i) < (if i = 1 then 160 else 128)
                    ·
                      refine Ends.region ?_
                      refine S.val hA (R.move rfl) rfl ?_; clear hA a; intro a hA
                      refine S.val hA (R.move rfl) rfl ?_; clear hA a; intro a hA
                      refine S.val hA (R.addI rfl rfl (r := ((p : Int)) + ((i : Int))) rfl (by omega)) rfl ?_; clear hA a; intro a hA
                      refine S.val hA (R.move rfl) rfl ?_; clear hA a; intro a hA
                      refine S.val hA (R.lenStr Tryd.underlying9 rfl rfl) rfl ?_; clear hA a; intro a hA
                      refine S.val hA (R.ff (R.geq rfl rfl) (by omega)) rfl ?_; clear hA a; intro a hA
                      refine S.val hA (R.move rfl) rfl ?_; clear hA a; intro a hA
                      refine S.valg (dj := 53) hA (by kernel_rfl) rfl (R.move rfl) rfl ?_; clear hA a; intro a hA
                      refine S.valg (dj := 53) hA (by kernel_rfl) rfl (R.move rfl) rfl ?_; clear hA a; intro a hA
                      refine S.valg (dj := 53) hA (by kernel_rfl) rfl (R.move rfl) rfl ?_; clear hA a; intro a hA
                      refine S.valg (dj := 53) hA (by kernel_rfl) rfl (R.addI rfl rfl (r := ((p : Int)) + ((i : Int))) rfl (by omega)) rfl ?_; clear hA a; intro a hA
                      refine S.valg (dj := 53) hA (by kernel_rfl) rfl (R.to (v := .int .u8 (byt s (p + i))) (R.idxS Tryd.underlying9 rfl rfl (by omega)) (by first | rfl | (congr 2; done) | (congr 2; omega))) rfl ?_; clear hA a; intro a hA
                      refine S.valg (dj := 53) hA (by kernel_rfl) rfl (R.move rfl) rfl ?_; clear hA a; intro a hA
                      refine S.valg (dj := 53) hA (by kernel_rfl) rfl (R.tt (R.lss rfl rfl) (hs12)) rfl ?_; clear hA a; intro a hA
                      refine S.val hA (R.pickF rfl rfl) rfl ?_; clear hA a; intro a hA
                      refine S.val hA (R.move rfl) rfl ?_; clear hA a; intro a hA
                      refine S.no (dj := 62) hA (by kernel_rfl) rfl rfl rfl ?_; clear hA a; intro a hA
                      refine S.no (dj := 62) hA (by kernel_rfl) rfl rfl rfl ?_; clear hA a; intro a hA
                      refine S.no (dj := 62) hA (by kernel_rfl) rfl rfl rfl ?_; clear hA a; intro a hA
                      refine S.no (dj := 62) hA (by kernel_rfl) rfl rfl rfl ?_; clear hA a; intro a hA
                      refine S.no (dj := 62) hA (by kernel_rfl) rfl rfl rfl ?_; clear hA a; intro a hA
                      refine S.no (dj := 62) hA (by kernel_rfl) rfl rfl rfl ?_; clear hA a; intro a hA
                      refine S.no (dj := 62) hA (by kernel_rfl) rfl rfl rfl ?_; clear hA a; intro a hA
                      refine S.val hA (R.pickT rfl rfl) rfl ?_; clear hA a; intro a hA
                      refine S.done ?_
                      replace hA : St 72 [(0, _), (1, _), (6, _), (9, _), (70, _)] a := hA.sub ((.cons rfl (.cons rfl (.cons rfl (.cons rfl (.cons rfl .nil))))))
                      refine Ends.condT hA rfl ?_
                      refine Ends.seq ?_
                      refine Ends.region ?_
                      refine S.val hA (R.assign rfl) rfl ?_; clear hA a; intro a hA
                      refine S.done ?_
                      replace hA : St 72 [(0, _), (1, _), (4, _), (6, _), (9, _)] a := hA.sub ((.cons rfl (.cons rfl (.cons rfl (.cons rfl (.cons rfl .nil))))))
                      refine Ends.ret1 Tryd.func32 Tryd.results32 hA rfl ?_
                      have e0 := mw_not (by omega) (by omega) hs10
                      rw [dec_w, e0]
                      exact ⟨rfl, hM.nilL.below⟩
                    ·
                      refine Ends.region ?_
                      refine S.val hA (R.move rfl) rfl ?_; clear hA a; intro a hA
                      refine S.val hA (R.move rfl) rfl ?_; clear hA a; intro a hA
                      refine S.val hA (R.addI rfl rfl (r := ((p : Int)) + ((i : Int))) rfl (by omega)) rfl ?_; clear hA a; intro a hA
                      refine S.val hA (R.move rfl) rfl ?_; clear hA a; intro a hA
                      refine S.val hA (R.lenStr Tryd.underlying9 rfl rfl) rfl ?_; clear hA a; intro a hA
                      refine S.val hA (R.ff (R.geq rfl rfl) (by omega)) rfl ?_; clear hA a; intro a hA
                      refine S.val hA (R.move rfl) rfl ?_; clear hA a; intro a hA
                      refine S.valg (dj := 53) hA (by kernel_rfl) rfl (R.move rfl) rfl ?_; clear hA a; intro a hA
                      refine S.valg (dj := 53) hA (by kernel_rfl) rfl (R.move rfl) rfl ?_; clear hA a; intro a hA
                      refine S.valg (dj := 53) hA (by kernel_rfl) rfl (R.move rfl) rfl ?_; clear hA a; intro a hA
                      refine S.valg (dj := 53) hA (by kernel_rfl) rfl (R.addI rfl rfl (r := ((p : Int)) + ((i : Int))) rfl (by omega)) rfl ?_; clear hA a; intro a hA
                      refine S.valg (dj := 53) hA (by kernel_rfl) rfl (R.to (v := .int .u8 (byt s (p + i))) (R.idxS Tryd.underlying9 rfl rfl (by omega)) (by first | rfl | (congr 2; done) | (congr 2; omega))) rfl ?_; clear hA a; intro a hA
                      refine S.valg (dj := 53) hA (by kernel_rfl) rfl (R.move rfl) rfl ?_; clear hA a; intro a hA
                      refine S.valg (dj := 53) hA (by kernel_rfl) rfl (R.ff (R.lss rfl rfl) (hs12)) rfl ?_; clear hA a; intro a hA
                      refine S.val hA (R.pickF rfl rfl) rfl ?_; clear hA a; intro a hA
                      refine S.val hA (R.move rfl) rfl ?_; clear hA a; intro a hA
                      refine S.valg (dj := 62) hA (by kernel_rfl) rfl (R.move rfl) rfl ?_; clear hA a; intro a hA
                      refine S.valg (dj := 62) hA (by kernel_rfl) rfl (R.move rfl) rfl ?_; clear hA a; intro a hA
                      refine S.valg (dj := 62) hA (by kernel_rfl) rfl (R.move rfl) rfl ?_; clear hA a; intro a hA
                      refine S.valg (dj := 62) hA (by kernel_rfl) rfl (R.addI rfl rfl (r := ((p : Int)) + ((i : Int))) rfl (by omega)) rfl ?_; clear hA a; intro a hA
                      refine S.valg (dj := 62) hA (by kernel_rfl) rfl (R.to (v := .int .u8 (byt s (p + i))) (R.idxS Tryd.underlying9 rfl rfl (by omega)) (by first | rfl | (congr 2; done) | (congr 2; omega))) rfl ?_; clear hA a; intro a hA
                      refine S.valg (dj := 62) hA (by kernel_rfl) rfl (R.move rfl) rfl ?_; clear hA a; intro a hA
                      refine S.valg (dj := 62) hA (by kernel_rfl) rfl (R.tt (R.gtr rfl rfl) (Int.not_le.1 (fun h9 => hk ⟨hs11, Int.not_lt.1 hs12, h9⟩))) rfl ?_; clear hA a; intro a hA
                      refine S.val hA (R.pickF rfl rfl) rfl ?_; clear hA a; intro a hA
                      refine S.done ?_
                      replace hA : St 72 [(0, _), (1, _), (6, _), (9, _), (70, _)] a := hA.sub ((.cons rfl (.cons rfl (.cons rfl (.cons rfl (.cons rfl .nil))))))
                      refine Ends.condT hA rfl ?_
                      refine Ends.seq ?_
                      refine Ends.region ?_
                      refine S.val hA (R.assign rfl) rfl ?_; clear hA a; intro a hA
                      refine S.done ?_
                      replace hA : St 72 [(0, _), (1, _), (4, _), (6, _), (9, _)] a := hA.sub ((.cons rfl (.cons rfl (.cons rfl (.cons rfl (.cons rfl .nil))))))
                      refine Ends.ret1 Tryd.func32 Tryd.results32 hA rfl ?_
                      have e0 := mw_not (by omega) (by omega) hs10
                      rw [dec_w, e0]
                      exact ⟨rfl, hM.nilL.below⟩
                  ·
                    refine Ends.region ?_
                    refine S.val hA (R.move rfl) rfl ?_; clear hA a; intro a hA
                    refine S.val hA (R.move rfl) rfl ?_; clear hA a; intro a hA
                    refine S.val hA (R.addI rfl rfl (r := ((p : Int)) + ((i : Int))) rfl (by omega)) rfl ?_; clear hA a; intro a hA
                    refine S.val hA (R.move rfl) rfl ?_; clear hA a; intro a hA
                    refine S.val hA (R.lenStr Tryd.underlying9 rfl rfl) rfl ?_; clear hA a; intro a hA
                    refine S.val hA (R.tt (R.geq rfl rfl) (by omega)) rfl ?_; clear hA a; intro a hA
                    refine S.val hA (R.move rfl) rfl ?_; clear hA a; intro a hA
                    refine S.no (dj := 53) hA (by kernel_rfl) rfl rfl rfl ?_; clear hA a; intro a hA
                    refine S.no (dj := 53) hA (by kernel_rfl) rfl rfl rfl ?_; clear hA a; intro a hA
                    refine S.no (dj := 53) hA (by kernel_rfl) rfl rfl rfl ?_; clear hA a; intro a hA
                    refine S.no (dj := 53) hA (by kernel_rfl) rfl rfl rfl ?_; clear hA a; intro a hA
                    refine S.no (dj := 53) hA (by kernel_rfl) rfl rfl rfl ?_; clear hA a; intro a hA
                    refine S.no (dj := 53) hA (by kernel_rfl) rfl rfl rfl ?_; clear hA a; intro a hA
                    refine S.no (dj := 53) hA (by kernel_rfl) rfl rfl rfl ?_; clear hA a; intro a hA
                    refine S.val hA (R.pickT rfl rfl) rfl ?_; clear hA a; intro a hA
                    refine S.val hA (R.move rfl) rfl ?_; clear hA a; intro a hA
                    refine S.no (dj := 62) hA (by kernel_rfl) rfl rfl rfl ?_; clear hA a; intro a hA
                    refine S.no (dj := 62) hA (by kernel_rfl) rfl rfl rfl ?_; clear hA a; intro a hA
                    refine S.no (dj := 62) hA (by kernel_rfl) rfl rfl rfl ?_; clear hA a; intro a hA
                    refine S.no (dj := 62) hA (by kernel_rfl) rfl rfl rfl ?_; clear hA a; intro a hA
                    refine S.no (dj := 62) hA (by kernel_rfl) rfl rfl rfl ?_; clear hA a; intro a hA
                    refine S.no (dj := 62) hA (by kernel_rfl) rfl rfl rfl ?_; clear hA a; intro a hA
                    refine S.no (dj := 62) hA (by kernel_rfl) rfl rfl rfl ?_; clear hA a; intro a hA
                    refine S.val hA (R.pickT rfl rfl) rfl ?_; clear hA a; intro a hA
                    refine S.done ?_
                    replace hA : St 72 [(0, _), (1, _), (6, _), (9, _), (70, _)] a := hA.sub ((.cons rfl (.cons rfl (.cons rfl (.cons rfl (.cons rfl .nil))))))
                    refine Ends.condT hA rfl ?_
                    refine Ends.seq ?_
                    refine Ends.region ?_
                    refine S.val hA (R.assign rfl) rfl ?_; clear hA a; intro a hA
                    refine S.done ?_
                    replace hA : St 72 [(0, _), (1, _), (4, _), (6, _), (9, _)] a := hA.sub ((.cons rfl (.cons rfl (.cons rfl (.cons rfl (.cons rfl .nil))))))
                    refine Ends.ret1 Tryd.func32 Tryd.results32 hA rfl ?_
                    have e0 := mw_not (by omega) (by omega) hs10
                    rw [dec_w, e0]
                    exact ⟨rfl, hM.nilL.below⟩
              ·
                rw [decide_eq_false hc9] at hA
                refine Ends.exit rfl ?_
                replace hA : St 72 [(6, _)] a := hA.sub ((.cons rfl .nil))
                refine Ends.seq ?_
                refine Ends.region ?_
                refine S.val hA (R.move rfl) rfl ?_; clear hA a; intro a hA
                refine S.val hA (R.assign rfl) rfl ?_; clear hA a; intro a hA
                refine S.done ?_
                replace hA : St 72 [(4, _)] a := hA.sub ((.cons rfl .nil))
                refine Ends.ret1 Tryd.func32 Tryd.results32 hA rfl ?_
                have e0 := mw_all (fun i2 h1 h2 => hall i2 h1 (by omega))
                rw [dec_w, e0, show (((cntB (byt s p) + 1 : Nat) : Int) - 1) = (cntB (byt s p) : Int) by omega, ← hn]
                exact ⟨rfl, hM.nilL.below⟩
            ·
              rw [decide_eq_false hc8] at hA
              refine Ends.skip ?_
              refine Ends.inBlock ?_
              refine Ends.seq ?_
              refine Ends.seq ?_
              refine Ends.region ?_
              refine S.val hA (R.assign rfl) rfl ?_; clear hA a; intro a hA
              refine S.done ?_
              replace hA : St 72 [(0, _), (1, _), (6, _), (7, _), (8, _), (9, _)] a := hA.sub ((.cons rfl (.cons rfl (.cons rfl (.cons rfl (.cons rfl (.cons rfl .nil)))))))
              refine Ends.block ?_
              have hn : ((2 : Int)) = (cntB (byt s p) : Int) := by unfold cntB; (repeat' split) <;> first | rfl | omega
              have hlo : loB (byt s p) = 160 ∨ cntB (byt s p) = 0 := by unfold loB cntB; (repeat' split) <;> first | (left; rfl) | (right; rfl) | omega
              have hhi : hiB (byt s p) = 191 ∨ cntB (byt s p) = 0 := by unfold hiB cntB; (repeat' split) <;> first | (left; rfl) | (right; rfl) | omega
              refine Ends.loop (σ := Nat) (fun i (a : Act) (wv : World) => St 72 [(0, .string s), (1, .int .i64 ((p : Int))), (6, .int .i64 2), (7, .int .u8 ((if i = 1 then 160 else 128))), (8, .int .u8 ((if i = 1 then 191 else 191))), (9, .int .i64 ((i : Int)))] a ∧ Mem w nof [] wv ∧ (1 ≤ i ∧ i ≤ cntB (byt s p) + 1) ∧ (∀ j, 1 ≤ j → j < i → okB s p j)) (fun i => cntB (byt s p) + 1 - i) 1 ⟨hA.sub ((.cons rfl (.cons rfl (.cons rfl (.cons rfl (.cons rfl (.cons rfl .nil))))))), hM, (by omega), (fun j h1 h2 => absurd h1 (by omega))⟩ ?_
              clear hA hM a
              rintro i a w5 ⟨hA, hM, hi, hall⟩ hNext
              refine Ends.seq ?_
              refine Ends.seq ?_
              refine Ends.region ?_
              refine S.val hA (R.move rfl) rfl ?_; clear hA a; intro a hA
              refine S.val hA (R.move rfl) rfl ?_; clear hA a; intro a hA
              refine S.val hA (R.leq rfl rfl) rfl ?_; clear hA a; intro a hA
              refine S.done ?_
              replace hA : St 72 [(0, _), (1, _), (6, _), (7, _), (8, _), (9, _), (44, _)] a := hA.sub ((.cons rfl (.cons rfl (.cons rfl (.cons rfl (.cons rfl (.cons rfl (.cons rfl .nil))))))))
              refine Ends.ite hA rfl (fun hc13 => ?_) (fun hc13 => ?_)
              ·
                rw [decide_eq_true hc13] at hA
                refine Ends.skip ?_
                refine Ends.seq ?_
                refine Ends.block ?_
                refine Ends.seq ?_
                refine Ends.seq ?_
                by_cases hs14 : okB s p i
                ·
                  have hk : p + i < s.size ∧ (if i = 1 then 160 else 128) ≤ byt s (p + i) ∧ byt s (p + i) ≤ (if i = 1 then 191 else 191) := by
                    have h0 := hs14
                    unfold okB cnt at h0
                    have hlo2 : loB (byt s p) = 160 := hlo.resolve_right (by omega)
                    have hhi2 : hiB (byt s p) = 191 := hhi.resolve_right (by omega)
                    rwa [hlo2, hhi2] at h0
                  obtain ⟨hk1, hk2, hk3⟩ := hk
                  refine Ends.region ?_
                  refine S.val hA (R.move rfl) rfl ?_; clear hA a; intro a hA
                  refine S.val hA (R.move rfl) rfl ?_; clear hA a; intro a hA
                  refine S.val hA (R.addI rfl rfl (r := ((p : Int)) + ((i : Int))) rfl (by omega)) rfl ?_; clear hA a; intro a hA
                  refine S.val hA (R.move rfl) rfl ?_; clear hA a; intro a hA
                  refine S.val hA (R.lenStr Tryd.underlying9 rfl rfl) rfl ?_; clear hA a; intro a hA
                  refine S.val hA (R.ff (R.geq rfl rfl) (by omega)) rfl ?_; clear hA a; intro a hA
                  refine S.val hA (R.move rfl) rfl ?_; clear hA a; intro a hA
                  refine S.valg (dj := 53) hA (by kernel_rfl) rfl (R.move rfl) rfl ?_; clear hA a; intro a hA
                  refine S.valg (dj := 53) hA (by kernel_rfl) rfl (R.move rfl) rfl ?_; clear hA a; intro a hA
                  refine S.valg (dj := 53) hA (by kernel_rfl) rfl (R.move rfl) rfl ?_; clear hA a; intro a hA
                  refine S.valg (dj := 53) hA (by kernel_rfl) rfl (R.addI rfl rfl (r := ((p : Int)) + ((i : Int))) rfl (by omega)) rfl ?_; clear hA a; intro a hA
                  refine S.valg (dj := 53) hA (by kernel_rfl) rfl (R.to (v := .int .u8 (byt s (p + i))) (R.idxS Tryd.underlying9 rfl rfl (by omega)) (by first | rfl | (congr 2; done) | (congr 2; omega))) rfl ?_; clear hA a; intro a hA
                  refine S.valg (dj := 53) hA (by kernel_rfl) rfl (R.move rfl) rfl ?_; clear hA a; intro a hA
                  refine S.valg (dj := 53) hA (by kernel_rfl) rfl (R.ff (R.lss rfl rfl) (Int.not_lt.2 hk2)) rfl ?_; clear hA a; intro a hA
                  refine S.val hA (R.pickF rfl rfl) rfl ?_; clear hA a; intro a hA
                  refine S.val hA (R.move rfl) rfl ?_; clear hA a; intro a hA
                  refine S.valg (dj := 62) hA (by kernel_rfl) rfl (R.move rfl) rfl ?_; clear hA a; intro a hA
                  refine S.valg (dj := 62) hA (by kernel_rfl) rfl (R.move rfl) rfl ?_; clear hA a; intro a hA
                  refine S.valg (dj := 62) hA (by kernel_rfl) rfl (R.move rfl) rfl ?_; clear hA a; intro a hA
                  refine S.valg (dj := 62) hA (by kernel_rfl) rfl (R.addI rfl rfl (r := ((p : Int)) + ((i : Int))) rfl (by omega)) rfl ?_; clear hA a; intro a hA
                  refine S.valg (dj := 62) hA (by kernel_rfl) rfl (R.to (v := .int .u8 (byt s (p + i))) (R.idxS Tryd.underlying9 rfl rfl (by omega)) (by first | rfl | (congr 2; done) | (congr 2; omega))) rfl ?_; clear hA a; intro a hA
                  refine S.valg (dj := 62) hA (by kernel_rfl) rfl (R.move rfl) rfl ?_; clear hA a; intro a hA
                  refine S.valg (dj := 62) hA (by kernel_rfl) rfl (R.ff (R.gtr rfl rfl) (Int.not_lt.2 hk3)) rfl ?_; clear hA a; intro a hA
                  refine S.val hA (R.pickF rfl rfl) rfl ?_; clear hA a; intro a hA
                  refine S.done ?_
                  replace hA : St 72 [(0, _), (1, _), (6, _), (9, _), (70, _)] a := hA.sub ((.cons rfl (.cons rfl (.cons rfl (.cons rfl (.cons rfl .nil))))))
                  refine Ends.condF hA rfl ?_
                  refine Ends.skip ?_
                  refine Ends.region ?_
                  refine S.val hA (R.to (v := .int .u8 (if i + 1 = 1 then 160 else 128)) (R.assign rfl) (congrArg (Value.int .u8) (by rw [if_neg (by omega)]))) rfl ?_; clear hA a; intro a hA
                  refine S.val hA (R.to (v := .int .u8 (if i + 1 = 1 then 191 else 191)) (R.assign rfl) (congrArg (Value.int .u8) (by rw [if_neg (by omega)]))) rfl ?_; clear hA a; intro a hA
                  refine S.done ?_
                  replace hA : St 72 [(0, _), (1, _), (6, _), (7, _), (8, _), (9, _)] a := hA.sub ((.cons rfl (.cons rfl (.cons rfl (.cons rfl (.cons rfl (.cons rfl .nil)))))))
                  refine Ends.inBlock ?_
                  refine Ends.region ?_
                  refine S.val hA (R.move rfl) rfl ?_; clear hA a; intro a hA
                  refine S.val hA (R.addI rfl rfl (r := ((i : Int)) + 1) rfl (by omega)) rfl ?_; clear hA a; intro a hA
                  refine S.val hA (R.assign rfl) rfl ?_; clear hA a; intro a hA
                  refine S.done ?_
                  replace hA : St 72 [(0, _), (1, _), (6, _), (7, _), (8, _), (9, _)] a := hA.sub ((.cons rfl (.cons rfl (.cons rfl (.cons rfl (.cons rfl (.cons rfl .nil)))))))
                  skip
                  exact hNext ((i + 1)) _ _ ((by show cntB (byt s p) + 1 - (i + 1) < cntB (byt s p) + 1 - i; omega)) ⟨hA.sub ((.cons rfl (.cons rfl (.cons rfl (.cons rfl (.cons rfl (.cons rfl .nil))))))), hM, (by omega), (fun j h1 h2 => by rcases Nat.lt_or_ge j i with g | g; exact hall j h1 g; have e : j = i := (by omega); exact e ▸ hs14)⟩
                ·
                  have hk : ¬ (p + i < s.size ∧ (if i = 1 then 160 else 128) ≤ byt s (p + i) ∧ byt s (p + i) ≤ (if i = 1 then 191 else 191)) := by
                    have h0 := hs14
                    unfold okB cnt at h0
                    have hlo2 : loB (byt s p) = 160 := hlo.resolve_right (by omega)
                    have hhi2 : hiB (byt s p) = 191 := hhi.resolve_right (by omega)
                    rwa [hlo2, hhi2] at h0
                  by_cases hs15 : p + i < s.size
                  ·
                    by_cases hs16 : byt s (p + i) < (if i = 1 then 160 else 128)
                    ·
                      refine Ends.region ?_
                      refine S.val hA (R.move rfl) rfl ?_; clear hA a; intro a hA
                      refine S.val hA (R.move rfl) rfl ?_; clear hA a; intro a hA
                      refine S.val hA (R.addI rfl rfl (r := ((p : Int)) + ((i : Int))) rfl (by omega)) rfl ?_; clear hA a; intro a hA
                      refine S.val hA (R.move rfl) rfl ?_; clear hA a; intro a hA
                      refine S.val hA (R.lenStr Tryd.underlying9 rfl rfl) rfl ?_; clear hA a; intro a hA
                      refine S.val hA (R.ff (R.geq rfl rfl) (by omega)) rfl ?_; clear hA a; intro a hA
                      refine S.val hA (R.move rfl) rfl ?_; clear hA a; intro a hA
                      refine S.valg (dj := 53) hA (by kernel_rfl) rfl (R.move rfl) rfl ?_; clear hA a; intro a hA
                      refine S.valg (dj := 53) hA (by kernel_rfl) rfl (R.move rfl) rfl ?_; clear hA a; intro a hA
                      refine S.valg (dj := 53) hA (by kernel_rfl) rfl (R.move rfl) rfl ?_; clear hA a; intro a hA
                      refine S.valg (dj := 53) hA (by kernel_rfl) rfl (R.addI rfl rfl (r := ((p : Int)) + ((i : Int))) rfl (by omega)) rfl ?_; clear hA a; intro a hA
                      refine S.valg (dj := 53) hA (by kernel_rfl) rfl (R.to (v := .int .u8 (byt s (p + i))) (R.idxS Tryd.underlying9 rfl rfl (by omega)) (by first | rfl | (congr 2; done) | (congr 2; omega))) rfl ?_; clear hA a; intro a hA
                      refine S.valg (dj := 53) hA (by kernel_rfl) rfl (R.move rfl) rfl ?_; clear hA a; intro a hA
                      refine S.valg (dj := 53) hA (by kernel_rfl) rfl (R.tt (R.lss rfl rfl) (hs16)) rfl ?_; clear hA a; intro a hA
                      refine S.val hA (R.pickF rfl rfl) rfl ?_; clear hA a; intro a hA
                      refine S.val hA (R.move rfl) rfl ?_; clear hA a; intro a hA
                      refine S.no (dj := 62) hA (by kernel_rfl) rfl rfl rfl ?_; clear hA a; intro a hA
                      refine S.no (dj := 62) hA (by kernel_rfl) rfl rfl rfl ?_; clear hA a; intro a hA
                      refine S.no (dj := 62) hA (by kernel_rfl) rfl rfl rfl ?_; clear hA a; intro a hA
                      refine S.no (dj := 62) hA (by kernel_rfl) rfl rfl rfl ?_; clear hA a; intro a hA
                      refine S.no (dj := 62) hA (by kernel_rfl) rfl rfl rfl ?_; clear hA a; intro a hA
                      refine S.no (dj := 62) hA (by kernel_rfl) rfl rfl rfl ?_; clear hA a; intro a hA
                      refine S.no (dj := 62) hA (by kernel_rfl) rfl rfl rfl ?_; clear hA a; intro a hA
                      refine S.val hA (R.pickT rfl rfl) rfl ?_; clear hA a; intro a hA
                      refine S.done ?_
                      replace hA : St 72 [(0, _), (1, _), (6, _), (9, _), (70, _)] a := hA.sub ((.cons rfl (.cons rfl (.cons rfl (.cons rfl (.cons rfl .nil))))))
                      refine Ends.condT hA rfl ?_
                      refine Ends.seq ?_
                      refine Ends.region ?_
                      refine S.val hA (R.assign rfl) rfl ?_; clear hA a; intro a hA
                      refine S.done ?_
                      replace hA : St 72 [(0, _), (1, _), (4, _), (6, _), (9, _)] a := hA.sub ((.cons rfl (.cons rfl (.cons rfl (.cons rfl (.cons rfl .nil))))))
                      refine Ends.ret1 Tryd.func32 Tryd.results32 hA rfl ?_
                      have e0 := mw_not (by omega) (by omega) hs14
                      rw [dec_w, e0]
                      exact ⟨rfl, hM.nilL.below⟩
                    ·
                      refine Ends.region ?_
                      refine S.val hA (R.move rfl) rfl ?_; clear hA a; intro a hA
                      refine S.val hA (R.move rfl) rfl ?_; clear hA a; intro a hA
                      refine S.val hA (R.addI rfl rfl (r := ((p : Int)) + ((i : Int))) rfl (by omega)) rfl ?_; clear hA a; intro a hA
                      refine S.val hA (R.move rfl) rfl ?_; clear hA a; intro a hA
                      refine S.val hA (R.lenStr Tryd.underlying9 rfl rfl) rfl ?_; clear hA a; intro a hA
                      refine S.val hA (R.ff (R.geq rfl rfl) (by omega)) rfl ?_; clear hA a; intro a hA
                      refine S.val hA (R.move rfl) rfl ?_; clear hA a; intro a hA
                      refine S.valg (dj := 53) hA (by kernel_rfl) rfl (R.move rfl) rfl ?_; clear hA a; intro a hA
                      refine S.valg (dj := 53) hA (by kernel_rfl) rfl (R.move rfl) rfl ?_; clear hA a; intro a hA
                      refine S.valg (dj := 53) hA (by kernel_rfl) rfl (R.move rfl) rfl ?_; clear hA a; intro a hA
                      refine S.valg (dj := 53) hA (by kernel_rfl) rfl (R.addI rfl rfl (r := ((p : Int)) + ((i : Int))) rfl (by omega)) rfl ?_; clear hA a; intro a hA
                      refine S.valg (dj := 53) hA (by kernel_rfl) rfl (R.to (v := .int .u8 (byt s (p + i))) (R.idxS Tryd.underlying9 rfl rfl (by omega)) (by first | rfl | (congr 2; done) | (congr 2; omega))) rfl ?_; clear hA a; intro a hA
                      refine S.valg (dj := 53) hA (by kernel_rfl) rfl (R.move rfl) rfl ?_; clear hA a; intro a hA
                      refine S.valg (dj := 53) hA (by kernel_rfl) rfl (R.ff (R.lss rfl rfl) (hs16)) rfl ?_; clear hA a; intro a hA
                      refine S.val hA (R.pickF rfl rfl) rfl ?_; clear hA a; intro a hA
                      refine S.val hA (R.move rfl) rfl ?_; clear hA a; intro a hA
                      refine S.valg (dj := 62) hA (by kernel_rfl) rfl (R.move rfl) rfl ?_; clear hA a; intro a hA
                      refine S.valg (dj := 62) hA (by kernel_rfl) rfl (R.move rfl) rfl ?_; clear hA a; intro a hA
                      refine S.valg (dj := 62) hA (by kernel_rfl) rfl (R.move rfl) rfl ?_; clear hA a; intro a hA
                      refine S.valg (dj := 62) hA (by kernel_rfl) rfl (R.addI rfl rfl (r := ((p : Int)) + ((i : Int))) rfl (by omega)) rfl ?_; clear hA a; intro a hA
                      refine S.valg (dj := 62) hA (by kernel_rfl) rfl (R.to (v := .int .u8 (byt s (p + i))) (R.idxS Tryd.underlying9 rfl rfl (by omega)) (by first | rfl | (congr 2; done) | (congr 2; omega))) rfl ?_; clear hA a; intro a hA
                      refine S.valg (dj := 62) hA (by kernel_rfl) rfl (R.move rfl) rfl ?_; clear hA a; intro a hA
                      refine S.valg (dj := 62) hA (by kernel_rfl) rfl (R.tt (R.gtr rfl rfl) (Int.not_le.1 (fun h9 => hk ⟨hs15, Int.not_lt.1 hs16, h9⟩))) rfl ?_; clear hA a; intro a hA
                      refine S.val hA (R.pickF rfl rfl) rfl ?_; clear hA a; intro a hA
                      refine S.done ?_
                      replace hA : St 72 [(0, _), (1, _), (6, _), (9, _), (70, _)] a := hA.sub ((.cons rfl (.cons rfl (.cons rfl (.cons rfl (.cons rfl .nil))))))
                      refine Ends.condT hA rfl ?_
                      refine Ends.seq ?_
                      refine Ends.region ?_
                      refine S.val hA (R.assign rfl) rfl ?_; clear hA a; intro a hA
                      refine S.done ?_
                      replace hA : St 72 [(0, _), (1, _), (4, _), (6, _), (9, _)] a := hA.sub ((.cons rfl (.cons rfl (.cons rfl (.cons rfl (.cons rfl .nil))))))
                      refine Ends.ret1 Tryd.func32 Tryd.results32 hA rfl ?_
                      have e0 := mw_not (by omega) (by omega) hs14
                      rw [dec_w, e0]
                      exact ⟨rfl, hM.nilL.below⟩
                  ·
                    refine Ends.region ?_
                    refine S.val hA (R.move rfl) rfl ?_; clear hA a; intro a hA
                    refine S.val hA (R.move rfl) rfl ?_; clear hA a; intro a hA
                    refine S.val hA (R.addI rfl rfl (r := ((p : Int)) + ((i : Int))) rfl (by omega)) rfl ?_; clear hA a; intro a hA
                    refine S.val hA (R.move rfl) rfl ?_; clear hA a; intro a hA
                    refine S.val hA (R.lenStr Tryd.underlying9 rfl rfl) rfl ?_; clear hA a; intro a hA
                    refine S.val hA (R.tt (R.geq rfl rfl) (by omega)) rfl ?_; clear hA a; intro a hA
                    refine S.val hA (R.move rfl) rfl ?_; clear hA a; intro a hA
                    refine S.no (dj := 53) hA (by kernel_rfl) rfl rfl rfl ?_; clear hA a; intro a hA
                    refine S.no (dj := 53) hA (by kernel_rfl) rfl rfl rfl ?_; clear hA a; intro a hA
                    refine S.no (dj := 53) hA (by kernel_rfl) rfl rfl rfl ?_; clear hA a; intro a hA
                    refine S.no (dj := 53) hA (by kernel_rfl) rfl rfl rfl ?_; clear hA a; intro a hA
                    refine S.no (dj := 53) hA (by kernel_rfl) rfl rfl rfl ?_; clear hA a; intro a hA
                    refine S.no (dj := 53) hA (by kernel_rfl) rfl rfl rfl ?_; clear hA a; intro a hA
                    refine S.no (dj := 53) hA (by kernel_rfl) rfl rfl rfl ?_; clear hA a; intro a hA
                    refine S.val hA (R.pickT rfl rfl) rfl ?_; clear hA a; intro a hA
                    refine S.val hA (R.move rfl) rfl ?_; clear hA a; intro a hA
                    refine S.no (dj := 62) hA (by kernel_rfl) rfl rfl rfl ?_; clear hA a; intro a hA
                    refine S.no (dj := 62) hA (by kernel_rfl) rfl rfl rfl ?_; clear hA a; intro a hA
                    refine S.no (dj := 62) hA (by kernel_rfl) rfl rfl rfl ?_; clear hA a; intro a hA
                    refine S.no (dj := 62) hA (by kernel_rfl) rfl rfl rfl ?_; clear hA a; intro a hA
                    refine S.no (dj := 62) hA (by kernel_rfl) rfl rfl rfl ?_; clear hA a; intro a hA
                    refine S.no (dj := 62) hA (by kernel_rfl) rfl rfl rfl ?_; clear hA a; intro a hA
                    refine S.no (dj := 62) hA (by kernel_rfl) rfl rfl rfl ?_; clear hA a; intro a hA
                    refine S.val hA (R.pickT rfl rfl) rfl ?_; clear hA a; intro a hA
                    refine S.done ?_
                    replace hA : St 72 [(0, _), (1, _), (6, _), (9, _), (70, _)] a := hA.sub ((.cons rfl (.cons rfl (.cons rfl (.cons rfl (.cons rfl .nil))))))
                    refine Ends.condT hA rfl ?_
                    refine Ends.seq ?_
                    refine Ends.region ?_
                    refine S.val hA (R.assign rfl) rfl ?_; clear hA a; intro a hA
                    refine S.done ?_
                    replace hA : St 72 [(0, _), (1, _), (4, _), (6, _), (9, _)] a := hA.sub ((.cons rfl (.cons rfl (.cons rfl (.cons rfl (.cons rfl .nil))))))
                    refine Ends.ret1 Tryd.func32 Tryd.results32 hA rfl ?_
                    have e0 := mw_not (by omega) (by omega) hs14
                    rw [dec_w, e0]
                    exact ⟨rfl, hM.nilL.below⟩
              ·
                rw [decide_eq_false hc13] at hA
                refine Ends.exit rfl ?_
                replace hA : St 72 [(6, _)] a := hA.sub ((.cons rfl .nil))
                refine Ends.seq ?_
                refine Ends.region ?_
                refine S.val hA (R.move rfl) rfl ?_; clear hA a; intro a hA
                refine S.val hA (R.assign rfl) rfl ?_; clear hA a; intro a hA
                refine S.done ?_
                replace hA : St 72 [(4, _)] a := hA.sub ((.cons rfl .nil))
                refine Ends.ret1 Tryd.func32 Tryd.results32 hA rfl ?_
                have e0 := mw_all (fun i2 h1 h2 => hall i2 h1 (by omega))
                rw [dec_w, e0, show (((cntB (byt s p) + 1 : Nat) : Int) - 1) = (cntB (byt s p) : Int) by omega, ← hn]
                exact ⟨rfl, hM.nilL.below⟩
          ·
            rw [decide_eq_false hc7] at hA
            refine Ends.skip ?_
            refine Ends.seq ?_
            refine Ends.region ?_
            refine S.val hA (R.move rfl) rfl ?_; clear hA a; intro a hA
            refine S.val hA (R.eql rfl rfl) rfl ?_; clear hA a; intro a hA
            refine S.done ?_
            replace hA : St 72 [(0, _), (1, _), (6, _), (7, _), (8, _), (30, _)] a := hA.sub ((.cons rfl (.cons rfl (.cons rfl (.cons rfl (.cons rfl (.cons rfl .nil)))))))
            refine Ends.ite hA rfl (fun hc17 => ?_) (fun hc17 => ?_)
            ·
              rw [decide_eq_true hc17] at hA
              refine Ends.region ?_
              refine S.val hA (R.assign rfl) rfl ?_; clear hA a; intro a hA
              refine S.done ?_
              replace hA : St 72 [(0, _), (1, _), (6, _), (7, _), (8, _)] a := hA.sub ((.cons rfl (.cons rfl (.cons rfl (.cons rfl (.cons rfl .nil))))))
              refine Ends.inBlock ?_
              refine Ends.seq ?_
              refine Ends.seq ?_
              refine Ends.region ?_
              refine S.val hA (R.assign rfl) rfl ?_; clear hA a; intro a hA
              refine S.done ?_
              replace hA : St 72 [(0, _), (1, _), (6, _), (7, _), (8, _), (9, _)] a := hA.sub ((.cons rfl (.cons rfl (.cons rfl (.cons rfl (.cons rfl (.cons rfl .nil)))))))
              refine Ends.block ?_
              have hn : ((2 : Int)) = (cntB (byt s p) : Int) := by unfold cntB; (repeat' split) <;> first | rfl | omega
              have hlo : loB (byt s p) = 128 ∨ cntB (byt s p) = 0 := by unfold loB cntB; (repeat' split) <;> first | (left; rfl) | (right; rfl) | omega
              have hhi : hiB (byt s p) = 159 ∨ cntB (byt s p) = 0 := by unfold hiB cntB; (repeat' split) <;> first | (left; rfl) | (right; rfl) | omega
              refine Ends.loop (σ := Nat) (fun i (a : Act) (wv : World) => St 72 [(0, .string s), (1, .int .i64 ((p : Int))), (6, .int .i64 2), (7, .int .u8 ((if i = 1 then 128 else 128))), (8, .int .u8 ((if i = 1 then 159 else 191))), (9, .int .i64 ((i : Int)))] a ∧ Mem w nof [] wv ∧ (1 ≤ i ∧ i ≤ cntB (byt s p) + 1) ∧ (∀ j, 1 ≤ j → j < i → okB s p j)) (fun i => cntB (byt s p) + 1 - i) 1 ⟨hA.sub ((.cons rfl (.cons rfl (.cons rfl (.cons rfl (.cons rfl (.cons rfl .nil))))))), hM, (by omega), (fun j h1 h2 => absurd h1 (by omega))⟩ ?_
              clear hA hM a
              rintro i a w6 ⟨hA, hM, hi, hall⟩ hNext
              refine Ends.seq ?_
              refine Ends.seq ?_
              refine Ends.region ?_
              refine S.val hA (R.move rfl) rfl ?_; clear hA a; intro a hA
              refine S.val hA (R.move rfl) rfl ?_; clear hA a; intro a hA
              refine S.val hA (R.leq rfl rfl) rfl ?_; clear hA a; intro a hA
              refine S.done ?_
              replace hA : St 72 [(0, _), (1, _), (6, _), (7, _), (8, _), (9, _), (44, _)] a := hA.sub ((.cons rfl (.cons rfl (.cons rfl (.cons rfl (.cons rfl (.cons rfl (.cons rfl .nil))))))))
              refine Ends.ite hA rfl (fun hc18 => ?_) (fun hc18 => ?_)
              ·
                rw [decide_eq_true hc18] at hA
                refine Ends.skip ?_
                refine Ends.seq ?_
                refine Ends.block ?_
                refine Ends.seq ?_
                refine Ends.seq ?_
                by_cases hs19 : okB s p i
                ·
                  have hk : p + i < s.size ∧ (if i = 1 then 128 else 128) ≤ byt s (p + i) ∧ byt s (p + i) ≤ (if i = 1 then 159 else 191) := by
                    have h0 := hs19
                    unfold okB cnt at h0
                    have hlo2 : loB (byt s p) = 128 := hlo.resolve_right (by omega)
                    have hhi2 : hiB (byt s p) = 159 := hhi.resolve_right (by omega)
                    rwa [hlo2, hhi2] at h0
                  obtain ⟨hk1, hk2, hk3⟩ := hk
                  refine Ends.region ?_
                  refine S.val hA (R.move rfl) rfl ?_; clear hA a; intro a hA
                  refine S.val hA (R.move rfl) rfl ?_; clear hA a; intro a hA
                  refine S.val hA (R.addI rfl rfl (r := ((p : Int)) + ((i : Int))) rfl (by omega)) rfl ?_; clear hA a; intro a hA
                  refine S.val hA (R.move rfl) rfl ?_; clear hA a; intro a hA
                  refine S.val hA (R.lenStr Tryd.underlying9 rfl rfl) rfl ?_; clear hA a; intro a hA
                  refine S.val hA (R.ff (R.geq rfl rfl) (by omega)) rfl ?_; clear hA a; intro a hA
                  refine S.val hA (R.move rfl) rfl ?_; clear hA a; intro a hA
                  refine S.valg (dj := 53) hA (by kernel_rfl) rfl (R.move rfl) rfl ?_; clear hA a; intro a hA
                  refine S.valg (dj := 53) hA (by kernel_rfl) rfl (R.move rfl) rfl ?_; clear hA a; intro a hA
                  refine S.valg (dj := 53) hA (by kernel_rfl) rfl (R.move rfl) rfl ?_; clear hA a; intro a hA
                  refine S.valg (dj := 53) hA (by kernel_rfl) rfl (R.addI rfl rfl (r := ((p : Int)) + ((i : Int))) rfl (by omega)) rfl ?_; clear hA a; intro a hA
                  refine S.valg (dj := 53) hA (by kernel_rfl) rfl (R.to (v := .int .u8 (byt s (p + i))) (R.idxS Tryd.underlying9 rfl rfl (by omega)) (by first | rfl | (congr 2; done) | (congr 2; omega))) rfl ?_; clear hA a; intro a hA
                  refine S.valg (dj := 53) hA (by kernel_rfl) rfl (R.move rfl) rfl ?_; clear hA a; intro a hA
                  refine S.valg (dj := 53) hA (by kernel_rfl) rfl (R.ff (R.lss rfl rfl) (Int.not_lt.2 hk2)) rfl ?_; clear hA a; intro a hA
                  refine S.val hA (R.pickF rfl rfl) rfl ?_; clear hA a; intro a hA
                  refine S.val hA (R.move rfl) rfl ?_; clear hA a; intro a hA
                  refine S.valg (dj := 62) hA (by kernel_rfl) rfl (R.move rfl) rfl ?_; clear hA a; intro a hA
                  refine S.valg (dj := 62) hA (by kernel_rfl) rfl (R.move rfl) rfl ?_; clear hA a; intro a hA
                  refine S.valg (dj := 62) hA (by kernel_rfl) rfl (R.move rfl) rfl ?_; clear hA a; intro a hA
                  refine S.valg (dj := 62) hA (by kernel_rfl) rfl (R.addI rfl rfl (r := ((p : Int)) + ((i : Int))) rfl (by omega)) rfl ?_; clear hA a; intro a hA
                  refine S.valg (dj := 62) hA (by kernel_rfl) rfl (R.to (v := .int .u8 (byt s (p + i))) (R.idxS Tryd.underlying9 rfl rfl (by omega)) (by first | rfl | (congr 2; done) | (congr 2; omega))) rfl ?_; clear hA a; intro a hA
                  refine S.valg (dj := 62) hA (by kernel_rfl) rfl (R.move rfl) rfl ?_; clear hA a; intro a hA
                  refine S.valg (dj := 62) hA (by kernel_rfl) rfl (R.ff (R.gtr rfl rfl) (Int.not_lt.2 hk3)) rfl ?_; clear hA a; intro a hA
                  refine S.val hA (R.pickF rfl rfl) rfl ?_; clear hA a; intro a hA
                  refine S.done ?_
                  replace hA : St 72 [(0, _), (1, _), (6, _), (9, _), (70, _)] a := hA.sub ((.cons rfl (.cons rfl (.cons rfl (.cons rfl (.cons rfl .nil))))))
                  refine Ends.condF hA rfl ?_
                  refine Ends.skip ?_
                  refine Ends.region ?_
                  refine S.val hA (R.to (v := .int .u8 (if i + 1 = 1 then 128 else 128)) (R.assign rfl) (congrArg (Value.int .u8) (by rw [if_neg (by omega)]))) rfl ?_; clear hA a; intro a hA
                  refine S.val hA (R.to (v := .int .u8 (if i + 1 = 1 then 159 else 191)) (R.assign rfl) (congrArg (Value.int .u8) (by rw [if_neg (by omega)]))) rfl ?_; clear hA a; intro a hA
                  refine S.done ?_
                  replace hA : St 72 [(0, _), (1, _), (6, _), (7, _), (8, _), (9, _)] a := hA.sub ((.cons rfl (.cons rfl (.cons rfl (.cons rfl (.cons rfl (.cons rfl .nil)))))))
                  refine Ends.inBlock ?_
                  refine Ends.region ?_
                  refine S.val hA (R.move rfl) rfl ?_; clear hA a; intro a hA
                  refine S.val hA (R.addI rfl rfl (r := ((i : Int)) + 1) rfl (by omega)) rfl ?_; clear hA a; intro a hA
                  refine S.val hA (R.assign rfl) rfl ?_; clear hA a; intro a hA
                  refine S.done ?_
                  replace hA : St 72 [(0, _), (1, _), (6, _), (7, _), (8, _), (9, _)] a := hA.sub ((.cons rfl (.cons rfl (.cons rfl (.cons rfl (.cons rfl (.cons rfl .nil)))))))
                  skip
                  exact hNext ((i + 1)) _ _ ((by show cntB (byt s p) + 1 - (i + 1) < cntB (byt s p) + 1 - i; omega)) ⟨hA.sub ((.cons rfl (.cons rfl (.cons rfl (.cons rfl (.cons rfl (.cons rfl .nil))))))), hM, (by omega), (fun j h1 h2 => by rcases Nat.lt_or_ge j i with g | g; exact hall j h1 g; have e : j = i := (by omega); exact e ▸ hs19)⟩
                ·
                  have hk : ¬ (p + i < s.size ∧ (if i = 1 then 128 else 128) ≤ byt s (p + i) ∧ byt s (p + i) ≤ (if i = 1 then 159 else 191)) := by
                    have h0 := hs19
                    unfold okB cnt at h0
                    have hlo2 : loB (byt s p) = 128 := hlo.resolve_right (by omega)
                    have hhi2 : hiB (byt s p) = 159 := hhi.resolve_right (by omega)
                    rwa [hlo2, hhi2] at h0
                  by_cases hs20 : p + i < s.size
                  ·
                    by_cases hs21 : byt s (p + i) < (if i = 1 then 128 else 128)
                    ·
                      refine Ends.region ?_
                      refine S.val hA (R.move rfl) rfl ?_; clear hA a; intro a hA
                      refine S.val hA (R.move rfl) rfl ?_; clear hA a; intro a hA
                      refine S.val hA (R.addI rfl rfl (r := ((p : Int)) + ((i : Int))) rfl (by omega)) rfl ?_; clear hA a; intro a hA
                      refine S.val hA (R.move rfl) rfl ?_; clear hA a; intro a hA
                      refine S.val hA (R.lenStr Tryd.underlying9 rfl rfl) rfl ?_; clear hA a; intro a hA
                      refine S.val hA (R.ff (R.geq rfl rfl) (by omega)) rfl ?_; clear hA a; intro a hA
                      refine S.val hA (R.move rfl) rfl ?_; clear hA a; intro a hA
                      refine S.valg (dj := 53) hA (by kernel_rfl) rfl (R.move rfl) rfl ?_; clear hA a; intro a hA
                      refine S.valg (dj := 53) hA (by kernel_rfl) rfl (R.move rfl) rfl ?_; clear hA a; intro a hA
                      refine S.valg (dj := 53) hA (by kernel_rfl) rfl (R.move rfl) rfl ?_; clear hA a; intro a hA
                      refine S.valg (dj := 53) hA (by kernel_rfl) rfl (R.addI rfl rfl (r := ((p : Int)) + ((i : Int))) rfl (by omega)) rfl ?_; clear hA a; intro a hA
                      refine S.valg (dj := 53) hA (by kernel_rfl) rfl (R.to (v := .int .u8 (byt s (p + i))) (R.idxS Tryd.underlying9 rfl rfl (by omega)) (by first | rfl | (congr 2; done) | (congr 2; omega))) rfl ?_; clear hA a; intro a hA
                      refine S.valg (dj := 53) hA (by kernel_rfl) rfl (R.move rfl) rfl ?_; clear hA a; intro a hA
                      refine S.valg (dj := 53) hA (by kernel_rfl) rfl (R.tt (R.lss rfl rfl) (hs21)) rfl ?_; clear hA a; intro a hA
                      refine S.val hA (R.pickF rfl rfl) rfl ?_; clear hA a; intro a hA
                      refine S.val hA (R.move rfl) rfl ?_; clear hA a; intro a hA
                      refine S.no (dj := 62) hA (by kernel_rfl) rfl rfl rfl ?_; clear hA a; intro a hA
                      refine S.no (dj := 62) hA (by kernel_rfl) rfl rfl rfl ?_; clear hA a; intro a hA
                      refine S.no (dj := 62) hA (by kernel_rfl) rfl rfl rfl ?_; clear hA a; intro a hA
                      refine S.no (dj := 62) hA (by kernel_rfl) rfl rfl rfl ?_; clear hA a; intro a hA
                      refine S.no (dj := 62) hA (by kernel_rfl) rfl rfl rfl ?_; clear hA a; intro a hA
                      refine S.no (dj := 62) hA (by kernel_rfl) rfl rfl rfl ?_; clear hA a; intro a hA
                      refine S.no (dj := 62) hA (by kernel_rfl) rfl rfl rfl ?_; clear hA a; intro a hA
                      refine S.val hA (R.pickT rfl rfl) rfl ?_; clear hA a; intro a hA
                      refine S.done ?_
                      replace hA : St 72 [(0, _), (1, _), (6, _), (9, _), (70, _)] a := hA.sub ((.cons rfl (.cons rfl (.cons rfl (.cons rfl (.cons rfl .nil))))))
                      refine Ends.condT hA rfl ?_
                      refine Ends.seq ?_
                      refine Ends.region ?_
                      refine S.val hA (R.assign rfl) rfl ?_; clear hA a; intro a hA
                      refine S.done ?_
                      replace hA : St 72 [(0, _), (1, _), (4, _), (6, _), (9, _)] a := hA.sub ((.cons rfl (.cons rfl (.cons rfl (.cons rfl (.cons rfl .nil))))))
                      refine Ends.ret1 Tryd.func32 Tryd.results32 hA rfl ?_
                      have e0 := mw_not (by omega) (by omega) hs19
                      rw [dec_w, e0]
                      exact ⟨rfl, hM.nilL.below⟩
                    ·
                      refine Ends.region ?_
                      refine S.val hA (R.move rfl) rfl ?_; clear hA a; intro a hA
                      refine S.val hA (R.move rfl) rfl ?_; clear hA a; intro a hA
                      refine S.val hA (R.addI rfl rfl (r := ((p : Int)) + ((i : Int))) rfl (by omega)) rfl ?_; clear hA a; intro a hA
                      refine S.val hA (R.move rfl) rfl ?_; clear hA a; intro a hA
                      refine S.val hA (R.lenStr Tryd.underlying9 rfl rfl) rfl ?_; clear hA a; intro a hA
                      refine S.val hA (R.ff (R.geq rfl rfl) (by omega)) rfl ?_; clear hA a; intro a hA
                      refine S.val hA (R.move rfl) rfl ?_; clear hA a; intro a hA
                      refine S.valg (dj := 53) hA (by kernel_rfl) rfl (R.move rfl) rfl ?_; clear hA a; intro a hA
                      refine S.valg (dj := 53) hA (by kernel_rfl) rfl (R.move rfl) rfl ?_; clear hA a; intro a hA
                      refine S.valg (dj := 53) hA (by kernel_rfl) rfl (R.move rfl) rfl ?_; clear hA a; intro a hA
                      refine S.valg (dj := 53) hA (by kernel_rfl) rfl (R.addI rfl rfl (r := ((p : Int)) + ((i : Int))) rfl (by omega)) rfl ?_; clear hA a; intro a hA
                      refine S.valg (dj := 53) hA (by kernel_rfl) rfl (R.to (v := .int .u8 (byt s (p + i))) (R.idxS Tryd.underlying9 rfl rfl (by omega)) (by first | rfl | (congr 2; done) | (congr 2; omega))) rfl ?_; clear hA a; intro a hA
                      refine S.valg (dj := 53) hA (by kernel_rfl) rfl (R.move rfl) rfl ?_; clear hA a; intro a hA
                      refine S.valg (dj := 53) hA (by kernel_rfl) rfl (R.ff (R.lss rfl rfl) (hs21)) rfl ?_; clear hA a; intro a hA
                      refine S.val hA (R.pickF rfl rfl) rfl ?_; clear hA a; intro a hA
                      refine S.val hA (R.move rfl) rfl ?_; clear hA a; intro a hA
                      refine S.valg (dj := 62) hA (by kernel_rfl) rfl (R.move rfl) rfl ?_; clear hA a; intro a hA
                      refine S.valg (dj := 62) hA (by kernel_rfl) rfl (R.move rfl) rfl ?_; clear hA a; intro a hA
                      refine S.valg (dj := 62) hA (by kernel_rfl) rfl (R.move rfl) rfl ?_; clear hA a; intro a hA
                      refine S.valg (dj := 62) hA (by kernel_rfl) rfl (R.addI rfl rfl (r := ((p : Int)) + ((i : Int))) rfl (by omega)) rfl ?_; clear hA a; intro a hA
                      refine S.valg (dj := 62) hA (by kernel_rfl) rfl (R.to (v := .int .u8 (byt s (p + i))) (R.idxS Tryd.underlying9 rfl rfl (by omega)) (by first | rfl | (congr 2; done) | (congr 2; omega))) rfl ?_; clear hA a; intro a hA
                      refine S.valg (dj := 62) hA (by kernel_rfl) rfl (R.move rfl) rfl ?_; clear hA a; intro a hA
                      refine S.valg (dj := 62) hA (by kernel_rfl) rfl (R.tt (R.gtr rfl rfl) (Int.not_le.1 (fun h9 => hk ⟨hs20, Int.not_lt.1 hs21, h9⟩))) rfl ?_; clear hA a; intro a hA
                      refine S.val hA (R.pickF rfl rfl) rfl ?_; clear hA a; intro a hA
                      refine S.done ?_
                      replace hA : St 72 [(0, _), (1, _), (6, _), (9, _), (70, _)] a := hA.sub ((.cons rfl (.cons rfl (.cons rfl (.cons rfl (.cons rfl .nil))))))
                      refine Ends.condT hA rfl ?_
                      refine Ends.seq ?_
                      refine Ends.region ?_
                      refine S.val hA (R.assign rfl) rfl ?_; clear hA a; intro a hA
                      refine S.done ?_
                      replace hA : St 72 [(0, _), (1, _), (4, _), (6, _), (9, _)] a := hA.sub ((.cons rfl (.cons rfl (.cons rfl (.cons rfl (.cons rfl .nil))))))
                      refine Ends.ret1 Tryd.func32 Tryd.results32 hA rfl ?_
                      have e0 := mw_not (by omega) (by omega) hs19
                      rw [dec_w, e0]
                      exact ⟨rfl, hM.nilL.below⟩
                  ·
                    refine Ends.region ?_
                    refine S.val hA (R.move rfl) rfl ?_; clear hA a; intro a hA
                    refine S.val hA (R.move rfl) rfl ?_; clear hA a; intro a hA
                    refine S.val hA (R.addI rfl rfl (r := ((p : Int)) + ((i : Int))) rfl (by omega)) rfl ?_; clear hA a; intro a hA
                    refine S.val hA (R.move rfl) rfl ?_; clear hA a; intro a hA
                    refine S.val hA (R.lenStr Tryd.underlying9 rfl rfl) rfl ?_; clear hA a; intro a hA
                    refine S.val hA (R.tt (R.geq rfl rfl) (by omega)) rfl ?_; clear hA a; intro a hA
                    refine S.val hA (R.move rfl) rfl ?_; clear hA a; intro a hA
                    refine S.no (dj := 53) hA (by kernel_rfl) rfl rfl rfl ?_; clear hA a; intro a hA
                    refine S.no (dj := 53) hA (by kernel_rfl) rfl rfl rfl ?_; clear hA a; intro a hA
                    refine S.no (dj := 53) hA (by kernel_rfl) rfl rfl rfl ?_; clear hA a; intro a hA
                    refine S.no (dj := 53) hA (by kernel_rfl) rfl rfl rfl ?_; clear hA a; intro a hA
                    refine S.no (dj := 53) hA (by kernel_rfl) rfl rfl rfl ?_; clear hA a; intro a hA
                    refine S.no (dj := 53) hA (by kernel_rfl) rfl rfl rfl ?_; clear hA a; intro a hA
                    refine S.no (dj := 53) hA (by kernel_rfl) rfl rfl rfl ?_; clear hA a; intro a hA
                    refine S.val hA (R.pickT rfl rfl) rfl ?_; clear hA a; intro a hA
                    refine S.val hA (R.move rfl) rfl ?_; clear hA a; intro a hA
                    refine S.no (dj := 62) hA (by kernel_rfl) rfl rfl rfl ?_; clear hA a; intro a hA
                    refine S.no (dj := 62) hA (by kernel_rfl) rfl rfl rfl ?_; clear hA a; intro a hA
                    refine S.no (dj := 62) hA (by kernel_rfl) rfl rfl rfl ?_; clear hA a; intro a hA
                    refine S.no (dj := 62) hA (by kernel_rfl) rfl rfl rfl ?_; clear hA a; intro a hA
                    refine S.no (dj := 62) hA (by kernel_rfl) rfl rfl rfl ?_; clear hA a; intro a hA
                    refine S.no (dj := 62) hA (by kernel_rfl) rfl rfl rfl ?_; clear hA a; intro a hA
                    refine S.no (dj := 62) hA (by kernel_rfl) rfl rfl rfl ?_; clear hA a; intro a hA
                    refine S.val hA (R.pickT rfl rfl) rfl ?_; clear hA a; intro a hA
                    refine S.done ?_
                    replace hA : St 72 [(0, _), (1, _), (6, _), (9, _), (70, _)] a := hA.sub ((.cons rfl (.cons rfl (.cons rfl (.cons rfl (.cons rfl .nil))))))
                    refine Ends.condT hA rfl ?_
                    refine Ends.seq ?_
                    refine Ends.region ?_
                    refine S.val hA (R.assign rfl) rfl ?_; clear hA a; intro a hA
                    refine S.done ?_
                    replace hA : St 72 [(0, _), (1, _), (4, _), (6, _), (9, _)] a := hA.sub ((.cons rfl (.cons rfl (.cons rfl (.cons rfl (.cons rfl .nil))))))
                    refine Ends.ret1 Tryd.func32 Tryd.results32 hA rfl ?_
                    have e0 := mw_not (by omega) (by omega) hs19
                    rw [dec_w, e0]
                    exact ⟨rfl, hM.nilL.below⟩
              ·
                rw [decide_eq_false hc18] at hA
                refine Ends.exit rfl ?_
                replace hA : St 72 [(6, _)] a := hA.sub ((.cons rfl .nil))
                refine Ends.seq ?_
                refine Ends.region ?_
                refine S.val hA (R.move rfl) rfl ?_; clear hA a; intro a hA
                refine S.val hA (R.assign rfl) rfl ?_; clear hA a; intro a hA
                refine S.done ?_
                replace hA : St 72 [(4, _)] a := hA.sub ((.cons rfl .nil))
                refine Ends.ret1 Tryd.func32 Tryd.results32 hA rfl ?_
                have e0 := mw_all (fun i2 h1 h2 => hall i2 h1 (by omega))
                rw [dec_w, e0, show (((cntB (byt s p) + 1 : Nat) : Int) - 1) = (cntB (byt s p) : Int) by omega, ← hn]
                exact ⟨rfl, hM.nilL.below⟩
            ·
              rw [decide_eq_false hc17] at hA
              refine Ends.skip ?_
              refine Ends.inBlock ?_
              refine Ends.seq ?_
              refine Ends.seq ?_
              refine Ends.region ?_
              refine S.val hA (R.assign rfl) rfl ?_; clear hA a; intro a hA
              refine S.done ?_
              replace hA : St 72 [(0, _), (1, _), (6, _), (7, _), (8, _), (9, _)] a := hA.sub ((.cons rfl (.cons rfl (.cons rfl (.cons rfl (.cons rfl (.cons rfl .nil)))))))
              refine Ends.block ?_
              have hn : ((2 : Int)) = (cntB (byt s p) : Int) := by unfold cntB; (repeat' split) <;> first | rfl | omega
              have hlo : loB (byt s p) = 128 ∨ cntB (byt s p) = 0 := by unfold loB cntB; (repeat' split) <;> first | (left; rfl) | (right; rfl) | omega
              have hhi : hiB (byt s p) = 191 ∨ cntB (byt s p) = 0 := by unfold hiB cntB; (repeat' split) <;> first | (left; rfl) | (right; rfl) | omega
              refine Ends.loop (σ := Nat) (fun i (a : Act) (wv : World) => St 72 [(0, .string s), (1, .int .i64 ((p : Int))), (6, .int .i64 2), (7, .int .u8 ((if i = 1 then 128 else 128))), (8, .int .u8 ((if i = 1 then 191 else 191))), (9, .int .i64 ((i : Int)))] a ∧ Mem w nof [] wv ∧ (1 ≤ i ∧ i ≤ cntB (byt s p) + 1) ∧ (∀ j, 1 ≤ j → j < i → okB s p j)) (fun i => cntB (byt s p) + 1 - i) 1 ⟨hA.sub ((.cons rfl (.cons rfl (.cons rfl (.cons rfl (.cons rfl (.cons rfl .nil))))))), hM, (by omega), (fun j h1 h2 => absurd h1 (by omega))⟩ ?_
              clear hA hM a
              rintro i a w7 ⟨hA, hM, hi, hall⟩ hNext
              refine Ends.seq ?_
              refine Ends.seq ?_
              refine Ends.region ?_
              refine S.val hA (R.move rfl) rfl ?_; clear hA a; intro a hA
              refine S.val hA (R.move rfl) rfl ?_; clear hA a; intro a hA
              refine S.val hA (R.leq rfl rfl) rfl ?_; clear hA a; intro a hA
              refine S.done ?_
              replace hA : St 72 [(0, _), (1, _), (6, _), (7, _), (8, _), (9, _), (44, _)] a := hA.sub ((.cons rfl (.cons rfl (.cons rfl (.cons rfl (.cons rfl (.cons rfl (.cons rfl .nil))))))))
              refine Ends.ite hA rfl (fun hc22 => ?_) (fun hc22 => ?_)
              ·
                rw [decide_eq_true hc22] at hA
                refine Ends.skip ?_
                refine Ends.seq ?_
                refine Ends.block ?_
                refine Ends.seq ?_
                refine Ends.seq ?_
                by_cases hs23 : okB s p i
                ·
                  have hk : p + i < s.size ∧ (if i = 1 then 128 else 128) ≤ byt s (p + i) ∧ byt s (p + i) ≤ (if i = 1 then 191 else 191) := by
                    have h0 := hs23
                    unfold okB cnt at h0
                    have hlo2 : loB (byt s p) = 128 := hlo.resolve_right (by omega)
                    have hhi2 : hiB (byt s p) = 191 := hhi.resolve_right (by omega)
                    rwa [hlo2, hhi2] at h0
                  obtain ⟨hk1, hk2, hk3⟩ := hk
                  refine Ends.region ?_
                  refine S.val hA (R.move rfl) rfl ?_; clear hA a; intro a hA
                  refine S.val hA (R.move rfl) rfl ?_; clear hA a; intro a hA
                  refine S.val hA (R.addI rfl rfl (r := ((p : Int)) + ((i : Int))) rfl (by omega)) rfl ?_; clear hA a; intro a hA
                  refine S.val hA (R.move rfl) rfl ?_; clear hA a; intro a hA
                  refine S.val hA (R.lenStr Tryd.underlying9 rfl rfl) rfl ?_; clear hA a; intro a hA
                  refine S.val hA (R.ff (R.geq rfl rfl) (by omega)) rfl ?_; clear hA a; intro a hA
                  refine S.val hA (R.move rfl) rfl ?_; clear hA a; intro a hA
                  refine S.valg (dj := 53) hA (by kernel_rfl) rfl (R.move rfl) rfl ?_; clear hA a; intro a hA
                  refine S.valg (dj := 53) hA (by kernel_rfl) rfl (R.move rfl) rfl ?_; clear hA a; intro a hA
                  refine S.valg (dj := 53) hA (by kernel_rfl) rfl (R.move rfl) rfl ?_; clear hA a; intro a hA
                  refine S.valg (dj := 53) hA (by kernel_rfl) rfl (R.addI rfl rfl (r := ((p : Int)) + ((i : Int))) rfl (by omega)) rfl ?_; clear hA a; intro a hA
                  refine S.valg (dj := 53) hA (by kernel_rfl) rfl (R.to (v := .int .u8 (byt s (p + i))) (R.idxS Tryd.underlying9 rfl rfl (by omega)) (by first | rfl | (congr 2; done) | (congr 2; omega))) rfl ?_; clear hA a; intro a hA
                  refine S.valg (dj := 53) hA (by kernel_rfl) rfl (R.move rfl) rfl ?_; clear hA a; intro a hA
                  refine S.valg (dj := 53) hA (by kernel_rfl) rfl (R.ff (R.lss rfl rfl) (Int.not_lt.2 hk2)) rfl ?_; clear hA a; intro a hA
                  refine S.val hA (R.pickF rfl rfl) rfl ?_; clear hA a; intro a hA
                  refine S.val hA (R.move rfl) rfl ?_; clear hA a; intro a hA
                  refine S.valg (dj := 62) hA (by kernel_rfl) rfl (R.move rfl) rfl ?_; clear hA a; intro a hA
                  refine S.valg (dj := 62) hA (by kernel_rfl) rfl (R.move rfl) rfl ?_; clear hA a; intro a hA
                  refine S.valg (dj := 62) hA (by kernel_rfl) rfl (R.move rfl) rfl ?_; clear hA a; intro a hA
                  refine S.valg (dj := 62) hA (by kernel_rfl) rfl (R.addI rfl rfl (r := ((p : Int)) + ((i : Int))) rfl (by omega)) rfl ?_; clear hA a; intro a hA
                  refine S.valg (dj := 62) hA (by kernel_rfl) rfl (R.to (v := .int .u8 (byt s (p + i))) (R.idxS Tryd.underlying9 rfl rfl (by omega)) (by first | rfl | (congr 2; done) | (congr 2; omega))) rfl ?_; clear hA a; intro a hA
                  refine S.valg (dj := 62) hA (by kernel_rfl) rfl (R.move rfl) rfl ?_; clear hA a; intro a hA
                  refine S.valg (dj := 62) hA (by kernel_rfl) rfl (R.ff (R.gtr rfl rfl) (Int.not_lt.2 hk3)) rfl ?_; clear hA a; intro a hA
                  refine S.val hA (R.pickF rfl rfl) rfl ?_; clear hA a; intro a hA
                  refine S.done ?_
                  replace hA : St 72 [(0, _), (1, _), (6, _), (9, _), (70, _)] a := hA.sub ((.cons rfl (.cons rfl (.cons rfl (.cons rfl (.cons rfl .nil))))))
                  refine Ends.condF hA rfl ?_
                  refine Ends.skip ?_
                  refine Ends.region ?_
                  refine S.val hA (R.to (v := .int .u8 (if i + 1 = 1 then 128 else 128)) (R.assign rfl) (congrArg (Value.int .u8) (by rw [if_neg (by omega)]))) rfl ?_; clear hA a; intro a hA
                  refine S.val hA (R.to (v := .int .u8 (if i + 1 = 1 then 191 else 191)) (R.assign rfl) (congrArg (Value.int .u8) (by rw [if_neg (by omega)]))) rfl ?_; clear hA a; intro a hA
                  refine S.done ?_
                  replace hA : St 72 [(0, _), (1, _), (6, _), (7, _), (8, _), (9, _)] a := hA.sub ((.cons rfl (.cons rfl (.cons rfl (.cons rfl (.cons rfl (.cons rfl .nil)))))))
                  refine Ends.inBlock ?_
                  refine Ends.region ?_
                  refine S.val hA (R.move rfl) rfl ?_; clear hA a; intro a hA
                  refine S.val hA (R.addI rfl rfl (r := ((i : Int)) + 1) rfl (by omega)) rfl ?_; clear hA a; intro a hA
                  refine S.val hA (R.assign rfl) rfl ?_; clear hA a; intro a hA
                  refine S.done ?_
                  replace hA : St 72 [(0, _), (1, _), (6, _), (7, _), (8, _), (9, _)] a := hA.sub ((.cons rfl (.cons rfl (.cons rfl (.cons rfl (.cons rfl (.cons rfl .nil)))))))
                  skip
                  exact hNext ((i + 1)) _ _ ((by show cntB (byt s p) + 1 - (i + 1) < cntB (byt s p) + 1 - i; omega)) ⟨hA.sub ((.cons rfl (.cons rfl (.cons rfl (.cons rfl (.cons rfl (.cons rfl .nil))))))), hM, (by omega), (fun j h1 h2 => by rcases Nat.lt_or_ge j i with g | g; exact hall j h1 g; have e : j = i := (by omega); exact e ▸ hs23)⟩
                ·
                  have hk : ¬ (p + i < s.size ∧ (if i = 1 then 128 else 128) ≤ byt s (p + i) ∧ byt s (p + i) ≤ (if i = 1 then 191 else 191)) := by
                    have h0 := hs23
                    unfold okB cnt at h0
                    have hlo2 : loB (byt s p) = 128 := hlo.resolve_right (by omega)
                    have hhi2 : hiB (byt s p) = 191 := hhi.resolve_right (by omega)
                    rwa [hlo2, hhi2] at h0
                  by_cases hs24 : p + i < s.size
                  ·
                    by_cases hs25 : byt s (p + i) < (if i = 1 then 128 else 128)
                    ·
                      refine Ends.region ?_
                      refine S.val hA (R.move rfl) rfl ?_; clear hA a; intro a hA
                      refine S.val hA (R.move rfl) rfl ?_; clear hA a; intro a hA
                      refine S.val hA (R.addI rfl rfl (r := ((p : Int)) + ((i : Int))) rfl (by omega)) rfl ?_; clear hA a; intro a hA
                      refine S.val hA (R.move rfl) rfl ?_; clear hA a; intro a hA
                      refine S.val hA (R.lenStr Tryd.underlying9 rfl rfl) rfl ?_; clear hA a; intro a hA
                      refine S.val hA (R.ff (R.geq rfl rfl) (by omega)) rfl ?_; clear hA a; intro a hA
                      refine S.val hA (R.move rfl) rfl ?_; clear hA a; intro a hA
                      refine S.valg (dj := 53) hA (by kernel_rfl) rfl (R.move rfl) rfl ?_; clear hA a; intro a hA
                      refine S.valg (dj := 53) hA (by kernel_rfl) rfl (R.move rfl) rfl ?_; clear hA a; intro a hA
                      refine S.valg (dj := 53) hA (by kernel_rfl) rfl (R.move rfl) rfl ?_; clear hA a; intro a hA
                      refine S.valg (dj := 53) hA (by kernel_rfl) rfl (R.addI rfl rfl (r := ((p : Int)) + ((i : Int))) rfl (by omega)) rfl ?_; clear hA a; intro a hA
                      refine S.valg (dj := 53) hA (by kernel_rfl) rfl (R.to (v := .int .u8 (byt s (p + i))) (R.idxS Tryd.underlying9 rfl rfl (by omega)) (by first | rfl | (congr 2; done) | (congr 2; omega))) rfl ?_; clear hA a; intro a hA
                      refine S.valg (dj := 53) hA (by kernel_rfl) rfl (R.move rfl) rfl ?_; clear hA a; intro a hA
                      refine S.valg (dj := 53) hA (by kernel_rfl) rfl (R.tt (R.lss rfl rfl) (hs25)) rfl ?_; clear hA a; intro a hA
                      refine S.val hA (R.pickF rfl rfl) rfl ?_; clear hA a; intro a hA
                      refine S.val hA (R.move rfl) rfl ?_; clear hA a; intro a hA
                      refine S.no (dj := 62) hA (by kernel_rfl) rfl rfl rfl ?_; clear hA a; intro a hA
                      refine S.no (dj := 62) hA (by kernel_rfl) rfl rfl rfl ?_; clear hA a; intro a hA
                      refine S.no (dj := 62) hA (by kernel_rfl) rfl rfl rfl ?_; clear hA a; intro a hA
                      refine S.no (dj := 62) hA (by kernel_rfl) rfl rfl rfl ?_; clear hA a; intro a hA
                      refine S.no (dj := 62) hA (by kernel_rfl) rfl rfl rfl ?_; clear hA a; intro a hA
                      refine S.no (dj := 62) hA (by kernel_rfl) rfl rfl rfl ?_; clear hA a; intro a hA
                      refine S.no (dj := 62) hA (by kernel_rfl) rfl rfl rfl ?_; clear hA a; intro a hA
                      refine S.val hA (R.pickT rfl rfl) rfl ?_; clear hA a; intro a hA
                      refine S.done ?_
                      replace hA : St 72 [(0, _), (1, _), (6, _), (9, _), (70, _)] a := hA.sub ((.cons rfl (.cons rfl (.cons rfl (.cons rfl (.cons rfl .nil))))))
                      refine Ends.condT hA rfl ?_
                      refine Ends.seq ?_
                      refine Ends.region ?_
                      refine S.val hA (R.assign rfl) rfl ?_; clear hA a; intro a hA
                      refine S.done ?_
                      replace hA : St 72 [(0, _), (1, _), (4, _), (6, _), (9, _)] a := hA.sub ((.cons rfl (.cons rfl (.cons rfl (.cons rfl (.cons rfl .nil))))))
                      refine Ends.ret1 Tryd.func32 Tryd.results32 hA rfl ?_
                      have e0 := mw_not (by omega) (by omega) hs23
                      rw [dec_w, e0]
                      exact ⟨rfl, hM.nilL.below⟩
                    ·
                      refine Ends.region ?_
                      refine S.val hA (R.move rfl) rfl ?_; clear hA a; intro a hA
                      refine S.val hA (R.move rfl) rfl ?_; clear hA a; intro a hA
                      refine S.val hA (R.addI rfl rfl (r := ((p : Int)) + ((i : Int))) rfl (by omega)) rfl ?_; clear hA a; intro a hA
                      refine S.val hA (R.move rfl) rfl ?_; clear hA a; intro a hA
                      refine S.val hA (R.lenStr Tryd.underlying9 rfl rfl) rfl ?_; clear hA a; intro a hA
                      refine S.val hA (R.ff (R.geq rfl rfl) (by omega)) rfl ?_; clear hA a; intro a hA
                      refine S.val hA (R.move rfl) rfl ?_; clear hA a; intro a hA
                      refine S.valg (dj := 53) hA (by kernel_rfl) rfl (R.move rfl) rfl ?_; clear hA a; intro a hA
                      refine S.valg (dj := 53) hA (by kernel_rfl) rfl (R.move rfl) rfl ?_; clear hA a; intro a hA
                      refine S.valg (dj := 53) hA (by kernel_rfl) rfl (R.move rfl) rfl ?_; clear hA a; intro a hA
                      refine S.valg (dj := 53) hA (by kernel_rfl) rfl (R.addI rfl rfl (r := ((p : Int)) + ((i : Int))) rfl (by omega)) rfl ?_; clear hA a; intro a hA
                      refine S.valg (dj := 53) hA (by kernel_rfl) rfl (R.to (v := .int .u8 (byt s (p + i))) (R.idxS Tryd.underlying9 rfl rfl (by omega)) (by first | rfl | (congr 2; done) | (congr 2; omega))) rfl ?_; clear hA a; intro a hA
                      refine S.valg (dj := 53) hA (by kernel_rfl) rfl (R.move rfl) rfl ?_; clear hA a; intro a hA
                      refine S.valg (dj := 53) hA (by kernel_rfl) rfl (R.ff (R.lss rfl rfl) (hs25)) rfl ?_; clear hA a; intro a hA
                      refine S.val hA (R.pickF rfl rfl) rfl ?_; clear hA a; intro a hA
                      refine S.val hA (R.move rfl) rfl ?_; clear hA a; intro a hA
                      refine S.valg (dj := 62) hA (by kernel_rfl) rfl (R.move rfl) rfl ?_; clear hA a; intro a hA
                      refine S.valg (dj := 62) hA (by kernel_rfl) rfl (R.move rfl) rfl ?_; clear hA a; intro a hA
                      refine S.valg (dj := 62) hA (by kernel_rfl) rfl (R.move rfl) rfl ?_; clear hA a; intro a hA
                      refine S.valg (dj := 62) hA (by kernel_rfl) rfl (R.addI rfl rfl (r := ((p : Int)) + ((i : Int))) rfl (by omega)) rfl ?_; clear hA a; intro a hA
                      refine S.valg (dj := 62) hA (by kernel_rfl) rfl (R.to (v := .int .u8 (byt s (p + i))) (R.idxS Tryd.underlying9 rfl rfl (by omega)) (by first | rfl | (congr 2; done) | (congr 2; omega))) rfl ?_; clear hA a; intro a hA
                      refine S.valg (dj := 62) hA (by kernel_rfl) rfl (R.move rfl) rfl ?_; clear hA a; intro a hA
                      refine S.valg (dj := 62) hA (by kernel_rfl) rfl (R.tt (R.gtr rfl rfl) (Int.not_le.1 (fun h9 => hk ⟨hs24, Int.not_lt.1 hs25, h9⟩))) rfl ?_; clear hA a; intro a hA
                      refine S.val hA (R.pickF rfl rfl) rfl ?_; clear hA a; intro a hA
                      refine S.done ?_
                      replace hA : St 72 [(0, _), (1, _), (6, _), (9, _), (70, _)] a := hA.sub ((.cons rfl (.cons rfl (.cons rfl (.cons rfl (.cons rfl .nil))))))
                      refine Ends.condT hA rfl ?_
                      refine Ends.seq ?_
                      refine Ends.region ?_
                      refine S.val hA (R.assign rfl) rfl ?_; clear hA a; intro a hA
                      refine S.done ?_
                      replace hA : St 72 [(0, _), (1, _), (4, _), (6, _), (9, _)] a := hA.sub ((.cons rfl (.cons rfl (.cons rfl (.cons rfl (.cons rfl .nil))))))
                      refine Ends.ret1 Tryd.func32 Tryd.results32 hA rfl ?_
                      have e0 := mw_not (by omega) (by omega) hs23
                      rw [dec_w, e0]
                      exact ⟨rfl, hM.nilL.below⟩
                  ·
                    refine Ends.region ?_
                    refine S.val hA (R.move rfl) rfl ?_; clear hA a; intro a hA
                    refine S.val hA (R.move rfl) rfl ?_; clear hA a; intro a hA
                    refine S.val hA (R.addI rfl rfl (r := ((p : Int)) + ((i : Int))) rfl (by omega)) rfl ?_; clear hA a; intro a hA
                    refine S.val hA (R.move rfl) rfl ?_; clear hA a; intro a hA
                    refine S.val hA (R.lenStr Tryd.underlying9 rfl rfl) rfl ?_; clear hA a; intro a hA
                    refine S.val hA (R.tt (R.geq rfl rfl) (by omega)) rfl ?_; clear hA a; intro a hA
                    refine S.val hA (R.move rfl) rfl ?_; clear hA a; intro a hA
                    refine S.no (dj := 53) hA (by kernel_rfl) rfl rfl rfl ?_; clear hA a; intro a hA
                    refine S.no (dj := 53) hA (by kernel_rfl) rfl rfl rfl ?_; clear hA a; intro a hA
                    refine S.no (dj := 53) hA (by kernel_rfl) rfl rfl rfl ?_; clear hA a; intro a hA
                    refine S.no (dj := 53) hA (by kernel_rfl) rfl rfl rfl ?_; clear hA a; intro a hA
                    refine S.no (dj := 53) hA (by kernel_rfl) rfl rfl rfl ?_; clear hA a; intro a hA
                    refine S.no (dj := 53) hA (by kernel_rfl) rfl rfl rfl ?_; clear hA a; intro a hA
                    refine S.no (dj := 53) hA (by kernel_rfl) rfl rfl rfl ?_; clear hA a; intro a hA
                    refine S.val hA (R.pickT rfl rfl) rfl ?_; clear hA a; intro a hA
                    refine S.val hA (R.move rfl) rfl ?_; clear hA a; intro a hA
                    refine S.no (dj := 62) hA (by kernel_rfl) rfl rfl rfl ?_; clear hA a; intro a hA
                    refine S.no (dj := 62) hA (by kernel_rfl) rfl rfl rfl ?_; clear hA a; intro a hA
                    refine S.no (dj := 62) hA (by kernel_rfl) rfl rfl rfl ?_; clear hA a; intro a hA
                    refine S.no (dj := 62) hA (by kernel_rfl) rfl rfl rfl ?_; clear hA a; intro a hA
                    refine S.no (dj := 62) hA (by kernel_rfl) rfl rfl rfl ?_; clear hA a; intro a hA
                    refine S.no (dj := 62) hA (by kernel_rfl) rfl rfl rfl ?_; clear hA a; intro a hA
                    refine S.no (dj := 62) hA (by kernel_rfl) rfl rfl rfl ?_; clear hA a; intro a hA
                    refine S.val hA (R.pickT rfl rfl) rfl ?_; clear hA a; intro a hA
                    refine S.done ?_
                    replace hA : St 72 [(0, _), (1, _), (6, _), (9, _), (70, _)] a := hA.sub ((.cons rfl (.cons rfl (.cons rfl (.cons rfl (.cons rfl .nil))))))
                    refine Ends.condT hA rfl ?_
                    refine Ends.seq ?_
                    refine Ends.region ?_
                    refine S.val hA (R.assign rfl) rfl ?_; clear hA a; intro a hA
                    refine S.done ?_
                    replace hA : St 72 [(0, _), (1, _), (4, _), (6, _), (9, _)] a := hA.sub ((.cons rfl (.cons rfl (.cons rfl (.cons rfl (.cons rfl .nil))))))
                    refine Ends.ret1 Tryd.func32 Tryd.results32 hA rfl ?_
                    have e0 := mw_not (by omega) (by omega) hs23
                    rw [dec_w, e0]
                    exact ⟨rfl, hM.nilL.below⟩
              ·
                rw [decide_eq_false hc22] at hA
                refine Ends.exit rfl ?_
                replace hA : St 72 [(6, _)] a := hA.sub ((.cons rfl .nil))
                refine Ends.seq ?_
                refine Ends.region ?_
                refine S.val hA (R.move rfl) rfl ?_; clear hA a; intro a hA
                refine S.val hA (R.assign rfl) rfl ?_; clear hA a; intro a hA
                refine S.done ?_
                replace hA : St 72 [(4, _)] a := hA.sub ((.cons rfl .nil))
                refine Ends.ret1 Tryd.func32 Tryd.results32 hA rfl ?_
                have e0 := mw_all (fun i2 h1 h2 => hall i2 h1 (by omega))
                rw [dec_w, e0, show (((cntB (byt s p) + 1 : Nat) : Int) - 1) = (cntB (byt s p) : Int) by omega, ← hn]
                exact ⟨rfl, hM.nilL.below⟩
        ·
          rw [decide_eq_false hc6] at hA
          refine Ends.seq ?_
          refine Ends.cut (fun (a : Act) (wv : World) => St 72 [(0, .string s), (1, .int .i64 ((p : Int))), (5, .int .u8 (byt s p)), (6, .int .i64 0), (7, .int .u8 128), (8, .int .u8 191), (31, .bool (decide ((240 ≤ (byt s p) ∧ (byt s p) ≤ 244))))] a ∧ Mem w nof [] wv) ?_ (fun k2 hJ => ?_)
          · clear hA hM a; rintro a w8 ⟨hA, hM⟩
            refine Ends.ite hA rfl (fun hc26 => ?_) (fun hc26 => ?_)
            ·
              rw [decide_eq_true hc26] at hA
              refine Ends.seq ?_
              refine Ends.region ?_
              refine S.val hA (R.assign rfl) rfl ?_; clear hA a; intro a hA
              refine S.done ?_
              replace hA : St 72 [(0, _), (1, _), (5, _), (6, _), (7, _), (8, _)] a := hA.sub ((.cons rfl (.cons rfl (.cons rfl (.cons rfl (.cons rfl (.cons rfl .nil)))))))
              refine Ends.seq ?_
              refine Ends.seq ?_
              refine Ends.region ?_
              refine S.val hA (R.move rfl) rfl ?_; clear hA a; intro a hA
              refine S.val hA (R.eql rfl rfl) rfl ?_; clear hA a; intro a hA
              refine S.done ?_
              replace hA : St 72 [(0, _), (1, _), (5, _), (6, _), (7, _), (8, _), (39, _)] a := hA.sub ((.cons rfl (.cons rfl (.cons rfl (.cons rfl (.cons rfl (.cons rfl (.cons rfl .nil))))))))
              refine Ends.ite hA rfl (fun hc27 => ?_) (fun hc27 => ?_)
              ·
                rw [decide_eq_true hc27] at hA
                refine Ends.region ?_
                refine S.val hA (R.assign rfl) rfl ?_; clear hA a; intro a hA
                refine S.done ?_
                replace hA : St 72 [(0, _), (1, _), (5, _), (6, _), (7, _), (8, _)] a := hA.sub ((.cons rfl (.cons rfl (.cons rfl (.cons rfl (.cons rfl (.cons rfl .nil)))))))
                refine Ends.seq ?_
                refine Ends.region ?_
                refine S.val hA (R.move rfl) rfl ?_; clear hA a; intro a hA
                refine S.val hA (R.eql rfl rfl) rfl ?_; clear hA a; intro a hA
                refine S.done ?_
                replace hA : St 72 [(0, _), (1, _), (6, _), (7, _), (8, _), (41, _)] a := hA.sub ((.cons rfl (.cons rfl (.cons rfl (.cons rfl (.cons rfl (.cons rfl .nil)))))))
                refine Ends.ite hA rfl (fun hc28 => ?_) (fun hc28 => ?_)
                ·
                  rw [decide_eq_true hc28] at hA
                  refine Ends.region ?_
                  refine S.val hA (R.assign rfl) rfl ?_; clear hA a; intro a hA
                  refine S.done ?_
                  replace hA : St 72 [(0, _), (1, _), (6, _), (7, _), (8, _)] a := hA.sub ((.cons rfl (.cons rfl (.cons rfl (.cons rfl (.cons rfl .nil))))))
                  refine Ends.inBlock ?_
                  refine Ends.seq ?_
                  refine Ends.seq ?_
                  refine Ends.region ?_
                  refine S.val hA (R.assign rfl) rfl ?_; clear hA a; intro a hA
                  refine S.done ?_
                  replace hA : St 72 [(0, _), (1, _), (6, _), (7, _), (8, _), (9, _)] a := hA.sub ((.cons rfl (.cons rfl (.cons rfl (.cons rfl (.cons rfl (.cons rfl .nil)))))))
                  refine Ends.block ?_
                  have hn : ((3 : Int)) = (cntB (byt s p) : Int) := by unfold cntB; (repeat' split) <;> first | rfl | omega
                  have hlo : loB (byt s p) = 144 ∨ cntB (byt s p) = 0 := by unfold loB cntB; (repeat' split) <;> first | (left; rfl) | (right; rfl) | omega
                  have hhi : hiB (byt s p) = 143 ∨ cntB (byt s p) = 0 := by unfold hiB cntB; (repeat' split) <;> first | (left; rfl) | (right; rfl) | omega
                  refine Ends.loop (σ := Nat) (fun i (a : Act) (wv : World) => St 72 [(0, .string s), (1, .int .i64 ((p : Int))), (6, .int .i64 3), (7, .int .u8 ((if i = 1 then 144 else 128))), (8, .int .u8 ((if i = 1 then 143 else 191))), (9, .int .i64 ((i : Int)))] a ∧ Mem w nof [] wv ∧ (1 ≤ i ∧ i ≤ cntB (byt s p) + 1) ∧ (∀ j, 1 ≤ j → j < i → okB s p j)) (fun i => cntB (byt s p) + 1 - i) 1 ⟨hA.sub ((.cons rfl (.cons rfl (.cons rfl (.cons rfl (.cons rfl (.cons rfl .nil))))))), hM, (by omega), (fun j h1 h2 => absurd h1 (by omega))⟩ ?_
                  clear hA hM a
                  rintro i a w9 ⟨hA, hM, hi, hall⟩ hNext
                  refine Ends.seq ?_
                  refine Ends.seq ?_
                  refine Ends.region ?_
                  refine S.val hA (R.move rfl) rfl ?_; clear hA a; intro a hA
                  refine S.val hA (R.move rfl) rfl ?_; clear hA a; intro a hA
                  refine S.val hA (R.leq rfl rfl) rfl ?_; clear hA a; intro a hA
                  refine S.done ?_
                  replace hA : St 72 [(0, _), (1, _), (6, _), (7, _), (8, _), (9, _), (44, _)] a := hA.sub ((.cons rfl (.cons rfl (.cons rfl (.cons rfl (.cons rfl (.cons rfl (.cons rfl .nil))))))))
                  refine Ends.ite hA rfl (fun hc29 => ?_) (fun hc29 => ?_)
                  ·
                    rw [decide_eq_true hc29] at hA
                    refine Ends.skip ?_
                    refine Ends.seq ?_
                    refine Ends.block ?_
                    refine Ends.seq ?_
                    refine Ends.seq ?_
                    by_cases hs30 : okB s p i
                    ·
                      have hk : p + i < s.size ∧ (if i = 1 then 144 else 128) ≤ byt s (p + i) ∧ byt s (p + i) ≤ (if i = 1 then 143 else 191) := by
                        have h0 := hs30
                        unfold okB cnt at h0
                        have hlo2 : loB (byt s p) = 144 := hlo.resolve_right (by omega)
                        have hhi2 : hiB (byt s p) = 143 := hhi.resolve_right (by omega)
                        rwa [hlo2, hhi2] at h0
                      obtain ⟨hk1, hk2, hk3⟩ := hk
                      refine Ends.region ?_
                      refine S.val hA (R.move rfl) rfl ?_; clear hA a; intro a hA
                      refine S.val hA (R.move rfl) rfl ?_; clear hA a; intro a hA
                      refine S.val hA (R.addI rfl rfl (r := ((p : Int)) + ((i : Int))) rfl (by omega)) rfl ?_; clear hA a; intro a hA
                      refine S.val hA (R.move rfl) rfl ?_; clear hA a; intro a hA
                      refine S.val hA (R.lenStr Tryd.underlying9 rfl rfl) rfl ?_; clear hA a; intro a hA
                      refine S.val hA (R.ff (R.geq rfl rfl) (by omega)) rfl ?_; clear hA a; intro a hA
                      refine S.val hA (R.move rfl) rfl ?_; clear hA a; intro a hA
                      refine S.valg (dj := 53) hA (by kernel_rfl) rfl (R.move rfl) rfl ?_; clear hA a; intro a hA
                      refine S.valg (dj := 53) hA (by kernel_rfl) rfl (R.move rfl) rfl ?_; clear hA a; intro a hA
                      refine S.valg (dj := 53) hA (by kernel_rfl) rfl (R.move rfl) rfl ?_; clear hA a; intro a hA
                      refine S.valg (dj := 53) hA (by kernel_rfl) rfl (R.addI rfl rfl (r := ((p : Int)) + ((i : Int))) rfl (by omega)) rfl ?_; clear hA a; intro a hA
                      refine S.valg (dj := 53) hA (by kernel_rfl) rfl (R.to (v := .int .u8 (byt s (p + i))) (R.idxS Tryd.underlying9 rfl rfl (by omega)) (by first | rfl | (congr 2; done) | (congr 2; omega))) rfl ?_; clear hA a; intro a hA
                      refine S.valg (dj := 53) hA (by kernel_rfl) rfl (R.move rfl) rfl ?_; clear hA a; intro a hA
                      refine S.valg (dj := 53) hA (by kernel_rfl) rfl (R.ff (R.lss rfl rfl) (Int.not_lt.2 hk2)) rfl ?_; clear hA a; intro a hA
                      refine S.val hA (R.pickF rfl rfl) rfl ?_; clear hA a; intro a hA
                      refine S.val hA (R.move rfl) rfl ?_; clear hA a; intro a hA
                      refine S.valg (dj := 62) hA (by kernel_rfl) rfl (R.move rfl) rfl ?_; clear hA a; intro a hA
                      refine S.valg (dj := 62) hA (by kernel_rfl) rfl (R.move rfl) rfl ?_; clear hA a; intro a hA
                      refine S.valg (dj := 62) hA (by kernel_rfl) rfl (R.move rfl) rfl ?_; clear hA a; intro a hA
                      refine S.valg (dj := 62) hA (by kernel_rfl) rfl (R.addI rfl rfl (r := ((p : Int)) + ((i : Int))) rfl (by omega)) rfl ?_; clear hA a; intro a hA
                      refine S.valg (dj := 62) hA (by kernel_rfl) rfl (R.to (v := .int .u8 (byt s (p + i))) (R.idxS Tryd.underlying9 rfl rfl (by omega)) (by first | rfl | (congr 2; done) | (congr 2; omega))) rfl ?_; clear hA a; intro a hA
                      refine S.valg (dj := 62) hA (by kernel_rfl) rfl (R.move rfl) rfl ?_; clear hA a; intro a hA
                      refine S.valg (dj := 62) hA (by kernel_rfl) rfl (R.ff (R.gtr rfl rfl) (Int.not_lt.2 hk3)) rfl ?_; clear hA a; intro a hA
                      refine S.val hA (R.pickF rfl rfl) rfl ?_; clear hA a; intro a hA
                      refine S.done ?_
                      replace hA : St 72 [(0, _), (1, _), (6, _), (9, _), (70, _)] a := hA.sub ((.cons rfl (.cons rfl (.cons rfl (.cons rfl (.cons rfl .nil))))))
                      refine Ends.condF hA rfl ?_
                      refine Ends.skip ?_
                      refine Ends.region ?_
                      refine S.val hA (R.to (v := .int .u8 (if i + 1 = 1 then 144 else 128)) (R.assign rfl) (congrArg (Value.int .u8) (by rw [if_neg (by omega)]))) rfl ?_; clear hA a; intro a hA
                      refine S.val hA (R.to (v := .int .u8 (if i + 1 = 1 then 143 else 191)) (R.assign rfl) (congrArg (Value.int .u8) (by rw [if_neg (by omega)]))) rfl ?_; clear hA a; intro a hA
                      refine S.done ?_
                      replace hA : St 72 [(0, _), (1, _), (6, _), (7, _), (8, _), (9, _)] a := hA.sub ((.cons rfl (.cons rfl (.cons rfl (.cons rfl (.cons rfl (.cons rfl .nil)))))))
                      refine Ends.inBlock ?_
                      refine Ends.region ?_
                      refine S.val hA (R.move rfl) rfl ?_; clear hA a; intro a hA
                      refine S.val hA (R.addI rfl rfl (r := ((i : Int)) + 1) rfl (by omega)) rfl ?_; clear hA a; intro a hA
                      refine S.val hA (R.assign rfl) rfl ?_; clear hA a; intro a hA
                      refine S.done ?_
                      replace hA : St 72 [(0, _), (1, _), (6, _), (7, _), (8, _), (9, _)] a := hA.sub ((.cons rfl (.cons rfl (.cons rfl (.cons rfl (.cons rfl (.cons rfl .nil)))))))
                      skip
                      exact hNext ((i + 1)) _ _ ((by show cntB (byt s p) + 1 - (i + 1) < cntB (byt s p) + 1 - i; omega)) ⟨hA.sub ((.cons rfl (.cons rfl (.cons rfl (.cons rfl (.cons rfl (.cons rfl .nil))))))), hM, (by omega), (fun j h1 h2 => by rcases Nat.lt_or_ge j i with g | g; exact hall j h1 g; have e : j = i := (by omega); exact e ▸ hs30)⟩
                    ·
                      have hk : ¬ (p + i < s.size ∧ (if i = 1 then 144 else 128) ≤ byt s (p + i) ∧ byt s (p + i) ≤ (if i = 1 then 143 else 191)) := by
                        have h0 := hs30
                        unfold okB cnt at h0
                        have hlo2 : loB (byt s p) = 144 := hlo.resolve_right (by omega)
                        have hhi2 : hiB (byt s p) = 143 := hhi.resolve_right (by omega)
                        rwa [hlo2, hhi2] at h0
                      by_cases hs31 : p + i < s.size
                      ·
                        by_cases hs32 : byt s (p + i) < (if i = 1 then 144 else 128)
                        ·
                          refine Ends.region ?_
                          refine S.val hA (R.move rfl) rfl ?_; clear hA a; intro a hA
                          refine S.val hA (R.move rfl) rfl ?_; clear hA a; intro a hA
                          refine S.val hA (R.addI rfl rfl (r := ((p : Int)) + ((i : Int))) rfl (by omega)) rfl ?_; clear hA a; intro a hA
                          refine S.val hA (R.move rfl) rfl ?_; clear hA a; intro a hA
                          refine S.val hA (R.lenStr Tryd.underlying9 rfl rfl) rfl ?_; clear hA a; intro a hA
                          refine S.val hA (R.ff (R.geq rfl rfl) (by omega)) rfl ?_; clear hA a; intro a hA
                          refine S.val hA (R.move rfl) rfl ?_; clear hA a; intro a hA
                          refine S.valg (dj := 53) hA (by kernel_rfl) rfl (R.move rfl) rfl ?_; clear hA a; intro a hA
                          refine S.valg (dj := 53) hA (by kernel_rfl) rfl (R.move rfl) rfl ?_; clear hA a; intro a hA
                          refine S.valg (dj := 53) hA (by kernel_rfl) rfl (R.move rfl) rfl ?_; clear hA a; intro a hA
                          refine S.valg (dj := 53) hA (by kernel_rfl) rfl (R.addI rfl rfl (r := ((p : Int)) + ((i : Int))) rfl (by omega)) rfl ?_; clear hA a; intro a hA
                          refine S.valg (dj := 53) hA (by kernel_rfl) rfl (R.to (v := .int .u8 (byt s (p + i))) (R.idxS Tryd.underlying9 rfl rfl (by omega)) (by first | rfl | (congr 2; done) | (congr 2; omega))) rfl ?_; clear hA a; intro a hA
                          refine S.valg (dj := 53) hA (by kernel_rfl) rfl (R.move rfl) rfl ?_; clear hA a; intro a hA
                          refine S.valg (dj := 53) hA (by kernel_rfl) rfl (R.tt (R.lss rfl rfl) (hs32)) rfl ?_; clear hA a; intro a hA
                          refine S.val hA (R.pickF rfl rfl) rfl ?_; clear hA a; intro a hA
                          refine S.val hA (R.move rfl) rfl ?_; clear hA a; intro a hA
                          refine S.no (dj := 62) hA (by kernel_rfl) rfl rfl rfl ?_; clear hA a; intro a hA
                          refine S.no (dj := 62) hA (by kernel_rfl) rfl rfl rfl ?_; clear hA a; intro a hA
                          refine S.no (dj := 62) hA (by kernel_rfl) rfl rfl rfl ?_; clear hA a; intro a hA
                          refine S.no (dj := 62) hA (by kernel_rfl) rfl rfl rfl ?_; clear hA a; intro a hA
                          refine S.no (dj := 62) hA (by kernel_rfl) rfl rfl rfl ?_; clear hA a; intro a hA
                          refine S.no (dj := 62) hA (by kernel_rfl) rfl rfl rfl ?_; clear hA a; intro a hA
                          refine S.no (dj := 62) hA (by kernel_rfl) rfl rfl rfl ?_; clear hA a; intro a hA
                          refine S.val hA (R.pickT rfl rfl) rfl ?_; clear hA a; intro a hA
                          refine S.done ?_
                          replace hA : St 72 [(0, _), (1, _), (6, _), (9, _), (70, _)] a := hA.sub ((.cons rfl (.cons rfl (.cons rfl (.cons rfl (.cons rfl .nil))))))
                          refine Ends.condT hA rfl ?_
                          refine Ends.seq ?_
                          refine Ends.region ?_
                          refine S.val hA (R.assign rfl) rfl ?_; clear hA a; intro a hA
                          refine S.done ?_
                          replace hA : St 72 [(0, _), (1, _), (4, _), (6, _), (9, _)] a := hA.sub ((.cons rfl (.cons rfl (.cons rfl (.cons rfl (.cons rfl .nil))))))
                          refine Ends.ret1 Tryd.func32 Tryd.results32 hA rfl ?_
                          have e0 := mw_not (by omega) (by omega) hs30
                          rw [dec_w, e0]
                          exact ⟨rfl, hM.nilL.below⟩
                        ·
                          refine Ends.region ?_
                          refine S.val hA (R.move rfl) rfl ?_; clear hA a; intro a hA
                          refine S.val hA (R.move rfl) rfl ?_; clear hA a; intro a hA
                          refine S.val hA (R.addI rfl rfl (r := ((p : Int)) + ((i : Int))) rfl (by omega)) rfl ?_; clear hA a; intro a hA
                          refine S.val hA (R.move rfl) rfl ?_; clear hA a; intro a hA
                          refine S.val hA (R.lenStr Tryd.underlying9 rfl rfl) rfl ?_; clear hA a; intro a hA
                          refine S.val hA (R.ff (R.geq rfl rfl) (by omega)) rfl ?_; clear hA a; intro a hA
                          refine S.val hA (R.move rfl) rfl ?_; clear hA a; intro a hA
                          refine S.valg (dj := 53) hA (by kernel_rfl) rfl (R.move rfl) rfl ?_; clear hA a; intro a hA
                          refine S.valg (dj := 53) hA (by kernel_rfl) rfl (R.move rfl) rfl ?_; clear hA a; intro a hA
                          refine S.valg (dj := 53) hA (by kernel_rfl) rfl (R.move rfl) rfl ?_; clear hA a; intro a hA
                          refine S.valg (dj := 53) hA (by kernel_rfl) rfl (R.addI rfl rfl (r := ((p : Int)) + ((i : Int))) rfl (by omega)) rfl ?_; clear hA a; intro a hA
                          refine S.valg (dj := 53) hA (by kernel_rfl) rfl (R.to (v := .int .u8 (byt s (p + i))) (R.idxS Tryd.underlying9 rfl rfl (by omega)) (by first | rfl | (congr 2; done) | (congr 2; omega))) rfl ?_; clear hA a; intro a hA
                          refine S.valg (dj := 53) hA (by kernel_rfl) rfl (R.move rfl) rfl ?_; clear hA a; intro a hA
                          refine S.valg (dj := 53) hA (by kernel_rfl) rfl (R.ff (R.lss rfl rfl) (hs32)) rfl ?_; clear hA a; intro a hA
                          refine S.val hA (R.pickF rfl rfl) rfl ?_; clear hA a; intro a hA
                          refine S.val hA (R.move rfl) rfl ?_; clear hA a; intro a hA
                          refine S.valg (dj := 62) hA (by kernel_rfl) rfl (R.move rfl) rfl ?_; clear hA a; intro a hA
                          refine S.valg (dj := 62) hA (by kernel_rfl) rfl (R.move rfl) rfl ?_; clear hA a; intro a hA
                          refine S.valg (dj := 62) hA (by kernel_rfl) rfl (R.move rfl) rfl ?_; clear hA a; intro a hA
                          refine S.valg (dj := 62) hA (by kernel_rfl) rfl (R.addI rfl rfl (r := ((p : Int)) + ((i : Int))) rfl (by omega)) rfl ?_; clear hA a; intro a hA
                          refine S.valg (dj := 62) hA (by kernel_rfl) rfl (R.to (v := .int .u8 (byt s (p + i))) (R.idxS Tryd.underlying9 rfl rfl (by omega)) (by first | rfl | (congr 2; done) | (congr 2; omega))) rfl ?_; clear hA a; intro a hA
                          refine S.valg (dj := 62) hA (by kernel_rfl) rfl (R.move rfl) rfl ?_; clear hA a; intro a hA
                          refine S.valg (dj := 62) hA (by kernel_rfl) rfl (R.tt (R.gtr rfl rfl) (Int.not_le.1 (fun h9 => hk ⟨hs31, Int.not_lt.1 hs32, h9⟩))) rfl ?_; clear hA a; intro a hA
                          refine S.val hA (R.pickF rfl rfl) rfl ?_; clear hA a; intro a hA
                          refine S.done ?_
                          replace hA : St 72 [(0, _), (1, _), (6, _), (9, _), (70, _)] a := hA.sub ((.cons rfl (.cons rfl (.cons rfl (.cons rfl (.cons rfl .nil))))))
                          refine Ends.condT hA rfl ?_
                          refine Ends.seq ?_
                          refine Ends.region ?_
                          refine S.val hA (R.assign rfl) rfl ?_; clear hA a; intro a hA
                          refine S.done ?_
                          replace hA : St 72 [(0, _), (1, _), (4, _), (6, _), (9, _)] a := hA.sub ((.cons rfl (.cons rfl (.cons rfl (.cons rfl (.cons rfl .nil))))))
                          refine Ends.ret1 Tryd.func32 Tryd.results32 hA rfl ?_
                          have e0 := mw_not (by omega) (by omega) hs30
                          rw [dec_w, e0]
                          exact ⟨rfl, hM.nilL.below⟩
                      ·
                        refine Ends.region ?_
                        refine S.val hA (R.move rfl) rfl ?_; clear hA a; intro a hA
                        refine S.val hA (R.move rfl) rfl ?_; clear hA a; intro a hA
                        refine S.val hA (R.addI rfl rfl (r := ((p : Int)) + ((i : Int))) rfl (by omega)) rfl ?_; clear hA a; intro a hA
                        refine S.val hA (R.move rfl) rfl ?_; clear hA a; intro a hA
                        refine S.val hA (R.lenStr Tryd.underlying9 rfl rfl) rfl ?_; clear hA a; intro a hA
                        refine S.val hA (R.tt (R.geq rfl rfl) (by omega)) rfl ?_; clear hA a; intro a hA
                        refine S.val hA (R.move rfl) rfl ?_; clear hA a; intro a hA
                        refine S.no (dj := 53) hA (by kernel_rfl) rfl rfl rfl ?_; clear hA a; intro a hA
                        refine S.no (dj := 53) hA (by kernel_rfl) rfl rfl rfl ?_; clear hA a; intro a hA
                        refine S.no (dj := 53) hA (by kernel_rfl) rfl rfl rfl ?_; clear hA a; intro a hA
                        refine S.no (dj := 53) hA (by kernel_rfl) rfl rfl rfl ?_; clear hA a; intro a hA
                        refine S.no (dj := 53) hA (by kernel_rfl) rfl rfl rfl ?_; clear hA a; intro a hA
                        refine S.no (dj := 53) hA (by kernel_rfl) rfl rfl rfl ?_; clear hA a; intro a hA
                        refine S.no (dj := 53) hA (by kernel_rfl) rfl rfl rfl ?_; clear hA a; intro a hA
                        refine S.val hA (R.pickT rfl rfl) rfl ?_; clear hA a; intro a hA
                        refine S.val hA (R.move rfl) rfl ?_; clear hA a; intro a hA
                        refine S.no (dj := 62) hA (by kernel_rfl) rfl rfl rfl ?_; clear hA a; intro a hA
                        refine S.no (dj := 62) hA (by kernel_rfl) rfl rfl rfl ?_; clear hA a; intro a hA
                        refine S.no (dj := 62) hA (by kernel_rfl) rfl rfl rfl ?_; clear hA a; intro a hA
                        refine S.no (dj := 62) hA (by kernel_rfl) rfl rfl rfl ?_; clear hA a; intro a hA
                        refine S.no (dj := 62) hA (by kernel_rfl) rfl rfl rfl ?_; clear hA a; intro a hA
                        refine S.no (dj := 62) hA (by kernel_rfl) rfl rfl rfl ?_; clear hA a; intro a hA
                        refine S.no (dj := 62) hA (by kernel_rfl) rfl rfl rfl ?_; clear hA a; intro a hA
                        refine S.val hA (R.pickT rfl rfl) rfl ?_; clear hA a; intro a hA
                        refine S.done ?_
                        replace hA : St 72 [(0, _), (1, _), (6, _), (9, _), (70, _)] a := hA.sub ((.cons rfl (.cons rfl (.cons rfl (.cons rfl (.cons rfl .nil))))))
                        refine Ends.condT hA rfl ?_
                        refine Ends.seq ?_
                        refine Ends.region ?_
                        refine S.val hA (R.assign rfl) rfl ?_; clear hA a; intro a hA
                        refine S.done ?_
                        replace hA : St 72 [(0, _), (1, _), (4, _), (6, _), (9, _)] a := hA.sub ((.cons rfl (.cons rfl (.cons rfl (.cons rfl (.cons rfl .nil))))))
                        refine Ends.ret1 Tryd.func32 Tryd.results32 hA rfl ?_
                        have e0 := mw_not (by omega) (by omega) hs30
                        rw [dec_w, e0]
                        exact ⟨rfl, hM.nilL.below⟩
                  ·
                    rw [decide_eq_false hc29] at hA
                    refine Ends.exit rfl ?_
                    replace hA : St 72 [(6, _)] a := hA.sub ((.cons rfl .nil))
                    refine Ends.seq ?_
                    refine Ends.region ?_
                    refine S.val hA (R.move rfl) rfl ?_; clear hA a; intro a hA
                    refine S.val hA (R.assign rfl) rfl ?_; clear hA a; intro a hA
                    refine S.done ?_
                    replace hA : St 72 [(4, _)] a := hA.sub ((.cons rfl .nil))
                    refine Ends.ret1 Tryd.func32 Tryd.results32 hA rfl ?_
                    have e0 := mw_all (fun i2 h1 h2 => hall i2 h1 (by omega))
                    rw [dec_w, e0, show (((cntB (byt s p) + 1 : Nat) : Int) - 1) = (cntB (byt s p) : Int) by omega, ← hn]
                    exact ⟨rfl, hM.nilL.below⟩
                ·
                  rw [decide_eq_false hc28] at hA
                  refine Ends.skip ?_
                  refine Ends.inBlock ?_
                  refine Ends.seq ?_
                  refine Ends.seq ?_
                  refine Ends.region ?_
                  refine S.val hA (R.assign rfl) rfl ?_; clear hA a; intro a hA
                  refine S.done ?_
                  replace hA : St 72 [(0, _), (1, _), (6, _), (7, _), (8, _), (9, _)] a := hA.sub ((.cons rfl (.cons rfl (.cons rfl (.cons rfl (.cons rfl (.cons rfl .nil)))))))
                  refine Ends.block ?_
                  have hn : ((3 : Int)) = (cntB (byt s p) : Int) := by unfold cntB; (repeat' split) <;> first | rfl | omega
                  have hlo : loB (byt s p) = 144 ∨ cntB (byt s p) = 0 := by unfold loB cntB; (repeat' split) <;> first | (left; rfl) | (right; rfl) | omega
                  have hhi : hiB (byt s p) = 191 ∨ cntB (byt s p) = 0 := by unfold hiB cntB; (repeat' split) <;> first | (left; rfl) | (right; rfl) | omega
                  refine Ends.loop (σ := Nat) (fun i (a : Act) (wv : World) => St 72 [(0, .string s), (1, .int .i64 ((p : Int))), (6, .int .i64 3), (7, .int .u8 ((if i = 1 then 144 else 128))), (8, .int .u8 ((if i = 1 then 191 else 191))), (9, .int .i64 ((i : Int)))] a ∧ Mem w nof [] wv ∧ (1 ≤ i ∧ i ≤ cntB (byt s p) + 1) ∧ (∀ j, 1 ≤ j → j < i → okB s p j)) (fun i => cntB (byt s p) + 1 - i) 1 ⟨hA.sub ((.cons rfl (.cons rfl (.cons rfl (.cons rfl (.cons rfl (.cons rfl .nil))))))), hM, (by omega), (fun j h1 h2 => absurd h1 (by omega))⟩ ?_
                  clear hA hM a
                  rintro i a w10 ⟨hA, hM, hi, hall⟩ hNext
                  refine Ends.seq ?_
                  refine Ends.seq ?_
                  refine Ends.region ?_
                  refine S.val hA (R.move rfl) rfl ?_; clear hA a; intro a hA
                  refine S.val hA (R.move rfl) rfl ?_; clear hA a; intro a hA
                  refine S.val hA (R.leq rfl rfl) rfl ?_; clear hA a; intro a hA
                  refine S.done ?_
                  replace hA : St 72 [(0, _), (1, _), (6, _), (7, _), (8, _), (9, _), (44, _)] a := hA.sub ((.cons rfl (.cons rfl (.cons rfl (.cons rfl (.cons rfl (.cons rfl (.cons rfl .nil))))))))
                  refine Ends.ite hA rfl (fun hc33 => ?_) (fun hc33 => ?_)
                  ·
                    rw [decide_eq_true hc33] at hA
                    refine Ends.skip ?_
                    refine Ends.seq ?_
                    refine Ends.block ?_
                    refine Ends.seq ?_
                    refine Ends.seq ?_
                    by_cases hs34 : okB s p i
                    ·
                      have hk : p + i < s.size ∧ (if i = 1 then 144 else 128) ≤ byt s (p + i) ∧ byt s (p + i) ≤ (if i = 1 then 191 else 191) := by
                        have h0 := hs34
                        unfold okB cnt at h0
                        have hlo2 : loB (byt s p) = 144 := hlo.resolve_right (by omega)
                        have hhi2 : hiB (byt s p) = 191 := hhi.resolve_right (by omega)
                        rwa [hlo2, hhi2] at h0
                      obtain ⟨hk1, hk2, hk3⟩ := hk
                      refine Ends.region ?_
                      refine S.val hA (R.move rfl) rfl ?_; clear hA a; intro a hA
                      refine S.val hA (R.move rfl) rfl ?_; clear hA a; intro a hA
                      refine S.val hA (R.addI rfl rfl (r := ((p : Int)) + ((i : Int))) rfl (by omega)) rfl ?_; clear hA a; intro a hA
                      refine S.val hA (R.move rfl) rfl ?_; clear hA a; intro a hA
                      refine S.val hA (R.lenStr Tryd.underlying9 rfl rfl) rfl ?_; clear hA a; intro a hA
                      refine S.val hA (R.ff (R.geq rfl rfl) (by omega)) rfl ?_; clear hA a; intro a hA
                      refine S.val hA (R.move rfl) rfl ?_; clear hA a; intro a hA
                      refine S.valg (dj := 53) hA (by kernel_rfl) rfl (R.move rfl) rfl ?_; clear hA a; intro a hA
                      refine S.valg (dj := 53) hA (by kernel_rfl) rfl (R.move rfl) rfl ?_; clear hA a; intro a hA
                      refine S.valg (dj := 53) hA (by kernel_rfl) rfl (R.move rfl) rfl ?_; clear hA a; intro a hA
                      refine S.valg (dj := 53) hA (by kernel_rfl) rfl (R.addI rfl rfl (r := ((p : Int)) + ((i : Int))) rfl (by omega)) rfl ?_; clear hA a; intro a hA
                      refine S.valg (dj := 53) hA (by kernel_rfl) rfl (R.to (v := .int .u8 (byt s (p + i))) (R.idxS Tryd.underlying9 rfl rfl (by omega)) (by first | rfl | (congr 2; done) | (congr 2; omega))) rfl ?_; clear hA a; intro a hA
                      refine S.valg (dj := 53) hA (by kernel_rfl) rfl (R.move rfl) rfl ?_; clear hA a; intro a hA
                      refine S.valg (dj := 53) hA (by kernel_rfl) rfl (R.ff (R.lss rfl rfl) (Int.not_lt.2 hk2)) rfl ?_; clear hA a; intro a hA
                      refine S.val hA (R.pickF rfl rfl) rfl ?_; clear hA a; intro a hA
                      refine S.val hA (R.move rfl) rfl ?_; clear hA a; intro a hA
                      refine S.valg (dj := 62) hA (by kernel_rfl) rfl (R.move rfl) rfl ?_; clear hA a; intro a hA
                      refine S.valg (dj := 62) hA (by kernel_rfl) rfl (R.move rfl) rfl ?_; clear hA a; intro a hA
                      refine S.valg (dj := 62) hA (by kernel_rfl) rfl (R.move rfl) rfl ?_; clear hA a; intro a hA
                      refine S.valg (dj := 62) hA (by kernel_rfl) rfl (R.addI rfl rfl (r := ((p : Int)) + ((i : Int))) rfl (by omega)) rfl ?_; clear hA a; intro a hA
                      refine S.valg (dj := 62) hA (by kernel_rfl) rfl (R.to (v := .int .u8 (byt s (p + i))) (R.idxS Tryd.underlying9 rfl rfl (by omega)) (by first | rfl | (congr 2; done) | (congr 2; omega))) rfl ?_; clear hA a; intro a hA
                      refine S.valg (dj := 62) hA (by kernel_rfl) rfl (R.move rfl) rfl ?_; clear hA a; intro a hA
                      refine S.valg (dj := 62) hA (by kernel_rfl) rfl (R.ff (R.gtr rfl rfl) (Int.not_lt.2 hk3)) rfl ?_; clear hA a; intro a hA
                      refine S.val hA (R.pickF rfl rfl) rfl ?_; clear hA a; intro a hA
                      refine S.done ?_
                      replace hA : St 72 [(0, _), (1, _), (6, _), (9, _), (70, _)] a := hA.sub ((.cons rfl (.cons rfl (.cons rfl (.cons rfl (.cons rfl .nil))))))
                      refine Ends.condF hA rfl ?_
                      refine Ends.skip ?_
                      refine Ends.region ?_
                      refine S.val hA (R.to (v := .int .u8 (if i + 1 = 1 then 144 else 128)) (R.assign rfl) (congrArg (Value.int .u8) (by rw [if_neg (by omega)]))) rfl ?_; clear hA a; intro a hA
                      refine S.val hA (R.to (v := .int .u8 (if i + 1 = 1 then 191 else 191)) (R.assign rfl) (congrArg (Value.int .u8) (by rw [if_neg (by omega)]))) rfl ?_; clear hA a; intro a hA
                      refine S.done ?_
                      replace hA : St 72 [(0, _), (1, _), (6, _), (7, _), (8, _), (9, _)] a := hA.sub ((.cons rfl (.cons rfl (.cons rfl (.cons rfl (.cons rfl (.cons rfl .nil)))))))
                      refine Ends.inBlock ?_
                      refine Ends.region ?_
                      refine S.val hA (R.move rfl) rfl ?_; clear hA a; intro a hA
                      refine S.val hA (R.addI rfl rfl (r := ((i : Int)) + 1) rfl (by omega)) rfl ?_; clear hA a; intro a hA
                      refine S.val hA (R.assign rfl) rfl ?_; clear hA a; intro a hA
                      refine S.done ?_
                      replace hA : St 72 [(0, _), (1, _), (6, _), (7, _), (8, _), (9, _)] a := hA.sub ((.cons rfl (.cons rfl (.cons rfl (.cons rfl (.cons rfl (.cons rfl .nil)))))))
                      skip
                      exact hNext ((i + 1)) _ _ ((by show cntB (byt s p) + 1 - (i + 1) < cntB (byt s p) + 1 - i; omega)) ⟨hA.sub ((.cons rfl (.cons rfl (.cons rfl (.cons rfl (.cons rfl (.cons rfl .nil))))))), hM, (by omega), (fun j h1 h2 => by rcases Nat.lt_or_ge j i with g | g; exact hall j h1 g; have e : j = i := (by omega); exact e ▸ hs34)⟩
                    ·
                      have hk : ¬ (p + i < s.size ∧ (if i = 1 then 144 else 128) ≤ byt s (p + i) ∧ byt s (p + i) ≤ (if i = 1 then 191 else 191)) := by
                        have h0 := hs34
                        unfold okB cnt at h0
                        have hlo2 : loB (byt s p) = 144 := hlo.resolve_right (by omega)
                        have hhi2 : hiB (byt s p) = 191 := hhi.resolve_right (by omega)
                        rwa [hlo2, hhi2] at h0
                      by_cases hs35 : p + i < s.size
                      ·
                        by_cases hs36 : byt s (p + i) < (if i = 1 then 144 else 128)
                        ·
                          refine Ends.region ?_
                          refine S.val hA (R.move rfl) rfl ?_; clear hA a; intro a hA
                          refine S.val hA (R.move rfl) rfl ?_; clear hA a; intro a hA
                          refine S.val hA (R.addI rfl rfl (r := ((p : Int)) + ((i : Int))) rfl (by omega)) rfl ?_; clear hA a; intro a hA
                          refine S.val hA (R.move rfl) rfl ?_; clear hA a; intro a hA
                          refine S.val hA (R.lenStr Tryd.underlying9 rfl rfl) rfl ?_; clear hA a; intro a hA
                          refine S.val hA (R.ff (R.geq rfl rfl) (by omega)) rfl ?_; clear hA a; intro a hA
                          refine S.val hA (R.move rfl) rfl ?_; clear hA a; intro a hA
                          refine S.valg (dj := 53) hA (by kernel_rfl) rfl (R.move rfl) rfl ?_; clear hA a; intro a hA
                          refine S.valg (dj := 53) hA (by kernel_rfl) rfl (R.move rfl) rfl ?_; clear hA a; intro a hA
                          refine S.valg (dj := 53) hA (by kernel_rfl) rfl (R.move rfl) rfl ?_; clear hA a; intro a hA
                          refine S.valg (dj := 53) hA (by kernel_rfl) rfl (R.addI rfl rfl (r := ((p : Int)) + ((i : Int))) rfl (by omega)) rfl ?_; clear hA a; intro a hA
                          refine S.valg (dj := 53) hA (by kernel_rfl) rfl (R.to (v := .int .u8 (byt s (p + i))) (R.idxS Tryd.underlying9 rfl rfl (by omega)) (by first | rfl | (congr 2; done) | (congr 2; omega))) rfl ?_; clear hA a; intro a hA
                          refine S.valg (dj := 53) hA (by kernel_rfl) rfl (R.move rfl) rfl ?_; clear hA a; intro a hA
                          refine S.valg (dj := 53) hA (by kernel_rfl) rfl (R.tt (R.lss rfl rfl) (hs36)) rfl ?_; clear hA a; intro a hA
                          refine S.val hA (R.pickF rfl rfl) rfl ?_; clear hA a; intro a hA
                          refine S.val hA (R.move rfl) rfl ?_; clear hA a; intro a hA
                          refine S.no (dj := 62) hA (by kernel_rfl) rfl rfl rfl ?_; clear hA a; intro a hA
                          refine S.no (dj := 62) hA (by kernel_rfl) rfl rfl rfl ?_; clear hA a; intro a hA
                          refine S.no (dj := 62) hA (by kernel_rfl) rfl rfl rfl ?_; clear hA a; intro a hA
                          refine S.no (dj := 62) hA (by kernel_rfl) rfl rfl rfl ?_; clear hA a; intro a hA
                          refine S.no (dj := 62) hA (by kernel_rfl) rfl rfl rfl ?_; clear hA a; intro a hA
                          refine S.no (dj := 62) hA (by kernel_rfl) rfl rfl rfl ?_; clear hA a; intro a hA
                          refine S.no (dj := 62) hA (by kernel_rfl) rfl rfl rfl ?_; clear hA a; intro a hA
                          refine S.val hA (R.pickT rfl rfl) rfl ?_; clear hA a; intro a hA
                          refine S.done ?_
                          replace hA : St 72 [(0, _), (1, _), (6, _), (9, _), (70, _)] a := hA.sub ((.cons rfl (.cons rfl (.cons rfl (.cons rfl (.cons rfl .nil))))))
                          refine Ends.condT hA rfl ?_
                          refine Ends.seq ?_
                          refine Ends.region ?_
                          refine S.val hA (R.assign rfl) rfl ?_; clear hA a; intro a hA
                          refine S.done ?_
                          replace hA : St 72 [(0, _), (1, _), (4, _), (6, _), (9, _)] a := hA.sub ((.cons rfl (.cons rfl (.cons rfl (.cons rfl (.cons rfl .nil))))))
                          refine Ends.ret1 Tryd.func32 Tryd.results32 hA rfl ?_
                          have e0 := mw_not (by omega) (by omega) hs34
                          rw [dec_w, e0]
                          exact ⟨rfl, hM.nilL.below⟩
                        ·
                          refine Ends.region ?_
                          refine S.val hA (R.move rfl) rfl ?_; clear hA a; intro a hA
                          refine S.val hA (R.move rfl) rfl ?_; clear hA a; intro a hA
                          refine S.val hA (R.addI rfl rfl (r := ((p : Int)) + ((i : Int))) rfl (by omega)) rfl ?_; clear hA a; intro a hA
                          refine S.val hA (R.move rfl) rfl ?_; clear hA a; intro a hA
                          refine S.val hA (R.lenStr Tryd.underlying9 rfl rfl) rfl ?_; clear hA a; intro a hA
                          refine S.val hA (R.ff (R.geq rfl rfl) (by omega)) rfl ?_; clear hA a; intro a hA
                          refine S.val hA (R.move rfl) rfl ?_; clear hA a; intro a hA
                          refine S.valg (dj := 53) hA (by kernel_rfl) rfl (R.move rfl) rfl ?_; clear hA a; intro a hA
                          refine S.valg (dj := 53) hA (by kernel_rfl) rfl (R.move rfl) rfl ?_; clear hA a; intro a hA
                          refine S.valg (dj := 53) hA (by kernel_rfl) rfl (R.move rfl) rfl ?_; clear hA a; intro a hA
                          refine S.valg (dj := 53) hA (by kernel_rfl) rfl (R.addI rfl rfl (r := ((p : Int)) + ((i : Int))) rfl (by omega)) rfl ?_; clear hA a; intro a hA
                          refine S.valg (dj := 53) hA (by kernel_rfl) rfl (R.to (v := .int .u8 (byt s (p + i))) (R.idxS Tryd.underlying9 rfl rfl (by omega)) (by first | rfl | (congr 2; done) | (congr 2; omega))) rfl ?_; clear hA a; intro a hA
                          refine S.valg (dj := 53) hA (by kernel_rfl) rfl (R.move rfl) rfl ?_; clear hA a; intro a hA
                          refine S.valg (dj := 53) hA (by kernel_rfl) rfl (R.ff (R.lss rfl rfl) (hs36)) rfl ?_; clear hA a; intro a hA
                          refine S.val hA (R.pickF rfl rfl) rfl ?_; clear hA a; intro a hA
                          refine S.val hA (R.move rfl) rfl ?_; clear hA a; intro a hA
                          refine S.valg (dj := 62) hA (by kernel_rfl) rfl (R.move rfl) rfl ?_; clear hA a; intro a hA
                          refine S.valg (dj := 62) hA (by kernel_rfl) rfl (R.move rfl) rfl ?_; clear hA a; intro a hA
                          refine S.valg (dj := 62) hA (by kernel_rfl) rfl (R.move rfl) rfl ?_; clear hA a; intro a hA
                          refine S.valg (dj := 62) hA (by kernel_rfl) rfl (R.addI rfl rfl (r := ((p : Int)) + ((i : Int))) rfl (by omega)) rfl ?_; clear hA a; intro a hA
                          refine S.valg (dj := 62) hA (by kernel_rfl) rfl (R.to (v := .int .u8 (byt s (p + i))) (R.idxS Tryd.underlying9 rfl rfl (by omega)) (by first | rfl | (congr 2; done) | (congr 2; omega))) rfl ?_; clear hA a; intro a hA
                          refine S.valg (dj := 62) hA (by kernel_rfl) rfl (R.move rfl) rfl ?_; clear hA a; intro a hA
                          refine S.valg (dj := 62) hA (by kernel_rfl) rfl (R.tt (R.gtr rfl rfl) (Int.not_le.1 (fun h9 => hk ⟨hs35, Int.not_lt.1 hs36, h9⟩))) rfl ?_; clear hA a; intro a hA
                          refine S.val hA (R.pickF rfl rfl) rfl ?_; clear hA a; intro a hA
                          refine S.done ?_
                          replace hA : St 72 [(0, _), (1, _), (6, _), (9, _), (70, _)] a := hA.sub ((.cons rfl (.cons rfl (.cons rfl (.cons rfl (.cons rfl .nil))))))
                          refine Ends.condT hA rfl ?_
                          refine Ends.seq ?_
                          refine Ends.region ?_
                          refine S.val hA (R.assign rfl) rfl ?_; clear hA a; intro a hA
                          refine S.done ?_
                          replace hA : St 72 [(0, _), (1, _), (4, _), (6, _), (9, _)] a := hA.sub ((.cons rfl (.cons rfl (.cons rfl (.cons rfl (.cons rfl .nil))))))
                          refine Ends.ret1 Tryd.func32 Tryd.results32 hA rfl ?_
                          have e0 := mw_not (by omega) (by omega) hs34
                          rw [dec_w, e0]
                          exact ⟨rfl, hM.nilL.below⟩
                      ·
                        refine Ends.region ?_
                        refine S.val hA (R.move rfl) rfl ?_; clear hA a; intro a hA
                        refine S.val hA (R.move rfl) rfl ?_; clear hA a; intro a hA
                        refine S.val hA (R.addI rfl rfl (r := ((p : Int)) + ((i : Int))) rfl (by omega)) rfl ?_; clear hA a; intro a hA
                        refine S.val hA (R.move rfl) rfl ?_; clear hA a; intro a hA
                        refine S.val hA (R.lenStr Tryd.underlying9 rfl rfl) rfl ?_; clear hA a; intro a hA
                        refine S.val hA (R.tt (R.geq rfl rfl) (by omega)) rfl ?_; clear hA a; intro a hA
                        refine S.val hA (R.move rfl) rfl ?_; clear hA a; intro a hA
                        refine S.no (dj := 53) hA (by kernel_rfl) rfl rfl rfl ?_; clear hA a; intro a hA
                        refine S.no (dj := 53) hA (by kernel_rfl) rfl rfl rfl ?_; clear hA a; intro a hA
                        refine S.no (dj := 53) hA (by kernel_rfl) rfl rfl rfl ?_; clear hA a; intro a hA
                        refine S.no (dj := 53) hA (by kernel_rfl) rfl rfl rfl ?_; clear hA a; intro a hA
                        refine S.no (dj := 53) hA (by kernel_rfl) rfl rfl rfl ?_; clear hA a; intro a hA
                        refine S.no (dj := 53) hA (by kernel_rfl) rfl rfl rfl ?_; clear hA a; intro a hA
                        refine S.no (dj := 53) hA (by kernel_rfl) rfl rfl rfl ?_; clear hA a; intro a hA
                        refine S.val hA (R.pickT rfl rfl) rfl ?_; clear hA a; intro a hA
                        refine S.val hA (R.move rfl) rfl ?_; clear hA a; intro a hA
                        refine S.no (dj := 62) hA (by kernel_rfl) rfl rfl rfl ?_; clear hA a; intro a hA
                        refine S.no (dj := 62) hA (by kernel_rfl) rfl rfl rfl ?_; clear hA a; intro a hA
                        refine S.no (dj := 62) hA (by kernel_rfl) rfl rfl rfl ?_; clear hA a; intro a hA
                        refine S.no (dj := 62) hA (by kernel_rfl) rfl rfl rfl ?_; clear hA a; intro a hA
                        refine S.no (dj := 62) hA (by kernel_rfl) rfl rfl rfl ?_; clear hA a; intro a hA
                        refine S.no (dj := 62) hA (by kernel_rfl) rfl rfl rfl ?_; clear hA a; intro a hA
                        refine S.no (dj := 62) hA (by kernel_rfl) rfl rfl rfl ?_; clear hA a; intro a hA
                        refine S.val hA (R.pickT rfl rfl) rfl ?_; clear hA a; intro a hA
                        refine S.done ?_
                        replace hA : St 72 [(0, _), (1, _), (6, _), (9, _), (70, _)] a := hA.sub ((.cons rfl (.cons rfl (.cons rfl (.cons rfl (.cons rfl .nil))))))
                        refine Ends.condT hA rfl ?_
                        refine Ends.seq ?_
                        refine Ends.region ?_
                        refine S.val hA (R.assign rfl) rfl ?_; clear hA a; intro a hA
                        refine S.done ?_
                        replace hA : St 72 [(0, _), (1, _), (4, _), (6, _), (9, _)] a := hA.sub ((.cons rfl (.cons rfl (.cons rfl (.cons rfl (.cons rfl .nil))))))
                        refine Ends.ret1 Tryd.func32 Tryd.results32 hA rfl ?_
                        have e0 := mw_not (by omega) (by omega) hs34
                        rw [dec_w, e0]
                        exact ⟨rfl, hM.nilL.below⟩
                  ·
                    rw [decide_eq_false hc33] at hA
                    refine Ends.exit rfl ?_
                    replace hA : St 72 [(6, _)] a := hA.sub ((.cons rfl .nil))
                    refine Ends.seq ?_
                    refine Ends.region ?_
                    refine S.val hA (R.move rfl) rfl ?_; clear hA a; intro a hA
                    refine S.val hA (R.assign rfl) rfl ?_; clear hA a; intro a hA
                    refine S.done ?_
                    replace hA : St 72 [(4, _)] a := hA.sub ((.cons rfl .nil))
                    refine Ends.ret1 Tryd.func32 Tryd.results32 hA rfl ?_
                    have e0 := mw_all (fun i2 h1 h2 => hall i2 h1 (by omega))
                    rw [dec_w, e0, show (((cntB (byt s p) + 1 : Nat) : Int) - 1) = (cntB (byt s p) : Int) by omega, ← hn]
                    exact ⟨rfl, hM.nilL.below⟩
              ·
                rw [decide_eq_false hc27] at hA
                refine Ends.skip ?_
                refine Ends.seq ?_
                refine Ends.region ?_
                refine S.val hA (R.move rfl) rfl ?_; clear hA a; intro a hA
                refine S.val hA (R.eql rfl rfl) rfl ?_; clear hA a; intro a hA
                refine S.done ?_
                replace hA : St 72 [(0, _), (1, _), (6, _), (7, _), (8, _), (41, _)] a := hA.sub ((.cons rfl (.cons rfl (.cons rfl (.cons rfl (.cons rfl (.cons rfl .nil)))))))
                refine Ends.ite hA rfl (fun hc37 => ?_) (fun hc37 => ?_)
                ·
                  rw [decide_eq_true hc37] at hA
                  refine Ends.region ?_
                  refine S.val hA (R.assign rfl) rfl ?_; clear hA a; intro a hA
                  refine S.done ?_
                  replace hA : St 72 [(0, _), (1, _), (6, _), (7, _), (8, _)] a := hA.sub ((.cons rfl (.cons rfl (.cons rfl (.cons rfl (.cons rfl .nil))))))
                  refine Ends.inBlock ?_
                  refine Ends.seq ?_
                  refine Ends.seq ?_
                  refine Ends.region ?_
                  refine S.val hA (R.assign rfl) rfl ?_; clear hA a; intro a hA
                  refine S.done ?_
                  replace hA : St 72 [(0, _), (1, _), (6, _), (7, _), (8, _), (9, _)] a := hA.sub ((.cons rfl (.cons rfl (.cons rfl (.cons rfl (.cons rfl (.cons rfl .nil)))))))
                  refine Ends.block ?_
                  have hn : ((3 : Int)) = (cntB (byt s p) : Int) := by unfold cntB; (repeat' split) <;> first | rfl | omega
                  have hlo : loB (byt s p) = 128 ∨ cntB (byt s p) = 0 := by unfold loB cntB; (repeat' split) <;> first | (left; rfl) | (right; rfl) | omega
                  have hhi : hiB (byt s p) = 143 ∨ cntB (byt s p) = 0 := by unfold hiB cntB; (repeat' split) <;> first | (left; rfl) | (right; rfl) | omega
                  refine Ends.loop (σ := Nat) (fun i (a : Act) (wv : World) => St 72 [(0, .string s), (1, .int .i64 ((p : Int))), (6, .int .i64 3), (7, .int .u8 ((if i = 1 then 128 else 128))), (8, .int .u8 ((if i = 1 then 143 else 191))), (9, .int .i64 ((i : Int)))] a ∧ Mem w nof [] wv ∧ (1 ≤ i ∧ i ≤ cntB (byt s p) + 1) ∧ (∀ j, 1 ≤ j → j < i → okB s p j)) (fun i => cntB (byt s p) + 1 - i) 1 ⟨hA.sub ((.cons rfl (.cons rfl (.cons rfl (.cons rfl (.cons rfl (.cons rfl .nil))))))), hM, (by omega), (fun j h1 h2 => absurd h1 (by omega))⟩ ?_
                  clear hA hM a
                  rintro i a w11 ⟨hA, hM, hi, hall⟩ hNext
                  refine Ends.seq ?_
                  refine Ends.seq ?_
                  refine Ends.region ?_
                  refine S.val hA (R.move rfl) rfl ?_; clear hA a; intro a hA
                  refine S.val hA (R.move rfl) rfl ?_; clear hA a; intro a hA
                  refine S.val hA (R.leq rfl rfl) rfl ?_; clear hA a; intro a hA
                  refine S.done ?_
                  replace hA : St 72 [(0, _), (1, _), (6, _), (7, _), (8, _), (9, _), (44, _)] a := hA.sub ((.cons rfl (.cons rfl (.cons rfl (.cons rfl (.cons rfl (.cons rfl (.cons rfl .nil))))))))
                  refine Ends.ite hA rfl (fun hc38 => ?_) (fun hc38 => ?_)
                  ·
                    rw [decide_eq_true hc38] at hA
                    refine Ends.skip ?_
                    refine Ends.seq ?_
                    refine Ends.block ?_
                    refine Ends.seq ?_
                    refine Ends.seq ?_
                    by_cases hs39 : okB s p i
                    ·
                      have hk : p + i < s.size ∧ (if i = 1 then 128 else 128) ≤ byt s (p + i) ∧ byt s (p + i) ≤ (if i = 1 then 143 else 191) := by
                        have h0 := hs39
                        unfold okB cnt at h0
                        have hlo2 : loB (byt s p) = 128 := hlo.resolve_right (by omega)
                        have hhi2 : hiB (byt s p) = 143 := hhi.resolve_right (by omega)
                        rwa [hlo2, hhi2] at h0
                      obtain ⟨hk1, hk2, hk3⟩ := hk
                      refine Ends.region ?_
                      refine S.val hA (R.move rfl) rfl ?_; clear hA a; intro a hA
                      refine S.val hA (R.move rfl) rfl ?_; clear hA a; intro a hA
                      refine S.val hA (R.addI rfl rfl (r := ((p : Int)) + ((i : Int))) rfl (by omega)) rfl ?_; clear hA a; intro a hA
                      refine S.val hA (R.move rfl) rfl ?_; clear hA a; intro a hA
                      refine S.val hA (R.lenStr Tryd.underlying9 rfl rfl) rfl ?_; clear hA a; intro a hA
                      refine S.val hA (R.ff (R.geq rfl rfl) (by omega)) rfl ?_; clear hA a; intro a hA
                      refine S.val hA (R.move rfl) rfl ?_; clear hA a; intro a hA
                      refine S.valg (dj := 53) hA (by kernel_rfl) rfl (R.move rfl) rfl ?_; clear hA a; intro a hA
                      refine S.valg (dj := 53) hA (by kernel_rfl) rfl (R.move rfl) rfl ?_; clear hA a; intro a hA
                      refine S.valg (dj := 53) hA (by kernel_rfl) rfl (R.move rfl) rfl ?_; clear hA a; intro a hA
                      refine S.valg (dj := 53) hA (by kernel_rfl) rfl (R.addI rfl rfl (r := ((p : Int)) + ((i : Int))) rfl (by omega)) rfl ?_; clear hA a; intro a hA
                      refine S.valg (dj := 53) hA (by kernel_rfl) rfl (R.to (v := .int .u8 (byt s (p + i))) (R.idxS Tryd.underlying9 rfl rfl (by omega)) (by first | rfl | (congr 2; done) | (congr 2; omega))) rfl ?_; clear hA a; intro a hA
                      refine S.valg (dj := 53) hA (by kernel_rfl) rfl (R.move rfl) rfl ?_; clear hA a; intro a hA
                      refine S.valg (dj := 53) hA (by kernel_rfl) rfl (R.ff (R.lss rfl rfl) (Int.not_lt.2 hk2)) rfl ?_; clear hA a; intro a hA
                      refine S.val hA (R.pickF rfl rfl) rfl ?_; clear hA a; intro a hA
                      refine S.val hA (R.move rfl) rfl ?_; clear hA a; intro a hA
                      refine S.valg (dj := 62) hA (by kernel_rfl) rfl (R.move rfl) rfl ?_; clear hA a; intro a hA
                      refine S.valg (dj := 62) hA (by kernel_rfl) rfl (R.move rfl) rfl ?_; clear hA a; intro a hA
                      refine S.valg (dj := 62) hA (by kernel_rfl) rfl (R.move rfl) rfl ?_; clear hA a; intro a hA
                      refine S.valg (dj := 62) hA (by kernel_rfl) rfl (R.addI rfl rfl (r := ((p : Int)) + ((i : Int))) rfl (by omega)) rfl ?_; clear hA a; intro a hA
                      refine S.valg (dj := 62) hA (by kernel_rfl) rfl (R.to (v := .int .u8 (byt s (p + i))) (R.idxS Tryd.underlying9 rfl rfl (by omega)) (by first | rfl | (congr 2; done) | (congr 2; omega))) rfl ?_; clear hA a; intro a hA
                      refine S.valg (dj := 62) hA (by kernel_rfl) rfl (R.move rfl) rfl ?_; clear hA a; intro a hA
                      refine S.valg (dj := 62) hA (by kernel_rfl) rfl (R.ff (R.gtr rfl rfl) (Int.not_lt.2 hk3)) rfl ?_; clear hA a; intro a hA
                      refine S.val hA (R.pickF rfl rfl) rfl ?_; clear hA a; intro a hA
                      refine S.done ?_
                      replace hA : St 72 [(0, _), (1, _), (6, _), (9, _), (70, _)] a := hA.sub ((.cons rfl (.cons rfl (.cons rfl (.cons rfl (.cons rfl .nil))))))
                      refine Ends.condF hA rfl ?_
                      refine Ends.skip ?_
                      refine Ends.region ?_
                      refine S.val hA (R.to (v := .int .u8 (if i + 1 = 1 then 128 else 128)) (R.assign rfl) (congrArg (Value.int .u8) (by rw [if_neg (by omega)]))) rfl ?_; clear hA a; intro a hA
                      refine S.val hA (R.to (v := .int .u8 (if i + 1 = 1 then 143 else 191)) (R.assign rfl) (congrArg (Value.int .u8) (by rw [if_neg (by omega)]))) rfl ?_; clear hA a; intro a hA
                      refine S.done ?_
                      replace hA : St 72 [(0, _), (1, _), (6, _), (7, _), (8, _), (9, _)] a := hA.sub ((.cons rfl (.cons rfl (.cons rfl (.cons rfl (.cons rfl (.cons rfl .nil)))))))
                      refine Ends.inBlock ?_
                      refine Ends.region ?_
                      refine S.val hA (R.move rfl) rfl ?_; clear hA a; intro a hA
                      refine S.val hA (R.addI rfl rfl (r := ((i : Int)) + 1) rfl (by omega)) rfl ?_; clear hA a; intro a hA
                      refine S.val hA (R.assign rfl) rfl ?_; clear hA a; intro a hA
                      refine S.done ?_
                      replace hA : St 72 [(0, _), (1, _), (6, _), (7, _), (8, _), (9, _)] a := hA.sub ((.cons rfl (.cons rfl (.cons rfl (.cons rfl (.cons rfl (.cons rfl .nil)))))))
                      skip
                      exact hNext ((i + 1)) _ _ ((by show cntB (byt s p) + 1 - (i + 1) < cntB (byt s p) + 1 - i; omega)) ⟨hA.sub ((.cons rfl (.cons rfl (.cons rfl (.cons rfl (.cons rfl (.cons rfl .nil))))))), hM, (by omega), (fun j h1 h2 => by rcases Nat.lt_or_ge j i with g | g; exact hall j h1 g; have e : j = i := (by omega); exact e ▸ hs39)⟩
                    ·
                      have hk : ¬ (p + i < s.size ∧ (if i = 1 then 128 else 128) ≤ byt s (p + i) ∧ byt s (p + i) ≤ (if i = 1 then 143 else 191)) := by
                        have h0 := hs39
                        unfold okB cnt at h0
                        have hlo2 : loB (byt s p) = 128 := hlo.resolve_right (by omega)
                        have hhi2 : hiB (byt s p) = 143 := hhi.resolve_right (by omega)
                        rwa [hlo2, hhi2] at h0
                      by_cases hs40 : p + i < s.size
                      ·
                        by_cases hs41 : byt s (p + i) < (if i = 1 then 128 else 128)
                        ·
                          refine Ends.region ?_
                          refine S.val hA (R.move rfl) rfl ?_; clear hA a; intro a hA
                          refine S.val hA (R.move rfl) rfl ?_; clear hA a; intro a hA
                          refine S.val hA (R.addI rfl rfl (r := ((p : Int)) + ((i : Int))) rfl (by omega)) rfl ?_; clear hA a; intro a hA
                          refine S.val hA (R.move rfl) rfl ?_; clear hA a; intro a hA
                          refine S.val hA (R.lenStr Tryd.underlying9 rfl rfl) rfl ?_; clear hA a; intro a hA
                          refine S.val hA (R.ff (R.geq rfl rfl) (by omega)) rfl ?_; clear hA a; intro a hA
                          refine S.val hA (R.move rfl) rfl ?_; clear hA a; intro a hA
                          refine S.valg (dj := 53) hA (by kernel_rfl) rfl (R.move rfl) rfl ?_; clear hA a; intro a hA
                          refine S.valg (dj := 53) hA (by kernel_rfl) rfl (R.move rfl) rfl ?_; clear hA a; intro a hA
                          refine S.valg (dj := 53) hA (by kernel_rfl) rfl (R.move rfl) rfl ?_; clear hA a; intro a hA
                          refine S.valg (dj := 53) hA (by kernel_rfl) rfl (R.addI rfl rfl (r := ((p : Int)) + ((i : Int))) rfl (by omega)) rfl ?_; clear hA a; intro a hA
                          refine S.valg (dj := 53) hA (by kernel_rfl) rfl (R.to (v := .int .u8 (byt s (p + i))) (R.idxS Tryd.underlying9 rfl rfl (by omega)) (by first | rfl | (congr 2; done) | (congr 2; omega))) rfl ?_; clear hA a; intro a hA
                          refine S.valg (dj := 53) hA (by kernel_rfl) rfl (R.move rfl) rfl ?_; clear hA a; intro a hA
                          refine S.valg (dj := 53) hA (by kernel_rfl) rfl (R.tt (R.lss rfl rfl) (hs41)) rfl ?_; clear hA a; intro a hA
                          refine S.val hA (R.pickF rfl rfl) rfl ?_; clear hA a; intro a hA
                          refine S.val hA (R.move rfl) rfl ?_; clear hA a; intro a hA
                          refine S.no (dj := 62) hA (by kernel_rfl) rfl rfl rfl ?_; clear hA a; intro a hA
                          refine S.no (dj := 62) hA (by kernel_rfl) rfl rfl rfl ?_; clear hA a; intro a hA
                          refine S.no (dj := 62) hA (by kernel_rfl) rfl rfl rfl ?_; clear hA a; intro a hA
                          refine S.no (dj := 62) hA (by kernel_rfl) rfl rfl rfl ?_; clear hA a; intro a hA
                          refine S.no (dj := 62) hA (by kernel_rfl) rfl rfl rfl ?_; clear hA a; intro a hA
                          refine S.no (dj := 62) hA (by kernel_rfl) rfl rfl rfl ?_; clear hA a; intro a hA
                          refine S.no (dj := 62) hA (by kernel_rfl) rfl rfl rfl ?_; clear hA a; intro a hA
                          refine S.val hA (R.pickT rfl rfl) rfl ?_; clear hA a; intro a hA
                          refine S.done ?_
                          replace hA : St 72 [(0, _), (1, _), (6, _), (9, _), (70, _)] a := hA.sub ((.cons rfl (.cons rfl (.cons rfl (.cons rfl (.cons rfl .nil))))))
                          refine Ends.condT hA rfl ?_
                          refine Ends.seq ?_
                          refine Ends.region ?_
                          refine S.val hA (R.assign rfl) rfl ?_; clear hA a; intro a hA
                          refine S.done ?_
                          replace hA : St 72 [(0, _), (1, _), (4, _), (6, _), (9, _)] a := hA.sub ((.cons rfl (.cons rfl (.cons rfl (.cons rfl (.cons rfl .nil))))))
                          refine Ends.ret1 Tryd.func32 Tryd.results32 hA rfl ?_
                          have e0 := mw_not (by omega) (by omega) hs39
                          rw [dec_w, e0]
                          exact ⟨rfl, hM.nilL.below⟩
                        ·
                          refine Ends.region ?_
                          refine S.val hA (R.move rfl) rfl ?_; clear hA a; intro a hA
                          refine S.val hA (R.move rfl) rfl ?_; clear hA a; intro a hA
                          refine S.val hA (R.addI rfl rfl (r := ((p : Int)) + ((i : Int))) rfl (by omega)) rfl ?_; clear hA a; intro a hA
                          refine S.val hA (R.move rfl) rfl ?_; clear hA a; intro a hA
                          refine S.val hA (R.lenStr Tryd.underlying9 rfl rfl) rfl ?_; clear hA a; intro a hA
                          refine S.val hA (R.ff (R.geq rfl rfl) (by omega)) rfl ?_; clear hA a; intro a hA
                          refine S.val hA (R.move rfl) rfl ?_; clear hA a; intro a hA
                          refine S.valg (dj := 53) hA (by kernel_rfl) rfl (R.move rfl) rfl ?_; clear hA a; intro a hA
                          refine S.valg (dj := 53) hA (by kernel_rfl) rfl (R.move rfl) rfl ?_; clear hA a; intro a hA
                          refine S.valg (dj := 53) hA (by kernel_rfl) rfl (R.move rfl) rfl ?_; clear hA a; intro a hA
                          refine S.valg (dj := 53) hA (by kernel_rfl) rfl (R.addI rfl rfl (r := ((p : Int)) + ((i : Int))) rfl (by omega)) rfl ?_; clear hA a; intro a hA
                          refine S.valg (dj := 53) hA (by kernel_rfl) rfl (R.to (v := .int .u8 (byt s (p + i))) (R.idxS Tryd.underlying9 rfl rfl (by omega)) (by first | rfl | (congr 2; done) | (congr 2; omega))) rfl ?_; clear hA a; intro a hA
                          refine S.valg (dj := 53) hA (by kernel_rfl) rfl (R.move rfl) rfl ?_; clear hA a; intro a hA
                          refine S.valg (dj := 53) hA (by kernel_rfl) rfl (R.ff (R.lss rfl rfl) (hs41)) rfl ?_; clear hA a; intro a hA
                          refine S.val hA (R.pickF rfl rfl) rfl ?_; clear hA a; intro a hA
                          refine S.val hA (R.move rfl) rfl ?_; clear hA a; intro a hA
                          refine S.valg (dj := 62) hA (by kernel_rfl) rfl (R.move rfl) rfl ?_; clear hA a; intro a hA
                          refine S.valg (dj := 62) hA (by kernel_rfl) rfl (R.move rfl) rfl ?_; clear hA a; intro a hA
                          refine S.valg (dj := 62) hA (by kernel_rfl) rfl (R.move rfl) rfl ?_; clear hA a; intro a hA
                          refine S.valg (dj := 62) hA (by kernel_rfl) rfl (R.addI rfl rfl (r := ((p : Int)) + ((i : Int))) rfl (by omega)) rfl ?_; clear hA a; intro a hA
                          refine S.valg (dj := 62) hA (by kernel_rfl) rfl (R.to (v := .int .u8 (byt s (p + i))) (R.idxS Tryd.underlying9 rfl rfl (by omega)) (by first | rfl | (congr 2; done) | (congr 2; omega))) rfl ?_; clear hA a; intro a hA
                          refine S.valg (dj := 62) hA (by kernel_rfl) rfl (R.move rfl) rfl ?_; clear hA a; intro a hA
                          refine S.valg (dj := 62) hA (by kernel_rfl) rfl (R.tt (R.gtr rfl rfl) (Int.not_le.1 (fun h9 => hk ⟨hs40, Int.not_lt.1 hs41, h9⟩))) rfl ?_; clear hA a; intro a hA
                          refine S.val hA (R.pickF rfl rfl) rfl ?_; clear hA a; intro a hA
                          refine S.done ?_
                          replace hA : St 72 [(0, _), (1, _), (6, _), (9, _), (70, _)] a := hA.sub ((.cons rfl (.cons rfl (.cons rfl (.cons rfl (.cons rfl .nil))))))
                          refine Ends.condT hA rfl ?_
                          refine Ends.seq ?_
                          refine Ends.region ?_
                          refine S.val hA (R.assign rfl) rfl ?_; clear hA a; intro a hA
                          refine S.done ?_
                          replace hA : St 72 [(0, _), (1, _), (4, _), (6, _), (9, _)] a := hA.sub ((.cons rfl (.cons rfl (.cons rfl (.cons rfl (.cons rfl .nil))))))
                          refine Ends.ret1 Tryd.func32 Tryd.results32 hA rfl ?_
                          have e0 := mw_not (by omega) (by omega) hs39
                          rw [dec_w, e0]
                          exact ⟨rfl, hM.nilL.below⟩
                      ·
                        refine Ends.region ?_
                        refine S.val hA (R.move rfl) rfl ?_; clear hA a; intro a hA
                        refine S.val hA (R.move rfl) rfl ?_; clear hA a; intro a hA
                        refine S.val hA (R.addI rfl rfl (r := ((p : Int)) + ((i : Int))) rfl (by omega)) rfl ?_; clear hA a; intro a hA
                        refine S.val hA (R.move rfl) rfl ?_; clear hA a; intro a hA
                        refine S.val hA (R.lenStr Tryd.underlying9 rfl rfl) rfl ?_; clear hA a; intro a hA
                        refine S.val hA (R.tt (R.geq rfl rfl) (by omega)) rfl ?_; clear hA a; intro a hA
                        refine S.val hA (R.move rfl) rfl ?_; clear hA a; intro a hA
                        refine S.no (dj := 53) hA (by kernel_rfl) rfl rfl rfl ?_; clear hA a; intro a hA
                        refine S.no (dj := 53) hA (by kernel_rfl) rfl rfl rfl ?_; clear hA a; intro a hA
                        refine S.no (dj := 53) hA (by kernel_rfl) rfl rfl rfl ?_; clear hA a; intro a hA
                        refine S.no (dj := 53) hA (by kernel_rfl) rfl rfl rfl ?_; clear hA a; intro a hA
                        refine S.no (dj := 53) hA (by kernel_rfl) rfl rfl rfl ?_; clear hA a; intro a hA
                        refine S.no (dj := 53) hA (by kernel_rfl) rfl rfl rfl ?_; clear hA a; intro a hA
                        refine S.no (dj := 53) hA (by kernel_rfl) rfl rfl rfl ?_; clear hA a; intro a hA
                        refine S.val hA (R.pickT rfl rfl) rfl ?_; clear hA a; intro a hA
                        refine S.val hA (R.move rfl) rfl ?_; clear hA a; intro a hA
                        refine S.no (dj := 62) hA (by kernel_rfl) rfl rfl rfl ?_; clear hA a; intro a hA
                        refine S.no (dj := 62) hA (by kernel_rfl) rfl rfl rfl ?_; clear hA a; intro a hA
                        refine S.no (dj := 62) hA (by kernel_rfl) rfl rfl rfl ?_; clear hA a; intro a hA
                        refine S.no (dj := 62) hA (by kernel_rfl) rfl rfl rfl ?_; clear hA a; intro a hA
                        refine S.no (dj := 62) hA (by kernel_rfl) rfl rfl rfl ?_; clear hA a; intro a hA
                        refine S.no (dj := 62) hA (by kernel_rfl) rfl rfl rfl ?_; clear hA a; intro a hA
                        refine S.no (dj := 62) hA (by kernel_rfl) rfl rfl rfl ?_; clear hA a; intro a hA
                        refine S.val hA (R.pickT rfl rfl) rfl ?_; clear hA a; intro a hA
                        refine S.done ?_
                        replace hA : St 72 [(0, _), (1, _), (6, _), (9, _), (70, _)] a := hA.sub ((.cons rfl (.cons rfl (.cons rfl (.cons rfl (.cons rfl .nil))))))
                        refine Ends.condT hA rfl ?_
                        refine Ends.seq ?_
                        refine Ends.region ?_
                        refine S.val hA (R.assign rfl) rfl ?_; clear hA a; intro a hA
                        refine S.done ?_
                        replace hA : St 72 [(0, _), (1, _), (4, _), (6, _), (9, _)] a := hA.sub ((.cons rfl (.cons rfl (.cons rfl (.cons rfl (.cons rfl .nil))))))
                        refine Ends.ret1 Tryd.func32 Tryd.results32 hA rfl ?_
                        have e0 := mw_not (by omega) (by omega) hs39
                        rw [dec_w, e0]
                        exact ⟨rfl, hM.nilL.below⟩
                  ·
                    rw [decide_eq_false hc38] at hA
                    refine Ends.exit rfl ?_
                    replace hA : St 72 [(6, _)] a := hA.sub ((.cons rfl .nil))
                    refine Ends.seq ?_
                    refine Ends.region ?_
                    refine S.val hA (R.move rfl) rfl ?_; clear hA a; intro a hA
                    refine S.val hA (R.assign rfl) rfl ?_; clear hA a; intro a hA
                    refine S.done ?_
                    replace hA : St 72 [(4, _)] a := hA.sub ((.cons rfl .nil))
                    refine Ends.ret1 Tryd.func32 Tryd.results32 hA rfl ?_
                    have e0 := mw_all (fun i2 h1 h2 => hall i2 h1 (by omega))
                    rw [dec_w, e0, show (((cntB (byt s p) + 1 : Nat) : Int) - 1) = (cntB (byt s p) : Int) by omega, ← hn]
                    exact ⟨rfl, hM.nilL.below⟩
                ·
                  rw [decide_eq_false hc37] at hA
                  refine Ends.skip ?_
                  refine Ends.inBlock ?_
                  refine Ends.seq ?_
                  refine Ends.seq ?_
                  refine Ends.region ?_
                  refine S.val hA (R.assign rfl) rfl ?_; clear hA a; intro a hA
                  refine S.done ?_
                  replace hA : St 72 [(0, _), (1, _), (6, _), (7, _), (8, _), (9, _)] a := hA.sub ((.cons rfl (.cons rfl (.cons rfl (.cons rfl (.cons rfl (.cons rfl .nil)))))))
                  refine Ends.block ?_
                  have hn : ((3 : Int)) = (cntB (byt s p) : Int) := by unfold cntB; (repeat' split) <;> first | rfl | omega
                  have hlo : loB (byt s p) = 128 ∨ cntB (byt s p) = 0 := by unfold loB cntB; (repeat' split) <;> first | (left; rfl) | (right; rfl) | omega
                  have hhi : hiB (byt s p) = 191 ∨ cntB (byt s p) = 0 := by unfold hiB cntB; (repeat' split) <;> first | (left; rfl) | (right; rfl) | omega
                  refine Ends.loop (σ := Nat) (fun i (a : Act) (wv : World) => St 72 [(0, .string s), (1, .int .i64 ((p : Int))), (6, .int .i64 3), (7, .int .u8 ((if i = 1 then 128 else 128))), (8, .int .u8 ((if i = 1 then 191 else 191))), (9, .int .i64 ((i : Int)))] a ∧ Mem w nof [] wv ∧ (1 ≤ i ∧ i ≤ cntB (byt s p) + 1) ∧ (∀ j, 1 ≤ j → j < i → okB s p j)) (fun i => cntB (byt s p) + 1 - i) 1 ⟨hA.sub ((.cons rfl (.cons rfl (.cons rfl (.cons rfl (.cons rfl (.cons rfl .nil))))))), hM, (by omega), (fun j h1 h2 => absurd h1 (by omega))⟩ ?_
                  clear hA hM a
                  rintro i a w12 ⟨hA, hM, hi, hall⟩ hNext
                  refine Ends.seq ?_
                  refine Ends.seq ?_
                  refine Ends.region ?_
                  refine S.val hA (R.move rfl) rfl ?_; clear hA a; intro a hA
                  refine S.val hA (R.move rfl) rfl ?_; clear hA a; intro a hA
                  refine S.val hA (R.leq rfl rfl) rfl ?_; clear hA a; intro a hA
                  refine S.done ?_
                  replace hA : St 72 [(0, _), (1, _), (6, _), (7, _), (8, _), (9, _), (44, _)] a := hA.sub ((.cons rfl (.cons rfl (.cons rfl (.cons rfl (.cons rfl (.cons rfl (.cons rfl .nil))))))))
                  refine Ends.ite hA rfl (fun hc42 => ?_) (fun hc42 => ?_)
                  ·
                    rw [decide_eq_true hc42] at hA
                    refine Ends.skip ?_
                    refine Ends.seq ?_
                    refine Ends.block ?_
                    refine Ends.seq ?_
                    refine Ends.seq ?_
                    by_cases hs43 : okB s p i
                    ·
                      have hk : p + i < s.size ∧ (if i = 1 then 128 else 128) ≤ byt s (p + i) ∧ byt s (p + i) ≤ (if i = 1 then 191 else 191) := by
                        have h0 := hs43
                        unfold okB cnt at h0
                        have hlo2 : loB (byt s p) = 128 := hlo.resolve_right (by omega)
                        have hhi2 : hiB (byt s p) = 191 := hhi.resolve_right (by omega)
                        rwa [hlo2, hhi2] at h0
                      obtain ⟨hk1, hk2, hk3⟩ := hk
                      refine Ends.region ?_
                      refine S.val hA (R.move rfl) rfl ?_; clear hA a; intro a hA
                      refine S.val hA (R.move rfl) rfl ?_; clear hA a; intro a hA
                      refine S.val hA (R.addI rfl rfl (r := ((p : Int)) + ((i : Int))) rfl (by omega)) rfl ?_; clear hA a; intro a hA
                      refine S.val hA (R.move rfl) rfl ?_; clear hA a; intro a hA
                      refine S.val hA (R.lenStr Tryd.underlying9 rfl rfl) rfl ?_; clear hA a; intro a hA
                      refine S.val hA (R.ff (R.geq rfl rfl) (by omega)) rfl ?_; clear hA a; intro a hA
                      refine S.val hA (R.move rfl) rfl ?_; clear hA a; intro a hA
                      refine S.valg (dj := 53) hA (by kernel_rfl) rfl (R.move rfl) rfl ?_; clear hA a; intro a hA
                      refine S.valg (dj := 53) hA (by kernel_rfl) rfl (R.move rfl) rfl ?_; clear hA a; intro a hA
                      refine S.valg (dj := 53) hA (by kernel_rfl) rfl (R.move rfl) rfl ?_; clear hA a; intro a hA
                      refine S.valg (dj := 53) hA (by kernel_rfl) rfl (R.addI rfl rfl (r := ((p : Int)) + ((i : Int))) rfl (by omega)) rfl ?_; clear hA a; intro a hA
                      refine S.valg (dj := 53) hA (by kernel_rfl) rfl (R.to (v := .int .u8 (byt s (p + i))) (R.idxS Tryd.underlying9 rfl rfl (by omega)) (by first | rfl | (congr 2; done) | (congr 2; omega))) rfl ?_; clear hA a; intro a hA
                      refine S.valg (dj := 53) hA (by kernel_rfl) rfl (R.move rfl) rfl ?_; clear hA a; intro a hA
                      refine S.valg (dj := 53) hA (by kernel_rfl) rfl (R.ff (R.lss rfl rfl) (Int.not_lt.2 hk2)) rfl ?_; clear hA a; intro a hA
                      refine S.val hA (R.pickF rfl rfl) rfl ?_; clear hA a; intro a hA
                      refine S.val hA (R.move rfl) rfl ?_; clear hA a; intro a hA
                      refine S.valg (dj := 62) hA (by kernel_rfl) rfl (R.move rfl) rfl ?_; clear hA a; intro a hA
                      refine S.valg (dj := 62) hA (by kernel_rfl) rfl (R.move rfl) rfl ?_; clear hA a; intro a hA
                      refine S.valg (dj := 62) hA (by kernel_rfl) rfl (R.move rfl) rfl ?_; clear hA a; intro a hA
                      refine S.valg (dj := 62) hA (by kernel_rfl) rfl (R.addI rfl rfl (r := ((p : Int)) + ((i : Int))) rfl (by omega)) rfl ?_; clear hA a; intro a hA
                      refine S.valg (dj := 62) hA (by kernel_rfl) rfl (R.to (v := .int .u8 (byt s (p + i))) (R.idxS Tryd.underlying9 rfl rfl (by omega)) (by first | rfl | (congr 2; done) | (congr 2; omega))) rfl ?_; clear hA a; intro a hA
                      refine S.valg (dj := 62) hA (by kernel_rfl) rfl (R.move rfl) rfl ?_; clear hA a; intro a hA
                      refine S.valg (dj := 62) hA (by kernel_rfl) rfl (R.ff (R.gtr rfl rfl) (Int.not_lt.2 hk3)) rfl ?_; clear hA a; intro a hA
                      refine S.val hA (R.pickF rfl rfl) rfl ?_; clear hA a; intro a hA
                      refine S.done ?_
                      replace hA : St 72 [(0, _), (1, _), (6, _), (9, _), (70, _)] a := hA.sub ((.cons rfl (.cons rfl (.cons rfl (.cons rfl (.cons rfl .nil))))))
                      refine Ends.condF hA rfl ?_
                      refine Ends.skip ?_
                      refine Ends.region ?_
                      refine S.val hA (R.to (v := .int .u8 (if i + 1 = 1 then 128 else 128)) (R.assign rfl) (congrArg (Value.int .u8) (by rw [if_neg (by omega)]))) rfl ?_; clear hA a; intro a hA
                      refine S.val hA (R.to (v := .int .u8 (if i + 1 = 1 then 191 else 191)) (R.assign rfl) (congrArg (Value.int .u8) (by rw [if_neg (by omega)]))) rfl ?_; clear hA a; intro a hA
                      refine S.done ?_
                      replace hA : St 72 [(0, _), (1, _), (6, _), (7, _), (8, _), (9, _)] a := hA.sub ((.cons rfl (.cons rfl (.cons rfl (.cons rfl (.cons rfl (.cons rfl .nil)))))))
                      refine Ends.inBlock ?_
                      refine Ends.region ?_
                      refine S.val hA (R.move rfl) rfl ?_; clear hA a; intro a hA
                      refine S.val hA (R.addI rfl rfl (r := ((i : Int)) + 1) rfl (by omega)) rfl ?_; clear hA a; intro a hA
                      refine S.val hA (R.assign rfl) rfl ?_; clear hA a; intro a hA
                      refine S.done ?_
                      replace hA : St 72 [(0, _), (1, _), (6, _), (7, _), (8, _), (9, _)] a := hA.sub ((.cons rfl (.cons rfl (.cons rfl (.cons rfl (.cons rfl (.cons rfl .nil)))))))
                      skip
                      exact hNext ((i + 1)) _ _ ((by show cntB (byt s p) + 1 - (i + 1) < cntB (byt s p) + 1 - i; omega)) ⟨hA.sub ((.cons rfl (.cons rfl (.cons rfl (.cons rfl (.cons rfl (.cons rfl .nil))))))), hM, (by omega), (fun j h1 h2 => by rcases Nat.lt_or_ge j i with g | g; exact hall j h1 g; have e : j = i := (by omega); exact e ▸ hs43)⟩
                    ·
                      have hk : ¬ (p + i < s.size ∧ (if i = 1 then 128 else 128) ≤ byt s (p + i) ∧ byt s (p + i) ≤ (if i = 1 then 191 else 191)) := by
                        have h0 := hs43
                        unfold okB cnt at h0
                        have hlo2 : loB (byt s p) = 128 := hlo.resolve_right (by omega)
                        have hhi2 : hiB (byt s p) = 191 := hhi.resolve_right (by omega)
                        rwa [hlo2, hhi2] at h0
                      by_cases hs44 : p + i < s.size
                      ·
                        by_cases hs45 : byt s (p + i) < (if i = 1 then 128 else 128)
                        ·
                          refine Ends.region ?_
                          refine S.val hA (R.move rfl) rfl ?_; clear hA a; intro a hA
                          refine S.val hA (R.move rfl) rfl ?_; clear hA a; intro a hA
                          refine S.val hA (R.addI rfl rfl (r := ((p : Int)) + ((i : Int))) rfl (by omega)) rfl ?_; clear hA a; intro a hA
                          refine S.val hA (R.move rfl) rfl ?_; clear hA a; intro a hA
                          refine S.val hA (R.lenStr Tryd.underlying9 rfl rfl) rfl ?_; clear hA a; intro a hA
                          refine S.val hA (R.ff (R.geq rfl rfl) (by omega)) rfl ?_; clear hA a; intro a hA
                          refine S.val hA (R.move rfl) rfl ?_; clear hA a; intro a hA
                          refine S.valg (dj := 53) hA (by kernel_rfl) rfl (R.move rfl) rfl ?_; clear hA a; intro a hA
                          refine S.valg (dj := 53) hA (by kernel_rfl) rfl (R.move rfl) rfl ?_; clear hA a; intro a hA
                          refine S.valg (dj := 53) hA (by kernel_rfl) rfl (R.move rfl) rfl ?_; clear hA a; intro a hA
                          refine S.valg (dj := 53) hA (by kernel_rfl) rfl (R.addI rfl rfl (r := ((p : Int)) + ((i : Int))) rfl (by omega)) rfl ?_; clear hA a; intro a hA
                          refine S.valg (dj := 53) hA (by kernel_rfl) rfl (R.to (v := .int .u8 (byt s (p + i))) (R.idxS Tryd.underlying9 rfl rfl (by omega)) (by first | rfl | (congr 2; done) | (congr 2; omega))) rfl ?_; clear hA a; intro a hA
                          refine S.valg (dj := 53) hA (by kernel_rfl) rfl (R.move rfl) rfl ?_; clear hA a; intro a hA
                          refine S.valg (dj := 53) hA (by kernel_rfl) rfl (R.tt (R.lss rfl rfl) (hs45)) rfl ?_; clear hA a; intro a hA
                          refine S.val hA (R.pickF rfl rfl) rfl ?_; clear hA a; intro a hA
                          refine S.val hA (R.move rfl) rfl ?_; clear hA a; intro a hA
                          refine S.no (dj := 62) hA (by kernel_rfl) rfl rfl rfl ?_; clear hA a; intro a hA
                          refine S.no (dj := 62) hA (by kernel_rfl) rfl rfl rfl ?_; clear hA a; intro a hA
                          refine S.no (dj := 62) hA (by kernel_rfl) rfl rfl rfl ?_; clear hA a; intro a hA
                          refine S.no (dj := 62) hA (by kernel_rfl) rfl rfl rfl ?_; clear hA a; intro a hA
                          refine S.no (dj := 62) hA (by kernel_rfl) rfl rfl rfl ?_; clear hA a; intro a hA
                          refine S.no (dj := 62) hA (by kernel_rfl) rfl rfl rfl ?_; clear hA a; intro a hA
                          refine S.no (dj := 62) hA (by kernel_rfl) rfl rfl rfl ?_; clear hA a; intro a hA
                          refine S.val hA (R.pickT rfl rfl) rfl ?_; clear hA a; intro a hA
                          refine S.done ?_
                          replace hA : St 72 [(0, _), (1, _), (6, _), (9, _), (70, _)] a := hA.sub ((.cons rfl (.cons rfl (.cons rfl (.cons rfl (.cons rfl .nil))))))
                          refine Ends.condT hA rfl ?_
                          refine Ends.seq ?_
                          refine Ends.region ?_
                          refine S.val hA (R.assign rfl) rfl ?_; clear hA a; intro a hA
                          refine S.done ?_
                          replace hA : St 72 [(0, _), (1, _), (4, _), (6, _), (9, _)] a := hA.sub ((.cons rfl (.cons rfl (.cons rfl (.cons rfl (.cons rfl .nil))))))
                          refine Ends.ret1 Tryd.func32 Tryd.results32 hA rfl ?_
                          have e0 := mw_not (by omega) (by omega) hs43
                          rw [dec_w, e0]
                          exact ⟨rfl, hM.nilL.below⟩
                        ·
                          refine Ends.region ?_
                          refine S.val hA (R.move rfl) rfl ?_; clear hA a; intro a hA
                          refine S.val hA (R.move rfl) rfl ?_; clear hA a; intro a hA
                          refine S.val hA (R.addI rfl rfl (r := ((p : Int)) + ((i : Int))) rfl (by omega)) rfl ?_; clear hA a; intro a hA
                          refine S.val hA (R.move rfl) rfl ?_; clear hA a; intro a hA
                          refine S.val hA (R.lenStr Tryd.underlying9 rfl rfl) rfl ?_; clear hA a; intro a hA
                          refine S.val hA (R.ff (R.geq rfl rfl) (by omega)) rfl ?_; clear hA a; intro a hA
                          refine S.val hA (R.move rfl) rfl ?_; clear hA a; intro a hA
                          refine S.valg (dj := 53) hA (by kernel_rfl) rfl (R.move rfl) rfl ?_; clear hA a; intro a hA
                          refine S.valg (dj := 53) hA (by kernel_rfl) rfl (R.move rfl) rfl ?_; clear hA a; intro a hA
                          refine S.valg (dj := 53) hA (by kernel_rfl) rfl (R.move rfl) rfl ?_; clear hA a; intro a hA
                          refine S.valg (dj := 53) hA (by kernel_rfl) rfl (R.addI rfl rfl (r := ((p : Int)) + ((i : Int))) rfl (by omega)) rfl ?_; clear hA a; intro a hA
                          refine S.valg (dj := 53) hA (by kernel_rfl) rfl (R.to (v := .int .u8 (byt s (p + i))) (R.idxS Tryd.underlying9 rfl rfl (by omega)) (by first | rfl | (congr 2; done) | (congr 2; omega))) rfl ?_; clear hA a; intro a hA
                          refine S.valg (dj := 53) hA (by kernel_rfl) rfl (R.move rfl) rfl ?_; clear hA a; intro a hA
                          refine S.valg (dj := 53) hA (by kernel_rfl) rfl (R.ff (R.lss rfl rfl) (hs45)) rfl ?_; clear hA a; intro a hA
                          refine S.val hA (R.pickF rfl rfl) rfl ?_; clear hA a; intro a hA
                          refine S.val hA (R.move rfl) rfl ?_; clear hA a; intro a hA
                          refine S.valg (dj := 62) hA (by kernel_rfl) rfl (R.move rfl) rfl ?_; clear hA a; intro a hA
                          refine S.valg (dj := 62) hA (by kernel_rfl) rfl (R.move rfl) rfl ?_; clear hA a; intro a hA
                          refine S.valg (dj := 62) hA (by kernel_rfl) rfl (R.move rfl) rfl ?_; clear hA a; intro a hA
                          refine S.valg (dj := 62) hA (by kernel_rfl) rfl (R.addI rfl rfl (r := ((p : Int)) + ((i : Int))) rfl (by omega)) rfl ?_; clear hA a; intro a hA
                          refine S.valg (dj := 62) hA (by kernel_rfl) rfl (R.to (v := .int .u8 (byt s (p + i))) (R.idxS Tryd.underlying9 rfl rfl (by omega)) (by first | rfl | (congr 2; done) | (congr 2; omega))) rfl ?_; clear hA a; intro a hA
                          refine S.valg (dj := 62) hA (by kernel_rfl) rfl (R.move rfl) rfl ?_; clear hA a; intro a hA
                          refine S.valg (dj := 62) hA (by kernel_rfl) rfl (R.tt (R.gtr rfl rfl) (Int.not_le.1 (fun h9 => hk ⟨hs44, Int.not_lt.1 hs45, h9⟩))) rfl ?_; clear hA a; intro a hA
                          refine S.val hA (R.pickF rfl rfl) rfl ?_; clear hA a; intro a hA
                          refine S.done ?_
                          replace hA : St 72 [(0, _), (1, _), (6, _), (9, _), (70, _)] a := hA.sub ((.cons rfl (.cons rfl (.cons rfl (.cons rfl (.cons rfl .nil))))))
                          refine Ends.condT hA rfl ?_
                          refine Ends.seq ?_
                          refine Ends.region ?_
                          refine S.val hA (R.assign rfl) rfl ?_; clear hA a; intro a hA
                          refine S.done ?_
                          replace hA : St 72 [(0, _), (1, _), (4, _), (6, _), (9, _)] a := hA.sub ((.cons rfl (.cons rfl (.cons rfl (.cons rfl (.cons rfl .nil))))))
                          refine Ends.ret1 Tryd.func32 Tryd.results32 hA rfl ?_
                          have e0 := mw_not (by omega) (by omega) hs43
                          rw [dec_w, e0]
                          exact ⟨rfl, hM.nilL.below⟩
                      ·
                        refine Ends.region ?_
                        refine S.val hA (R.move rfl) rfl ?_; clear hA a; intro a hA
                        refine S.val hA (R.move rfl) rfl ?_; clear hA a; intro a hA
                        refine S.val hA (R.addI rfl rfl (r := ((p : Int)) + ((i : Int))) rfl (by omega)) rfl ?_; clear hA a; intro a hA
                        refine S.val hA (R.move rfl) rfl ?_; clear hA a; intro a hA
                        refine S.val hA (R.lenStr Tryd.underlying9 rfl rfl) rfl ?_; clear hA a; intro a hA
                        refine S.val hA (R.tt (R.geq rfl rfl) (by omega)) rfl ?_; clear hA a; intro a hA
                        refine S.val hA (R.move rfl) rfl ?_; clear hA a; intro a hA
                        refine S.no (dj := 53) hA (by kernel_rfl) rfl rfl rfl ?_; clear hA a; intro a hA
                        refine S.no (dj := 53) hA (by kernel_rfl) rfl rfl rfl ?_; clear hA a; intro a hA
                        refine S.no (dj := 53) hA (by kernel_rfl) rfl rfl rfl ?_; clear hA a; intro a hA
                        refine S.no (dj := 53) hA (by kernel_rfl) rfl rfl rfl ?_; clear hA a; intro a hA
                        refine S.no (dj := 53) hA (by kernel_rfl) rfl rfl rfl ?_; clear hA a; intro a hA
                        refine S.no (dj := 53) hA (by kernel_rfl) rfl rfl rfl ?_; clear hA a; intro a hA
                        refine S.no (dj := 53) hA (by kernel_rfl) rfl rfl rfl ?_; clear hA a; intro a hA
                        refine S.val hA (R.pickT rfl rfl) rfl ?_; clear hA a; intro a hA
                        refine S.val hA (R.move rfl) rfl ?_; clear hA a; intro a hA
                        refine S.no (dj := 62) hA (by kernel_rfl) rfl rfl rfl ?_; clear hA a; intro a hA
                        refine S.no (dj := 62) hA (by kernel_rfl) rfl rfl rfl ?_; clear hA a; intro a hA
                        refine S.no (dj := 62) hA (by kernel_rfl) rfl rfl rfl ?_; clear hA a; intro a hA
                        refine S.no (dj := 62) hA (by kernel_rfl) rfl rfl rfl ?_; clear hA a; intro a hA
                        refine S.no (dj := 62) hA (by kernel_rfl) rfl rfl rfl ?_; clear hA a; intro a hA
                        refine S.no (dj := 62) hA (by kernel_rfl) rfl rfl rfl ?_; clear hA a; intro a hA
                        refine S.no (dj := 62) hA (by kernel_rfl) rfl rfl rfl ?_; clear hA a; intro a hA
                        refine S.val hA (R.pickT rfl rfl) rfl ?_; clear hA a; intro a hA
                        refine S.done ?_
                        replace hA : St 72 [(0, _), (1, _), (6, _), (9, _), (70, _)] a := hA.sub ((.cons rfl (.cons rfl (.cons rfl (.cons rfl (.cons rfl .nil))))))
                        refine Ends.condT hA rfl ?_
                        refine Ends.seq ?_
                        refine Ends.region ?_
                        refine S.val hA (R.assign rfl) rfl ?_; clear hA a; intro a hA
                        refine S.done ?_
                        replace hA : St 72 [(0, _), (1, _), (4, _), (6, _), (9, _)] a := hA.sub ((.cons rfl (.cons rfl (.cons rfl (.cons rfl (.cons rfl .nil))))))
                        refine Ends.ret1 Tryd.func32 Tryd.results32 hA rfl ?_
                        have e0 := mw_not (by omega) (by omega) hs43
                        rw [dec_w, e0]
                        exact ⟨rfl, hM.nilL.below⟩
                  ·
                    rw [decide_eq_false hc42] at hA
                    refine Ends.exit rfl ?_
                    replace hA : St 72 [(6, _)] a := hA.sub ((.cons rfl .nil))
                    refine Ends.seq ?_
                    refine Ends.region ?_
                    refine S.val hA (R.move rfl) rfl ?_; clear hA a; intro a hA
                    refine S.val hA (R.assign rfl) rfl ?_; clear hA a; intro a hA
                    refine S.done ?_
                    replace hA : St 72 [(4, _)] a := hA.sub ((.cons rfl .nil))
                    refine Ends.ret1 Tryd.func32 Tryd.results32 hA rfl ?_
                    have e0 := mw_all (fun i2 h1 h2 => hall i2 h1 (by omega))
                    rw [dec_w, e0, show (((cntB (byt s p) + 1 : Nat) : Int) - 1) = (cntB (byt s p) : Int) by omega, ← hn]
                    exact ⟨rfl, hM.nilL.below⟩
            ·
              rw [decide_eq_false hc26] at hA
              refine Ends.skip ?_
              refine Ends.inBlock ?_
              refine Ends.seq ?_
              refine Ends.seq ?_
              refine Ends.region ?_
              refine S.val hA (R.assign rfl) rfl ?_; clear hA a; intro a hA
              refine S.done ?_
              replace hA : St 72 [(0, _), (1, _), (6, _), (7, _), (8, _), (9, _)] a := hA.sub ((.cons rfl (.cons rfl (.cons rfl (.cons rfl (.cons rfl (.cons rfl .nil)))))))
              refine Ends.block ?_
              have hn : ((0 : Int)) = (cntB (byt s p) : Int) := by unfold cntB; (repeat' split) <;> first | rfl | omega
              have hlo : loB (byt s p) = 128 ∨ cntB (byt s p) = 0 := by unfold loB cntB; (repeat' split) <;> first | (left; rfl) | (right; rfl) | omega
              have hhi : hiB (byt s p) = 191 ∨ cntB (byt s p) = 0 := by unfold hiB cntB; (repeat' split) <;> first | (left; rfl) | (right; rfl) | omega
              refine Ends.loop (σ := Nat) (fun i (a : Act) (wv : World) => St 72 [(0, .string s), (1, .int .i64 ((p : Int))), (6, .int .i64 0), (7, .int .u8 ((if i = 1 then 128 else 128))), (8, .int .u8 ((if i = 1 then 191 else 191))), (9, .int .i64 ((i : Int)))] a ∧ Mem w nof [] wv ∧ (1 ≤ i ∧ i ≤ cntB (byt s p) + 1) ∧ (∀ j, 1 ≤ j → j < i → okB s p j)) (fun i => cntB (byt s p) + 1 - i) 1 ⟨hA.sub ((.cons rfl (.cons rfl (.cons rfl (.cons rfl (.cons rfl (.cons rfl .nil))))))), hM, (by omega), (fun j h1 h2 => absurd h1 (by omega))⟩ ?_
              clear hA hM a
              rintro i a w13 ⟨hA, hM, hi, hall⟩ hNext
              refine Ends.seq ?_
              refine Ends.seq ?_
              refine Ends.region ?_
              refine S.val hA (R.move rfl) rfl ?_; clear hA a; intro a hA
              refine S.val hA (R.move rfl) rfl ?_; clear hA a; intro a hA
              refine S.val hA (R.leq rfl rfl) rfl ?_; clear hA a; intro a hA
              refine S.done ?_
              replace hA : St 72 [(0, _), (1, _), (6, _), (7, _), (8, _), (9, _), (44, _)] a := hA.sub ((.cons rfl (.cons rfl (.cons rfl (.cons rfl (.cons rfl (.cons rfl (.cons rfl .nil))))))))
              refine Ends.ite hA rfl (fun hc46 => ?_) (fun hc46 => ?_)
              ·
                rw [decide_eq_true hc46] at hA
                refine Ends.skip ?_
                refine Ends.seq ?_
                refine Ends.block ?_
                refine Ends.seq ?_
                refine Ends.seq ?_
                by_cases hs47 : okB s p i
                ·
                  have hk : p + i < s.size ∧ (if i = 1 then 128 else 128) ≤ byt s (p + i) ∧ byt s (p + i) ≤ (if i = 1 then 191 else 191) := by
                    have h0 := hs47
                    unfold okB cnt at h0
                    have hlo2 : loB (byt s p) = 128 := hlo.resolve_right (by omega)
                    have hhi2 : hiB (byt s p) = 191 := hhi.resolve_right (by omega)
                    rwa [hlo2, hhi2] at h0
                  obtain ⟨hk1, hk2, hk3⟩ := hk
                  refine Ends.region ?_
                  refine S.val hA (R.move rfl) rfl ?_; clear hA a; intro a hA
                  refine S.val hA (R.move rfl) rfl ?_; clear hA a; intro a hA
                  refine S.val hA (R.addI rfl rfl (r := ((p : Int)) + ((i : Int))) rfl (by omega)) rfl ?_; clear hA a; intro a hA
                  refine S.val hA (R.move rfl) rfl ?_; clear hA a; intro a hA
                  refine S.val hA (R.lenStr Tryd.underlying9 rfl rfl) rfl ?_; clear hA a; intro a hA
                  refine S.val hA (R.ff (R.geq rfl rfl) (by omega)) rfl ?_; clear hA a; intro a hA
                  refine S.val hA (R.move rfl) rfl ?_; clear hA a; intro a hA
                  refine S.valg (dj := 53) hA (by kernel_rfl) rfl (R.move rfl) rfl ?_; clear hA a; intro a hA
                  refine S.valg (dj := 53) hA (by kernel_rfl) rfl (R.move rfl) rfl ?_; clear hA a; intro a hA
                  refine S.valg (dj := 53) hA (by kernel_rfl) rfl (R.move rfl) rfl ?_; clear hA a; intro a hA
                  refine S.valg (dj := 53) hA (by kernel_rfl) rfl (R.addI rfl rfl (r := ((p : Int)) + ((i : Int))) rfl (by omega)) rfl ?_; clear hA a; intro a hA
                  refine S.valg (dj := 53) hA (by kernel_rfl) rfl (R.to (v := .int .u8 (byt s (p + i))) (R.idxS Tryd.underlying9 rfl rfl (by omega)) (by first | rfl | (congr 2; done) | (congr 2; omega))) rfl ?_; clear hA a; intro a hA
                  refine S.valg (dj := 53) hA (by kernel_rfl) rfl (R.move rfl) rfl ?_; clear hA a; intro a hA
                  refine S.valg (dj := 53) hA (by kernel_rfl) rfl (R.ff (R.lss rfl rfl) (Int.not_lt.2 hk2)) rfl ?_; clear hA a; intro a hA
                  refine S.val hA (R.pickF rfl rfl) rfl ?_; clear hA a; intro a hA
                  refine S.val hA (R.move rfl) rfl ?_; clear hA a; intro a hA
                  refine S.valg (dj := 62) hA (by kernel_rfl) rfl (R.move rfl) rfl ?_; clear hA a; intro a hA
                  refine S.valg (dj := 62) hA (by kernel_rfl) rfl (R.move rfl) rfl ?_; clear hA a; intro a hA
                  refine S.valg (dj := 62) hA (by kernel_rfl) rfl (R.move rfl) rfl ?_; clear hA a; intro a hA
                  refine S.valg (dj := 62) hA (by kernel_rfl) rfl (R.addI rfl rfl (r := ((p : Int)) + ((i : Int))) rfl (by omega)) rfl ?_; clear hA a; intro a hA
                  refine S.valg (dj := 62) hA (by kernel_rfl) rfl (R.to (v := .int .u8 (byt s (p + i))) (R.idxS Tryd.underlying9 rfl rfl (by omega)) (by first | rfl | (congr 2; done) | (congr 2; omega))) rfl ?_; clear hA a; intro a hA
                  refine S.valg (dj := 62) hA (by kernel_rfl) rfl (R.move rfl) rfl ?_; clear hA a; intro a hA
                  refine S.valg (dj := 62) hA (by kernel_rfl) rfl (R.ff (R.gtr rfl rfl) (Int.not_lt.2 hk3)) rfl ?_; clear hA a; intro a hA
                  refine S.val hA (R.pickF rfl rfl) rfl ?_; clear hA a; intro a hA
                  refine S.done ?_
                  replace hA : St 72 [(0, _), (1, _), (6, _), (9, _), (70, _)] a := hA.sub ((.cons rfl (.cons rfl (.cons rfl (.cons rfl (.cons rfl .nil))))))
                  refine Ends.condF hA rfl ?_
                  refine Ends.skip ?_
                  refine Ends.region ?_
                  refine S.val hA (R.to (v := .int .u8 (if i + 1 = 1 then 128 else 128)) (R.assign rfl) (congrArg (Value.int .u8) (by rw [if_neg (by omega)]))) rfl ?_; clear hA a; intro a hA
                  refine S.val hA (R.to (v := .int .u8 (if i + 1 = 1 then 191 else 191)) (R.assign rfl) (congrArg (Value.int .u8) (by rw [if_neg (by omega)]))) rfl ?_; clear hA a; intro a hA
                  refine S.done ?_
                  replace hA : St 72 [(0, _), (1, _), (6, _), (7, _), (8, _), (9, _)] a := hA.sub ((.cons rfl (.cons rfl (.cons rfl (.cons rfl (.cons rfl (.cons rfl .nil)))))))
                  refine Ends.inBlock ?_
                  refine Ends.region ?_
                  refine S.val hA (R.move rfl) rfl ?_; clear hA a; intro a hA
                  refine S.val hA (R.addI rfl rfl (r := ((i : Int)) + 1) rfl (by omega)) rfl ?_; clear hA a; intro a hA
                  refine S.val hA (R.assign rfl) rfl ?_; clear hA a; intro a hA
                  refine S.done ?_
                  replace hA : St 72 [(0, _), (1, _), (6, _), (7, _), (8, _), (9, _)] a := hA.sub ((.cons rfl (.cons rfl (.cons rfl (.cons rfl (.cons rfl (.cons rfl .nil)))))))
                  skip
                  exact hNext ((i + 1)) _ _ ((by show cntB (byt s p) + 1 - (i + 1) < cntB (byt s p) + 1 - i; omega)) ⟨hA.sub ((.cons rfl (.cons rfl (.cons rfl (.cons rfl (.cons rfl (.cons rfl .nil))))))), hM, (by omega), (fun j h1 h2 => by rcases Nat.lt_or_ge j i with g | g; exact hall j h1 g; have e : j = i := (by omega); exact e ▸ hs47)⟩
                ·
                  have hk : ¬ (p + i < s.size ∧ (if i = 1 then 128 else 128) ≤ byt s (p + i) ∧ byt s (p + i) ≤ (if i = 1 then 191 else 191)) := by
                    have h0 := hs47
                    unfold okB cnt at h0
                    have hlo2 : loB (byt s p) = 128 := hlo.resolve_right (by omega)
                    have hhi2 : hiB (byt s p) = 191 := hhi.resolve_right (by omega)
                    rwa [hlo2, hhi2] at h0
                  by_cases hs48 : p + i < s.size
                  ·
                    by_cases hs49 : byt s (p + i) < (if i = 1 then 128 else 128)
                    ·
                      refine Ends.region ?_
                      refine S.val hA (R.move rfl) rfl ?_; clear hA a; intro a hA
                      refine S.val hA (R.move rfl) rfl ?_; clear hA a; intro a hA
                      refine S.val hA (R.addI rfl rfl (r := ((p : Int)) + ((i : Int))) rfl (by omega)) rfl ?_; clear hA a; intro a hA
                      refine S.val hA (R.move rfl) rfl ?_; clear hA a; intro a hA
                      refine S.val hA (R.lenStr Tryd.underlying9 rfl rfl) rfl ?_; clear hA a; intro a hA
                      refine S.val hA (R.ff (R.geq rfl rfl) (by omega)) rfl ?_; clear hA a; intro a hA
                      refine S.val hA (R.move rfl) rfl ?_; clear hA a; intro a hA
                      refine S.valg (dj := 53) hA (by kernel_rfl) rfl (R.move rfl) rfl ?_; clear hA a; intro a hA
                      refine S.valg (dj := 53) hA (by kernel_rfl) rfl (R.move rfl) rfl ?_; clear hA a; intro a hA
                      refine S.valg (dj := 53) hA (by kernel_rfl) rfl (R.move rfl) rfl ?_; clear hA a; intro a hA
                      refine S.valg (dj := 53) hA (by kernel_rfl) rfl (R.addI rfl rfl (r := ((p : Int)) + ((i : Int))) rfl (by omega)) rfl ?_; clear hA a; intro a hA
                      refine S.valg (dj := 53) hA (by kernel_rfl) rfl (R.to (v := .int .u8 (byt s (p + i))) (R.idxS Tryd.underlying9 rfl rfl (by omega)) (by first | rfl | (congr 2; done) | (congr 2; omega))) rfl ?_; clear hA a; intro a hA
                      refine S.valg (dj := 53) hA (by kernel_rfl) rfl (R.move rfl) rfl ?_; clear hA a; intro a hA
                      refine S.valg (dj := 53) hA (by kernel_rfl) rfl (R.tt (R.lss rfl rfl) (hs49)) rfl ?_; clear hA a; intro a hA
                      refine S.val hA (R.pickF rfl rfl) rfl ?_; clear hA a; intro a hA
                      refine S.val hA (R.move rfl) rfl ?_; clear hA a; intro a hA
                      refine S.no (dj := 62) hA (by kernel_rfl) rfl rfl rfl ?_; clear hA a; intro a hA
                      refine S.no (dj := 62) hA (by kernel_rfl) rfl rfl rfl ?_; clear hA a; intro a hA
                      refine S.no (dj := 62) hA (by kernel_rfl) rfl rfl rfl ?_; clear hA a; intro a hA
                      refine S.no (dj := 62) hA (by kernel_rfl) rfl rfl rfl ?_; clear hA a; intro a hA
                      refine S.no (dj := 62) hA (by kernel_rfl) rfl rfl rfl ?_; clear hA a; intro a hA
                      refine S.no (dj := 62) hA (by kernel_rfl) rfl rfl rfl ?_; clear hA a; intro a hA
                      refine S.no (dj := 62) hA (by kernel_rfl) rfl rfl rfl ?_; clear hA a; intro a hA
                      refine S.val hA (R.pickT rfl rfl) rfl ?_; clear hA a; intro a hA
                      refine S.done ?_
                      replace hA : St 72 [(0, _), (1, _), (6, _), (9, _), (70, _)] a := hA.sub ((.cons rfl (.cons rfl (.cons rfl (.cons rfl (.cons rfl .nil))))))
                      refine Ends.condT hA rfl ?_
                      refine Ends.seq ?_
                      refine Ends.region ?_
                      refine S.val hA (R.assign rfl) rfl ?_; clear hA a; intro a hA
                      refine S.done ?_
                      replace hA : St 72 [(0, _), (1, _), (4, _), (6, _), (9, _)] a := hA.sub ((.cons rfl (.cons rfl (.cons rfl (.cons rfl (.cons rfl .nil))))))
                      refine Ends.ret1 Tryd.func32 Tryd.results32 hA rfl ?_
                      have e0 := mw_not (by omega) (by omega) hs47
                      rw [dec_w, e0]
                      exact ⟨rfl, hM.nilL.below⟩
                    ·
                      refine Ends.region ?_
                      refine S.val hA (R.move rfl) rfl ?_; clear hA a; intro a hA
                      refine S.val hA (R.move rfl) rfl ?_; clear hA a; intro a hA
                      refine S.val hA (R.addI rfl rfl (r := ((p : Int)) + ((i : Int))) rfl (by omega)) rfl ?_; clear hA a; intro a hA
                      refine S.val hA (R.move rfl) rfl ?_; clear hA a; intro a hA
                      refine S.val hA (R.lenStr Tryd.underlying9 rfl rfl) rfl ?_; clear hA a; intro a hA
                      refine S.val hA (R.ff (R.geq rfl rfl) (by omega)) rfl ?_; clear hA a; intro a hA
                      refine S.val hA (R.move rfl) rfl ?_; clear hA a; intro a hA
                      refine S.valg (dj := 53) hA (by kernel_rfl) rfl (R.move rfl) rfl ?_; clear hA a; intro a hA
                      refine S.valg (dj := 53) hA (by kernel_rfl) rfl (R.move rfl) rfl ?_; clear hA a; intro a hA
                      refine S.valg (dj := 53) hA (by kernel_rfl) rfl (R.move rfl) rfl ?_; clear hA a; intro a hA
                      refine S.valg (dj := 53) hA (by kernel_rfl) rfl (R.addI rfl rfl (r := ((p : Int)) + ((i : Int))) rfl (by omega)) rfl ?_; clear hA a; intro a hA
                      refine S.valg (dj := 53) hA (by kernel_rfl) rfl (R.to (v := .int .u8 (byt s (p + i))) (R.idxS Tryd.underlying9 rfl rfl (by omega)) (by first | rfl | (congr 2; done) | (congr 2; omega))) rfl ?_; clear hA a; intro a hA
                      refine S.valg (dj := 53) hA (by kernel_rfl) rfl (R.move rfl) rfl ?_; clear hA a; intro a hA
                      refine S.valg (dj := 53) hA (by kernel_rfl) rfl (R.ff (R.lss rfl rfl) (hs49)) rfl ?_; clear hA a; intro a hA
                      refine S.val hA (R.pickF rfl rfl) rfl ?_; clear hA a; intro a hA
                      refine S.val hA (R.move rfl) rfl ?_; clear hA a; intro a hA
                      refine S.valg (dj := 62) hA (by kernel_rfl) rfl (R.move rfl) rfl ?_; clear hA a; intro a hA
                      refine S.valg (dj := 62) hA (by kernel_rfl) rfl (R.move rfl) rfl ?_; clear hA a; intro a hA
                      refine S.valg (dj := 62) hA (by kernel_rfl) rfl (R.move rfl) rfl ?_; clear hA a; intro a hA
                      refine S.valg (dj := 62) hA (by kernel_rfl) rfl (R.addI rfl rfl (r := ((p : Int)) + ((i : Int))) rfl (by omega)) rfl ?_; clear hA a; intro a hA
                      refine S.valg (dj := 62) hA (by kernel_rfl) rfl (R.to (v := .int .u8 (byt s (p + i))) (R.idxS Tryd.underlying9 rfl rfl (by omega)) (by first | rfl | (congr 2; done) | (congr 2; omega))) rfl ?_; clear hA a; intro a hA
                      refine S.valg (dj := 62) hA (by kernel_rfl) rfl (R.move rfl) rfl ?_; clear hA a; intro a hA
                      refine S.valg (dj := 62) hA (by kernel_rfl) rfl (R.tt (R.gtr rfl rfl) (Int.not_le.1 (fun h9 => hk ⟨hs48, Int.not_lt.1 hs49, h9⟩))) rfl ?_; clear hA a; intro a hA
                      refine S.val hA (R.pickF rfl rfl) rfl ?_; clear hA a; intro a hA
                      refine S.done ?_
                      replace hA : St 72 [(0, _), (1, _), (6, _), (9, _), (70, _)] a := hA.sub ((.cons rfl (.cons rfl (.cons rfl (.cons rfl (.cons rfl .nil))))))
                      refine Ends.condT hA rfl ?_
                      refine Ends.seq ?_
                      refine Ends.region ?_
                      refine S.val hA (R.assign rfl) rfl ?_; clear hA a; intro a hA
                      refine S.done ?_
                      replace hA : St 72 [(0, _), (1, _), (4, _), (6, _), (9, _)] a := hA.sub ((.cons rfl (.cons rfl (.cons rfl (.cons rfl (.cons rfl .nil))))))
                      refine Ends.ret1 Tryd.func32 Tryd.results32 hA rfl ?_
                      have e0 := mw_not (by omega) (by omega) hs47
                      rw [dec_w, e0]
                      exact ⟨rfl, hM.nilL.below⟩
                  ·
                    refine Ends.region ?_
                    refine S.val hA (R.move rfl) rfl ?_; clear hA a; intro a hA
                    refine S.val hA (R.move rfl) rfl ?_; clear hA a; intro a hA
                    refine S.val hA (R.addI rfl rfl (r := ((p : Int)) + ((i : Int))) rfl (by omega)) rfl ?_; clear hA a; intro a hA
                    refine S.val hA (R.move rfl) rfl ?_; clear hA a; intro a hA
                    refine S.val hA (R.lenStr Tryd.underlying9 rfl rfl) rfl ?_; clear hA a; intro a hA
                    refine S.val hA (R.tt (R.geq rfl rfl) (by omega)) rfl ?_; clear hA a; intro a hA
                    refine S.val hA (R.move rfl) rfl ?_; clear hA a; intro a hA
                    refine S.no (dj := 53) hA (by kernel_rfl) rfl rfl rfl ?_; clear hA a; intro a hA
                    refine S.no (dj := 53) hA (by kernel_rfl) rfl rfl rfl ?_; clear hA a; intro a hA
                    refine S.no (dj := 53) hA (by kernel_rfl) rfl rfl rfl ?_; clear hA a; intro a hA
                    refine S.no (dj := 53) hA (by kernel_rfl) rfl rfl rfl ?_; clear hA a; intro a hA
                    refine S.no (dj := 53) hA (by kernel_rfl) rfl rfl rfl ?_; clear hA a; intro a hA
                    refine S.no (dj := 53) hA (by kernel_rfl) rfl rfl rfl ?_; clear hA a; intro a hA
                    refine S.no (dj := 53) hA (by kernel_rfl) rfl rfl rfl ?_; clear hA a; intro a hA
                    refine S.val hA (R.pickT rfl rfl) rfl ?_; clear hA a; intro a hA
                    refine S.val hA (R.move rfl) rfl ?_; clear hA a; intro a hA
                    refine S.no (dj := 62) hA (by kernel_rfl) rfl rfl rfl ?_; clear hA a; intro a hA
                    refine S.no (dj := 62) hA (by kernel_rfl) rfl rfl rfl ?_; clear hA a; intro a hA
                    refine S.no (dj := 62) hA (by kernel_rfl) rfl rfl rfl ?_; clear hA a; intro a hA
                    refine S.no (dj := 62) hA (by kernel_rfl) rfl rfl rfl ?_; clear hA a; intro a hA
                    refine S.no (dj := 62) hA (by kernel_rfl) rfl rfl rfl ?_; clear hA a; intro a hA
                    refine S.no (dj := 62) hA (by kernel_rfl) rfl rfl rfl ?_; clear hA a; intro a hA
                    refine S.no (dj := 62) hA (by kernel_rfl) rfl rfl rfl ?_; clear hA a; intro a hA
                    refine S.val hA (R.pickT rfl rfl) rfl ?_; clear hA a; intro a hA
                    refine S.done ?_
                    replace hA : St 72 [(0, _), (1, _), (6, _), (9, _), (70, _)] a := hA.sub ((.cons rfl (.cons rfl (.cons rfl (.cons rfl (.cons rfl .nil))))))
                    refine Ends.condT hA rfl ?_
                    refine Ends.seq ?_
                    refine Ends.region ?_
                    refine S.val hA (R.assign rfl) rfl ?_; clear hA a; intro a hA
                    refine S.done ?_
                    replace hA : St 72 [(0, _), (1, _), (4, _), (6, _), (9, _)] a := hA.sub ((.cons rfl (.cons rfl (.cons rfl (.cons rfl (.cons rfl .nil))))))
                    refine Ends.ret1 Tryd.func32 Tryd.results32 hA rfl ?_
                    have e0 := mw_not (by omega) (by omega) hs47
                    rw [dec_w, e0]
                    exact ⟨rfl, hM.nilL.below⟩
              ·
                rw [decide_eq_false hc46] at hA
                refine Ends.exit rfl ?_
                replace hA : St 72 [(6, _)] a := hA.sub ((.cons rfl .nil))
                refine Ends.seq ?_
                refine Ends.region ?_
                refine S.val hA (R.move rfl) rfl ?_; clear hA a; intro a hA
                refine S.val hA (R.assign rfl) rfl ?_; clear hA a; intro a hA
                refine S.done ?_
                replace hA : St 72 [(4, _)] a := hA.sub ((.cons rfl .nil))
                refine Ends.ret1 Tryd.func32 Tryd.results32 hA rfl ?_
                have e0 := mw_all (fun i2 h1 h2 => hall i2 h1 (by omega))
                rw [dec_w, e0, show (((cntB (byt s p) + 1 : Nat) : Int) - 1) = (cntB (byt s p) : Int) by omega, ← hn]
                exact ⟨rfl, hM.nilL.below⟩
          ·
            refine Ends.region ?_
            refine S.val hA (R.move rfl) rfl ?_; clear hA a; intro a hA
            refine S.val hA (R.geq rfl rfl) rfl ?_; clear hA a; intro a hA
            refine S.val hA (R.move rfl) rfl ?_; clear hA a; intro a hA
            refine hA.split (d := 34) rfl ?_ ?_
            · clear hA; intro hg50 hA
              refine S.valg (dj := 34) hA (by kernel_rfl) rfl (R.move rfl) rfl ?_; clear hA a; intro a hA
              refine S.valg (dj := 34) hA (by kernel_rfl) rfl (R.leq rfl rfl) rfl ?_; clear hA a; intro a hA
              refine S.val hA (R.pickT rfl rfl) rfl ?_; clear hA a; intro a hA
              refine S.val hA (R.assign rfl) rfl ?_; clear hA a; intro a hA
              refine S.done ?_
              replace hA : St 72 [(0, _), (1, _), (5, _), (6, _), (7, _), (8, _), (31, _)] a := hA.sub ((.cons rfl (.cons rfl (.cons rfl (.cons rfl (.cons rfl (.cons rfl (.cons rfl .nil))))))))
              exact hJ _ _ ⟨hA.sub (.cons rfl (.cons rfl (.cons rfl (.cons rfl (.cons rfl (.cons rfl (.cons (by first | rfl | exact congrArg (fun b => some (Value.bool b)) (by first | (simp; done) | simp [hg50])) .nil))))))), hM⟩
            · clear hA; intro hg50 hA
              refine S.no (dj := 34) hA (by kernel_rfl) rfl rfl rfl ?_; clear hA a; intro a hA
              refine S.no (dj := 34) hA (by kernel_rfl) rfl rfl rfl ?_; clear hA a; intro a hA
              refine S.val hA (R.pickF rfl rfl) rfl ?_; clear hA a; intro a hA
              refine S.val hA (R.assign rfl) rfl ?_; clear hA a; intro a hA
              refine S.done ?_
              replace hA : St 72 [(0, _), (1, _), (5, _), (6, _), (7, _), (8, _), (31, _)] a := hA.sub ((.cons rfl (.cons rfl (.cons rfl (.cons rfl (.cons rfl (.cons rfl (.cons rfl .nil))))))))
              exact hJ _ _ ⟨hA.sub (.cons rfl (.cons rfl (.cons rfl (.cons rfl (.cons rfl (.cons rfl (.cons (by first | rfl | exact congrArg (fun b => some (Value.bool b)) (by first | (simp; done) | simp [hg50])) .nil))))))), hM⟩
      ·
        refine Ends.region ?_
        refine S.val hA (R.move rfl) rfl ?_; clear hA a; intro a hA
        refine S.val hA (R.geq rfl rfl) rfl ?_; clear hA a; intro a hA
        refine S.val hA (R.move rfl) rfl ?_; clear hA a; intro a hA
        refine hA.split (d := 23) rfl ?_ ?_
        · clear hA; intro hg51 hA
          refine S.valg (dj := 23) hA (by kernel_rfl) rfl (R.move rfl) rfl ?_; clear hA a; intro a hA
          refine S.valg (dj := 23) hA (by kernel_rfl) rfl (R.leq rfl rfl) rfl ?_; clear hA a; intro a hA
          refine S.val hA (R.pickT rfl rfl) rfl ?_; clear hA a; intro a hA
          refine S.val hA (R.assign rfl) rfl ?_; clear hA a; intro a hA
          refine S.done ?_
          replace hA : St 72 [(0, _), (1, _), (5, _), (6, _), (7, _), (8, _), (20, _)] a := hA.sub ((.cons rfl (.cons rfl (.cons rfl (.cons rfl (.cons rfl (.cons rfl (.cons rfl .nil))))))))
          exact hJ _ _ ⟨hA.sub (.cons rfl (.cons rfl (.cons rfl (.cons rfl (.cons rfl (.cons rfl (.cons (by first | rfl | exact congrArg (fun b => some (Value.bool b)) (by first | (simp; done) | simp [hg51])) .nil))))))), hM⟩
        · clear hA; intro hg51 hA
          refine S.no (dj := 23) hA (by kernel_rfl) rfl rfl rfl ?_; clear hA a; intro a hA
          refine S.no (dj := 23) hA (by kernel_rfl) rfl rfl rfl ?_; clear hA a; intro a hA
          refine S.val hA (R.pickF rfl rfl) rfl ?_; clear hA a; intro a hA
          refine S.val hA (R.assign rfl) rfl ?_; clear hA a; intro a hA
          refine S.done ?_
          replace hA : St 72 [(0, _), (1, _), (5, _), (6, _), (7, _), (8, _), (20, _)] a := hA.sub ((.cons rfl (.cons rfl (.cons rfl (.cons rfl (.cons rfl (.cons rfl (.cons rfl .nil))))))))
          exact hJ _ _ ⟨hA.sub (.cons rfl (.cons rfl (.cons rfl (.cons rfl (.cons rfl (.cons rfl (.cons (by first | rfl | exact congrArg (fun b => some (Value.bool b)) (by first | (simp; done) | simp [hg51])) .nil))))))), hM⟩
  ·
    refine Ends.region ?_
    refine S.val hA (R.move rfl) rfl ?_; clear hA a; intro a hA
    refine S.val hA (R.geq rfl rfl) rfl ?_; clear hA a; intro a hA
    refine S.val hA (R.move rfl) rfl ?_; clear hA a; intro a hA
    refine hA.split (d := 16) rfl ?_ ?_
    · clear hA; intro hg52 hA
      refine S.valg (dj := 16) hA (by kernel_rfl) rfl (R.move rfl) rfl ?_; clear hA a; intro a hA
      refine S.valg (dj := 16) hA (by kernel_rfl) rfl (R.leq rfl rfl) rfl ?_; clear hA a; intro a hA
      refine S.val hA (R.pickT rfl rfl) rfl ?_; clear hA a; intro a hA
      refine S.val hA (R.assign rfl) rfl ?_; clear hA a; intro a hA
      refine S.done ?_
      replace hA : St 72 [(0, _), (1, _), (5, _), (6, _), (7, _), (8, _), (13, _)] a := hA.sub ((.cons rfl (.cons rfl (.cons rfl (.cons rfl (.cons rfl (.cons rfl (.cons rfl .nil))))))))
      exact hJ _ _ ⟨hA.sub (.cons rfl (.cons rfl (.cons rfl (.cons rfl (.cons rfl (.cons rfl (.cons (by first | rfl | exact congrArg (fun b => some (Value.bool b)) (by first | (simp; done) | simp [hg52])) .nil))))))), hM⟩
    · clear hA; intro hg52 hA
      refine S.no (dj := 16) hA (by kernel_rfl) rfl rfl rfl ?_; clear hA a; intro a hA
      refine S.no (dj := 16) hA (by kernel_rfl) rfl rfl rfl ?_; clear hA a; intro a hA
      refine S.val hA (R.pickF rfl rfl) rfl ?_; clear hA a; intro a hA
      refine S.val hA (R.assign rfl) rfl ?_; clear hA a; intro a hA
      refine S.done ?_
      replace hA : St 72 [(0, _), (1, _), (5, _), (6, _), (7, _), (8, _), (13, _)] a := hA.sub ((.cons rfl (.cons rfl (.cons rfl (.cons rfl (.cons rfl (.cons rfl (.cons rfl .nil))))))))
      exact hJ _ _ ⟨hA.sub (.cons rfl (.cons rfl (.cons rfl (.cons rfl (.cons rfl (.cons rfl (.cons (by first | rfl | exact congrArg (fun b => some (Value.bool b)) (by first | (simp; done) | simp [hg52])) .nil))))))), hM⟩
set_option maxRecDepth 100000 in
set_option maxHeartbeats 400000 in
theorem rplace_any (s : ByteArray) (q : Int) (hsz : s.size ≤ 4611686018427387904) (w : World) :
    Calls Tryd.prog 25 #[.string s, .int .i64 q] w fun e w' => e = .returned (.tuple #[.int .i64 (plI s q).1, .int .i64 (plI s q).2, .int .i64 (Lib.runeCount s : Int)]) ∧ Below w.heap.size w w' := by
  have hM := Mem.start w
  refine Calls.of_ends (vs := [.string s, .int .i64 q]) Tryd.func25 rfl Tryd.ntmps25 rfl ?_
  intro a hA
  replace hA : St 38 [(0, _), (1, _)] a := hA
  refine Ends.seq ?_
  refine Ends.region ?_
  refine S.val hA (R.assign rfl) rfl ?_; clear hA a; intro a hA
  refine S.val hA (R.assign rfl) rfl ?_; clear hA a; intro a hA
  refine S.val hA (R.assign rfl) rfl ?_; clear hA a; intro a hA
  refine S.done ?_
  replace hA : St 38 [(0, _), (1, _)] a := hA.sub ((.cons rfl (.cons rfl .nil)))
  refine Ends.seq ?_
  refine Ends.region ?_
  refine S.val hA (R.assign rfl) rfl ?_; clear hA a; intro a hA
  refine S.val hA (R.assign rfl) rfl ?_; clear hA a; intro a hA
  refine S.val hA (R.assign rfl) rfl ?_; clear hA a; intro a hA
  refine S.done ?_
  replace hA : St 38 [(0, _), (1, _), (7, _), (8, _), (9, _)] a := hA.sub ((.cons rfl (.cons rfl (.cons rfl (.cons rfl (.cons rfl .nil))))))
  refine Ends.seq ?_
  refine Ends.seq ?_
  refine Ends.region ?_
  refine S.val hA (R.assign rfl) rfl ?_; clear hA a; intro a hA
  refine S.done ?_
  replace hA : St 38 [(0, _), (1, _), (7, _), (8, _), (9, _), (10, _)] a := hA.sub ((.cons rfl (.cons rfl (.cons rfl (.cons rfl (.cons rfl (.cons rfl .nil)))))))
  refine Ends.block ?_
  refine Ends.loop (σ := Nat × Nat × Int × Int × Nat) (fun (i, f, l, c, m) (a : Act) (wv : World) => St 38 [(0, .string s), (1, .int .i64 q), (7, .int .i64 l), (8, .int .i64 c), (9, .int .i64 ((m : Int))), (10, .int .i64 ((i : Int)))] a ∧ Mem w nof [] wv ∧ (s.size ≤ i + f) ∧ (plF s q f i l c = plI s q) ∧ (1 ≤ l ∧ l ≤ 1 + (i : Int)) ∧ (1 ≤ c ∧ c ≤ 1 + (i : Int)) ∧ (m + Lib.runeCountFrom s f i = Lib.runeCount s) ∧ (i ≤ s.size ∧ m ≤ i)) (fun (i, f, l, c, m) => f) ((0, s.size, 1, 1, 0)) ⟨hA.sub ((.cons rfl (.cons rfl (.cons rfl (.cons rfl (.cons rfl (.cons rfl .nil))))))), hM, (by omega), rfl, (by omega), (by omega), (by rw [Nat.zero_add]; rfl), (by omega)⟩ ?_
  clear hA hM a
  rintro ⟨i, f, l, c, m⟩ a w1 ⟨hA, hM, hf, hpl, hl, hc, hm, hi⟩ hNext
  refine Ends.seq ?_
  refine Ends.seq ?_
  refine Ends.region ?_
  refine S.val hA (R.move rfl) rfl ?_; clear hA a; intro a hA
  refine S.val hA (R.move rfl) rfl ?_; clear hA a; intro a hA
  refine S.val hA (R.lenStr Tryd.underlying9 rfl rfl) rfl ?_; clear hA a; intro a hA
  refine S.val hA (R.lss rfl rfl) rfl ?_; clear hA a; intro a hA
  refine S.done ?_
  replace hA : St 38 [(0, _), (1, _), (7, _), (8, _), (9, _), (10, _), (14, _)] a := hA.sub ((.cons rfl (.cons rfl (.cons rfl (.cons rfl (.cons rfl (.cons rfl (.cons rfl .nil))))))))
  refine Ends.ite hA rfl (fun hc1 => ?_) (fun hc1 => ?_)
  ·
    refine Ends.skip ?_
    refine Ends.seq ?_
    refine Ends.block ?_
    refine Ends.seq ?_
    refine Ends.seq ?_
    refine Ends.region ?_
    refine S.val hA (R.move rfl) rfl ?_; clear hA a; intro a hA
    refine S.val hA (R.move rfl) rfl ?_; clear hA a; intro a hA
    refine S.val hA (R.lss rfl rfl) rfl ?_; clear hA a; intro a hA
    refine S.done ?_
    replace hA : St 38 [(0, _), (1, _), (7, _), (8, _), (9, _), (10, _), (19, _)] a := hA.sub ((.cons rfl (.cons rfl (.cons rfl (.cons rfl (.cons rfl (.cons rfl (.cons rfl .nil))))))))
    refine Ends.ite hA rfl (fun hc2 => ?_) (fun hc2 => ?_)
    ·
      refine Ends.seq ?_
      refine Ends.region ?_
      refine S.val hA (R.move rfl) rfl ?_; clear hA a; intro a hA
      refine S.val hA (R.addI rfl rfl (r := c + 1) rfl (by omega)) rfl ?_; clear hA a; intro a hA
      refine S.val hA (R.assign rfl) rfl ?_; clear hA a; intro a hA
      refine S.done ?_
      replace hA : St 38 [(0, _), (1, _), (7, _), (8, _), (9, _), (10, _)] a := hA.sub ((.cons rfl (.cons rfl (.cons rfl (.cons rfl (.cons rfl (.cons rfl .nil)))))))
      refine Ends.seq ?_
      refine Ends.region ?_
      refine S.val hA (R.move rfl) rfl ?_; clear hA a; intro a hA
      refine S.val hA (R.move rfl) rfl ?_; clear hA a; intro a hA
      refine S.val hA (R.to (v := .int .u8 (byt s i)) (R.idxS Tryd.underlying9 rfl rfl (by omega)) (by first | rfl | (congr 2; done) | (congr 2; omega))) rfl ?_; clear hA a; intro a hA
      refine S.val hA (R.eql rfl rfl) rfl ?_; clear hA a; intro a hA
      refine S.done ?_
      replace hA : St 38 [(0, _), (1, _), (7, _), (8, _), (9, _), (10, _), (25, _)] a := hA.sub ((.cons rfl (.cons rfl (.cons rfl (.cons rfl (.cons rfl (.cons rfl (.cons rfl .nil))))))))
      refine Ends.ite hA rfl (fun hc3 => ?_) (fun hc3 => ?_)
      ·
        refine Ends.region ?_
        refine S.val hA (R.move rfl) rfl ?_; clear hA a; intro a hA
        refine S.val hA (R.addI rfl rfl (r := l + 1) rfl (by omega)) rfl ?_; clear hA a; intro a hA
        refine S.val hA (R.assign rfl) rfl ?_; clear hA a; intro a hA
        refine S.val hA (R.assign rfl) rfl ?_; clear hA a; intro a hA
        refine S.done ?_
        replace hA : St 38 [(0, _), (1, _), (7, _), (8, _), (9, _), (10, _)] a := hA.sub ((.cons rfl (.cons rfl (.cons rfl (.cons rfl (.cons rfl (.cons rfl .nil)))))))
        refine Ends.seq ?_
        refine Ends.region ?_
        refine S.val hA (R.move rfl) rfl ?_; clear hA a; intro a hA
        refine S.val hA (R.addI rfl rfl (r := ((m : Int)) + 1) rfl (by omega)) rfl ?_; clear hA a; intro a hA
        refine S.val hA (R.assign rfl) rfl ?_; clear hA a; intro a hA
        refine S.done ?_
        replace hA : St 38 [(0, _), (1, _), (7, _), (8, _), (9, _), (10, _)] a := hA.sub ((.cons rfl (.cons rfl (.cons rfl (.cons rfl (.cons rfl (.cons rfl .nil)))))))
        refine Ends.region ?_
        refine S.val hA (R.move rfl) rfl ?_; clear hA a; intro a hA
        refine S.val hA (R.move rfl) rfl ?_; clear hA a; intro a hA
        refine S.val hA (R.move rfl) rfl ?_; clear hA a; intro a hA
        refine S.call hA (R.callF Tryd.func32 rfl rfl rfl) rfl (more_any s i (by omega) (by omega) _) ?_; clear hA a
        rintro e w2 ⟨rfl, hb⟩
        replace hM := hM.callB hb; clear hb
        refine ⟨.int .i64 (((Utf8.decode s i).2 : Int) - 1), rfl, fun a hA => ?_⟩
        refine S.val hA (R.addI rfl rfl (r := (i : Int) + (((Utf8.decode s i).2 : Int) - 1)) rfl (by have := dec_fit (show i < s.size by omega); omega)) rfl ?_; clear hA a; intro a hA
        refine S.val hA (R.assign rfl) rfl ?_; clear hA a; intro a hA
        refine S.done ?_
        replace hA : St 38 [(0, _), (1, _), (7, _), (8, _), (9, _), (10, _)] a := hA.sub ((.cons rfl (.cons rfl (.cons rfl (.cons rfl (.cons rfl (.cons rfl .nil)))))))
        refine Ends.inBlock ?_
        refine Ends.region ?_
        refine S.val hA (R.move rfl) rfl ?_; clear hA a; intro a hA
        refine S.val hA (R.addI rfl rfl (r := ((i + (Utf8.decode s i).2 : Nat) : Int)) (by omega) (by have := dec_fit (show i < s.size by omega); omega)) rfl ?_; clear hA a; intro a hA
        refine S.val hA (R.assign rfl) rfl ?_; clear hA a; intro a hA
        refine S.done ?_
        replace hA : St 38 [(0, _), (1, _), (7, _), (8, _), (9, _), (10, _)] a := hA.sub ((.cons rfl (.cons rfl (.cons rfl (.cons rfl (.cons rfl (.cons rfl .nil)))))))
        have hlt : i < s.size := by omega
        have hwd := Lib.decode_width_pos s i hlt
        have hft := dec_fit hlt
        have hr := rc_step hlt (show 0 < f by omega)
        have hstep := plF_step (q := q) hlt (by omega) (show 0 < f by omega) l c
        rw [if_pos ((dec_nl hlt).2 hc3), if_pos ((dec_nl hlt).2 hc3)] at hstep
        exact hNext ((i + (Utf8.decode s i).2, f - 1, l + 1, 1, m + 1)) _ _ ((by show f - 1 < f; omega)) ⟨hA.sub ((.cons rfl (.cons rfl (.cons rfl (.cons rfl (.cons rfl (.cons rfl .nil))))))), hM, (by omega), (hstep.symm.trans hpl), (by omega), (by omega), (by omega), (by omega)⟩
      ·
        refine Ends.skip ?_
        refine Ends.seq ?_
        refine Ends.region ?_
        refine S.val hA (R.move rfl) rfl ?_; clear hA a; intro a hA
        refine S.val hA (R.addI rfl rfl (r := ((m : Int)) + 1) rfl (by omega)) rfl ?_; clear hA a; intro a hA
        refine S.val hA (R.assign rfl) rfl ?_; clear hA a; intro a hA
        refine S.done ?_
        replace hA : St 38 [(0, _), (1, _), (7, _), (8, _), (9, _), (10, _)] a := hA.sub ((.cons rfl (.cons rfl (.cons rfl (.cons rfl (.cons rfl (.cons rfl .nil)))))))
        refine Ends.region ?_
        refine S.val hA (R.move rfl) rfl ?_; clear hA a; intro a hA
        refine S.val hA (R.move rfl) rfl ?_; clear hA a; intro a hA
        refine S.val hA (R.move rfl) rfl ?_; clear hA a; intro a hA
        refine S.call hA (R.callF Tryd.func32 rfl rfl rfl) rfl (more_any s i (by omega) (by omega) _) ?_; clear hA a
        rintro e w3 ⟨rfl, hb⟩
        replace hM := hM.callB hb; clear hb
        refine ⟨.int .i64 (((Utf8.decode s i).2 : Int) - 1), rfl, fun a hA => ?_⟩
        refine S.val hA (R.addI rfl rfl (r := (i : Int) + (((Utf8.decode s i).2 : Int) - 1)) rfl (by have := dec_fit (show i < s.size by omega); omega)) rfl ?_; clear hA a; intro a hA
        refine S.val hA (R.assign rfl) rfl ?_; clear hA a; intro a hA
        refine S.done ?_
        replace hA : St 38 [(0, _), (1, _), (7, _), (8, _), (9, _), (10, _)] a := hA.sub ((.cons rfl (.cons rfl (.cons rfl (.cons rfl (.cons rfl (.cons rfl .nil)))))))
        refine Ends.inBlock ?_
        refine Ends.region ?_
        refine S.val hA (R.move rfl) rfl ?_; clear hA a; intro a hA
        refine S.val hA (R.addI rfl rfl (r := ((i + (Utf8.decode s i).2 : Nat) : Int)) (by omega) (by have := dec_fit (show i < s.size by omega); omega)) rfl ?_; clear hA a; intro a hA
        refine S.val hA (R.assign rfl) rfl ?_; clear hA a; intro a hA
        refine S.done ?_
        replace hA : St 38 [(0, _), (1, _), (7, _), (8, _), (9, _), (10, _)] a := hA.sub ((.cons rfl (.cons rfl (.cons rfl (.cons rfl (.cons rfl (.cons rfl .nil)))))))
        have hlt : i < s.size := by omega
        have hwd := Lib.decode_width_pos s i hlt
        have hft := dec_fit hlt
        have hr := rc_step hlt (show 0 < f by omega)
        have hstep := plF_step (q := q) hlt (by omega) (show 0 < f by omega) l c
        rw [if_neg (fun h => hc3 ((dec_nl hlt).1 h)), if_neg (fun h => hc3 ((dec_nl hlt).1 h))] at hstep
        exact hNext ((i + (Utf8.decode s i).2, f - 1, l, c + 1, m + 1)) _ _ ((by show f - 1 < f; omega)) ⟨hA.sub ((.cons rfl (.cons rfl (.cons rfl (.cons rfl (.cons rfl (.cons rfl .nil))))))), hM, (by omega), (hstep.symm.trans hpl), (by omega), (by omega), (by omega), (by omega)⟩
    ·
      refine Ends.skip ?_
      refine Ends.seq ?_
      refine Ends.region ?_
      refine S.val hA (R.move rfl) rfl ?_; clear hA a; intro a hA
      refine S.val hA (R.addI rfl rfl (r := ((m : Int)) + 1) rfl (by omega)) rfl ?_; clear hA a; intro a hA
      refine S.val hA (R.assign rfl) rfl ?_; clear hA a; intro a hA
      refine S.done ?_
      replace hA : St 38 [(0, _), (1, _), (7, _), (8, _), (9, _), (10, _)] a := hA.sub ((.cons rfl (.cons rfl (.cons rfl (.cons rfl (.cons rfl (.cons rfl .nil)))))))
      refine Ends.region ?_
      refine S.val hA (R.move rfl) rfl ?_; clear hA a; intro a hA
      refine S.val hA (R.move rfl) rfl ?_; clear hA a; intro a hA
      refine S.val hA (R.move rfl) rfl ?_; clear hA a; intro a hA
      refine S.call hA (R.callF Tryd.func32 rfl rfl rfl) rfl (more_any s i (by omega) (by omega) _) ?_; clear hA a
      rintro e w4 ⟨rfl, hb⟩
      replace hM := hM.callB hb; clear hb
      refine ⟨.int .i64 (((Utf8.decode s i).2 : Int) - 1), rfl, fun a hA => ?_⟩
      refine S.val hA (R.addI rfl rfl (r := (i : Int) + (((Utf8.decode s i).2 : Int) - 1)) rfl (by have := dec_fit (show i < s.size by omega); omega)) rfl ?_; clear hA a; intro a hA
      refine S.val hA (R.assign rfl) rfl ?_; clear hA a; intro a hA
      refine S.done ?_
      replace hA : St 38 [(0, _), (1, _), (7, _), (8, _), (9, _), (10, _)] a := hA.sub ((.cons rfl (.cons rfl (.cons rfl (.cons rfl (.cons rfl (.cons rfl .nil)))))))
      refine Ends.inBlock ?_
      refine Ends.region ?_
      refine S.val hA (R.move rfl) rfl ?_; clear hA a; intro a hA
      refine S.val hA (R.addI rfl rfl (r := ((i + (Utf8.decode s i).2 : Nat) : Int)) (by omega) (by have := dec_fit (show i < s.size by omega); omega)) rfl ?_; clear hA a; intro a hA
      refine S.val hA (R.assign rfl) rfl ?_; clear hA a; intro a hA
      refine S.done ?_
      replace hA : St 38 [(0, _), (1, _), (7, _), (8, _), (9, _), (10, _)] a := hA.sub ((.cons rfl (.cons rfl (.cons rfl (.cons rfl (.cons rfl (.cons rfl .nil)))))))
      have hlt : i < s.size := by omega
      have hwd := Lib.decode_width_pos s i hlt
      have hft := dec_fit hlt
      have hr := rc_step hlt (show 0 < f by omega)
      have hs0 : plF s q f i l c = (l, c) := plF_stop (fun h => by omega) _ _ _
      exact hNext ((i + (Utf8.decode s i).2, f - 1, l, c, m + 1)) _ _ ((by show f - 1 < f; omega)) ⟨hA.sub ((.cons rfl (.cons rfl (.cons rfl (.cons rfl (.cons rfl (.cons rfl .nil))))))), hM, (by omega), ((plF_stop (fun h => by omega) _ _ _).trans (hs0.symm.trans hpl)), (by omega), (by omega), (by omega), (by omega)⟩
  ·
    refine Ends.exit rfl ?_
    replace hA : St 38 [(7, _), (8, _), (9, _)] a := hA.sub ((.cons rfl (.cons rfl (.cons rfl .nil))))
    refine Ends.seq ?_
    refine Ends.region ?_
    refine S.val hA (R.move rfl) rfl ?_; clear hA a; intro a hA
    refine S.val hA (R.move rfl) rfl ?_; clear hA a; intro a hA
    refine S.val hA (R.move rfl) rfl ?_; clear hA a; intro a hA
    refine S.val hA (R.assign rfl) rfl ?_; clear hA a; intro a hA
    refine S.val hA (R.assign rfl) rfl ?_; clear hA a; intro a hA
    refine S.val hA (R.assign rfl) rfl ?_; clear hA a; intro a hA
    refine S.done ?_
    replace hA : St 38 [(4, _), (5, _), (6, _)] a := hA.sub ((.cons rfl (.cons rfl (.cons rfl .nil))))
    refine Ends.ret3 Tryd.func25 Tryd.results25 hA rfl rfl rfl ?_
    have e0 : plI s q = (l, c) := by rw [← hpl]; exact plF_stop (fun h => by omega) _ _ _
    have hrc : Lib.runeCountFrom s f i = 0 := Lib.runeCountFrom_end s f i (by omega)
    rw [e0, show Lib.runeCount s = m by omega]
    exact ⟨rfl, hM.nilL.below⟩
set_option maxRecDepth 100000 in
set_option maxHeartbeats 400000 in
theorem digitPlaces_w (s : ByteArray) (q : Int) (w : World) (htab : Lib.TabIs Tryd.prog w "internal/strconv.uint64pow10" .u64 Lib.pow10Tab) :
    Calls Tryd.prog 10 #[.string s, .int .i64 q] w fun e w' => e = .returned (.bool true) ∧ Below w.heap.size w w' := by
  have hM := Mem.start w
  refine Calls.of_ends (vs := [.string s, .int .i64 q]) Tryd.func10 rfl Tryd.ntmps10 rfl ?_
  intro a hA
  replace hA : St 44 [(0, _), (1, _)] a := hA
  refine Ends.seq ?_
  refine Ends.region ?_
  refine S.val hA (R.assign rfl) rfl ?_; clear hA a; intro a hA
  refine S.done ?_
  replace hA : St 44 [(0, _), (1, _)] a := hA.sub ((.cons rfl (.cons rfl .nil)))
  refine Ends.seq ?_
  refine Ends.seq ?_
  refine Ends.region ?_
  refine S.val hA (R.move rfl) rfl ?_; clear hA a; intro a hA
  refine S.val hA (R.lenStr Tryd.underlying9 rfl rfl) rfl ?_; clear hA a; intro a hA
  refine S.val hA (R.gtr rfl rfl) rfl ?_; clear hA a; intro a hA
  refine S.done ?_
  replace hA : St 44 [(0, _), (1, _), (12, _)] a := hA.sub ((.cons rfl (.cons rfl (.cons rfl .nil))))
  refine Ends.ite hA rfl (fun hc1 => ?_) (fun hc1 => ?_)
  ·
    refine Ends.seq ?_
    refine Ends.region ?_
    refine S.call hA (R.callF Tryd.func18 rfl rfl rfl) rfl (digits_any _ (tab_below htab hM.nilL.below)) ?_; clear hA a
    rintro e w1 ⟨rfl, hb⟩
    replace hM := hM.callB hb; clear hb
    refine ⟨.bool true, rfl, fun a hA => ?_⟩
    refine S.val hA (R.assign rfl) rfl ?_; clear hA a; intro a hA
    refine S.done ?_
    replace hA : St 44 [(0, _), (1, _), (4, _)] a := hA.sub ((.cons rfl (.cons rfl (.cons rfl .nil))))
    refine Ends.ret1 Tryd.func10 Tryd.results10 hA rfl ?_
    exact ⟨rfl, hM.nilL.below⟩
  ·
    refine Ends.skip ?_
    refine Ends.seq ?_
    refine Ends.region ?_
    refine S.val hA (R.move rfl) rfl ?_; clear hA a; intro a hA
    refine S.val hA (R.move rfl) rfl ?_; clear hA a; intro a hA
    refine S.call hA (R.callF Tryd.func24 rfl rfl rfl) rfl (place_any s q (by omega) _) ?_; clear hA a
    rintro e w2 ⟨rfl, hb⟩
    replace hM := hM.callB hb; clear hb
    refine ⟨.tuple #[.int .i64 ((plI s q).1), .int .i64 ((plI s q).2)], rfl, fun a hA => ?_⟩
    refine S.val hA (R.move rfl) rfl ?_; clear hA a; intro a hA
    refine S.val hA (R.extract (v := .int .i64 ((plI s q).1)) rfl rfl) rfl ?_; clear hA a; intro a hA
    refine S.val hA (R.extract (v := .int .i64 ((plI s q).2)) rfl rfl) rfl ?_; clear hA a; intro a hA
    refine S.val hA (R.assign rfl) rfl ?_; clear hA a; intro a hA
    refine S.val hA (R.assign rfl) rfl ?_; clear hA a; intro a hA
    refine S.done ?_
    replace hA : St 44 [(0, _), (1, _), (5, _), (6, _)] a := hA.sub ((.cons rfl (.cons rfl (.cons rfl (.cons rfl .nil)))))
    refine Ends.seq ?_
    refine Ends.region ?_
    refine S.val hA (R.move rfl) rfl ?_; clear hA a; intro a hA
    refine S.val hA (R.move rfl) rfl ?_; clear hA a; intro a hA
    refine S.call hA (R.callF Tryd.func25 rfl rfl rfl) rfl (rplace_any s q (by omega) _) ?_; clear hA a
    rintro e w3 ⟨rfl, hb⟩
    replace hM := hM.callB hb; clear hb
    refine ⟨.tuple #[.int .i64 ((plI s q).1), .int .i64 ((plI s q).2), .int .i64 ((Lib.runeCount s : Int))], rfl, fun a hA => ?_⟩
    refine S.val hA (R.move rfl) rfl ?_; clear hA a; intro a hA
    refine S.val hA (R.extract (v := .int .i64 ((plI s q).1)) rfl rfl) rfl ?_; clear hA a; intro a hA
    refine S.val hA (R.extract (v := .int .i64 ((plI s q).2)) rfl rfl) rfl ?_; clear hA a; intro a hA
    refine S.val hA (R.extract (v := .int .i64 ((Lib.runeCount s : Int))) rfl rfl) rfl ?_; clear hA a; intro a hA
    refine S.val hA (R.assign rfl) rfl ?_; clear hA a; intro a hA
    refine S.val hA (R.assign rfl) rfl ?_; clear hA a; intro a hA
    refine S.val hA (R.assign rfl) rfl ?_; clear hA a; intro a hA
    refine S.done ?_
    replace hA : St 44 [(0, _), (5, _), (6, _), (7, _), (8, _), (9, _)] a := hA.sub ((.cons rfl (.cons rfl (.cons rfl (.cons rfl (.cons rfl (.cons rfl .nil)))))))
    refine Ends.seq ?_
    refine Ends.region ?_
    refine S.call hA (R.callF Tryd.func18 rfl rfl rfl) rfl (digits_any _ (tab_below htab hM.nilL.below)) ?_; clear hA a
    rintro e w4 ⟨rfl, hb⟩
    replace hM := hM.callB hb; clear hb
    refine ⟨.bool true, rfl, fun a hA => ?_⟩
    refine S.val hA (R.move rfl) rfl ?_; clear hA a; intro a hA
    refine S.valg (dj := 28) hA (by kernel_rfl) rfl (R.move rfl) rfl ?_; clear hA a; intro a hA
    refine S.valg (dj := 28) hA (by kernel_rfl) rfl (R.move rfl) rfl ?_; clear hA a; intro a hA
    refine S.valg (dj := 28) hA (by kernel_rfl) rfl (R.tt (R.eql rfl rfl) (by first | decide | simp | omega)) rfl ?_; clear hA a; intro a hA
    refine S.val hA (R.pickT rfl rfl) rfl ?_; clear hA a; intro a hA
    refine S.val hA (R.move rfl) rfl ?_; clear hA a; intro a hA
    refine S.valg (dj := 33) hA (by kernel_rfl) rfl (R.move rfl) rfl ?_; clear hA a; intro a hA
    refine S.valg (dj := 33) hA (by kernel_rfl) rfl (R.move rfl) rfl ?_; clear hA a; intro a hA
    refine S.valg (dj := 33) hA (by kernel_rfl) rfl (R.tt (R.eql rfl rfl) (by first | decide | simp | omega)) rfl ?_; clear hA a; intro a hA
    refine S.val hA (R.pickT rfl rfl) rfl ?_; clear hA a; intro a hA
    refine S.val hA (R.move rfl) rfl ?_; clear hA a; intro a hA
    refine S.valg (dj := 38) hA (by kernel_rfl) rfl (R.move rfl) rfl ?_; clear hA a; intro a hA
    refine S.callg (dj := 38) hA (by kernel_rfl) rfl (R.callF Tryd.func26 rfl rfl rfl) rfl (signs_any s (by omega) _) ?_; clear hA a
    rintro e w5 ⟨rfl, hb⟩
    replace hM := hM.callB hb; clear hb
    refine ⟨.int .i64 ((Lib.runeCount s : Int)), rfl, fun a hA => ?_⟩
    refine S.valg (dj := 38) hA (by kernel_rfl) rfl (R.move rfl) rfl ?_; clear hA a; intro a hA
    refine S.valg (dj := 38) hA (by kernel_rfl) rfl (R.tt (R.eql rfl rfl) (by first | decide | simp | omega)) rfl ?_; clear hA a; intro a hA
    refine S.val hA (R.pickT rfl rfl) rfl ?_; clear hA a; intro a hA
    refine S.val hA (R.assign rfl) rfl ?_; clear hA a; intro a hA
    refine S.done ?_
    replace hA : St 44 [(4, _)] a := hA.sub ((.cons rfl .nil))
    refine Ends.ret1 Tryd.func10 Tryd.results10 hA rfl ?_
    exact ⟨rfl, hM.nilL.below⟩
theorem digitPlaces_any (s : ByteArray) (q : Int) (_hs : s.size ≤ maxLen) (_hq : (Lit.int .i64 q).wf = true) (w : World) (htab : Lib.TabIs Tryd.prog w "internal/strconv.uint64pow10" .u64 Lib.pow10Tab) : Calls Tryd.prog 10 #[.string s, .int .i64 q] w fun e w' => e = .returned (.bool true) ∧ Below w.heap.size w w' := digitPlaces_w s q w htab
end Go.Proofs.YtdbbigjoloinpaaDoor
