/-
  The next order, and the rank of one.
-/
import Derived.Test.YtphpbdnmdhlnoaaOrdX
import Derived.Test.YtphpbdnmdhlnoaaOrd5
import Derived.Test.YtphpbdnmdhlnoaaEngX
namespace Go.Proofs.Ytphpbdnmdhlnoaa
open Go.RowKit
set_option maxRecDepth 100000 in
set_option maxHeartbeats 400000 in
theorem clone09 (ax : Option Addr) (X : List Int) (cx : Nat) (hX : X.length ≤ 1000) (w : World) (hx : IntSl w (.slice ax X.length cx) X) :
    Calls Try.prog 31 #[.slice ax X.length cx] w fun e w' => ∃ a c, e = .returned (.slice a X.length c) ∧ Mem w nof [own 3 1 (.slice a X.length c) X.length (X.map (Value.int .i64))] w' := by
  have hbs := Below.refl (B := w.heap.size) w
  have hM := Mem.start w
  refine Calls.of_ends (vs := [.slice ax X.length cx]) Try.func31 rfl Try.ntmps31 rfl ?_
  intro a hA
  replace hA : St 8 [(0, _)] a := hA
  refine Ends.seq ?_
  refine Ends.region ?_
  refine S.val hA (R.assign rfl) rfl ?_; clear hA a; intro a hA
  refine S.done ?_
  replace hA : St 8 [(0, _)] a := hA.sub ((.cons rfl .nil))
  refine Ends.seq ?_
  refine Ends.seq ?_
  refine Ends.region ?_
  refine S.val hA (R.move rfl) rfl ?_; clear hA a; intro a hA
  refine S.val hA (R.eqlNilS Try.underlying22 rfl rfl) rfl ?_; clear hA a; intro a hA
  refine S.done ?_
  replace hA : St 8 [(0, _), (4, _)] a := hA.sub ((.cons rfl (.cons rfl .nil)))
  refine Ends.iteB hA rfl (fun hc1 => ?_) (fun hc1 => ?_)
  ·
    refine Ends.seq ?_
    refine Ends.region ?_
    refine S.val hA (R.assign rfl) rfl ?_; clear hA a; intro a hA
    refine S.done ?_
    replace hA : St 8 [(0, _), (2, _)] a := hA.sub ((.cons rfl (.cons rfl .nil)))
    refine Ends.ret1 Try.func31 Try.results31 hA rfl ?_
    have hX0 : X = [] := by obtain ⟨a9, c9, he9, h91, h92, h93, h94⟩ := hx; have hc0 := hc1; cases ax with | some p => cases hc0 | none => (cases he9; exact List.length_eq_zero_iff.1 (by have := h93 rfl; omega))
    subst hX0
    exact ⟨none, 0, rfl, hM.ownNil 3 1⟩
  ·
    refine Ends.skip ?_
    refine Ends.seq ?_
    refine Ends.region ?_
    refine S.buildSl0 hA hM Try.underlying22 info3 rfl ?_; clear hA hM a; intro b2 w1 hb3 hM a hA
    replace hM := hM.ownPt (cap := 0) (n := 0) (sz := 1) (xs := []) rfl (Nat.zero_le _) (Nat.le_refl _) rfl
    replace hM : Mem _ _ [own 3 1 (.slice ((some ⟨b2, 0, none⟩)) 0 0) 0 ((([] : List Int)).map (Value.int .i64))] _ := hM
    refine S.val hA (R.move rfl) rfl ?_; clear hA a; intro a hA
    refine S.appendI (k := 0) hA hM rfl (hx.mem hM) Try.underlying22 info3 rfl rfl rfl rfl rfl rfl (by first | (unfold maxLen; omega) | (show (0 + _) * 8 ≤ (140737488355328 : Nat); omega)) (by first | (unfold maxLen; omega) | (show (0 + _) * 8 ≤ (140737488355328 : Nat); omega)) rfl ?_; clear hA hM a; intro a4 c5 w2 hM a hA
    have hl6 : 0 + X.length = X.length := by first | (simp; done) | simp only [List.length_append]
    rw [hl6, show (([] : List Int)).map (Value.int .i64) ++ X.map (Value.int .i64) = X.map (Value.int .i64) by simp] at hM; rw [hl6] at hA; clear hl6
    replace hM : Mem _ _ [own 3 1 (.slice a4 X.length c5) X.length (X.map (Value.int .i64))] _ := hM
    refine S.val hA (R.assign rfl) rfl ?_; clear hA a; intro a hA
    refine S.done ?_
    replace hA : St 8 [(2, _)] a := hA.sub ((.cons rfl .nil))
    refine Ends.ret1 Try.func31 Try.results31 hA rfl ?_
    exact ⟨_, _, rfl, hM⟩
set_option maxRecDepth 100000 in
set_option maxHeartbeats 400000 in
theorem rev09 (g o m cap cc : Nat) (X : List Int) (hom : o + m ≤ X.length) (hX : X.length ≤ 1000) (w : World) (hM : Mem w (feet [own 3 1 (.slice ((some ⟨g, 0, none⟩)) X.length cap) X.length (X.map (Value.int .i64))]) [own 3 1 (.slice ((some ⟨g, 0, none⟩)) X.length cap) X.length (X.map (Value.int .i64))] w) :
    Calls Try.prog 32 #[.slice ((some ⟨g, o, none⟩)) m cc] w fun e w' => e = .returned (.tuple #[]) ∧ Mem w (feet [own 3 1 (.slice ((some ⟨g, 0, none⟩)) X.length cap) X.length (X.map (Value.int .i64))]) [own 3 1 (.slice ((some ⟨g, 0, none⟩)) X.length cap) X.length (((revAt X o m)).map (Value.int .i64))] w' := by
  have hbs := Below.refl (B := w.heap.size) w
  have hM0 : True := trivial  -- have hM
  refine Calls.of_ends (vs := [.slice ((some ⟨g, o, none⟩)) m cc]) Try.func32 rfl Try.ntmps32 rfl ?_
  intro a hA
  replace hA : St 28 [(0, _)] a := hA
  refine Ends.seq ?_
  refine Ends.region ?_
  refine S.val hA (R.move rfl) rfl ?_; clear hA a; intro a hA
  refine S.val hA (R.lenS Try.underlying22 rfl rfl) rfl ?_; clear hA a; intro a hA
  refine S.val hA (R.subI rfl rfl (r := ((m : Int)) - 1) rfl (by omega)) rfl ?_; clear hA a; intro a hA
  refine S.val hA (R.assign rfl) rfl ?_; clear hA a; intro a hA
  refine S.val hA (R.assign rfl) rfl ?_; clear hA a; intro a hA
  refine S.done ?_
  replace hA : St 28 [(0, _), (2, _), (3, _)] a := hA.sub ((.cons rfl (.cons rfl (.cons rfl .nil))))
  refine Ends.block ?_
  rw [show (m : Int) - 1 = (m : Int) - 1 - ((0 : Nat) : Int) by omega] at hA
  refine Ends.loop (σ := Nat × List Int) (fun (i, Z) (a : Act) (wv : World) => St 28 [(0, .slice ((some ⟨g, o, none⟩)) m cc), (2, .int .i64 ((i : Int))), (3, .int .i64 (((m : Int) - 1 - (i : Int))))] a ∧ Mem w (feet [own 3 1 (.slice ((some ⟨g, 0, none⟩)) X.length cap) X.length (X.map (Value.int .i64))]) [own 3 1 (.slice ((some ⟨g, 0, none⟩)) X.length cap) X.length (Z.map (Value.int .i64))] wv ∧ (Z.length = X.length) ∧ (i ≤ m) ∧ (∀ t, Z.getD t 0 = revI X o m i t)) (fun (i, Z) => m - i) ((0, X)) ⟨hA.sub ((.cons rfl (.cons rfl (.cons rfl .nil)))), hM, rfl, (Nat.zero_le _), (revI_zero X o m)⟩ ?_
  clear hA hM a
  rintro ⟨i, Z⟩ a w1 ⟨hA, hM, hZl, hi, hZ⟩ hNext
  refine Ends.seq ?_
  refine Ends.seq ?_
  refine Ends.region ?_
  refine S.val hA (R.move rfl) rfl ?_; clear hA a; intro a hA
  refine S.val hA (R.move rfl) rfl ?_; clear hA a; intro a hA
  refine S.val hA (R.lss rfl rfl) rfl ?_; clear hA a; intro a hA
  refine S.done ?_
  replace hA : St 28 [(0, _), (2, _), (3, _), (9, _)] a := hA.sub ((.cons rfl (.cons rfl (.cons rfl (.cons rfl .nil)))))
  refine Ends.ite hA rfl (fun hc1 => ?_) (fun hc1 => ?_)
  ·
    refine Ends.skip ?_
    refine Ends.seq ?_
    refine Ends.block ?_
    refine Ends.drawn (Mem w (feet [own 3 1 (.slice ((some ⟨g, 0, none⟩)) X.length cap) X.length (X.map (Value.int .i64))]) [own 3 1 (.slice ((some ⟨g, 0, none⟩)) X.length cap) X.length (Z.map (Value.int .i64))]) (.cons (0, true) (.cons (1, true) (.cons (2, true) (.cons (3, true) (.cons (4, true) (.cons (5, true) (.cons (6, true) (.cons (7, true) (.cons (8, true) (.cons (9, true) (.cons (10, true) (.cons (11, true) (.cons (12, true) (.cons (13, false) (.cons (14, true) (.cons (15, false) .nil)))))))))))))))) 13 mixed (by kernel_rfl) (by kernel_rfl) (by kernel_rfl) hM.drew ?_
    replace hM := hM.drew
    refine D.valF hA rfl (fun _ => R.move rfl) rfl ?_; clear hA a; intro a hA
    refine D.valF hA rfl (fun _ => R.move rfl) rfl ?_; clear hA a; intro a hA
    refine D.valF hA rfl (fun _ => R.move rfl) rfl ?_; clear hA a; intro a hA
    refine D.valF hA rfl (fun _ => R.move rfl) rfl ?_; clear hA a; intro a hA
    refine D.valF hA rfl (fun _ => R.move rfl) rfl ?_; clear hA a; intro a hA
    refine D.valF hA rfl (fun _ => R.move rfl) rfl ?_; clear hA a; intro a hA
    refine D.valF hA rfl (fun _ => R.indexAddr (q := o + (m - 1 - i)) sl22 rfl rfl (by omega) (by omega)) rfl ?_; clear hA a; intro a hA
    refine D.val hA rfl (by kernel_rfl) (fun _ hM => R.load sz3 rfl (hM.ownCell (k := 0) rfl (mapi_get _ _ (by omega)))) rfl ?_; clear hA a; intro a hA
    refine D.valF hA rfl (fun _ => R.move rfl) rfl ?_; clear hA a; intro a hA
    refine D.valF hA rfl (fun _ => R.move rfl) rfl ?_; clear hA a; intro a hA
    refine D.valF hA rfl (fun _ => R.indexAddr (q := o + i) sl22 rfl rfl (by omega) (by omega)) rfl ?_; clear hA a; intro a hA
    refine D.val hA rfl (by kernel_rfl) (fun _ hM => R.load sz3 rfl (hM.ownCell (k := 0) rfl (mapi_get _ _ (by omega)))) rfl ?_; clear hA a; intro a hA
    refine D.valF hA rfl (fun _ => R.indexAddr (q := o + i) sl22 rfl rfl (by omega) (by omega)) rfl ?_; clear hA a; intro a hA
    refine D.storeO (k := 0) hA hM rfl sz3 rfl rfl rfl rfl (mapi_get Z (o + i) (by first | omega | (simp only [List.length_set]; omega) | (simp; done))) ?_; clear hM; intro w2 hM; rw [mapi_set] at hM
    refine ⟨fun _ hne => absurd rfl hne, ?_⟩
    replace hM : Mem _ _ [own 3 1 (.slice ((some ⟨g, 0, none⟩)) X.length cap) X.length (((Z.set (o + i) (Z.getD (o + (m - 1 - i)) 0))).map (Value.int .i64))] _ := hM
    refine D.valF hA rfl (fun _ => R.indexAddr (q := o + (m - 1 - i)) sl22 rfl rfl (by omega) (by omega)) rfl ?_; clear hA a; intro a hA
    refine D.storeO (k := 0) hA hM rfl sz3 rfl rfl rfl rfl (mapi_get ((Z.set (o + i) (Z.getD (o + (m - 1 - i)) 0))) (o + (m - 1 - i)) (by first | omega | (simp only [List.length_set]; omega) | (simp; done))) ?_; clear hM; intro w3 hM; rw [mapi_set] at hM
    refine ⟨fun hb0 => absurd hb0 (by decide), ?_⟩
    replace hM : Mem _ _ [own 3 1 (.slice ((some ⟨g, 0, none⟩)) X.length cap) X.length ((((Z.set (o + i) (Z.getD (o + (m - 1 - i)) 0)).set (o + (m - 1 - i)) (Z.getD (o + i) 0))).map (Value.int .i64))] _ := hM
    refine D.done ?_
    replace hA : St 28 [(0, _), (2, _), (3, _)] a := hA.sub ((.cons rfl (.cons rfl (.cons rfl .nil))))
    refine Ends.inBlock ?_
    refine Ends.region ?_
    refine S.val hA (R.move rfl) rfl ?_; clear hA a; intro a hA
    refine S.val hA (R.addI rfl rfl (r := ((i : Int)) + 1) rfl (by omega)) rfl ?_; clear hA a; intro a hA
    refine S.val hA (R.move rfl) rfl ?_; clear hA a; intro a hA
    refine S.val hA (R.subI rfl rfl (r := (((m : Int) - 1 - (i : Int))) - 1) rfl (by omega)) rfl ?_; clear hA a; intro a hA
    refine S.val hA (R.assign rfl) rfl ?_; clear hA a; intro a hA
    refine S.val hA (R.assign rfl) rfl ?_; clear hA a; intro a hA
    refine S.done ?_
    rw [show (i : Int) + 1 = ((i + 1 : Nat) : Int) by omega, show (m : Int) - 1 - (i : Int) - 1 = (m : Int) - 1 - ((i + 1 : Nat) : Int) by omega] at hA
    replace hA : St 28 [(0, _), (2, _), (3, _)] a := hA.sub ((.cons rfl (.cons rfl (.cons rfl .nil))))
    exact hNext ((i + 1, ((Z.set (o + i) (Z.getD (o + (m - 1 - i)) 0)).set (o + (m - 1 - i)) (Z.getD (o + i) 0)))) _ _ ((by show m - (i + 1) < m - i; omega)) ⟨hA.sub ((.cons rfl (.cons rfl (.cons rfl .nil)))), hM, (by simp only [List.length_set]; exact hZl), (by omega), (fun t => by rw [← revI_succ hZl hom (by omega) hZ t]; rfl)⟩
  ·
    refine Ends.exit rfl ?_
    replace hA : St 28 [] a := hA.sub (.nil)
    refine Ends.end0 Try.func32 Try.results32 hA ?_
    have he := revI_end hZl hom (by omega) hZ
    rw [he] at hM
    exact ⟨rfl, hM⟩
set_option maxRecDepth 100000 in
set_option maxHeartbeats 400000 in
theorem next09 (ax : Option Addr) (X : List Int) (cx : Nat) (hX : X.length ≤ 1000) (w : World) (hx : IntSl w (.slice ax X.length cx) X) :
    Calls Try.prog 13 #[.slice ax X.length cx] w fun e w' => ∃ Y er, nxt X Y er ∧ ∃ a c, e = .returned (.tuple #[.slice a Y.length c, .int .i64 er]) ∧ IntSl w' (.slice a Y.length c) Y ∧ Below w.heap.size w w' := by
  have hbs := Below.refl (B := w.heap.size) w
  have hM := Mem.start w
  refine Calls.of_ends (vs := [.slice ax X.length cx]) Try.func13 rfl Try.ntmps13 rfl ?_
  intro a hA
  replace hA : St 67 [(0, _)] a := hA
  refine Ends.seq ?_
  refine Ends.region ?_
  refine S.val hA (R.assign rfl) rfl ?_; clear hA a; intro a hA
  refine S.val hA (R.assign rfl) rfl ?_; clear hA a; intro a hA
  refine S.done ?_
  replace hA : St 67 [(0, _)] a := hA.sub ((.cons rfl .nil))
  refine Ends.seq ?_
  refine Ends.seq ?_
  refine Ends.region ?_
  refine S.val hA (R.move rfl) rfl ?_; clear hA a; intro a hA
  refine S.call hA (R.callF Try.func18 rfl rfl rfl) rfl (is09 ax X cx (by omega) _ (hx.mem hM)) ?_; clear hA a
  rintro e w1 ⟨rfl, hb⟩
  replace hM := hM.callB hb; clear hb
  refine ⟨.bool ((okP X)), rfl, fun a hA => ?_⟩
  refine S.val hA (R.not rfl) rfl ?_; clear hA a; intro a hA
  refine S.done ?_
  replace hA : St 67 [(0, _), (9, _)] a := hA.sub ((.cons rfl (.cons rfl .nil)))
  refine Ends.iteB hA rfl (fun hc1 => ?_) (fun hc1 => ?_)
  ·
    refine Ends.seq ?_
    refine Ends.region ?_
    refine S.val hA (R.assign rfl) rfl ?_; clear hA a; intro a hA
    refine S.val hA (R.assign rfl) rfl ?_; clear hA a; intro a hA
    refine S.done ?_
    replace hA : St 67 [(0, _), (2, _), (3, _)] a := hA.sub ((.cons rfl (.cons rfl (.cons rfl .nil))))
    refine Ends.ret2 Try.func13 Try.results13 hA rfl rfl ?_
    have hok : okP X = false := by simpa using hc1
    exact ⟨[], 1, .inl ⟨hok, rfl, rfl⟩, none, 0, rfl, IntSl.nil _, Mem.trans0 hbs hM.nilL⟩
  ·
    have hok : okP X = true := by simpa using hc1
    refine Ends.skip ?_
    refine Ends.seq ?_
    refine Ends.region ?_
    refine S.val hA (R.move rfl) rfl ?_; clear hA a; intro a hA
    refine S.val hA (R.lenS Try.underlying22 rfl rfl) rfl ?_; clear hA a; intro a hA
    refine S.val hA (R.subI rfl rfl (r := ((X.length : Int)) - 2) rfl (by omega)) rfl ?_; clear hA a; intro a hA
    refine S.val hA (R.assign rfl) rfl ?_; clear hA a; intro a hA
    refine S.done ?_
    replace hA : St 67 [(0, _), (4, _)] a := hA.sub ((.cons rfl (.cons rfl .nil)))
    refine Ends.seq ?_
    refine Ends.block ?_
    refine Ends.loop (σ := Int) (fun q (a : Act) (wv : World) => St 67 [(0, .slice ax X.length cx), (4, .int .i64 q)] a ∧ Mem w nof [] wv ∧ (-2 ≤ q ∧ q ≤ (X.length : Int) - 2) ∧ (∀ t : Nat, q < (t : Int) → t + 1 < X.length → X.getD (t + 1) 0 < X.getD t 0)) (fun q => (q + 2).toNat) (((X.length : Int) - 2)) ⟨hA.sub ((.cons rfl (.cons rfl .nil))), hM, (by omega), (fun t ht hl => by omega)⟩ ?_
    clear hA hM a
    rintro q a w2 ⟨hA, hM, hq, hds⟩ hNext
    refine Ends.seq ?_
    refine Ends.seq ?_
    refine Ends.cut (fun (a : Act) (wv : World) => St 67 [(0, .slice ax X.length cx), (4, .int .i64 q), (26, .bool (decide ((0 ≤ q ∧ (X.getD ((q + 1).toNat) 0) < (X.getD q.toNat 0)))))] a ∧ Mem w nof [] wv) ?_ (fun k2 hJ => ?_)
    · clear hA hM a; rintro a w3 ⟨hA, hM⟩
      refine Ends.ite hA rfl (fun hc2 => ?_) (fun hc2 => ?_)
      ·
        refine Ends.skip ?_
        refine Ends.block ?_
        refine Ends.region ?_
        refine S.val hA (R.move rfl) rfl ?_; clear hA a; intro a hA
        refine S.val hA (R.subI rfl rfl (r := q - 1) rfl (by omega)) rfl ?_; clear hA a; intro a hA
        refine S.val hA (R.assign rfl) rfl ?_; clear hA a; intro a hA
        refine S.done ?_
        replace hA : St 67 [(0, _), (4, _)] a := hA.sub ((.cons rfl (.cons rfl .nil)))
        refine Ends.inBlock ?_
        exact hNext ((q - 1)) _ _ ((by show (q - 1 + 2).toNat < (q + 2).toNat; omega)) ⟨hA.sub ((.cons rfl (.cons rfl .nil))), hM, (by omega), (fun t ht hl => by by_cases e : (t : Int) = q; (have h9 := hc2.2; rw [show q.toNat = t by omega, show (q + 1).toNat = t + 1 by omega] at h9; exact h9); exact hds t (by omega) hl)⟩
      ·
        refine Ends.exit rfl ?_
        replace hA : St 67 [(0, _), (4, _)] a := hA.sub ((.cons rfl (.cons rfl .nil)))
        refine Ends.seq ?_
        refine Ends.seq ?_
        refine Ends.region ?_
        refine S.val hA (R.move rfl) rfl ?_; clear hA a; intro a hA
        refine S.val hA (R.lss rfl rfl) rfl ?_; clear hA a; intro a hA
        refine S.done ?_
        replace hA : St 67 [(0, _), (4, _), (30, _)] a := hA.sub ((.cons rfl (.cons rfl (.cons rfl .nil))))
        refine Ends.ite hA rfl (fun hc3 => ?_) (fun hc3 => ?_)
        ·
          refine Ends.seq ?_
          refine Ends.region ?_
          refine S.val hA (R.assign rfl) rfl ?_; clear hA a; intro a hA
          refine S.val hA (R.assign rfl) rfl ?_; clear hA a; intro a hA
          refine S.done ?_
          replace hA : St 67 [(0, _), (2, _), (3, _), (4, _)] a := hA.sub ((.cons rfl (.cons rfl (.cons rfl (.cons rfl .nil)))))
          refine Ends.ret2 Try.func13 Try.results13 hA rfl rfl ?_
          exact ⟨[], 11, .inr (.inl ⟨hok, rfl, rfl, fun t ht => hds t (by omega) ht⟩), none, 0, rfl, IntSl.nil _, Mem.trans0 hbs hM.nilL⟩
        ·
          have hup : X.getD q.toNat 0 < X.getD (q + 1).toNat 0 := by
            have h9 : ¬ (X.getD (q + 1).toNat 0 < X.getD q.toNat 0) := fun h8 => hc2 ⟨by omega, h8⟩
            have hne := ne_of_ok hok (show q.toNat < X.length by omega) (show (q + 1).toNat < X.length by omega) (by omega)
            omega
          refine Ends.skip ?_
          refine Ends.seq ?_
          refine Ends.region ?_
          refine S.val hA (R.move rfl) rfl ?_; clear hA a; intro a hA
          refine S.call hA (R.callF Try.func31 rfl rfl rfl) rfl (clone09 ax X cx (by omega) _ (hx.mem hM)) ?_; clear hA a
          rintro e w4 ⟨ga, cc, rfl, hn⟩
          replace hM : Mem _ _ [own 3 1 (.slice ga X.length cc) X.length (X.map (Value.int .i64))] _ := hM.call hn; clear hn
          obtain ⟨g, hg⟩ := hM.ownAt (k := 0) rfl (by omega)
          subst hg
          obtain ⟨kn, hkn⟩ : ∃ kn : Nat, (kn : Int) = q := ⟨q.toNat, by omega⟩
          obtain ⟨kp, hkp⟩ : ∃ kp, kp = kn + 1 := ⟨_, rfl⟩
          have hcl := (hM.ownLe (k := 0) rfl).1
          rw [show q.toNat = kn by omega, show (q + 1).toNat = kn + 1 by omega] at hup
          refine ⟨.slice ((some ⟨g, 0, none⟩)) X.length cc, rfl, fun a hA => ?_⟩
          refine S.val hA (R.assign rfl) rfl ?_; clear hA a; intro a hA
          refine S.done ?_
          rw [← hkn] at hA
          replace hA : St 67 [(4, _), (5, _)] a := hA.sub ((.cons rfl (.cons rfl .nil)))
          refine Ends.seq ?_
          refine Ends.region ?_
          refine S.val hA (R.move rfl) rfl ?_; clear hA a; intro a hA
          refine S.val hA (R.lenS Try.underlying22 rfl rfl) rfl ?_; clear hA a; intro a hA
          refine S.val hA (R.subI rfl rfl (r := ((X.length : Int)) - 1) rfl (by omega)) rfl ?_; clear hA a; intro a hA
          refine S.val hA (R.assign rfl) rfl ?_; clear hA a; intro a hA
          refine S.done ?_
          replace hA : St 67 [(4, _), (5, _), (6, _)] a := hA.sub ((.cons rfl (.cons rfl (.cons rfl .nil))))
          refine Ends.seq ?_
          refine Ends.block ?_
          rw [show (X.length : Int) - 1 = ((X.length - 1 : Nat) : Int) by omega] at hA
          refine Ends.loop (σ := Nat) (fun jj (a : Act) (wv : World) => St 67 [(4, .int .i64 ((kn : Int))), (5, .slice ((some ⟨g, 0, none⟩)) X.length cc), (6, .int .i64 ((jj : Int)))] a ∧ Mem w nof [own 3 1 (.slice ((some ⟨g, 0, none⟩)) X.length cc) X.length (X.map (Value.int .i64))] wv ∧ (kn < jj ∧ jj < X.length) ∧ (∀ t, jj < t → t < X.length → X.getD t 0 < X.getD kn 0)) (fun jj => jj) ((X.length - 1)) ⟨hA.sub ((.cons rfl (.cons rfl (.cons rfl .nil)))), hM, (by omega), (fun t ht hl => by omega)⟩ ?_
          clear hA hM a
          rintro jj a w5 ⟨hA, hM, hj, hz⟩ hNext1
          refine Ends.seq ?_
          refine Ends.seq ?_
          refine Ends.drawn (Mem w nof [own 3 1 (.slice ((some ⟨g, 0, none⟩)) X.length cc) X.length (X.map (Value.int .i64))]) (.cons (0, true) (.cons (1, true) (.cons (2, true) (.cons (3, true) (.cons (4, true) (.cons (5, true) (.cons (6, true) (.cons (7, true) (.cons (8, true) .nil))))))))) 9 mixed (by kernel_rfl) (by kernel_rfl) (by kernel_rfl) hM.drew ?_
          replace hM := hM.drew
          refine D.valF hA rfl (fun _ => R.move rfl) rfl ?_; clear hA a; intro a hA
          refine D.valF hA rfl (fun _ => R.move rfl) rfl ?_; clear hA a; intro a hA
          refine D.valF hA rfl (fun _ => R.indexAddr (q := jj) sl22 rfl rfl (by omega) (by omega)) rfl ?_; clear hA a; intro a hA
          refine D.val hA rfl (by kernel_rfl) (fun _ hM => R.load sz3 rfl (hM.ownCell (k := 0) rfl (mapi_get _ _ (by omega)))) rfl ?_; clear hA a; intro a hA
          refine D.valF hA rfl (fun _ => R.move rfl) rfl ?_; clear hA a; intro a hA
          refine D.valF hA rfl (fun _ => R.move rfl) rfl ?_; clear hA a; intro a hA
          refine D.valF hA rfl (fun _ => R.indexAddr (q := kn) sl22 rfl rfl (by omega) (by omega)) rfl ?_; clear hA a; intro a hA
          refine D.val hA rfl (by kernel_rfl) (fun _ hM => R.load sz3 rfl (hM.ownCell (k := 0) rfl (mapi_get _ _ (by omega)))) rfl ?_; clear hA a; intro a hA
          refine D.valF hA rfl (fun _ => R.lss rfl rfl) rfl ?_; clear hA a; intro a hA
          refine D.done ?_
          replace hA : St 67 [(4, _), (5, _), (6, _), (44, _)] a := hA.sub ((.cons rfl (.cons rfl (.cons rfl (.cons rfl .nil)))))
          refine Ends.ite hA rfl (fun hc4 => ?_) (fun hc4 => ?_)
          ·
            refine Ends.skip ?_
            refine Ends.block ?_
            refine Ends.region ?_
            refine S.val hA (R.move rfl) rfl ?_; clear hA a; intro a hA
            refine S.val hA (R.subI rfl rfl (r := ((jj : Int)) - 1) rfl (by omega)) rfl ?_; clear hA a; intro a hA
            refine S.val hA (R.assign rfl) rfl ?_; clear hA a; intro a hA
            refine S.done ?_
            have hjk : jj ≠ kn + 1 := fun e9 => by have h9 := hc4; rw [e9] at h9; omega
            rw [show (jj : Int) - 1 = ((jj - 1 : Nat) : Int) by omega] at hA
            replace hA : St 67 [(4, _), (5, _), (6, _)] a := hA.sub ((.cons rfl (.cons rfl (.cons rfl .nil))))
            refine Ends.inBlock ?_
            exact hNext1 ((jj - 1)) _ _ ((by show jj - 1 < jj; omega)) ⟨hA.sub ((.cons rfl (.cons rfl (.cons rfl .nil)))), hM, (by omega), (fun t ht hl => by by_cases e : t = jj; (rw [e]; omega); exact hz t (by omega) hl)⟩
          ·
            refine Ends.exit rfl ?_
            replace hA : St 67 [(4, _), (5, _), (6, _)] a := hA.sub ((.cons rfl (.cons rfl (.cons rfl .nil))))
            refine Ends.seq ?_
            refine Ends.drawn (Mem w nof [own 3 1 (.slice ((some ⟨g, 0, none⟩)) X.length cc) X.length (X.map (Value.int .i64))]) (.cons (0, true) (.cons (1, true) (.cons (2, true) (.cons (3, true) (.cons (4, true) (.cons (5, true) (.cons (6, true) (.cons (7, true) (.cons (8, true) (.cons (9, true) (.cons (10, true) (.cons (11, true) (.cons (12, true) (.cons (13, false) (.cons (14, true) (.cons (15, false) .nil)))))))))))))))) 13 mixed (by kernel_rfl) (by kernel_rfl) (by kernel_rfl) hM.drew ?_
            replace hM := hM.drew
            refine D.valF hA rfl (fun _ => R.move rfl) rfl ?_; clear hA a; intro a hA
            refine D.valF hA rfl (fun _ => R.move rfl) rfl ?_; clear hA a; intro a hA
            refine D.valF hA rfl (fun _ => R.move rfl) rfl ?_; clear hA a; intro a hA
            refine D.valF hA rfl (fun _ => R.move rfl) rfl ?_; clear hA a; intro a hA
            refine D.valF hA rfl (fun _ => R.move rfl) rfl ?_; clear hA a; intro a hA
            refine D.valF hA rfl (fun _ => R.move rfl) rfl ?_; clear hA a; intro a hA
            refine D.valF hA rfl (fun _ => R.indexAddr (q := jj) sl22 rfl rfl (by omega) (by omega)) rfl ?_; clear hA a; intro a hA
            refine D.val hA rfl (by kernel_rfl) (fun _ hM => R.load sz3 rfl (hM.ownCell (k := 0) rfl (mapi_get _ _ (by omega)))) rfl ?_; clear hA a; intro a hA
            refine D.valF hA rfl (fun _ => R.move rfl) rfl ?_; clear hA a; intro a hA
            refine D.valF hA rfl (fun _ => R.move rfl) rfl ?_; clear hA a; intro a hA
            refine D.valF hA rfl (fun _ => R.indexAddr (q := kn) sl22 rfl rfl (by omega) (by omega)) rfl ?_; clear hA a; intro a hA
            refine D.val hA rfl (by kernel_rfl) (fun _ hM => R.load sz3 rfl (hM.ownCell (k := 0) rfl (mapi_get _ _ (by omega)))) rfl ?_; clear hA a; intro a hA
            refine D.valF hA rfl (fun _ => R.indexAddr (q := kn) sl22 rfl rfl (by omega) (by omega)) rfl ?_; clear hA a; intro a hA
            refine D.storeO (k := 0) hA hM rfl sz3 rfl rfl rfl rfl (mapi_get X kn (by first | omega | (simp only [List.length_set]; omega) | (simp; done))) ?_; clear hM; intro w6 hM; rw [mapi_set] at hM
            refine ⟨fun _ hne => absurd rfl hne, ?_⟩
            replace hM : Mem _ _ [own 3 1 (.slice ((some ⟨g, 0, none⟩)) X.length cc) X.length (((X.set kn (X.getD jj 0))).map (Value.int .i64))] _ := hM
            refine D.valF hA rfl (fun _ => R.indexAddr (q := jj) sl22 rfl rfl (by omega) (by omega)) rfl ?_; clear hA a; intro a hA
            refine D.storeO (k := 0) hA hM rfl sz3 rfl rfl rfl rfl (mapi_get ((X.set kn (X.getD jj 0))) jj (by first | omega | (simp only [List.length_set]; omega) | (simp; done))) ?_; clear hM; intro w7 hM; rw [mapi_set] at hM
            refine ⟨fun hb0 => absurd hb0 (by decide), ?_⟩
            replace hM : Mem _ _ [own 3 1 (.slice ((some ⟨g, 0, none⟩)) X.length cc) X.length ((((X.set kn (X.getD jj 0)).set jj (X.getD kn 0))).map (Value.int .i64))] _ := hM
            refine D.done ?_
            replace hA : St 67 [(4, _), (5, _)] a := hA.sub ((.cons rfl (.cons rfl .nil)))
            refine Ends.seq ?_
            replace hM : Mem _ _ [own 3 1 (.slice ((some ⟨g, 0, none⟩)) X.length cc) X.length (((swp X kn jj)).map (Value.int .i64))] _ := hM
            have hsw := swp_len X kn jj
            rw [← hsw] at hM
            have hMr := hM.hereN 1
            refine Ends.region ?_
            refine S.val hA (R.move rfl) rfl ?_; clear hA a; intro a hA
            refine S.val hA (R.move rfl) rfl ?_; clear hA a; intro a hA
            refine S.val hA (R.addI rfl rfl (r := ((kn : Int)) + 1) rfl (by omega)) rfl ?_; clear hA a; intro a hA
            refine S.val hA (R.sliceLO (lo := kp) Try.underlying22 info3 rfl rfl rfl (by omega) (by omega) (by omega) (by omega)) rfl ?_; clear hA a; intro a hA
            refine S.call hA (R.callF Try.func32 rfl rfl rfl) rfl (rev09 g kp (X.length - kp) cc (cc - kp) ((swp X kn jj)) (by rw [swp_len]; omega) (by rw [swp_len]; omega) _ hMr) ?_; clear hA a
            rintro e w8 ⟨rfl, hn⟩
            replace hM : Mem _ _ [own 3 1 (.slice ((some ⟨g, 0, none⟩)) ((swp X kn jj).length) cc) ((swp X kn jj).length) (((revAt ((swp X kn jj)) kp (X.length - kp))).map (Value.int .i64))] _ := hM.callL 1 hn; clear hn
            refine ⟨undef, rfl, fun a hA => ?_⟩
            refine S.done ?_
            replace hA : St 67 [(5, _)] a := hA.sub ((.cons rfl .nil))
            refine Ends.seq ?_
            refine Ends.region ?_
            refine S.val hA (R.move rfl) rfl ?_; clear hA a; intro a hA
            refine S.val hA (R.assign rfl) rfl ?_; clear hA a; intro a hA
            refine S.val hA (R.assign rfl) rfl ?_; clear hA a; intro a hA
            refine S.done ?_
            replace hA : St 67 [(2, _), (3, _)] a := hA.sub ((.cons rfl (.cons rfl .nil)))
            refine Ends.ret2 Try.func13 Try.results13 hA rfl rfl ?_
            have he : revAt (swp X kn jj) kp (X.length - kp) = nextP X kn jj := by rw [hkp]; exact next_rev (by omega)
            rw [he] at hM
            have hnl : (nextP X kn jj).length = X.length := by rw [← he, revAt_len (by rw [swp_len]; omega), swp_len]
            rw [swp_len, ← hnl] at hM
            have hr := hM.rsl (k := 0) rfl
            exact ⟨nextP X kn jj, 0, nxt_ok hok hj.1 hj.2 (fun t ht hl => hds t (by omega) hl) hc4 hz, _, _, by rw [hnl], hr, Mem.trans0 hbs hM.nilL⟩
    ·
      refine Ends.drawn (Mem w nof []) (.cons (0, true) (.cons (1, true) (.cons (2, true) (.cons (3, true) (.cons (4, true) (.cons (5, true) (.cons (6, true) (.cons (7, true) (.cons (8, true) (.cons (9, true) (.cons (10, true) (.cons (11, true) (.cons (12, true) (.cons (13, true) .nil)))))))))))))) 14 mixed (by kernel_rfl) (by kernel_rfl) (by kernel_rfl) hM.drew ?_
      replace hM := hM.drew
      refine D.valF hA rfl (fun _ => R.move rfl) rfl ?_; clear hA a; intro a hA
      refine D.valF hA rfl (fun _ => R.geq rfl rfl) rfl ?_; clear hA a; intro a hA
      refine D.valF hA rfl (fun _ => R.move rfl) rfl ?_; clear hA a; intro a hA
      refine hA.split (d := 15) rfl ?_ ?_
      · clear hA; intro hg5 hA
        refine D.valgF (dj := 15) hA rfl (by kernel_rfl) rfl (fun _ => R.move rfl) rfl ?_; clear hA a; intro a hA
        refine D.valgF (dj := 15) hA rfl (by kernel_rfl) rfl (fun _ => R.move rfl) rfl ?_; clear hA a; intro a hA
        refine D.valgF (dj := 15) hA rfl (by kernel_rfl) rfl (fun _ => R.idxI hx (j := q.toNat) sl22 rfl rfl (by omega) (rfl)) rfl ?_; clear hA a; intro a hA
        refine D.valg (dj := 15) hA rfl (by kernel_rfl) (by kernel_rfl) rfl (fun _ hM => R.loadI (hx.mem hM) sz3 rfl (by omega)) rfl ?_; clear hA a; intro a hA
        refine D.valgF (dj := 15) hA rfl (by kernel_rfl) rfl (fun _ => R.move rfl) rfl ?_; clear hA a; intro a hA
        refine D.valgF (dj := 15) hA rfl (by kernel_rfl) rfl (fun _ => R.move rfl) rfl ?_; clear hA a; intro a hA
        refine D.valgF (dj := 15) hA rfl (by kernel_rfl) rfl (fun _ => R.addI rfl rfl (r := q + 1) rfl (by omega)) rfl ?_; clear hA a; intro a hA
        refine D.valgF (dj := 15) hA rfl (by kernel_rfl) rfl (fun _ => R.idxI hx (j := (q + 1).toNat) sl22 rfl rfl (by omega) (rfl)) rfl ?_; clear hA a; intro a hA
        refine D.valg (dj := 15) hA rfl (by kernel_rfl) (by kernel_rfl) rfl (fun _ hM => R.loadI (hx.mem hM) sz3 rfl (by omega)) rfl ?_; clear hA a; intro a hA
        refine D.valgF (dj := 15) hA rfl (by kernel_rfl) rfl (fun _ => R.gtr rfl rfl) rfl ?_; clear hA a; intro a hA
        refine D.valF hA rfl (fun _ => R.pickT rfl rfl) rfl ?_; clear hA a; intro a hA
        refine D.done ?_
        replace hA : St 67 [(0, _), (4, _), (26, _)] a := hA.sub ((.cons rfl (.cons rfl (.cons rfl .nil))))
        exact hJ _ _ ⟨hA.sub (.cons rfl (.cons rfl (.cons (by first | rfl | exact congrArg (fun b => some (Value.bool b)) (by first | exact decide_eq_decide.2 (by omega) | exact or_bool (by omega) | exact and_bool (by omega) | (simp; done) | (simp [hg5]; done) | (have h80 := hg5; (try simp at h80); simp [h80]; done) | exact (decide_eq_false (fun h9 => hg5 h9.1)).symm)) .nil))), hM⟩
      · clear hA; intro hg5 hA
        refine D.no (dj := 15) hA rfl (by kernel_rfl) rfl rfl rfl ?_; clear hA a; intro a hA
        refine D.no (dj := 15) hA rfl (by kernel_rfl) rfl rfl rfl ?_; clear hA a; intro a hA
        refine D.no (dj := 15) hA rfl (by kernel_rfl) rfl rfl rfl ?_; clear hA a; intro a hA
        refine D.no (dj := 15) hA rfl (by kernel_rfl) rfl rfl rfl ?_; clear hA a; intro a hA
        refine D.no (dj := 15) hA rfl (by kernel_rfl) rfl rfl rfl ?_; clear hA a; intro a hA
        refine D.no (dj := 15) hA rfl (by kernel_rfl) rfl rfl rfl ?_; clear hA a; intro a hA
        refine D.no (dj := 15) hA rfl (by kernel_rfl) rfl rfl rfl ?_; clear hA a; intro a hA
        refine D.no (dj := 15) hA rfl (by kernel_rfl) rfl rfl rfl ?_; clear hA a; intro a hA
        refine D.no (dj := 15) hA rfl (by kernel_rfl) rfl rfl rfl ?_; clear hA a; intro a hA
        refine D.no (dj := 15) hA rfl (by kernel_rfl) rfl rfl rfl ?_; clear hA a; intro a hA
        refine D.valF hA rfl (fun _ => R.pickF rfl rfl) rfl ?_; clear hA a; intro a hA
        refine D.done ?_
        replace hA : St 67 [(0, _), (4, _), (26, _)] a := hA.sub ((.cons rfl (.cons rfl (.cons rfl .nil))))
        exact hJ _ _ ⟨hA.sub (.cons rfl (.cons rfl (.cons (by first | rfl | exact congrArg (fun b => some (Value.bool b)) (by first | exact decide_eq_decide.2 (by omega) | exact or_bool (by omega) | exact and_bool (by omega) | (simp; done) | (simp [hg5]; done) | (have h80 := hg5; (try simp at h80); simp [h80]; done) | exact (decide_eq_false (fun h9 => hg5 h9.1)).symm)) .nil))), hM⟩
set_option maxRecDepth 100000 in
set_option maxHeartbeats 400000 in
theorem fac09 (n : Nat) (hn : n ≤ 20) (w : World) :
    Calls Try.prog 33 #[.int .i64 ((n : Int))] w fun e w' => e = .returned (.int .i64 ((fac n : Nat) : Int)) ∧ Below w.heap.size w w' := by
  have hbs := Below.refl (B := w.heap.size) w
  have hM := Mem.start w
  refine Calls.of_ends (vs := [.int .i64 ((n : Int))]) Try.func33 rfl Try.ntmps33 rfl ?_
  intro a hA
  replace hA : St 14 [(0, _)] a := hA
  refine Ends.seq ?_
  refine Ends.region ?_
  refine S.val hA (R.assign rfl) rfl ?_; clear hA a; intro a hA
  refine S.done ?_
  replace hA : St 14 [(0, _)] a := hA.sub ((.cons rfl .nil))
  refine Ends.seq ?_
  refine Ends.region ?_
  refine S.val hA (R.assign rfl) rfl ?_; clear hA a; intro a hA
  refine S.done ?_
  replace hA : St 14 [(0, _), (3, _)] a := hA.sub ((.cons rfl (.cons rfl .nil)))
  refine Ends.seq ?_
  refine Ends.seq ?_
  refine Ends.region ?_
  refine S.val hA (R.assign rfl) rfl ?_; clear hA a; intro a hA
  refine S.done ?_
  replace hA : St 14 [(0, _), (3, _), (4, _)] a := hA.sub ((.cons rfl (.cons rfl (.cons rfl .nil))))
  refine Ends.block ?_
  rw [show (1 : Int) = ((fac 1 : Nat) : Int) from rfl, show (2 : Int) = ((1 : Nat) : Int) + 1 from rfl] at hA
  refine Ends.loop (σ := Nat) (fun k (a : Act) (wv : World) => St 14 [(0, .int .i64 ((n : Int))), (3, .int .i64 (((fac k : Nat) : Int))), (4, .int .i64 (((k : Int) + 1)))] a ∧ Mem w nof [] wv ∧ (1 ≤ k ∨ k = 0) ∧ (k ≤ n ∨ k = 1)) (fun k => n + 1 - k) 1 ⟨hA.sub ((.cons rfl (.cons rfl (.cons rfl .nil)))), hM, (.inl (Nat.le_refl _)), (.inr rfl)⟩ ?_
  clear hA hM a
  rintro k a w1 ⟨hA, hM, hk1, hk2⟩ hNext
  refine Ends.seq ?_
  refine Ends.seq ?_
  refine Ends.region ?_
  refine S.val hA (R.move rfl) rfl ?_; clear hA a; intro a hA
  refine S.val hA (R.move rfl) rfl ?_; clear hA a; intro a hA
  refine S.val hA (R.leq rfl rfl) rfl ?_; clear hA a; intro a hA
  refine S.done ?_
  replace hA : St 14 [(0, _), (3, _), (4, _), (7, _)] a := hA.sub ((.cons rfl (.cons rfl (.cons rfl (.cons rfl .nil)))))
  refine Ends.ite hA rfl (fun hc1 => ?_) (fun hc1 => ?_)
  ·
    have hfb := fac_le (show k + 1 ≤ 20 by omega)
    have hfm : ((fac k : Nat) : Int) * ((k : Int) + 1) = ((fac (k + 1) : Nat) : Int) := by
      have e9 : ((k + 1 : Nat) : Int) = (k : Int) + 1 := by omega
      rw [fac, Int.natCast_mul, e9, Int.mul_comm]
    refine Ends.skip ?_
    refine Ends.seq ?_
    refine Ends.block ?_
    refine Ends.region ?_
    refine S.val hA (R.move rfl) rfl ?_; clear hA a; intro a hA
    refine S.val hA (R.move rfl) rfl ?_; clear hA a; intro a hA
    refine S.val hA (R.mulI rfl rfl (r := ((fac (k + 1) : Nat) : Int)) (by first | exact hfm | omega) (by first | exact hfm | omega)) rfl ?_; clear hA a; intro a hA
    refine S.val hA (R.assign rfl) rfl ?_; clear hA a; intro a hA
    refine S.done ?_
    replace hA : St 14 [(0, _), (3, _), (4, _)] a := hA.sub ((.cons rfl (.cons rfl (.cons rfl .nil))))
    refine Ends.inBlock ?_
    refine Ends.region ?_
    refine S.val hA (R.move rfl) rfl ?_; clear hA a; intro a hA
    refine S.val hA (R.addI rfl rfl (r := (((k : Int) + 1)) + 1) rfl (by first | exact hfm | omega)) rfl ?_; clear hA a; intro a hA
    refine S.val hA (R.assign rfl) rfl ?_; clear hA a; intro a hA
    refine S.done ?_
    rw [show (k : Int) + 1 + 1 = ((k + 1 : Nat) : Int) + 1 by omega] at hA
    replace hA : St 14 [(0, _), (3, _), (4, _)] a := hA.sub ((.cons rfl (.cons rfl (.cons rfl .nil))))
    exact hNext ((k + 1)) _ _ ((by show n + 1 - (k + 1) < n + 1 - k; omega)) ⟨hA.sub ((.cons rfl (.cons rfl (.cons rfl .nil)))), hM, (by omega), (by omega)⟩
  ·
    refine Ends.exit rfl ?_
    replace hA : St 14 [(3, _)] a := hA.sub ((.cons rfl .nil))
    refine Ends.seq ?_
    refine Ends.region ?_
    refine S.val hA (R.move rfl) rfl ?_; clear hA a; intro a hA
    refine S.val hA (R.assign rfl) rfl ?_; clear hA a; intro a hA
    refine S.done ?_
    replace hA : St 14 [(2, _)] a := hA.sub ((.cons rfl .nil))
    refine Ends.ret1 Try.func33 Try.results33 hA rfl ?_
    have hres : fac k = fac n := by
      rcases hk2 with h | h
      · rw [show k = n by omega]
      · subst h
        have e9 : n = 0 ∨ n = 1 := by omega
        rcases e9 with e9 | e9 <;> (subst e9; rfl)
    rw [hres]
    exact ⟨rfl, Mem.trans0 hbs hM.nilL⟩
set_option maxRecDepth 100000 in
set_option maxHeartbeats 400000 in
theorem rank09 (ax : Option Addr) (X : List Int) (cx : Nat) (hX : X.length ≤ 1000) (w : World) (hx : IntSl w (.slice ax X.length cx) X) :
    Calls Try.prog 21 #[.slice ax X.length cx] w fun e w' => e = .returned (.tuple #[.int .i64 (rkV X), .int .i64 (rkE X)]) ∧ Below w.heap.size w w' := by
  have hbs := Below.refl (B := w.heap.size) w
  have hM := Mem.start w
  refine Calls.of_ends (vs := [.slice ax X.length cx]) Try.func21 rfl Try.ntmps21 rfl ?_
  intro a hA
  replace hA : St 47 [(0, _)] a := hA
  refine Ends.seq ?_
  refine Ends.region ?_
  refine S.val hA (R.assign rfl) rfl ?_; clear hA a; intro a hA
  refine S.val hA (R.assign rfl) rfl ?_; clear hA a; intro a hA
  refine S.done ?_
  replace hA : St 47 [(0, _)] a := hA.sub ((.cons rfl .nil))
  refine Ends.seq ?_
  refine Ends.block ?_
  refine Ends.seq ?_
  refine Ends.region ?_
  refine S.val hA (R.move rfl) rfl ?_; clear hA a; intro a hA
  refine S.call hA (R.callF Try.func18 rfl rfl rfl) rfl (is09 ax X cx (by omega) _ (hx.mem hM)) ?_; clear hA a
  rintro e w1 ⟨rfl, hb⟩
  replace hM := hM.callB hb; clear hb
  refine ⟨.bool ((okP X)), rfl, fun a hA => ?_⟩
  refine S.val hA (R.not rfl) rfl ?_; clear hA a; intro a hA
  refine S.val hA (R.assign rfl) rfl ?_; clear hA a; intro a hA
  refine S.done ?_
  replace hA : St 47 [(0, _), (9, _)] a := hA.sub ((.cons rfl (.cons rfl .nil)))
  refine Ends.iteB hA rfl (fun hc1 => ?_) (fun hc1 => ?_)
  ·
    refine Ends.seq ?_
    refine Ends.region ?_
    refine S.val hA (R.assign rfl) rfl ?_; clear hA a; intro a hA
    refine S.val hA (R.assign rfl) rfl ?_; clear hA a; intro a hA
    refine S.done ?_
    replace hA : St 47 [(0, _), (2, _), (3, _)] a := hA.sub ((.cons rfl (.cons rfl (.cons rfl .nil))))
    refine Ends.ret2 Try.func21 Try.results21 hA rfl rfl ?_
    have hok : okP X = false := by simpa using hc1
    exact ⟨by unfold rkV rkE; rw [if_pos (.inl hok), if_pos hok], Mem.trans0 hbs hM.nilL⟩
  ·
    have hok : okP X = true := by simpa using hc1
    refine Ends.seq ?_
    refine Ends.region ?_
    refine S.val hA (R.move rfl) rfl ?_; clear hA a; intro a hA
    refine S.val hA (R.lenS Try.underlying22 rfl rfl) rfl ?_; clear hA a; intro a hA
    refine S.val hA (R.gtr rfl rfl) rfl ?_; clear hA a; intro a hA
    refine S.val hA (R.assign rfl) rfl ?_; clear hA a; intro a hA
    refine S.done ?_
    replace hA : St 47 [(0, _), (13, _)] a := hA.sub ((.cons rfl (.cons rfl .nil)))
    refine Ends.ite hA rfl (fun hc2 => ?_) (fun hc2 => ?_)
    ·
      refine Ends.seq ?_
      refine Ends.region ?_
      refine S.val hA (R.assign rfl) rfl ?_; clear hA a; intro a hA
      refine S.val hA (R.assign rfl) rfl ?_; clear hA a; intro a hA
      refine S.done ?_
      replace hA : St 47 [(0, _), (2, _), (3, _)] a := hA.sub ((.cons rfl (.cons rfl (.cons rfl .nil))))
      refine Ends.ret2 Try.func21 Try.results21 hA rfl rfl ?_
      have h20 : 20 < X.length := by omega
      exact ⟨by unfold rkV rkE; rw [if_pos (.inr h20), if_neg (by rw [hok]; simp), if_pos h20], Mem.trans0 hbs hM.nilL⟩
    ·
      have h20 : X.length ≤ 20 := by omega
      refine Ends.skip ?_
      refine Ends.inBlock ?_
      refine Ends.seq ?_
      refine Ends.region ?_
      refine S.val hA (R.assign rfl) rfl ?_; clear hA a; intro a hA
      refine S.done ?_
      replace hA : St 47 [(0, _), (4, _)] a := hA.sub ((.cons rfl (.cons rfl .nil)))
      refine Ends.seq ?_
      refine Ends.seq ?_
      refine Ends.region ?_
      refine S.val hA (R.move rfl) rfl ?_; clear hA a; intro a hA
      refine S.val hA (R.lenS Try.underlying22 rfl rfl) rfl ?_; clear hA a; intro a hA
      refine S.val hA (R.move rfl) rfl ?_; clear hA a; intro a hA
      refine S.done ?_
      replace hA : St 47 [(0, _), (4, _), (17, _), (18, _), (19, _)] a := hA.sub ((.cons rfl (.cons rfl (.cons rfl (.cons rfl (.cons rfl .nil))))))
      refine Ends.block ?_
      refine Ends.loop (σ := Nat × Nat) (fun (k, acc) (a : Act) (wv : World) => St 47 [(0, .slice ax X.length cx), (4, .int .i64 ((acc : Int))), (17, .slice ax X.length cx), (18, .int .i64 ((X.length : Int))), (19, .int .i64 ((k : Int)))] a ∧ Mem w nof [] wv ∧ (k ≤ X.length) ∧ (acc * fac (X.length - k) + rnk (X.drop k) = rnk X)) (fun (k, acc) => X.length - k) ((0, 0)) ⟨hA.sub ((.cons rfl (.cons rfl (.cons rfl (.cons rfl (.cons rfl .nil)))))), hM, (Nat.zero_le _), (by rw [Nat.zero_mul, Nat.zero_add]; rfl)⟩ ?_
      clear hA hM a
      rintro ⟨k, acc⟩ a w2 ⟨hA, hM, hk, hacc⟩ hNext
      refine Ends.seq ?_
      refine Ends.region ?_
      refine S.val hA (R.lss rfl rfl) rfl ?_; clear hA a; intro a hA
      refine S.done ?_
      replace hA : St 47 [(0, _), (4, _), (17, _), (18, _), (19, _), (20, _)] a := hA.sub ((.cons rfl (.cons rfl (.cons rfl (.cons rfl (.cons rfl (.cons rfl .nil)))))))
      refine Ends.seq ?_
      refine Ends.ite hA rfl (fun hc3 => ?_) (fun hc3 => ?_)
      ·
        have hab := acc_bound2 (k := k) (by omega) h20 hacc
        have hpr : (acc : Int) * ((X.length : Int) - (k : Int)) = ((acc * (X.length - k) : Nat) : Int) := by
          have e9 : ((X.length - k : Nat) : Int) = (X.length : Int) - (k : Int) := by omega
          rw [Int.natCast_mul, e9]
        have hdl : (X.drop (k + 1)).length = X.length - (k + 1) := List.length_drop
        refine Ends.skip ?_
        refine Ends.seq ?_
        refine Ends.block ?_
        refine Ends.seq ?_
        refine Ends.region ?_
        refine S.val hA (R.move rfl) rfl ?_; clear hA a; intro a hA
        refine S.val hA (R.idxI hx (j := k) sl22 rfl rfl (by first | exact hpr | omega) (rfl)) rfl ?_; clear hA a; intro a hA
        refine S.val hA (R.loadI (hx.mem hM) sz3 rfl (by first | exact hpr | omega)) rfl ?_; clear hA a; intro a hA
        refine S.val hA (R.assign rfl) rfl ?_; clear hA a; intro a hA
        refine S.val hA (R.assign rfl) rfl ?_; clear hA a; intro a hA
        refine S.done ?_
        replace hA : St 47 [(0, _), (4, _), (5, _), (6, _), (17, _), (18, _), (19, _)] a := hA.sub ((.cons rfl (.cons rfl (.cons rfl (.cons rfl (.cons rfl (.cons rfl (.cons rfl .nil))))))))
        refine Ends.seq ?_
        refine Ends.region ?_
        refine S.val hA (R.move rfl) rfl ?_; clear hA a; intro a hA
        refine S.val hA (R.move rfl) rfl ?_; clear hA a; intro a hA
        refine S.val hA (R.lenS Try.underlying22 rfl rfl) rfl ?_; clear hA a; intro a hA
        refine S.val hA (R.move rfl) rfl ?_; clear hA a; intro a hA
        refine S.val hA (R.subI rfl rfl (r := ((X.length : Int)) - ((k : Int))) rfl (by first | exact hpr | omega)) rfl ?_; clear hA a; intro a hA
        refine S.val hA (R.mulI rfl rfl (r := ((acc * (X.length - k) : Nat) : Int)) (by first | exact hpr | omega) (by first | exact hpr | omega)) rfl ?_; clear hA a; intro a hA
        refine S.val hA (R.assign rfl) rfl ?_; clear hA a; intro a hA
        refine S.done ?_
        replace hA : St 47 [(0, _), (4, _), (5, _), (6, _), (17, _), (18, _), (19, _)] a := hA.sub ((.cons rfl (.cons rfl (.cons rfl (.cons rfl (.cons rfl (.cons rfl (.cons rfl .nil))))))))
        refine Ends.seq ?_
        refine Ends.region ?_
        refine S.val hA (R.move rfl) rfl ?_; clear hA a; intro a hA
        refine S.val hA (R.move rfl) rfl ?_; clear hA a; intro a hA
        refine S.val hA (R.addI rfl rfl (r := ((k : Int)) + 1) rfl (by first | exact hpr | omega)) rfl ?_; clear hA a; intro a hA
        obtain ⟨as5, cs6, hsl4, hr7⟩ := hx.fromR ((k + 1)) (by first | exact hpr | omega) (by first | exact hpr | omega)
        refine S.val hA ((hr7 _ _ _ _ _ _ _ _ _ _ _ Try.underlying22 info3 rfl rfl rfl (by first | exact hpr | omega))) rfl ?_; clear hA a; intro a hA
        refine S.val hA (R.lenS Try.underlying22 rfl rfl) rfl ?_; clear hA a; intro a hA
        refine S.val hA (R.move rfl) rfl ?_; clear hA a; intro a hA
        refine S.done ?_
        replace hA : St 47 [(0, _), (4, _), (6, _), (17, _), (18, _), (19, _), (33, _), (34, _), (35, _)] a := hA.sub ((.cons rfl (.cons rfl (.cons rfl (.cons rfl (.cons rfl (.cons rfl (.cons rfl (.cons rfl (.cons rfl .nil))))))))))
        refine Ends.block ?_
        rw [show ((acc * (X.length - k) : Nat) : Int) = ((acc * (X.length - k) + lessn (X.getD k 0) ((X.drop (k + 1)).take 0) : Nat) : Int) by simp [lessn]] at hA
        refine Ends.loop (σ := Nat) (fun j (a : Act) (wv : World) => St 47 [(0, .slice ax X.length cx), (4, .int .i64 (((acc * (X.length - k) + lessn (X.getD k 0) ((X.drop (k + 1)).take j) : Nat) : Int))), (6, .int .i64 (X.getD k 0)), (17, .slice ax X.length cx), (18, .int .i64 ((X.length : Int))), (19, .int .i64 ((k : Int))), (33, .slice as5 (((X.drop ((k + 1)))).length) cs6), (34, .int .i64 ((((X.drop ((k + 1)))).length : Int))), (35, .int .i64 ((j : Int)))] a ∧ Mem w nof [] wv ∧ (j ≤ (X.drop (k + 1)).length)) (fun j => (X.drop (k + 1)).length - j) 0 ⟨hA.sub ((.cons rfl (.cons rfl (.cons rfl (.cons rfl (.cons rfl (.cons rfl (.cons rfl (.cons rfl (.cons rfl .nil)))))))))), hM, (Nat.zero_le _)⟩ ?_
        clear hA hM a
        rintro j a w3 ⟨hA, hM, hj⟩ hNext1
        refine Ends.seq ?_
        refine Ends.region ?_
        refine S.val hA (R.lss rfl rfl) rfl ?_; clear hA a; intro a hA
        refine S.done ?_
        replace hA : St 47 [(0, _), (4, _), (6, _), (17, _), (18, _), (19, _), (33, _), (34, _), (35, _), (36, _)] a := hA.sub ((.cons rfl (.cons rfl (.cons rfl (.cons rfl (.cons rfl (.cons rfl (.cons rfl (.cons rfl (.cons rfl (.cons rfl .nil)))))))))))
        refine Ends.seq ?_
        refine Ends.ite hA rfl (fun hc8 => ?_) (fun hc8 => ?_)
        ·
          have hlb := lessn_le (X.getD k 0) ((X.drop (k + 1)).take j)
          rw [List.length_take] at hlb
          refine Ends.skip ?_
          refine Ends.seq ?_
          refine Ends.block ?_
          refine Ends.seq ?_
          refine Ends.region ?_
          refine S.val hA (R.idxI hsl4 (j := j) sl22 rfl rfl (by first | exact hpr | omega) (rfl)) rfl ?_; clear hA a; intro a hA
          refine S.val hA (R.loadI (hsl4.mem hM) sz3 rfl (by first | exact hpr | omega)) rfl ?_; clear hA a; intro a hA
          refine S.val hA (R.assign rfl) rfl ?_; clear hA a; intro a hA
          refine S.done ?_
          replace hA : St 47 [(0, _), (4, _), (6, _), (8, _), (17, _), (18, _), (19, _), (33, _), (34, _), (35, _)] a := hA.sub ((.cons rfl (.cons rfl (.cons rfl (.cons rfl (.cons rfl (.cons rfl (.cons rfl (.cons rfl (.cons rfl (.cons rfl .nil)))))))))))
          refine Ends.seq ?_
          refine Ends.region ?_
          refine S.val hA (R.move rfl) rfl ?_; clear hA a; intro a hA
          refine S.val hA (R.move rfl) rfl ?_; clear hA a; intro a hA
          refine S.val hA (R.lss rfl rfl) rfl ?_; clear hA a; intro a hA
          refine S.done ?_
          replace hA : St 47 [(0, _), (4, _), (6, _), (17, _), (18, _), (19, _), (33, _), (34, _), (35, _), (41, _)] a := hA.sub ((.cons rfl (.cons rfl (.cons rfl (.cons rfl (.cons rfl (.cons rfl (.cons rfl (.cons rfl (.cons rfl (.cons rfl .nil)))))))))))
          refine Ends.ite hA rfl (fun hc9 => ?_) (fun hc9 => ?_)
          ·
            refine Ends.region ?_
            refine S.val hA (R.move rfl) rfl ?_; clear hA a; intro a hA
            refine S.val hA (R.addI rfl rfl (r := (((acc * (X.length - k) + lessn (X.getD k 0) ((X.drop (k + 1)).take j) : Nat) : Int)) + 1) rfl (by first | exact hpr | omega)) rfl ?_; clear hA a; intro a hA
            refine S.val hA (R.assign rfl) rfl ?_; clear hA a; intro a hA
            refine S.done ?_
            replace hA : St 47 [(0, _), (4, _), (6, _), (17, _), (18, _), (19, _), (33, _), (34, _), (35, _)] a := hA.sub ((.cons rfl (.cons rfl (.cons rfl (.cons rfl (.cons rfl (.cons rfl (.cons rfl (.cons rfl (.cons rfl .nil))))))))))
            refine Ends.inBlock ?_
            refine Ends.region ?_
            refine S.val hA (R.addI rfl rfl (r := ((j : Int)) + 1) rfl (by first | exact hpr | omega)) rfl ?_; clear hA a; intro a hA
            refine S.val hA (R.move rfl) rfl ?_; clear hA a; intro a hA
            refine S.done ?_
            replace hA : St 47 [(0, _), (4, _), (6, _), (17, _), (18, _), (19, _), (33, _), (34, _), (35, _)] a := hA.sub ((.cons rfl (.cons rfl (.cons rfl (.cons rfl (.cons rfl (.cons rfl (.cons rfl (.cons rfl (.cons rfl .nil))))))))))
            have hls := lessn_take (x := X.getD k 0) (t := X.drop (k + 1)) (j := j) (by omega)
            rw [if_pos hc9] at hls
            rw [show ((acc * (X.length - k) + lessn (X.getD k 0) ((X.drop (k + 1)).take j) : Nat) : Int) + 1 = ((acc * (X.length - k) + lessn (X.getD k 0) ((X.drop (k + 1)).take (j + 1)) : Nat) : Int) by rw [hls]; omega] at hA
            exact hNext1 ((j + 1)) _ _ ((by show (X.drop (k + 1)).length - (j + 1) < (X.drop (k + 1)).length - j; omega)) ⟨hA.sub ((.cons rfl (.cons rfl (.cons rfl (.cons rfl (.cons rfl (.cons rfl (.cons rfl (.cons rfl (.cons rfl .nil)))))))))), hM, (by omega)⟩
          ·
            refine Ends.skip ?_
            refine Ends.inBlock ?_
            refine Ends.region ?_
            refine S.val hA (R.addI rfl rfl (r := ((j : Int)) + 1) rfl (by first | exact hpr | omega)) rfl ?_; clear hA a; intro a hA
            refine S.val hA (R.move rfl) rfl ?_; clear hA a; intro a hA
            refine S.done ?_
            replace hA : St 47 [(0, _), (4, _), (6, _), (17, _), (18, _), (19, _), (33, _), (34, _), (35, _)] a := hA.sub ((.cons rfl (.cons rfl (.cons rfl (.cons rfl (.cons rfl (.cons rfl (.cons rfl (.cons rfl (.cons rfl .nil))))))))))
            have hls := lessn_take (x := X.getD k 0) (t := X.drop (k + 1)) (j := j) (by omega)
            rw [if_neg hc9] at hls
            rw [show ((acc * (X.length - k) + lessn (X.getD k 0) ((X.drop (k + 1)).take j) : Nat) : Int) = ((acc * (X.length - k) + lessn (X.getD k 0) ((X.drop (k + 1)).take (j + 1)) : Nat) : Int) by rw [hls]; rfl] at hA
            exact hNext1 ((j + 1)) _ _ ((by show (X.drop (k + 1)).length - (j + 1) < (X.drop (k + 1)).length - j; omega)) ⟨hA.sub ((.cons rfl (.cons rfl (.cons rfl (.cons rfl (.cons rfl (.cons rfl (.cons rfl (.cons rfl (.cons rfl .nil)))))))))), hM, (by omega)⟩
        ·
          obtain rfl : j = (X.drop (k + 1)).length := by omega
          rw [List.take_length] at hA
          refine Ends.exit rfl ?_
          replace hA : St 47 [(0, _), (4, _), (17, _), (18, _), (19, _)] a := hA.sub ((.cons rfl (.cons rfl (.cons rfl (.cons rfl (.cons rfl .nil))))))
          refine Ends.inBlock ?_
          refine Ends.region ?_
          refine S.val hA (R.addI rfl rfl (r := ((k : Int)) + 1) rfl (by first | exact hpr | omega)) rfl ?_; clear hA a; intro a hA
          refine S.val hA (R.move rfl) rfl ?_; clear hA a; intro a hA
          refine S.done ?_
          replace hA : St 47 [(0, _), (4, _), (17, _), (18, _), (19, _)] a := hA.sub ((.cons rfl (.cons rfl (.cons rfl (.cons rfl (.cons rfl .nil))))))
          exact hNext ((k + 1, acc * (X.length - k) + lessn (X.getD k 0) (X.drop (k + 1)))) _ _ ((by show X.length - (k + 1) < X.length - k; omega)) ⟨hA.sub ((.cons rfl (.cons rfl (.cons rfl (.cons rfl (.cons rfl .nil)))))), hM, (by omega), (rk_step (by omega) hacc)⟩
      ·
        obtain rfl : k = X.length := by omega
        rw [Nat.sub_self, List.drop_length] at hacc
        have hfin : acc = rnk X := by simpa [fac, rnk] using hacc
        subst hfin
        refine Ends.exit rfl ?_
        replace hA : St 47 [(4, _)] a := hA.sub ((.cons rfl .nil))
        refine Ends.seq ?_
        refine Ends.region ?_
        refine S.val hA (R.move rfl) rfl ?_; clear hA a; intro a hA
        refine S.val hA (R.assign rfl) rfl ?_; clear hA a; intro a hA
        refine S.val hA (R.assign rfl) rfl ?_; clear hA a; intro a hA
        refine S.done ?_
        replace hA : St 47 [(2, _), (3, _)] a := hA.sub ((.cons rfl (.cons rfl .nil)))
        refine Ends.ret2 Try.func21 Try.results21 hA rfl rfl ?_
        exact ⟨by unfold rkV rkE; rw [if_neg (by rw [hok]; simp; omega), if_neg (by rw [hok]; simp), if_neg (by omega)], Mem.trans0 hbs hM.nilL⟩
end Go.Proofs.Ytphpbdnmdhlnoaa
