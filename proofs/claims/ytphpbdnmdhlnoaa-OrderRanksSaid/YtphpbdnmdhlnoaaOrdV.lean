/-
  The laws of package order.
-/
import Derived.Test.YtphpbdnmdhlnoaaOrdN
namespace Go.Proofs.Ytphpbdnmdhlnoaa
open Go.RowKit
/-! ### the first check -/
theorem o1 : qE [1, 6, 0] [1, 2, 0] = 0 := by unfold qE; rw [if_neg (by unfold badQ; decide)]
theorem o2 : qL [1, 6, 0] [1, 2, 0] = [2, 1, 0] := by
  unfold qL
  rw [if_neg (by unfold badQ; decide)]
  have h1 : ltq [1, 6, 0] [1, 2, 0] 1 0 = true := by decide
  have h2 : ltq [1, 6, 0] [1, 2, 0] 2 1 = true := by decide
  have h3 : ltq [1, 6, 0] [1, 2, 0] 1 0 = true := by decide
  have h4 : ltq [1, 6, 0] [1, 2, 0] 2 0 = true := by decide
  have hp : pl 3 = [0, 1, 2] := by decide
  simp [byQ, hp, msort, mrg, h1, h2, h4]
theorem nxt_o {Y : List Int} {er : Int} (h : nxt [0, 2, 1] Y er) : Y = [1, 0, 2] ∧ er = 0 := by
  have hok : okP [0, 2, 1] = true := by decide
  rcases h with ⟨h1, -⟩ | ⟨-, -, -, h1⟩ | ⟨-, h2, h3, h4⟩
  · rw [hok] at h1; cases h1
  · exact absurd (h1 0 (by decide)) (by decide)
  · refine ⟨?_, h2⟩
    have hp : Y.Perm (pl 3) := h3.trans (okP_perm.1 hok)
    have e := nthL_rnk 3 (pl 3) Y (pl_pw 3) (pl_len 3) hp
    rw [h4] at e
    rw [← e]; decide
theorem is09_b {b : Bool} (ax : Option Addr) (X : List Int) (cx : Nat) (hX : X.length ≤ 1000) (hb : okP X = b) (w : World) (hx : IntSl w (.slice ax X.length cx) X) : Calls Try.prog 18 #[.slice ax X.length cx] w fun e w' => e = .returned (.bool b) ∧ Below w.heap.size w w' := by
  have h := is09 ax X cx hX w hx
  rwa [hb] at h
theorem ris09_b {b : Bool} (ax : Option Addr) (X : List Int) (cx : Nat) (hX : X.length ≤ 1000) (hb : okP X = b) (w : World) (hx : IntSl w (.slice ax X.length cx) X) : Calls Try.prog 14 #[.slice ax X.length cx] w fun e w' => e = .returned (.bool b) ∧ Below w.heap.size w w' := by
  have h := ris09 ax X cx hX w hx
  rwa [hb] at h
theorem same09_t (ax : Option Addr) (X : List Int) (cx : Nat) (ay : Option Addr) (cy : Nat) (hX : X.length ≤ 9223372036854775807) (w : World) (hx : IntSl w (.slice ax X.length cx) X) (hy : IntSl w (.slice ay X.length cy) X) : Calls Try.prog 12 #[.slice ax X.length cx, .slice ay X.length cy] w fun e w' => e = .returned (.bool true) ∧ Below w.heap.size w w' := by
  have h := same09 ax X cx ay X cy hX w hx hy
  rwa [decide_eq_true rfl] at h
theorem cut09_t (ax : Option Addr) (X : List Int) (cx : Nat) (n : Int) (hn : 0 ≤ n ∧ n ≤ 1000) (hXn : (X.length : Int) ≤ n) (w : World) (hx : IntSl w (.slice ax X.length cx) X) : Calls Try.prog 8 #[.slice ax X.length cx, .int .i64 n] w fun e w' => ∃ a c, e = .returned (.slice a X.length c) ∧ IntSl w' (.slice a X.length c) X ∧ Below w.heap.size w w' :=
  (cut09 ax X cx n hn w hx).mono fun e w' ⟨Y, a, c, hY, _, he, hr, hb⟩ => by
    rw [show (min (X.length : Int) n).toNat = X.length by omega, List.take_length] at hY
    subst hY
    exact ⟨a, c, he, hr, hb⟩
theorem byratio_o (a1 a2 : Option Addr) (c1 c2 : Nat) (w : World) (h1 : IntSl w (.slice a1 ([1, 6, 0] : List Int).length c1) [1, 6, 0]) (h2 : IntSl w (.slice a2 ([1, 2, 0] : List Int).length c2) [1, 2, 0]) :
    Calls Try.prog 9 #[.slice a1 ([1, 6, 0] : List Int).length c1, .slice a2 ([1, 2, 0] : List Int).length c2] w fun e w' => ∃ a c, e = .returned (.tuple #[.slice a ([2, 1, 0] : List Int).length c, .int .i64 0]) ∧ IntSl w' (.slice a ([2, 1, 0] : List Int).length c) [2, 1, 0] ∧ Below w.heap.size w w' := by
  have h := byratio a1 [1, 6, 0] c1 a2 [1, 2, 0] c2 (bdI_of (by decide)) (bdI_of (by decide)) w h1 h2
  rwa [o1, o2] at h
theorem next_o (a1 : Option Addr) (c1 : Nat) (w : World) (h1 : IntSl w (.slice a1 ([0, 2, 1] : List Int).length c1) [0, 2, 1]) :
    Calls Try.prog 13 #[.slice a1 ([0, 2, 1] : List Int).length c1] w fun e w' => ∃ a c, e = .returned (.tuple #[.slice a ([1, 0, 2] : List Int).length c, .int .i64 0]) ∧ IntSl w' (.slice a ([1, 0, 2] : List Int).length c) [1, 0, 2] ∧ Below w.heap.size w w' :=
  (next09 a1 [0, 2, 1] c1 (by decide) w h1).mono fun e w' ⟨Y, er, hn, a, c, he, hr, hb⟩ => by
    obtain ⟨rfl, rfl⟩ := nxt_o hn
    exact ⟨a, c, he, hr, hb⟩
theorem rank_o (a1 : Option Addr) (c1 : Nat) (w : World) (h1 : IntSl w (.slice a1 ([2, 1, 0] : List Int).length c1) [2, 1, 0]) :
    Calls Try.prog 21 #[.slice a1 ([2, 1, 0] : List Int).length c1] w fun e w' => e = .returned (.tuple #[.int .i64 5, .int .i64 0]) ∧ Below w.heap.size w w' := by
  have h := rank09 a1 [2, 1, 0] c1 (by decide) w h1
  rwa [show rkV [2, 1, 0] = 5 by decide, show rkE [2, 1, 0] = 0 by decide] at h
set_option maxRecDepth 100000 in
set_option maxHeartbeats 400000 in
theorem orders_any  (w : World) :
    Calls Try.prog 11 #[] w fun e w' => e = .returned (.bool true) ∧ Below w.heap.size w w' := by
  have hbs := Below.refl (B := w.heap.size) w
  have hM := Mem.start w
  refine Calls.of_ends (vs := []) Try.func11 rfl Try.ntmps11 rfl ?_
  intro a hA
  replace hA : St 47 [] a := hA
  refine Ends.seq ?_
  refine Ends.region ?_
  refine S.val hA (R.assign rfl) rfl ?_; clear hA a; intro a hA
  refine S.done ?_
  replace hA : St 47 [] a := hA.sub (.nil)
  refine Ends.seq ?_
  refine Ends.region ?_
  refine S.buildSl (cells := #[.int .i64 1, .int .i64 6, .int .i64 0]) hA hM Try.underlying22 info3 rfl rfl rfl rfl (by kernel_rfl) rfl ?_; clear hA hM a; intro b1 w1 hb2 hM a hA
  replace hM : Mem _ _ [pt b1 #[.int .i64 1, .int .i64 6, .int .i64 0] 3] _ := hM
  refine S.buildSl (cells := #[.int .i64 1, .int .i64 2, .int .i64 0]) hA hM Try.underlying22 info3 rfl rfl rfl rfl (by kernel_rfl) rfl ?_; clear hA hM a; intro b3 w2 hb4 hM a hA
  replace hM : Mem _ _ [pt b3 #[.int .i64 1, .int .i64 2, .int .i64 0] 3, pt b1 #[.int .i64 1, .int .i64 6, .int .i64 0] 3] _ := hM
  have hq5 := hM.ptRs (k := 1) (X := ([1, 6, 0] : List Int)) rfl (by decide)
  have hq6 := hM.ptRs (k := 0) (X := ([1, 2, 0] : List Int)) rfl (by decide)
  refine S.call hA (R.callF Try.func9 rfl rfl rfl) rfl (byratio_o ((some ⟨b1, 0, none⟩)) ((some ⟨b3, 0, none⟩)) 3 3 _ hq5 hq6) ?_; clear hA a
  rintro e w3 ⟨ra7, rc8, rfl, rh9, hb⟩
  replace hM := hM.callB hb; clear hb
  have hbx10 := hM.block (k := 0) rfl
  have hbx11 := hM.block (k := 1) rfl
  have hbs := hbs.trans (hM.below.mono hbs.size)
  replace hM := Mem.start w3
  refine ⟨.tuple #[.slice ra7 ((([2, 1, 0] : List Int)).length) rc8, .int .i64 0], rfl, fun a hA => ?_⟩
  refine S.val hA (R.move rfl) rfl ?_; clear hA a; intro a hA
  refine S.val hA (R.extract (v := .slice ra7 ((([2, 1, 0] : List Int)).length) rc8) rfl rfl) rfl ?_; clear hA a; intro a hA
  refine S.val hA (R.extract (v := .int .i64 0) rfl rfl) rfl ?_; clear hA a; intro a hA
  refine S.val hA (R.assign rfl) rfl ?_; clear hA a; intro a hA
  refine S.val hA (R.assign rfl) rfl ?_; clear hA a; intro a hA
  refine S.done ?_
  replace hA : St 47 [(1, _), (2, _)] a := hA.sub ((.cons rfl (.cons rfl .nil)))
  refine Ends.seq ?_
  refine Ends.region ?_
  refine S.buildSl (cells := #[.int .i64 0, .int .i64 2, .int .i64 1]) hA hM Try.underlying22 info3 rfl rfl rfl rfl (by kernel_rfl) rfl ?_; clear hA hM a; intro b12 w4 hb13 hM a hA
  replace hM : Mem _ _ [pt b12 #[.int .i64 0, .int .i64 2, .int .i64 1] 3] _ := hM
  have hq14 := hM.ptRs (k := 0) (X := ([0, 2, 1] : List Int)) rfl (by decide)
  refine S.call hA (R.callF Try.func13 rfl rfl rfl) rfl (next_o ((some ⟨b12, 0, none⟩)) 3 _ hq14) ?_; clear hA a
  rintro e w5 ⟨ra15, rc16, rfl, rh17, hb⟩
  replace hM := hM.callB hb; clear hb
  have hbx18 := hM.block (k := 0) rfl
  have hbs := hbs.trans (hM.below.mono hbs.size)
  have rh9 := rh9.mem hM
  have hbx10 := hM.keepB hbx10
  have hbx11 := hM.keepB hbx11
  replace hM := Mem.start w5
  refine ⟨.tuple #[.slice ra15 ((([1, 0, 2] : List Int)).length) rc16, .int .i64 0], rfl, fun a hA => ?_⟩
  refine S.val hA (R.move rfl) rfl ?_; clear hA a; intro a hA
  refine S.val hA (R.extract (v := .slice ra15 ((([1, 0, 2] : List Int)).length) rc16) rfl rfl) rfl ?_; clear hA a; intro a hA
  refine S.val hA (R.extract (v := .int .i64 0) rfl rfl) rfl ?_; clear hA a; intro a hA
  refine S.val hA (R.assign rfl) rfl ?_; clear hA a; intro a hA
  refine S.val hA (R.assign rfl) rfl ?_; clear hA a; intro a hA
  refine S.done ?_
  replace hA : St 47 [(1, _), (2, _), (3, _), (4, _)] a := hA.sub ((.cons rfl (.cons rfl (.cons rfl (.cons rfl .nil)))))
  refine Ends.seq ?_
  refine Ends.region ?_
  refine S.buildSl (cells := #[.int .i64 2, .int .i64 1, .int .i64 0]) hA hM Try.underlying22 info3 rfl rfl rfl rfl (by kernel_rfl) rfl ?_; clear hA hM a; intro b19 w6 hb20 hM a hA
  replace hM : Mem _ _ [pt b19 #[.int .i64 2, .int .i64 1, .int .i64 0] 3] _ := hM
  have hq21 := hM.ptRs (k := 0) (X := ([2, 1, 0] : List Int)) rfl (by decide)
  refine S.call hA (R.callF Try.func21 rfl rfl rfl) rfl (rank_o ((some ⟨b19, 0, none⟩)) 3 _ hq21) ?_; clear hA a
  rintro e w7 ⟨rfl, hb⟩
  replace hM := hM.callB hb; clear hb
  refine ⟨.tuple #[.int .i64 5, .int .i64 0], rfl, fun a hA => ?_⟩
  refine S.val hA (R.move rfl) rfl ?_; clear hA a; intro a hA
  refine S.val hA (R.extract (v := .int .i64 5) rfl rfl) rfl ?_; clear hA a; intro a hA
  refine S.val hA (R.extract (v := .int .i64 0) rfl rfl) rfl ?_; clear hA a; intro a hA
  refine S.val hA (R.assign rfl) rfl ?_; clear hA a; intro a hA
  refine S.val hA (R.assign rfl) rfl ?_; clear hA a; intro a hA
  refine S.done ?_
  replace hA : St 47 [(1, _), (2, _), (3, _), (4, _), (5, _), (6, _)] a := hA.sub ((.cons rfl (.cons rfl (.cons rfl (.cons rfl (.cons rfl (.cons rfl .nil)))))))
  refine Ends.seq ?_
  refine Ends.region ?_
  refine S.val hA (R.move rfl) rfl ?_; clear hA a; intro a hA
  refine S.val hA (R.tt (R.eql rfl rfl) (by first | decide | simp | omega)) rfl ?_; clear hA a; intro a hA
  refine S.val hA (R.move rfl) rfl ?_; clear hA a; intro a hA
  refine S.valg (dj := 25) hA (by kernel_rfl) rfl (R.move rfl) rfl ?_; clear hA a; intro a hA
  refine S.valg (dj := 25) hA (by kernel_rfl) rfl (R.tt (R.eql rfl rfl) (by first | decide | simp | omega)) rfl ?_; clear hA a; intro a hA
  refine S.val hA (R.pickT rfl rfl) rfl ?_; clear hA a; intro a hA
  refine S.val hA (R.move rfl) rfl ?_; clear hA a; intro a hA
  refine S.valg (dj := 29) hA (by kernel_rfl) rfl (R.move rfl) rfl ?_; clear hA a; intro a hA
  refine S.valg (dj := 29) hA (by kernel_rfl) rfl (R.tt (R.eql rfl rfl) (by first | decide | simp | omega)) rfl ?_; clear hA a; intro a hA
  refine S.val hA (R.pickT rfl rfl) rfl ?_; clear hA a; intro a hA
  refine S.val hA (R.move rfl) rfl ?_; clear hA a; intro a hA
  refine S.valg (dj := 33) hA (by kernel_rfl) rfl (R.move rfl) rfl ?_; clear hA a; intro a hA
  refine S.valg (dj := 33) hA (by kernel_rfl) rfl (R.tt (R.eql rfl rfl) (by first | decide | simp | omega)) rfl ?_; clear hA a; intro a hA
  refine S.val hA (R.pickT rfl rfl) rfl ?_; clear hA a; intro a hA
  refine S.val hA (R.move rfl) rfl ?_; clear hA a; intro a hA
  refine S.valg (dj := 37) hA (by kernel_rfl) rfl (R.move rfl) rfl ?_; clear hA a; intro a hA
  refine S.buildSlg (dj := 37) (cells := #[.int .i64 2, .int .i64 1, .int .i64 0]) hA hM (by kernel_rfl) rfl Try.underlying22 info3 rfl rfl rfl rfl (by kernel_rfl) rfl ?_; clear hA hM a; intro b22 w8 hb23 hM a hA
  replace hM : Mem _ _ [pt b22 #[.int .i64 2, .int .i64 1, .int .i64 0] 3, pt b19 #[.int .i64 2, .int .i64 1, .int .i64 0] 3] _ := hM
  have hq24 := hM.ptRs (k := 0) (X := ([2, 1, 0] : List Int)) rfl (by decide)
  refine S.callg (dj := 37) hA (by kernel_rfl) rfl (R.callF Try.func12 rfl rfl rfl) rfl (same09_t ra7 ([2, 1, 0] : List Int) rc8 ((some ⟨b22, 0, none⟩)) 3 rh9.lenB _ (rh9.mem hM) hq24) ?_; clear hA a
  rintro e w9 ⟨rfl, hb⟩
  replace hM := hM.callB hb; clear hb
  refine ⟨.bool true, rfl, fun a hA => ?_⟩
  refine S.val hA (R.pickT rfl rfl) rfl ?_; clear hA a; intro a hA
  refine S.val hA (R.move rfl) rfl ?_; clear hA a; intro a hA
  refine S.valg (dj := 42) hA (by kernel_rfl) rfl (R.move rfl) rfl ?_; clear hA a; intro a hA
  refine S.buildSlg (dj := 42) (cells := #[.int .i64 1, .int .i64 0, .int .i64 2]) hA hM (by kernel_rfl) rfl Try.underlying22 info3 rfl rfl rfl rfl (by kernel_rfl) rfl ?_; clear hA hM a; intro b25 w10 hb26 hM a hA
  replace hM : Mem _ _ [pt b25 #[.int .i64 1, .int .i64 0, .int .i64 2] 3, pt b22 #[.int .i64 2, .int .i64 1, .int .i64 0] 3, pt b19 #[.int .i64 2, .int .i64 1, .int .i64 0] 3] _ := hM
  have hq27 := hM.ptRs (k := 0) (X := ([1, 0, 2] : List Int)) rfl (by decide)
  refine S.callg (dj := 42) hA (by kernel_rfl) rfl (R.callF Try.func12 rfl rfl rfl) rfl (same09_t ra15 ([1, 0, 2] : List Int) rc16 ((some ⟨b25, 0, none⟩)) 3 rh17.lenB _ (rh17.mem hM) hq27) ?_; clear hA a
  rintro e w11 ⟨rfl, hb⟩
  replace hM := hM.callB hb; clear hb
  refine ⟨.bool true, rfl, fun a hA => ?_⟩
  refine S.val hA (R.pickT rfl rfl) rfl ?_; clear hA a; intro a hA
  refine S.val hA (R.assign rfl) rfl ?_; clear hA a; intro a hA
  refine S.done ?_
  replace hA : St 47 [(0, _)] a := hA.sub ((.cons rfl .nil))
  refine Ends.ret1 Try.func11 Try.results11 hA rfl ?_
  exact ⟨rfl, Mem.trans0 hbs hM.nilL⟩
set_option maxRecDepth 100000 in
set_option maxHeartbeats 400000 in
theorem orderRatios_w (av : Option Addr) (V : List Int) (cv : Nat) (au : Option Addr) (U : List Int) (cu : Nat) (hlv : ∀ x ∈ V, (Lit.int .i64 x).wf = true) (hlu : ∀ x ∈ U, (Lit.int .i64 x).wf = true) (w : World) (hv : IntSl w (.slice av V.length cv) V) (hu : IntSl w (.slice au U.length cu) U) :
    Calls Try.prog 3 #[.slice av V.length cv, .slice au U.length cu] w fun e w' => e = .returned (.bool true) ∧ Below w.heap.size w w' := by
  have hbs := Below.refl (B := w.heap.size) w
  have hM := Mem.start w
  refine Calls.of_ends (vs := [.slice av V.length cv, .slice au U.length cu]) Try.func3 rfl Try.ntmps3 rfl ?_
  intro a hA
  replace hA : St 52 [(0, _), (1, _)] a := hA
  refine Ends.seq ?_
  refine Ends.region ?_
  refine S.val hA (R.assign rfl) rfl ?_; clear hA a; intro a hA
  refine S.done ?_
  replace hA : St 52 [(0, _), (1, _)] a := hA.sub ((.cons rfl (.cons rfl .nil)))
  refine Ends.seq ?_
  refine Ends.region ?_
  refine S.val hA (R.move rfl) rfl ?_; clear hA a; intro a hA
  refine S.call hA (R.callF Try.func8 rfl rfl rfl) rfl (cut09 av V cv 70 (by omega) _ (hv.mem hM)) ?_; clear hA a
  rintro e w1 ⟨X1, ra2, rc3, hYX1, hlX1, rfl, rh4, hb⟩
  replace hM := hM.callB hb; clear hb
  have hbs := hbs.trans (hM.below.mono hbs.size)
  have hv := hv.mem hM
  have hu := hu.mem hM
  replace hM := Mem.start w1
  have hmX1 : ∀ x ∈ X1, x ∈ V := by rw [hYX1]; exact fun x hx => List.mem_of_mem_take hx
  refine ⟨.slice ra2 X1.length rc3, rfl, fun a hA => ?_⟩
  refine S.val hA (R.move rfl) rfl ?_; clear hA a; intro a hA
  refine S.call hA (R.callF Try.func8 rfl rfl rfl) rfl (cut09 au U cu 70 (by omega) _ (hu.mem hM)) ?_; clear hA a
  rintro e w2 ⟨X5, ra6, rc7, hYX5, hlX5, rfl, rh8, hb⟩
  replace hM := hM.callB hb; clear hb
  have hbs := hbs.trans (hM.below.mono hbs.size)
  have hv := hv.mem hM
  have hu := hu.mem hM
  have rh4 := rh4.mem hM
  replace hM := Mem.start w2
  have hmX5 : ∀ x ∈ X5, x ∈ U := by rw [hYX5]; exact fun x hx => List.mem_of_mem_take hx
  refine ⟨.slice ra6 X5.length rc7, rfl, fun a hA => ?_⟩
  refine S.val hA (R.assign rfl) rfl ?_; clear hA a; intro a hA
  refine S.val hA (R.assign rfl) rfl ?_; clear hA a; intro a hA
  refine S.done ?_
  replace hA : St 52 [(0, _), (1, _)] a := hA.sub ((.cons rfl (.cons rfl .nil)))
  refine Ends.seq ?_
  refine Ends.region ?_
  refine S.val hA (R.move rfl) rfl ?_; clear hA a; intro a hA
  refine S.call hA (R.callF Try.func8 rfl rfl rfl) rfl (cut09_t ra2 X1 rc3 70 (by omega) (by omega) _ (rh4.mem hM)) ?_; clear hA a
  rintro e w3 ⟨ra9, rc10, rfl, rh11, hb⟩
  replace hM := hM.callB hb; clear hb
  have hbs := hbs.trans (hM.below.mono hbs.size)
  have hv := hv.mem hM
  have hu := hu.mem hM
  have rh4 := rh4.mem hM
  have rh8 := rh8.mem hM
  replace hM := Mem.start w3
  refine ⟨.slice ra9 X1.length rc10, rfl, fun a hA => ?_⟩
  refine S.val hA (R.move rfl) rfl ?_; clear hA a; intro a hA
  refine S.call hA (R.callF Try.func8 rfl rfl rfl) rfl (cut09_t ra6 X5 rc7 70 (by omega) (by omega) _ (rh8.mem hM)) ?_; clear hA a
  rintro e w4 ⟨ra12, rc13, rfl, rh14, hb⟩
  replace hM := hM.callB hb; clear hb
  have hbs := hbs.trans (hM.below.mono hbs.size)
  have hv := hv.mem hM
  have hu := hu.mem hM
  have rh4 := rh4.mem hM
  have rh8 := rh8.mem hM
  have rh11 := rh11.mem hM
  replace hM := Mem.start w4
  refine ⟨.slice ra12 X5.length rc13, rfl, fun a hA => ?_⟩
  refine S.val hA (R.assign rfl) rfl ?_; clear hA a; intro a hA
  refine S.val hA (R.assign rfl) rfl ?_; clear hA a; intro a hA
  refine S.done ?_
  replace hA : St 52 [(0, _), (1, _), (5, _), (6, _)] a := hA.sub ((.cons rfl (.cons rfl (.cons rfl (.cons rfl .nil)))))
  refine Ends.seq ?_
  refine Ends.region ?_
  refine S.val hA (R.move rfl) rfl ?_; clear hA a; intro a hA
  refine S.val hA (R.move rfl) rfl ?_; clear hA a; intro a hA
  refine S.call hA (R.callF Try.func9 rfl rfl rfl) rfl (byratio ra2 X1 rc3 ra6 X5 rc7 (bdI_of fun x hx => hlv x (hmX1 x hx)) (bdI_of fun x hx => hlu x (hmX5 x hx)) _ (rh4.mem hM) (rh8.mem hM)) ?_; clear hA a
  rintro e w5 ⟨ra15, rc16, rfl, rh17, hb⟩
  replace hM := hM.callB hb; clear hb
  have hbs := hbs.trans (hM.below.mono hbs.size)
  have hv := hv.mem hM
  have hu := hu.mem hM
  have rh4 := rh4.mem hM
  have rh8 := rh8.mem hM
  have rh11 := rh11.mem hM
  have rh14 := rh14.mem hM
  replace hM := Mem.start w5
  refine ⟨.tuple #[.slice ra15 (((qL X1 X5)).length) rc16, .int .i64 (qE X1 X5)], rfl, fun a hA => ?_⟩
  refine S.val hA (R.move rfl) rfl ?_; clear hA a; intro a hA
  refine S.val hA (R.extract (v := .slice ra15 (((qL X1 X5)).length) rc16) rfl rfl) rfl ?_; clear hA a; intro a hA
  refine S.val hA (R.extract (v := .int .i64 (qE X1 X5)) rfl rfl) rfl ?_; clear hA a; intro a hA
  refine S.val hA (R.assign rfl) rfl ?_; clear hA a; intro a hA
  refine S.val hA (R.assign rfl) rfl ?_; clear hA a; intro a hA
  refine S.done ?_
  replace hA : St 52 [(0, _), (1, _), (5, _), (6, _), (7, _), (8, _)] a := hA.sub ((.cons rfl (.cons rfl (.cons rfl (.cons rfl (.cons rfl (.cons rfl .nil)))))))
  refine Ends.seq ?_
  refine Ends.region ?_
  refine S.val hA (R.move rfl) rfl ?_; clear hA a; intro a hA
  refine S.val hA (R.move rfl) rfl ?_; clear hA a; intro a hA
  refine S.call hA (R.callF Try.func10 rfl rfl rfl) rfl (rbyratio ra9 X1 rc10 ra12 X5 rc13 (bdI_of fun x hx => hlv x (hmX1 x hx)) (bdI_of fun x hx => hlu x (hmX5 x hx)) _ (rh11.mem hM) (rh14.mem hM)) ?_; clear hA a
  rintro e w6 ⟨ra18, rc19, rfl, rh20, hb⟩
  replace hM := hM.callB hb; clear hb
  have hbs := hbs.trans (hM.below.mono hbs.size)
  have hv := hv.mem hM
  have hu := hu.mem hM
  have rh4 := rh4.mem hM
  have rh8 := rh8.mem hM
  have rh11 := rh11.mem hM
  have rh14 := rh14.mem hM
  have rh17 := rh17.mem hM
  replace hM := Mem.start w6
  refine ⟨.tuple #[.slice ra18 (((qL X1 X5)).length) rc19, .int .i64 (qE X1 X5)], rfl, fun a hA => ?_⟩
  refine S.val hA (R.move rfl) rfl ?_; clear hA a; intro a hA
  refine S.val hA (R.extract (v := .slice ra18 (((qL X1 X5)).length) rc19) rfl rfl) rfl ?_; clear hA a; intro a hA
  refine S.val hA (R.extract (v := .int .i64 (qE X1 X5)) rfl rfl) rfl ?_; clear hA a; intro a hA
  refine S.val hA (R.assign rfl) rfl ?_; clear hA a; intro a hA
  refine S.val hA (R.assign rfl) rfl ?_; clear hA a; intro a hA
  refine S.done ?_
  replace hA : St 52 [(0, _), (1, _), (5, _), (6, _), (7, _), (8, _), (9, _), (10, _)] a := hA.sub ((.cons rfl (.cons rfl (.cons rfl (.cons rfl (.cons rfl (.cons rfl (.cons rfl (.cons rfl .nil)))))))))
  refine Ends.seq ?_
  refine Ends.region ?_
  refine S.call hA (R.callF Try.func11 rfl rfl rfl) rfl (orders_any _) ?_; clear hA a
  rintro e w7 ⟨rfl, hb⟩
  replace hM := hM.callB hb; clear hb
  refine ⟨.bool true, rfl, fun a hA => ?_⟩
  refine S.val hA (R.move rfl) rfl ?_; clear hA a; intro a hA
  refine S.valg (dj := 32) hA (by kernel_rfl) rfl (R.move rfl) rfl ?_; clear hA a; intro a hA
  refine S.valg (dj := 32) hA (by kernel_rfl) rfl (R.move rfl) rfl ?_; clear hA a; intro a hA
  refine S.callg (dj := 32) hA (by kernel_rfl) rfl (R.callF Try.func12 rfl rfl rfl) rfl (same09_t ra15 (qL X1 X5) rc16 ra18 rc19 rh17.lenB _ (rh17.mem hM) (rh20.mem hM)) ?_; clear hA a
  rintro e w8 ⟨rfl, hb⟩
  replace hM := hM.callB hb; clear hb
  refine ⟨.bool true, rfl, fun a hA => ?_⟩
  refine S.val hA (R.pickT rfl rfl) rfl ?_; clear hA a; intro a hA
  refine S.val hA (R.move rfl) rfl ?_; clear hA a; intro a hA
  refine S.valg (dj := 37) hA (by kernel_rfl) rfl (R.move rfl) rfl ?_; clear hA a; intro a hA
  refine S.valg (dj := 37) hA (by kernel_rfl) rfl (R.move rfl) rfl ?_; clear hA a; intro a hA
  refine S.valg (dj := 37) hA (by kernel_rfl) rfl (R.tt (R.eql rfl rfl) (by first | decide | simp | omega)) rfl ?_; clear hA a; intro a hA
  refine S.val hA (R.pickT rfl rfl) rfl ?_; clear hA a; intro a hA
  refine S.val hA (R.move rfl) rfl ?_; clear hA a; intro a hA
  refine S.valg (dj := 42) hA (by kernel_rfl) rfl (R.move rfl) rfl ?_; clear hA a; intro a hA
  refine S.valg (dj := 42) hA (by kernel_rfl) rfl (R.move rfl) rfl ?_; clear hA a; intro a hA
  refine S.callg (dj := 42) hA (by kernel_rfl) rfl (R.callF Try.func12 rfl rfl rfl) rfl (same09_t ra2 X1 rc3 ra9 rc10 rh4.lenB _ (rh4.mem hM) (rh11.mem hM)) ?_; clear hA a
  rintro e w9 ⟨rfl, hb⟩
  replace hM := hM.callB hb; clear hb
  refine ⟨.bool true, rfl, fun a hA => ?_⟩
  refine S.val hA (R.pickT rfl rfl) rfl ?_; clear hA a; intro a hA
  refine S.val hA (R.move rfl) rfl ?_; clear hA a; intro a hA
  refine S.valg (dj := 47) hA (by kernel_rfl) rfl (R.move rfl) rfl ?_; clear hA a; intro a hA
  refine S.valg (dj := 47) hA (by kernel_rfl) rfl (R.move rfl) rfl ?_; clear hA a; intro a hA
  refine S.callg (dj := 47) hA (by kernel_rfl) rfl (R.callF Try.func12 rfl rfl rfl) rfl (same09_t ra6 X5 rc7 ra12 rc13 rh8.lenB _ (rh8.mem hM) (rh14.mem hM)) ?_; clear hA a
  rintro e w10 ⟨rfl, hb⟩
  replace hM := hM.callB hb; clear hb
  refine ⟨.bool true, rfl, fun a hA => ?_⟩
  refine S.val hA (R.pickT rfl rfl) rfl ?_; clear hA a; intro a hA
  refine S.val hA (R.assign rfl) rfl ?_; clear hA a; intro a hA
  refine S.done ?_
  replace hA : St 52 [(4, _)] a := hA.sub ((.cons rfl .nil))
  refine Ends.ret1 Try.func3 Try.results3 hA rfl ?_
  exact ⟨rfl, Mem.trans0 hbs hM.nilL⟩
theorem orderRatios_any (v : Value) (l : List Int) (u : Value) (m : List Int) (w : World) (h1 : IntSl w v l) (h2 : ∀ x ∈ l, (Lit.int .i64 x).wf = true) (h3 : IntSl w u m) (h4 : ∀ x ∈ m, (Lit.int .i64 x).wf = true) :
    Calls Try.prog 3 #[v, u] w fun e w' => e = .returned (.bool true) ∧ Below w.heap.size w w' := by
  obtain ⟨a, c, rfl⟩ := h1.form
  obtain ⟨b, d, rfl⟩ := h3.form
  exact orderRatios_w a l c b m d h2 h4 w h1 h3
theorem byK_ok (K : List Int) : okP (byK K) = true := okP_perm.2 (by rw [byK_len]; exact byK_perm K)
theorem byK_up (K : List Int) {k : Nat} (hk : k + 1 < K.length) : ¬ (K.getD ((byK K).getD (k + 1) 0).toNat 0 < K.getD ((byK K).getD k 0).toNat 0) := by
  have hl := byK_len K
  have h := List.pairwise_iff_getElem.1 (byK_pw K) k (k + 1) (by omega) (by omega) (by omega)
  have h2 := rbk_asym K _ _ h
  rw [show (byK K).getD (k + 1) 0 = (byK K)[k + 1]'(by omega) by simp [List.getD, show k + 1 < (byK K).length by omega], show (byK K).getD k 0 = (byK K)[k]'(by omega) by simp [List.getD, show k < (byK K).length by omega]]
  intro h3
  have h4 : ltk K ((byK K)[k + 1]'(by omega)) ((byK K)[k]'(by omega)) = true := decide_eq_true h3
  unfold rbo at h2
  rw [h4] at h2
  simp at h2
set_option maxRecDepth 100000 in
set_option maxHeartbeats 400000 in
theorem orderKeys_w (av : Option Addr) (V : List Int) (cv : Nat) (w : World) (hv : IntSl w (.slice av V.length cv) V) :
    Calls Try.prog 5 #[.slice av V.length cv] w fun e w' => e = .returned (.bool true) ∧ Below w.heap.size w w' := by
  have hbs := Below.refl (B := w.heap.size) w
  have hM := Mem.start w
  refine Calls.of_ends (vs := [.slice av V.length cv]) Try.func5 rfl Try.ntmps5 rfl ?_
  intro a hA
  replace hA : St 45 [(0, _)] a := hA
  refine Ends.seq ?_
  refine Ends.region ?_
  refine S.val hA (R.assign rfl) rfl ?_; clear hA a; intro a hA
  refine S.done ?_
  replace hA : St 45 [(0, _)] a := hA.sub ((.cons rfl .nil))
  refine Ends.seq ?_
  refine Ends.region ?_
  refine S.val hA (R.move rfl) rfl ?_; clear hA a; intro a hA
  refine S.call hA (R.callF Try.func8 rfl rfl rfl) rfl (cut09 av V cv 200 (by omega) _ (hv.mem hM)) ?_; clear hA a
  rintro e w1 ⟨X1, ra2, rc3, hYX1, hlX1, rfl, rh4, hb⟩
  replace hM := hM.callB hb; clear hb
  have hbs := hbs.trans (hM.below.mono hbs.size)
  have hv := hv.mem hM
  replace hM := Mem.start w1
  have hmX1 : ∀ x ∈ X1, x ∈ V := by rw [hYX1]; exact fun x hx => List.mem_of_mem_take hx
  refine ⟨.slice ra2 X1.length rc3, rfl, fun a hA => ?_⟩
  refine S.val hA (R.assign rfl) rfl ?_; clear hA a; intro a hA
  refine S.done ?_
  replace hA : St 45 [(0, _)] a := hA.sub ((.cons rfl .nil))
  refine Ends.seq ?_
  refine Ends.region ?_
  refine S.val hA (R.move rfl) rfl ?_; clear hA a; intro a hA
  refine S.call hA (R.callF Try.func16 rfl rfl rfl) rfl (bykey ra2 X1 rc3 (by omega) _ (rh4.mem hM)) ?_; clear hA a
  rintro e w2 ⟨ra5, rc6, rfl, rh7, hb⟩
  replace hM := hM.callB hb; clear hb
  have hbs := hbs.trans (hM.below.mono hbs.size)
  have hv := hv.mem hM
  have rh4 := rh4.mem hM
  replace hM := Mem.start w2
  refine ⟨.slice ra5 (((byK X1)).length) rc6, rfl, fun a hA => ?_⟩
  refine S.val hA (R.assign rfl) rfl ?_; clear hA a; intro a hA
  refine S.done ?_
  replace hA : St 45 [(0, _), (3, _)] a := hA.sub ((.cons rfl (.cons rfl .nil)))
  refine Ends.seq ?_
  refine Ends.seq ?_
  refine Ends.region ?_
  refine S.call hA (R.callF Try.func11 rfl rfl rfl) rfl (orders_any _) ?_; clear hA a
  rintro e w3 ⟨rfl, hb⟩
  replace hM := hM.callB hb; clear hb
  refine ⟨.bool true, rfl, fun a hA => ?_⟩
  refine S.val hA (R.not rfl) rfl ?_; clear hA a; intro a hA
  refine S.val hA (R.move rfl) rfl ?_; clear hA a; intro a hA
  refine S.valg (dj := 11) hA (by kernel_rfl) rfl (R.move rfl) rfl ?_; clear hA a; intro a hA
  refine S.valg (dj := 11) hA (by kernel_rfl) rfl (R.move rfl) rfl ?_; clear hA a; intro a hA
  refine S.callg (dj := 11) hA (by kernel_rfl) rfl (R.callF Try.func17 rfl rfl rfl) rfl (rbykey ra2 X1 rc3 (by omega) _ (rh4.mem hM)) ?_; clear hA a
  rintro e w4 ⟨ra8, rc9, rfl, rh10, hb⟩
  replace hM := hM.callB hb; clear hb
  have hbs := hbs.trans (hM.below.mono hbs.size)
  have hv := hv.mem hM
  have rh4 := rh4.mem hM
  have rh7 := rh7.mem hM
  replace hM := Mem.start w4
  refine ⟨.slice ra8 (((byK X1)).length) rc9, rfl, fun a hA => ?_⟩
  refine S.callg (dj := 11) hA (by kernel_rfl) rfl (R.callF Try.func12 rfl rfl rfl) rfl (same09_t ra5 (byK X1) rc6 ra8 rc9 rh7.lenB _ (rh7.mem hM) (rh10.mem hM)) ?_; clear hA a
  rintro e w5 ⟨rfl, hb⟩
  replace hM := hM.callB hb; clear hb
  refine ⟨.bool true, rfl, fun a hA => ?_⟩
  refine S.valg (dj := 11) hA (by kernel_rfl) rfl (R.not rfl) rfl ?_; clear hA a; intro a hA
  refine S.val hA (R.pickF rfl rfl) rfl ?_; clear hA a; intro a hA
  refine S.val hA (R.move rfl) rfl ?_; clear hA a; intro a hA
  refine S.valg (dj := 18) hA (by kernel_rfl) rfl (R.move rfl) rfl ?_; clear hA a; intro a hA
  refine S.callg (dj := 18) hA (by kernel_rfl) rfl (R.callF Try.func18 rfl rfl rfl) rfl (is09_b ra5 ((byK X1)) rc6 (by rw [byK_len]; omega) (byK_ok _) _ (rh7.mem hM)) ?_; clear hA a
  rintro e w6 ⟨rfl, hb⟩
  replace hM := hM.callB hb; clear hb
  refine ⟨.bool true, rfl, fun a hA => ?_⟩
  refine S.valg (dj := 18) hA (by kernel_rfl) rfl (R.not rfl) rfl ?_; clear hA a; intro a hA
  refine S.val hA (R.pickF rfl rfl) rfl ?_; clear hA a; intro a hA
  refine S.done ?_
  replace hA : St 45 [(0, _), (3, _), (22, _)] a := hA.sub ((.cons rfl (.cons rfl (.cons rfl .nil))))
  refine Ends.condF hA rfl ?_
  refine Ends.skip ?_
  refine Ends.seq ?_
  refine Ends.seq ?_
  refine Ends.region ?_
  refine S.val hA (R.assign rfl) rfl ?_; clear hA a; intro a hA
  refine S.done ?_
  replace hA : St 45 [(0, _), (3, _), (4, _)] a := hA.sub ((.cons rfl (.cons rfl (.cons rfl .nil))))
  refine Ends.block ?_
  have hbl := byK_len X1
  refine Ends.loop (σ := Nat) (fun k (a : Act) (wv : World) => St 45 [(0, .slice ra2 X1.length rc3), (3, .slice ra5 (((byK X1)).length) rc6), (4, .int .i64 ((k : Int)))] a ∧ Mem w4 nof [] wv ∧ (1 ≤ k)) (fun k => X1.length - k) 1 ⟨hA.sub ((.cons rfl (.cons rfl (.cons rfl .nil)))), hM, (Nat.le_refl _)⟩ ?_
  clear hA hM a
  rintro k a w7 ⟨hA, hM, hk⟩ hNext
  refine Ends.seq ?_
  refine Ends.seq ?_
  refine Ends.region ?_
  refine S.val hA (R.move rfl) rfl ?_; clear hA a; intro a hA
  refine S.val hA (R.move rfl) rfl ?_; clear hA a; intro a hA
  refine S.val hA (R.lenS Try.underlying22 rfl rfl) rfl ?_; clear hA a; intro a hA
  refine S.val hA (R.lss rfl rfl) rfl ?_; clear hA a; intro a hA
  refine S.done ?_
  replace hA : St 45 [(0, _), (3, _), (4, _), (26, _)] a := hA.sub ((.cons rfl (.cons rfl (.cons rfl (.cons rfl .nil)))))
  refine Ends.ite hA rfl (fun hc11 => ?_) (fun hc11 => ?_)
  ·
    refine Ends.skip ?_
    refine Ends.seq ?_
    refine Ends.block ?_
    refine Ends.seq ?_
    have hr1 := ok_rng (byK_ok X1) (show k < (byK X1).length by omega)
    have hr2 := ok_rng (byK_ok X1) (show k - 1 < (byK X1).length by omega)
    rw [byK_len] at hr1 hr2
    have hup := byK_up X1 (k := k - 1) (by omega)
    rw [show k - 1 + 1 = k by omega] at hup
    refine Ends.drawn (Mem w4 nof []) (.cons (0, true) (.cons (1, true) (.cons (2, true) (.cons (3, true) (.cons (4, true) (.cons (5, true) (.cons (6, true) (.cons (7, true) (.cons (8, true) (.cons (9, true) (.cons (10, true) (.cons (11, true) (.cons (12, true) (.cons (13, true) (.cons (14, true) (.cons (15, true) .nil)))))))))))))))) 16 mixed (by kernel_rfl) (by kernel_rfl) (by kernel_rfl) hM.drew ?_
    replace hM := hM.drew
    refine D.valF hA rfl (fun _ => R.move rfl) rfl ?_; clear hA a; intro a hA
    refine D.valF hA rfl (fun _ => R.move rfl) rfl ?_; clear hA a; intro a hA
    refine D.valF hA rfl (fun _ => R.move rfl) rfl ?_; clear hA a; intro a hA
    refine D.valF hA rfl (fun _ => R.idxI rh7 (j := k) sl22 rfl rfl (by omega) (rfl)) rfl ?_; clear hA a; intro a hA
    refine D.val hA rfl (by kernel_rfl) (fun _ hM => R.loadI (rh7.mem hM) sz3 rfl (by omega)) rfl ?_; clear hA a; intro a hA
    refine D.valF hA rfl (fun _ => R.idxI rh4 (j := (((byK X1)).getD k 0).toNat) sl22 rfl rfl (by omega) (rfl)) rfl ?_; clear hA a; intro a hA
    refine D.val hA rfl (by kernel_rfl) (fun _ hM => R.loadI (rh4.mem hM) sz3 rfl (by omega)) rfl ?_; clear hA a; intro a hA
    refine D.valF hA rfl (fun _ => R.move rfl) rfl ?_; clear hA a; intro a hA
    refine D.valF hA rfl (fun _ => R.move rfl) rfl ?_; clear hA a; intro a hA
    refine D.valF hA rfl (fun _ => R.move rfl) rfl ?_; clear hA a; intro a hA
    refine D.valF hA rfl (fun _ => R.subI rfl rfl (r := ((k : Int)) - 1) rfl (by omega)) rfl ?_; clear hA a; intro a hA
    refine D.valF hA rfl (fun _ => R.idxI rh7 (j := (k - 1)) sl22 rfl rfl (by omega) (by omega)) rfl ?_; clear hA a; intro a hA
    refine D.val hA rfl (by kernel_rfl) (fun _ hM => R.loadI (rh7.mem hM) sz3 rfl (by omega)) rfl ?_; clear hA a; intro a hA
    refine D.valF hA rfl (fun _ => R.idxI rh4 (j := (((byK X1)).getD ((k - 1)) 0).toNat) sl22 rfl rfl (by omega) (rfl)) rfl ?_; clear hA a; intro a hA
    refine D.val hA rfl (by kernel_rfl) (fun _ hM => R.loadI (rh4.mem hM) sz3 rfl (by omega)) rfl ?_; clear hA a; intro a hA
    refine D.valF hA rfl (fun _ => R.lss rfl rfl) rfl ?_; clear hA a; intro a hA
    refine D.done ?_
    replace hA : St 45 [(0, _), (3, _), (4, _), (44, _)] a := hA.sub ((.cons rfl (.cons rfl (.cons rfl (.cons rfl .nil)))))
    refine Ends.ite hA rfl (fun hc12 => ?_) (fun hc12 => ?_)
    · exact absurd hc12 hup
    ·
      refine Ends.skip ?_
      refine Ends.inBlock ?_
      refine Ends.region ?_
      refine S.val hA (R.move rfl) rfl ?_; clear hA a; intro a hA
      refine S.val hA (R.addI rfl rfl (r := ((k : Int)) + 1) rfl (by omega)) rfl ?_; clear hA a; intro a hA
      refine S.val hA (R.assign rfl) rfl ?_; clear hA a; intro a hA
      refine S.done ?_
      replace hA : St 45 [(0, _), (3, _), (4, _)] a := hA.sub ((.cons rfl (.cons rfl (.cons rfl .nil))))
      exact hNext ((k + 1)) _ _ ((by show X1.length - (k + 1) < X1.length - k; omega)) ⟨hA.sub ((.cons rfl (.cons rfl (.cons rfl .nil)))), hM, (by omega)⟩
  ·
    refine Ends.exit rfl ?_
    replace hA : St 45 [] a := hA.sub (.nil)
    refine Ends.seq ?_
    refine Ends.region ?_
    refine S.val hA (R.assign rfl) rfl ?_; clear hA a; intro a hA
    refine S.done ?_
    replace hA : St 45 [(2, _)] a := hA.sub ((.cons rfl .nil))
    refine Ends.ret1 Try.func5 Try.results5 hA rfl ?_
    exact ⟨rfl, Mem.trans0 hbs hM.nilL⟩
theorem orderKeys_any (v : Value) (l : List Int) (w : World) (h1 : IntSl w v l) (_h2 : ∀ x ∈ l, (Lit.int .i64 x).wf = true) :
    Calls Try.prog 5 #[v] w fun e w' => e = .returned (.bool true) ∧ Below w.heap.size w w' := by
  obtain ⟨a, c, rfl⟩ := h1.form
  exact orderKeys_w a l c  w h1
theorem nxt_no {X Y : List Int} {er : Int} (h : nxt X Y er) (ho : okP X = false) : er = 1 := by
  rcases h with ⟨-, h, -⟩ | ⟨h, -⟩ | ⟨h, -⟩
  · exact h
  · rw [ho] at h; cases h
  · rw [ho] at h; cases h
theorem nxt_last {X Y : List Int} {er : Int} (h : nxt X Y er) (ho : okP X = true) (he : ¬ er = 0) : er = 11 ∧ X = (pl X.length).reverse := by
  rcases h with ⟨h, -⟩ | ⟨-, h, -, h4⟩ | ⟨-, h, -⟩
  · rw [ho] at h; cases h
  · exact ⟨h, desc_is ho h4⟩
  · exact absurd h he
theorem nxt_yes {X Y : List Int} {er : Int} (h : nxt X Y er) (he : er = 0) : okP Y = true ∧ Y.length = X.length ∧ rnk Y = rnk X + 1 := by
  rcases h with ⟨-, h, -⟩ | ⟨-, h, -⟩ | ⟨h1, -, h3, h4⟩
  · omega
  · omega
  · exact ⟨okP_perm.2 (by rw [h3.length_eq]; exact h3.trans (okP_perm.1 h1)), h3.length_eq, h4⟩
theorem rkV_ok {X : List Int} (h : okP X = true) (hl : X.length ≤ 20) : rkV X = (rnk X : Int) := by unfold rkV; rw [if_neg (by rw [h]; simp; omega)]
theorem rkE_ok {X : List Int} (h : okP X = true) (hl : X.length ≤ 20) : rkE X = 0 := by unfold rkE; rw [if_neg (by rw [h]; simp), if_neg (by omega)]
theorem rrank_ok (ax : Option Addr) (X : List Int) (cx : Nat) (h : okP X = true) (hl : X.length ≤ 20) (w : World) (hx : IntSl w (.slice ax X.length cx) X) : Calls Try.prog 15 #[.slice ax X.length cx] w fun e w' => e = .returned (.tuple #[.int .i64 (rnk X : Int), .int .i64 0]) ∧ Below w.heap.size w w' := by
  have h1 := rrank09 ax X cx (by omega) w hx
  rwa [rkV_ok h hl, rkE_ok h hl] at h1
theorem rank_ok (ax : Option Addr) (X : List Int) (cx : Nat) (h : okP X = true) (hl : X.length ≤ 20) (w : World) (hx : IntSl w (.slice ax X.length cx) X) : Calls Try.prog 21 #[.slice ax X.length cx] w fun e w' => e = .returned (.tuple #[.int .i64 (rnk X : Int), .int .i64 0]) ∧ Below w.heap.size w w' := by
  have h1 := rank09 ax X cx (by omega) w hx
  rwa [rkV_ok h hl, rkE_ok h hl] at h1
set_option maxRecDepth 100000 in
set_option maxHeartbeats 400000 in
theorem orderNexts_w (av : Option Addr) (V : List Int) (cv : Nat) (w : World) (hv : IntSl w (.slice av V.length cv) V) :
    Calls Try.prog 4 #[.slice av V.length cv] w fun e w' => e = .returned (.bool true) ∧ Below w.heap.size w w' := by
  have hbs := Below.refl (B := w.heap.size) w
  have hM := Mem.start w
  refine Calls.of_ends (vs := [.slice av V.length cv]) Try.func4 rfl Try.ntmps4 rfl ?_
  intro a hA
  replace hA : St 88 [(0, _)] a := hA
  refine Ends.seq ?_
  refine Ends.region ?_
  refine S.val hA (R.assign rfl) rfl ?_; clear hA a; intro a hA
  refine S.done ?_
  replace hA : St 88 [(0, _)] a := hA.sub ((.cons rfl .nil))
  refine Ends.seq ?_
  refine Ends.region ?_
  refine S.val hA (R.move rfl) rfl ?_; clear hA a; intro a hA
  refine S.call hA (R.callF Try.func8 rfl rfl rfl) rfl (cut09 av V cv 18 (by omega) _ (hv.mem hM)) ?_; clear hA a
  rintro e w1 ⟨X1, ra2, rc3, hYX1, hlX1, rfl, rh4, hb⟩
  replace hM := hM.callB hb; clear hb
  have hbs := hbs.trans (hM.below.mono hbs.size)
  have hv := hv.mem hM
  replace hM := Mem.start w1
  have hmX1 : ∀ x ∈ X1, x ∈ V := by rw [hYX1]; exact fun x hx => List.mem_of_mem_take hx
  refine ⟨.slice ra2 X1.length rc3, rfl, fun a hA => ?_⟩
  refine S.val hA (R.assign rfl) rfl ?_; clear hA a; intro a hA
  refine S.done ?_
  replace hA : St 88 [(0, _)] a := hA.sub ((.cons rfl .nil))
  refine Ends.seq ?_
  refine Ends.region ?_
  refine S.val hA (R.move rfl) rfl ?_; clear hA a; intro a hA
  refine S.call hA (R.callF Try.func8 rfl rfl rfl) rfl (cut09_t ra2 X1 rc3 18 (by omega) (by omega) _ (rh4.mem hM)) ?_; clear hA a
  rintro e w2 ⟨ra5, rc6, rfl, rh7, hb⟩
  replace hM := hM.callB hb; clear hb
  have hbs := hbs.trans (hM.below.mono hbs.size)
  have hv := hv.mem hM
  have rh4 := rh4.mem hM
  replace hM := Mem.start w2
  refine ⟨.slice ra5 X1.length rc6, rfl, fun a hA => ?_⟩
  refine S.val hA (R.assign rfl) rfl ?_; clear hA a; intro a hA
  refine S.done ?_
  replace hA : St 88 [(0, _), (3, _)] a := hA.sub ((.cons rfl (.cons rfl .nil)))
  refine Ends.seq ?_
  refine Ends.region ?_
  refine S.val hA (R.move rfl) rfl ?_; clear hA a; intro a hA
  refine S.call hA (R.callF Try.func13 rfl rfl rfl) rfl (next09 ra2 X1 rc3 (by omega) _ (rh4.mem hM)) ?_; clear hA a
  rintro e w3 ⟨Yn, er, hnx, ra8, rc9, rfl, rh10, hb⟩
  replace hM := hM.callB hb; clear hb
  have hbs := hbs.trans (hM.below.mono hbs.size)
  have hv := hv.mem hM
  have rh4 := rh4.mem hM
  have rh7 := rh7.mem hM
  replace hM := Mem.start w3
  refine ⟨.tuple #[.slice ra8 Yn.length rc9, .int .i64 er], rfl, fun a hA => ?_⟩
  refine S.val hA (R.move rfl) rfl ?_; clear hA a; intro a hA
  refine S.val hA (R.extract (v := .slice ra8 Yn.length rc9) rfl rfl) rfl ?_; clear hA a; intro a hA
  refine S.val hA (R.extract (v := .int .i64 er) rfl rfl) rfl ?_; clear hA a; intro a hA
  refine S.val hA (R.assign rfl) rfl ?_; clear hA a; intro a hA
  refine S.val hA (R.assign rfl) rfl ?_; clear hA a; intro a hA
  refine S.done ?_
  replace hA : St 88 [(0, _), (3, _), (4, _), (5, _)] a := hA.sub ((.cons rfl (.cons rfl (.cons rfl (.cons rfl .nil)))))
  refine Ends.seq ?_
  refine Ends.seq ?_
  by_cases hs11 : okP X1 = true
  ·
    have hok := hs11
    refine Ends.region ?_
    refine S.call hA (R.callF Try.func11 rfl rfl rfl) rfl (orders_any _) ?_; clear hA a
    rintro e w4 ⟨rfl, hb⟩
    replace hM := hM.callB hb; clear hb
    refine ⟨.bool true, rfl, fun a hA => ?_⟩
    refine S.val hA (R.not rfl) rfl ?_; clear hA a; intro a hA
    refine S.val hA (R.move rfl) rfl ?_; clear hA a; intro a hA
    refine S.valg (dj := 22) hA (by kernel_rfl) rfl (R.move rfl) rfl ?_; clear hA a; intro a hA
    refine S.valg (dj := 22) hA (by kernel_rfl) rfl (R.move rfl) rfl ?_; clear hA a; intro a hA
    refine S.callg (dj := 22) hA (by kernel_rfl) rfl (R.callF Try.func12 rfl rfl rfl) rfl (same09_t ra2 X1 rc3 ra5 rc6 rh4.lenB _ (rh4.mem hM) (rh7.mem hM)) ?_; clear hA a
    rintro e w5 ⟨rfl, hb⟩
    replace hM := hM.callB hb; clear hb
    refine ⟨.bool true, rfl, fun a hA => ?_⟩
    refine S.valg (dj := 22) hA (by kernel_rfl) rfl (R.not rfl) rfl ?_; clear hA a; intro a hA
    refine S.val hA (R.pickF rfl rfl) rfl ?_; clear hA a; intro a hA
    refine S.val hA (R.move rfl) rfl ?_; clear hA a; intro a hA
    refine S.valg (dj := 28) hA (by kernel_rfl) rfl (R.move rfl) rfl ?_; clear hA a; intro a hA
    refine S.callg (dj := 28) hA (by kernel_rfl) rfl (R.callF Try.func14 rfl rfl rfl) rfl (ris09_b ra2 X1 rc3 (by omega) hok _ (rh4.mem hM)) ?_; clear hA a
    rintro e w6 ⟨rfl, hb⟩
    replace hM := hM.callB hb; clear hb
    refine ⟨.bool true, rfl, fun a hA => ?_⟩
    refine S.valg (dj := 28) hA (by kernel_rfl) rfl (R.not rfl) rfl ?_; clear hA a; intro a hA
    refine S.val hA (R.pickF rfl rfl) rfl ?_; clear hA a; intro a hA
    refine S.done ?_
    replace hA : St 88 [(0, _), (3, _), (4, _), (5, _), (32, _)] a := hA.sub ((.cons rfl (.cons rfl (.cons rfl (.cons rfl (.cons rfl .nil))))))
    refine Ends.condF hA rfl ?_
    refine Ends.skip ?_
    refine Ends.seq ?_
    refine Ends.region ?_
    refine S.val hA (R.move rfl) rfl ?_; clear hA a; intro a hA
    refine S.call hA (R.callF Try.func15 rfl rfl rfl) rfl (rrank_ok ra2 X1 rc3 hok (by omega) _ (rh4.mem hM)) ?_; clear hA a
    rintro e w7 ⟨rfl, hb⟩
    replace hM := hM.callB hb; clear hb
    refine ⟨.tuple #[.int .i64 (((rnk X1 : Nat) : Int)), .int .i64 0], rfl, fun a hA => ?_⟩
    refine S.val hA (R.move rfl) rfl ?_; clear hA a; intro a hA
    refine S.val hA (R.extract (v := .int .i64 (((rnk X1 : Nat) : Int))) rfl rfl) rfl ?_; clear hA a; intro a hA
    refine S.val hA (R.extract (v := .int .i64 0) rfl rfl) rfl ?_; clear hA a; intro a hA
    refine S.val hA (R.assign rfl) rfl ?_; clear hA a; intro a hA
    refine S.val hA (R.assign rfl) rfl ?_; clear hA a; intro a hA
    refine S.done ?_
    replace hA : St 88 [(0, _), (4, _), (5, _), (6, _)] a := hA.sub ((.cons rfl (.cons rfl (.cons rfl (.cons rfl .nil)))))
    refine Ends.seq ?_
    refine Ends.seq ?_
    refine Ends.region ?_
    refine S.val hA (R.move rfl) rfl ?_; clear hA a; intro a hA
    refine S.val hA (R.neq rfl rfl) rfl ?_; clear hA a; intro a hA
    refine S.done ?_
    replace hA : St 88 [(0, _), (4, _), (5, _), (6, _), (49, _)] a := hA.sub ((.cons rfl (.cons rfl (.cons rfl (.cons rfl (.cons rfl .nil))))))
    refine Ends.ite hA rfl (fun hc12 => ?_) (fun hc12 => ?_)
    ·
      obtain ⟨he, hrv⟩ := nxt_last hnx hok hc12
      subst he
      refine Ends.seq ?_
      refine Ends.seq ?_
      refine Ends.region ?_
      refine S.val hA (R.assign rfl) rfl ?_; clear hA a; intro a hA
      refine S.done ?_
      replace hA : St 88 [(0, _), (4, _), (5, _), (6, _), (8, _)] a := hA.sub ((.cons rfl (.cons rfl (.cons rfl (.cons rfl (.cons rfl .nil))))))
      refine Ends.block ?_
      refine Ends.loop (σ := Nat) (fun k (a : Act) (wv : World) => St 88 [(0, .slice ra2 X1.length rc3), (4, .slice ra8 Yn.length rc9), (5, .int .i64 11), (6, .int .i64 (((rnk X1 : Nat) : Int))), (8, .int .i64 ((k : Int)))] a ∧ Mem w3 nof [] wv ∧ (k ≤ X1.length)) (fun k => X1.length - k) 0 ⟨hA.sub ((.cons rfl (.cons rfl (.cons rfl (.cons rfl (.cons rfl .nil)))))), hM, (Nat.zero_le _)⟩ ?_
      clear hA hM a
      rintro k a w8 ⟨hA, hM, hk⟩ hNext
      refine Ends.seq ?_
      refine Ends.seq ?_
      refine Ends.region ?_
      refine S.val hA (R.move rfl) rfl ?_; clear hA a; intro a hA
      refine S.val hA (R.move rfl) rfl ?_; clear hA a; intro a hA
      refine S.val hA (R.lenS Try.underlying22 rfl rfl) rfl ?_; clear hA a; intro a hA
      refine S.val hA (R.lss rfl rfl) rfl ?_; clear hA a; intro a hA
      refine S.done ?_
      replace hA : St 88 [(0, _), (4, _), (5, _), (6, _), (8, _), (53, _)] a := hA.sub ((.cons rfl (.cons rfl (.cons rfl (.cons rfl (.cons rfl (.cons rfl .nil)))))))
      refine Ends.ite hA rfl (fun hc13 => ?_) (fun hc13 => ?_)
      ·
        have hgk := rev_pl (n := X1.length) (k := k) (by omega)
        rw [← hrv] at hgk
        refine Ends.skip ?_
        refine Ends.seq ?_
        refine Ends.block ?_
        refine Ends.seq ?_
        refine Ends.region ?_
        refine S.val hA (R.move rfl) rfl ?_; clear hA a; intro a hA
        refine S.val hA (R.move rfl) rfl ?_; clear hA a; intro a hA
        refine S.val hA (R.idxI rh4 (j := k) sl22 rfl rfl (by omega) (rfl)) rfl ?_; clear hA a; intro a hA
        refine S.val hA (R.loadI (rh4.mem hM) sz3 rfl (by omega)) rfl ?_; clear hA a; intro a hA
        refine S.val hA (R.move rfl) rfl ?_; clear hA a; intro a hA
        refine S.val hA (R.lenS Try.underlying22 rfl rfl) rfl ?_; clear hA a; intro a hA
        refine S.val hA (R.subI rfl rfl (r := ((X1.length : Int)) - 1) rfl (by omega)) rfl ?_; clear hA a; intro a hA
        refine S.val hA (R.move rfl) rfl ?_; clear hA a; intro a hA
        refine S.val hA (R.subI rfl rfl (r := (((X1.length : Int)) - 1) - ((k : Int))) rfl (by omega)) rfl ?_; clear hA a; intro a hA
        refine S.val hA (R.neq rfl rfl) rfl ?_; clear hA a; intro a hA
        refine S.done ?_
        replace hA : St 88 [(0, _), (4, _), (5, _), (6, _), (8, _), (65, _)] a := hA.sub ((.cons rfl (.cons rfl (.cons rfl (.cons rfl (.cons rfl (.cons rfl .nil)))))))
        refine Ends.ite hA rfl (fun hc14 => ?_) (fun hc14 => ?_)
        · exact absurd hc14 (by omega)
        ·
          refine Ends.skip ?_
          refine Ends.inBlock ?_
          refine Ends.region ?_
          refine S.val hA (R.move rfl) rfl ?_; clear hA a; intro a hA
          refine S.val hA (R.addI rfl rfl (r := ((k : Int)) + 1) rfl (by omega)) rfl ?_; clear hA a; intro a hA
          refine S.val hA (R.assign rfl) rfl ?_; clear hA a; intro a hA
          refine S.done ?_
          replace hA : St 88 [(0, _), (4, _), (5, _), (6, _), (8, _)] a := hA.sub ((.cons rfl (.cons rfl (.cons rfl (.cons rfl (.cons rfl .nil))))))
          exact hNext ((k + 1)) _ _ ((by show X1.length - (k + 1) < X1.length - k; omega)) ⟨hA.sub ((.cons rfl (.cons rfl (.cons rfl (.cons rfl (.cons rfl .nil)))))), hM, (by omega)⟩
      ·
        refine Ends.exit rfl ?_
        replace hA : St 88 [(0, _), (4, _), (5, _), (6, _)] a := hA.sub ((.cons rfl (.cons rfl (.cons rfl (.cons rfl .nil)))))
        refine Ends.seq ?_
        refine Ends.region ?_
        refine S.val hA (R.move rfl) rfl ?_; clear hA a; intro a hA
        refine S.val hA (R.tt (R.eql rfl rfl) (by first | decide | simp | omega)) rfl ?_; clear hA a; intro a hA
        refine S.val hA (R.assign rfl) rfl ?_; clear hA a; intro a hA
        refine S.done ?_
        replace hA : St 88 [(0, _), (2, _), (4, _), (6, _)] a := hA.sub ((.cons rfl (.cons rfl (.cons rfl (.cons rfl .nil)))))
        refine Ends.ret1 Try.func4 Try.results4 hA rfl ?_
        exact ⟨rfl, Mem.trans0 hbs hM.nilL⟩
    ·
      have he : er = 0 := by omega
      have hyk := nxt_yes hnx he
      have hrb := rk_bound (X := X1) (by omega)
      refine Ends.skip ?_
      refine Ends.seq ?_
      refine Ends.region ?_
      refine S.val hA (R.move rfl) rfl ?_; clear hA a; intro a hA
      refine S.call hA (R.callF Try.func15 rfl rfl rfl) rfl (rrank_ok ra8 Yn rc9 hyk.1 (by omega) _ (rh10.mem hM)) ?_; clear hA a
      rintro e w9 ⟨rfl, hb⟩
      replace hM := hM.callB hb; clear hb
      refine ⟨.tuple #[.int .i64 (((rnk Yn : Nat) : Int)), .int .i64 0], rfl, fun a hA => ?_⟩
      refine S.val hA (R.move rfl) rfl ?_; clear hA a; intro a hA
      refine S.val hA (R.extract (v := .int .i64 (((rnk Yn : Nat) : Int))) rfl rfl) rfl ?_; clear hA a; intro a hA
      refine S.val hA (R.extract (v := .int .i64 0) rfl rfl) rfl ?_; clear hA a; intro a hA
      refine S.val hA (R.assign rfl) rfl ?_; clear hA a; intro a hA
      refine S.val hA (R.assign rfl) rfl ?_; clear hA a; intro a hA
      refine S.done ?_
      replace hA : St 88 [(0, _), (4, _), (6, _), (9, _), (10, _)] a := hA.sub ((.cons rfl (.cons rfl (.cons rfl (.cons rfl (.cons rfl .nil))))))
      refine Ends.seq ?_
      refine Ends.region ?_
      refine S.val hA (R.move rfl) rfl ?_; clear hA a; intro a hA
      refine S.val hA (R.tt (R.eql rfl rfl) (by first | decide | simp | omega)) rfl ?_; clear hA a; intro a hA
      refine S.val hA (R.move rfl) rfl ?_; clear hA a; intro a hA
      refine S.valg (dj := 75) hA (by kernel_rfl) rfl (R.move rfl) rfl ?_; clear hA a; intro a hA
      refine S.valg (dj := 75) hA (by kernel_rfl) rfl (R.move rfl) rfl ?_; clear hA a; intro a hA
      refine S.valg (dj := 75) hA (by kernel_rfl) rfl (R.addI rfl rfl (r := (((rnk X1 : Nat) : Int)) + 1) rfl (by omega)) rfl ?_; clear hA a; intro a hA
      refine S.valg (dj := 75) hA (by kernel_rfl) rfl (R.tt (R.eql rfl rfl) (by omega)) rfl ?_; clear hA a; intro a hA
      refine S.val hA (R.pickT rfl rfl) rfl ?_; clear hA a; intro a hA
      refine S.val hA (R.move rfl) rfl ?_; clear hA a; intro a hA
      refine S.valg (dj := 81) hA (by kernel_rfl) rfl (R.move rfl) rfl ?_; clear hA a; intro a hA
      refine S.valg (dj := 81) hA (by kernel_rfl) rfl (R.lenS Try.underlying22 rfl rfl) rfl ?_; clear hA a; intro a hA
      refine S.valg (dj := 81) hA (by kernel_rfl) rfl (R.move rfl) rfl ?_; clear hA a; intro a hA
      refine S.valg (dj := 81) hA (by kernel_rfl) rfl (R.lenS Try.underlying22 rfl rfl) rfl ?_; clear hA a; intro a hA
      refine S.valg (dj := 81) hA (by kernel_rfl) rfl (R.tt (R.eql rfl rfl) (by omega)) rfl ?_; clear hA a; intro a hA
      refine S.val hA (R.pickT rfl rfl) rfl ?_; clear hA a; intro a hA
      refine S.val hA (R.assign rfl) rfl ?_; clear hA a; intro a hA
      refine S.done ?_
      replace hA : St 88 [(2, _)] a := hA.sub ((.cons rfl .nil))
      refine Ends.ret1 Try.func4 Try.results4 hA rfl ?_
      exact ⟨rfl, Mem.trans0 hbs hM.nilL⟩
  ·
    have hok : okP X1 = false := by simpa using hs11
    have he1 := nxt_no hnx hok
    subst he1
    refine Ends.region ?_
    refine S.call hA (R.callF Try.func11 rfl rfl rfl) rfl (orders_any _) ?_; clear hA a
    rintro e w10 ⟨rfl, hb⟩
    replace hM := hM.callB hb; clear hb
    refine ⟨.bool true, rfl, fun a hA => ?_⟩
    refine S.val hA (R.not rfl) rfl ?_; clear hA a; intro a hA
    refine S.val hA (R.move rfl) rfl ?_; clear hA a; intro a hA
    refine S.valg (dj := 22) hA (by kernel_rfl) rfl (R.move rfl) rfl ?_; clear hA a; intro a hA
    refine S.valg (dj := 22) hA (by kernel_rfl) rfl (R.move rfl) rfl ?_; clear hA a; intro a hA
    refine S.callg (dj := 22) hA (by kernel_rfl) rfl (R.callF Try.func12 rfl rfl rfl) rfl (same09_t ra2 X1 rc3 ra5 rc6 rh4.lenB _ (rh4.mem hM) (rh7.mem hM)) ?_; clear hA a
    rintro e w11 ⟨rfl, hb⟩
    replace hM := hM.callB hb; clear hb
    refine ⟨.bool true, rfl, fun a hA => ?_⟩
    refine S.valg (dj := 22) hA (by kernel_rfl) rfl (R.not rfl) rfl ?_; clear hA a; intro a hA
    refine S.val hA (R.pickF rfl rfl) rfl ?_; clear hA a; intro a hA
    refine S.val hA (R.move rfl) rfl ?_; clear hA a; intro a hA
    refine S.valg (dj := 28) hA (by kernel_rfl) rfl (R.move rfl) rfl ?_; clear hA a; intro a hA
    refine S.callg (dj := 28) hA (by kernel_rfl) rfl (R.callF Try.func14 rfl rfl rfl) rfl (ris09_b ra2 X1 rc3 (by omega) hok _ (rh4.mem hM)) ?_; clear hA a
    rintro e w12 ⟨rfl, hb⟩
    replace hM := hM.callB hb; clear hb
    refine ⟨.bool false, rfl, fun a hA => ?_⟩
    refine S.valg (dj := 28) hA (by kernel_rfl) rfl (R.not rfl) rfl ?_; clear hA a; intro a hA
    refine S.val hA (R.pickF rfl rfl) rfl ?_; clear hA a; intro a hA
    refine S.done ?_
    replace hA : St 88 [(0, _), (3, _), (4, _), (5, _), (32, _)] a := hA.sub ((.cons rfl (.cons rfl (.cons rfl (.cons rfl (.cons rfl .nil))))))
    refine Ends.condT hA rfl ?_
    refine Ends.seq ?_
    refine Ends.region ?_
    refine S.call hA (R.callF Try.func11 rfl rfl rfl) rfl (orders_any _) ?_; clear hA a
    rintro e w13 ⟨rfl, hb⟩
    replace hM := hM.callB hb; clear hb
    refine ⟨.bool true, rfl, fun a hA => ?_⟩
    refine S.val hA (R.move rfl) rfl ?_; clear hA a; intro a hA
    refine S.valg (dj := 34) hA (by kernel_rfl) rfl (R.move rfl) rfl ?_; clear hA a; intro a hA
    refine S.valg (dj := 34) hA (by kernel_rfl) rfl (R.move rfl) rfl ?_; clear hA a; intro a hA
    refine S.callg (dj := 34) hA (by kernel_rfl) rfl (R.callF Try.func12 rfl rfl rfl) rfl (same09_t ra2 X1 rc3 ra5 rc6 rh4.lenB _ (rh4.mem hM) (rh7.mem hM)) ?_; clear hA a
    rintro e w14 ⟨rfl, hb⟩
    replace hM := hM.callB hb; clear hb
    refine ⟨.bool true, rfl, fun a hA => ?_⟩
    refine S.val hA (R.pickT rfl rfl) rfl ?_; clear hA a; intro a hA
    refine S.val hA (R.move rfl) rfl ?_; clear hA a; intro a hA
    refine S.valg (dj := 39) hA (by kernel_rfl) rfl (R.move rfl) rfl ?_; clear hA a; intro a hA
    refine S.valg (dj := 39) hA (by kernel_rfl) rfl (R.tt (R.eql rfl rfl) (by first | decide | simp | omega)) rfl ?_; clear hA a; intro a hA
    refine S.val hA (R.pickT rfl rfl) rfl ?_; clear hA a; intro a hA
    refine S.val hA (R.assign rfl) rfl ?_; clear hA a; intro a hA
    refine S.done ?_
    replace hA : St 88 [(0, _), (2, _), (4, _), (5, _)] a := hA.sub ((.cons rfl (.cons rfl (.cons rfl (.cons rfl .nil)))))
    refine Ends.ret1 Try.func4 Try.results4 hA rfl ?_
    exact ⟨rfl, Mem.trans0 hbs hM.nilL⟩
theorem orderNexts_any (v : Value) (l : List Int) (w : World) (h1 : IntSl w v l) (_h2 : ∀ x ∈ l, (Lit.int .i64 x).wf = true) :
    Calls Try.prog 4 #[v] w fun e w' => e = .returned (.bool true) ∧ Below w.heap.size w w' := by
  obtain ⟨a, c, rfl⟩ := h1.form
  exact orderNexts_w a l c  w h1
theorem rkE_zero {X : List Int} (h : rkE X = 0) : okP X = true ∧ X.length ≤ 20 := by
  unfold rkE at h
  split at h
  · cases h
  · split at h
    · cases h
    · rename_i h1 h2; exact ⟨by simpa using h1, by omega⟩
theorem nth_back {X : List Int} (h : rkE X = 0) : nthV (X.length : Int) (rkV X) = X ∧ nthE (X.length : Int) (rkV X) = 0 := by
  obtain ⟨ho, hl⟩ := rkE_zero h
  have hr := rnk_lt X
  rw [rkV_ok ho hl]
  have h1 : (rnk X : Int) < ((fac X.length : Nat) : Int) := Int.ofNat_lt.2 hr
  constructor
  · unfold nthV
    rw [if_pos ⟨by omega, by omega, by omega, by rw [Int.toNat_natCast]; exact h1⟩, Int.toNat_natCast, Int.toNat_natCast]
    exact nthL_rnk _ _ _ (pl_pw _) (pl_len _) (okP_perm.1 ho)
  · unfold nthE
    rw [if_neg (by omega), if_neg (fun h9 => h9 ⟨by omega, by rw [Int.toNat_natCast]; exact h1⟩)]
theorem nthE_zero {n r : Int} (h : nthE n r = 0) : okP (nthV n r) = true ∧ (nthV n r).length ≤ 20 ∧ (rnk (nthV n r) : Int) = r := by
  unfold nthE at h
  split at h
  · cases h
  · split at h
    · cases h
    · rename_i h1 h2
      have h1' := Decidable.not_not.1 h1
      have h2' := Decidable.not_not.1 h2
      have e : nthV n r = nthL n.toNat (pl n.toNat) r.toNat := by unfold nthV; rw [if_pos ⟨h1'.1, h1'.2, h2'.1, h2'.2⟩]
      have hlt : r.toNat < fac n.toNat := by omega
      have hp := nthL_perm n.toNat (pl n.toNat) r.toNat (pl_len _) hlt
      rw [e]
      refine ⟨okP_perm.2 (by rw [nthL_len]; exact hp), by rw [nthL_len]; omega, ?_⟩
      rw [rnk_nthL _ _ _ (pl_pw _) (pl_len _) hlt]; omega
theorem rkV_lt (X : List Int) : rkV X ≤ 9223372036854775807 := by
  unfold rkV
  split
  · decide
  · rename_i h; have := rk_bound (X := X) (by omega); omega
theorem nth_b (X : List Int) (h : rkE X = 0) (w : World) : Calls Try.prog 22 #[.int .i64 (X.length : Int), .int .i64 (rkV X)] w fun e w' => ∃ a c, e = .returned (.tuple #[.slice a X.length c, .int .i64 0]) ∧ IntSl w' (.slice a X.length c) X ∧ Below w.heap.size w w' := by
  have h1 := nth09 (X.length : Int) (rkV X) (rkV_lt X) w
  rwa [(nth_back h).1, (nth_back h).2] at h1
set_option maxRecDepth 100000 in
set_option maxHeartbeats 400000 in
theorem orderRanks_w (av : Option Addr) (V : List Int) (cv : Nat) (n rk_ : Int) (hrk : rk_ ≤ 9223372036854775807) (w : World) (hv : IntSl w (.slice av V.length cv) V) :
    Calls Try.prog 7 #[.slice av V.length cv, .int .i64 n, .int .i64 rk_] w fun e w' => e = .returned (.bool true) ∧ Below w.heap.size w w' := by
  have hbs := Below.refl (B := w.heap.size) w
  have hM := Mem.start w
  refine Calls.of_ends (vs := [.slice av V.length cv, .int .i64 n, .int .i64 rk_]) Try.func7 rfl Try.ntmps7 rfl ?_
  intro a hA
  replace hA : St 97 [(0, _), (1, _), (2, _)] a := hA
  refine Ends.seq ?_
  refine Ends.region ?_
  refine S.val hA (R.assign rfl) rfl ?_; clear hA a; intro a hA
  refine S.done ?_
  replace hA : St 97 [(0, _), (1, _), (2, _)] a := hA.sub ((.cons rfl (.cons rfl (.cons rfl .nil))))
  refine Ends.seq ?_
  refine Ends.region ?_
  refine S.val hA (R.move rfl) rfl ?_; clear hA a; intro a hA
  refine S.call hA (R.callF Try.func8 rfl rfl rfl) rfl (cut09 av V cv 25 (by omega) _ (hv.mem hM)) ?_; clear hA a
  rintro e w1 ⟨X1, ra2, rc3, hYX1, hlX1, rfl, rh4, hb⟩
  replace hM := hM.callB hb; clear hb
  have hbs := hbs.trans (hM.below.mono hbs.size)
  have hv := hv.mem hM
  replace hM := Mem.start w1
  have hmX1 : ∀ x ∈ X1, x ∈ V := by rw [hYX1]; exact fun x hx => List.mem_of_mem_take hx
  refine ⟨.slice ra2 X1.length rc3, rfl, fun a hA => ?_⟩
  refine S.val hA (R.assign rfl) rfl ?_; clear hA a; intro a hA
  refine S.done ?_
  replace hA : St 97 [(0, _), (1, _), (2, _)] a := hA.sub ((.cons rfl (.cons rfl (.cons rfl .nil))))
  refine Ends.seq ?_
  refine Ends.region ?_
  refine S.val hA (R.move rfl) rfl ?_; clear hA a; intro a hA
  refine S.call hA (R.callF Try.func21 rfl rfl rfl) rfl (rank09 ra2 X1 rc3 (by omega) _ (rh4.mem hM)) ?_; clear hA a
  rintro e w2 ⟨rfl, hb⟩
  replace hM := hM.callB hb; clear hb
  refine ⟨.tuple #[.int .i64 (rkV X1), .int .i64 (rkE X1)], rfl, fun a hA => ?_⟩
  refine S.val hA (R.move rfl) rfl ?_; clear hA a; intro a hA
  refine S.val hA (R.extract (v := .int .i64 (rkV X1)) rfl rfl) rfl ?_; clear hA a; intro a hA
  refine S.val hA (R.extract (v := .int .i64 (rkE X1)) rfl rfl) rfl ?_; clear hA a; intro a hA
  refine S.val hA (R.assign rfl) rfl ?_; clear hA a; intro a hA
  refine S.val hA (R.assign rfl) rfl ?_; clear hA a; intro a hA
  refine S.done ?_
  replace hA : St 97 [(0, _), (1, _), (2, _), (7, _), (8, _)] a := hA.sub ((.cons rfl (.cons rfl (.cons rfl (.cons rfl (.cons rfl .nil))))))
  refine Ends.seq ?_
  refine Ends.region ?_
  refine S.val hA (R.move rfl) rfl ?_; clear hA a; intro a hA
  refine S.call hA (R.callF Try.func15 rfl rfl rfl) rfl (rrank09 ra2 X1 rc3 (by omega) _ (rh4.mem hM)) ?_; clear hA a
  rintro e w3 ⟨rfl, hb⟩
  replace hM := hM.callB hb; clear hb
  refine ⟨.tuple #[.int .i64 (rkV X1), .int .i64 (rkE X1)], rfl, fun a hA => ?_⟩
  refine S.val hA (R.move rfl) rfl ?_; clear hA a; intro a hA
  refine S.val hA (R.extract (v := .int .i64 (rkV X1)) rfl rfl) rfl ?_; clear hA a; intro a hA
  refine S.val hA (R.extract (v := .int .i64 (rkE X1)) rfl rfl) rfl ?_; clear hA a; intro a hA
  refine S.val hA (R.assign rfl) rfl ?_; clear hA a; intro a hA
  refine S.val hA (R.assign rfl) rfl ?_; clear hA a; intro a hA
  refine S.done ?_
  replace hA : St 97 [(0, _), (1, _), (2, _), (7, _), (8, _), (9, _), (10, _)] a := hA.sub ((.cons rfl (.cons rfl (.cons rfl (.cons rfl (.cons rfl (.cons rfl (.cons rfl .nil))))))))
  refine Ends.seq ?_
  refine Ends.region ?_
  refine S.val hA (R.move rfl) rfl ?_; clear hA a; intro a hA
  refine S.val hA (R.move rfl) rfl ?_; clear hA a; intro a hA
  refine S.call hA (R.callF Try.func22 rfl rfl rfl) rfl (nth09 n rk_ hrk _) ?_; clear hA a
  rintro e w4 ⟨ra5, rc6, rfl, rh7, hb⟩
  replace hM := hM.callB hb; clear hb
  have hbs := hbs.trans (hM.below.mono hbs.size)
  have hv := hv.mem hM
  have rh4 := rh4.mem hM
  replace hM := Mem.start w4
  refine ⟨.tuple #[.slice ra5 (((nthV n rk_)).length) rc6, .int .i64 (nthE n rk_)], rfl, fun a hA => ?_⟩
  refine S.val hA (R.move rfl) rfl ?_; clear hA a; intro a hA
  refine S.val hA (R.extract (v := .slice ra5 (((nthV n rk_)).length) rc6) rfl rfl) rfl ?_; clear hA a; intro a hA
  refine S.val hA (R.extract (v := .int .i64 (nthE n rk_)) rfl rfl) rfl ?_; clear hA a; intro a hA
  refine S.val hA (R.assign rfl) rfl ?_; clear hA a; intro a hA
  refine S.val hA (R.assign rfl) rfl ?_; clear hA a; intro a hA
  refine S.done ?_
  replace hA : St 97 [(0, _), (1, _), (2, _), (7, _), (8, _), (9, _), (10, _), (11, _), (12, _)] a := hA.sub ((.cons rfl (.cons rfl (.cons rfl (.cons rfl (.cons rfl (.cons rfl (.cons rfl (.cons rfl (.cons rfl .nil))))))))))
  refine Ends.seq ?_
  refine Ends.region ?_
  refine S.val hA (R.move rfl) rfl ?_; clear hA a; intro a hA
  refine S.val hA (R.move rfl) rfl ?_; clear hA a; intro a hA
  refine S.call hA (R.callF Try.func23 rfl rfl rfl) rfl (rnth09 n rk_ hrk _) ?_; clear hA a
  rintro e w5 ⟨ra8, rc9, rfl, rh10, hb⟩
  replace hM := hM.callB hb; clear hb
  have hbs := hbs.trans (hM.below.mono hbs.size)
  have hv := hv.mem hM
  have rh4 := rh4.mem hM
  have rh7 := rh7.mem hM
  replace hM := Mem.start w5
  refine ⟨.tuple #[.slice ra8 (((nthV n rk_)).length) rc9, .int .i64 (nthE n rk_)], rfl, fun a hA => ?_⟩
  refine S.val hA (R.move rfl) rfl ?_; clear hA a; intro a hA
  refine S.val hA (R.extract (v := .slice ra8 (((nthV n rk_)).length) rc9) rfl rfl) rfl ?_; clear hA a; intro a hA
  refine S.val hA (R.extract (v := .int .i64 (nthE n rk_)) rfl rfl) rfl ?_; clear hA a; intro a hA
  refine S.val hA (R.assign rfl) rfl ?_; clear hA a; intro a hA
  refine S.val hA (R.assign rfl) rfl ?_; clear hA a; intro a hA
  refine S.done ?_
  replace hA : St 97 [(0, _), (2, _), (7, _), (8, _), (9, _), (10, _), (11, _), (12, _), (13, _), (14, _)] a := hA.sub ((.cons rfl (.cons rfl (.cons rfl (.cons rfl (.cons rfl (.cons rfl (.cons rfl (.cons rfl (.cons rfl (.cons rfl .nil)))))))))))
  refine Ends.seq ?_
  refine Ends.seq ?_
  refine Ends.region ?_
  refine S.call hA (R.callF Try.func11 rfl rfl rfl) rfl (orders_any _) ?_; clear hA a
  rintro e w6 ⟨rfl, hb⟩
  replace hM := hM.callB hb; clear hb
  refine ⟨.bool true, rfl, fun a hA => ?_⟩
  refine S.val hA (R.not rfl) rfl ?_; clear hA a; intro a hA
  refine S.val hA (R.move rfl) rfl ?_; clear hA a; intro a hA
  refine S.valg (dj := 45) hA (by kernel_rfl) rfl (R.move rfl) rfl ?_; clear hA a; intro a hA
  refine S.valg (dj := 45) hA (by kernel_rfl) rfl (R.move rfl) rfl ?_; clear hA a; intro a hA
  refine S.valg (dj := 45) hA (by kernel_rfl) rfl (R.ff (R.neq rfl rfl) (by first | decide | simp | omega)) rfl ?_; clear hA a; intro a hA
  refine S.val hA (R.pickF rfl rfl) rfl ?_; clear hA a; intro a hA
  refine S.val hA (R.move rfl) rfl ?_; clear hA a; intro a hA
  refine S.valg (dj := 50) hA (by kernel_rfl) rfl (R.move rfl) rfl ?_; clear hA a; intro a hA
  refine S.valg (dj := 50) hA (by kernel_rfl) rfl (R.move rfl) rfl ?_; clear hA a; intro a hA
  refine S.valg (dj := 50) hA (by kernel_rfl) rfl (R.ff (R.neq rfl rfl) (by first | decide | simp | omega)) rfl ?_; clear hA a; intro a hA
  refine S.val hA (R.pickF rfl rfl) rfl ?_; clear hA a; intro a hA
  refine S.val hA (R.move rfl) rfl ?_; clear hA a; intro a hA
  refine S.valg (dj := 55) hA (by kernel_rfl) rfl (R.move rfl) rfl ?_; clear hA a; intro a hA
  refine S.valg (dj := 55) hA (by kernel_rfl) rfl (R.move rfl) rfl ?_; clear hA a; intro a hA
  refine S.valg (dj := 55) hA (by kernel_rfl) rfl (R.ff (R.neq rfl rfl) (by first | decide | simp | omega)) rfl ?_; clear hA a; intro a hA
  refine S.val hA (R.pickF rfl rfl) rfl ?_; clear hA a; intro a hA
  refine S.val hA (R.move rfl) rfl ?_; clear hA a; intro a hA
  refine S.valg (dj := 60) hA (by kernel_rfl) rfl (R.move rfl) rfl ?_; clear hA a; intro a hA
  refine S.valg (dj := 60) hA (by kernel_rfl) rfl (R.move rfl) rfl ?_; clear hA a; intro a hA
  refine S.callg (dj := 60) hA (by kernel_rfl) rfl (R.callF Try.func12 rfl rfl rfl) rfl (same09_t ra5 (nthV n rk_) rc6 ra8 rc9 rh7.lenB _ (rh7.mem hM) (rh10.mem hM)) ?_; clear hA a
  rintro e w7 ⟨rfl, hb⟩
  replace hM := hM.callB hb; clear hb
  refine ⟨.bool true, rfl, fun a hA => ?_⟩
  refine S.valg (dj := 60) hA (by kernel_rfl) rfl (R.not rfl) rfl ?_; clear hA a; intro a hA
  refine S.val hA (R.pickF rfl rfl) rfl ?_; clear hA a; intro a hA
  refine S.done ?_
  replace hA : St 97 [(0, _), (2, _), (7, _), (8, _), (11, _), (12, _), (65, _)] a := hA.sub ((.cons rfl (.cons rfl (.cons rfl (.cons rfl (.cons rfl (.cons rfl (.cons rfl .nil))))))))
  refine Ends.condF hA rfl ?_
  refine Ends.skip ?_
  refine Ends.seq ?_
  refine Ends.seq ?_
  refine Ends.region ?_
  refine S.val hA (R.move rfl) rfl ?_; clear hA a; intro a hA
  refine S.val hA (R.eql rfl rfl) rfl ?_; clear hA a; intro a hA
  refine S.done ?_
  replace hA : St 97 [(0, _), (2, _), (7, _), (11, _), (12, _), (67, _)] a := hA.sub ((.cons rfl (.cons rfl (.cons rfl (.cons rfl (.cons rfl (.cons rfl .nil)))))))
  refine Ends.ite hA rfl (fun hc11 => ?_) (fun hc11 => ?_)
  ·
    have hz := hc11
    refine Ends.seq ?_
    refine Ends.region ?_
    refine S.val hA (R.move rfl) rfl ?_; clear hA a; intro a hA
    refine S.val hA (R.lenS Try.underlying22 rfl rfl) rfl ?_; clear hA a; intro a hA
    refine S.val hA (R.move rfl) rfl ?_; clear hA a; intro a hA
    refine S.call hA (R.callF Try.func22 rfl rfl rfl) rfl (nth_b X1 hz _) ?_; clear hA a
    rintro e w8 ⟨ra12, rc13, rfl, rh14, hb⟩
    replace hM := hM.callB hb; clear hb
    have hbs := hbs.trans (hM.below.mono hbs.size)
    have hv := hv.mem hM
    have rh4 := rh4.mem hM
    have rh7 := rh7.mem hM
    have rh10 := rh10.mem hM
    replace hM := Mem.start w8
    refine ⟨.tuple #[.slice ra12 X1.length rc13, .int .i64 0], rfl, fun a hA => ?_⟩
    refine S.val hA (R.move rfl) rfl ?_; clear hA a; intro a hA
    refine S.val hA (R.extract (v := .slice ra12 X1.length rc13) rfl rfl) rfl ?_; clear hA a; intro a hA
    refine S.val hA (R.extract (v := .int .i64 0) rfl rfl) rfl ?_; clear hA a; intro a hA
    refine S.val hA (R.assign rfl) rfl ?_; clear hA a; intro a hA
    refine S.val hA (R.assign rfl) rfl ?_; clear hA a; intro a hA
    refine S.done ?_
    replace hA : St 97 [(0, _), (2, _), (11, _), (12, _), (15, _), (16, _)] a := hA.sub ((.cons rfl (.cons rfl (.cons rfl (.cons rfl (.cons rfl (.cons rfl .nil)))))))
    refine Ends.seq ?_
    refine Ends.region ?_
    refine S.val hA (R.move rfl) rfl ?_; clear hA a; intro a hA
    refine S.val hA (R.ff (R.neq rfl rfl) (by first | decide | simp | omega)) rfl ?_; clear hA a; intro a hA
    refine S.val hA (R.move rfl) rfl ?_; clear hA a; intro a hA
    refine S.valg (dj := 77) hA (by kernel_rfl) rfl (R.move rfl) rfl ?_; clear hA a; intro a hA
    refine S.valg (dj := 77) hA (by kernel_rfl) rfl (R.move rfl) rfl ?_; clear hA a; intro a hA
    refine S.callg (dj := 77) hA (by kernel_rfl) rfl (R.callF Try.func12 rfl rfl rfl) rfl (same09_t ra12 X1 rc13 ra2 rc3 rh14.lenB _ (rh14.mem hM) (rh4.mem hM)) ?_; clear hA a
    rintro e w9 ⟨rfl, hb⟩
    replace hM := hM.callB hb; clear hb
    refine ⟨.bool true, rfl, fun a hA => ?_⟩
    refine S.valg (dj := 77) hA (by kernel_rfl) rfl (R.not rfl) rfl ?_; clear hA a; intro a hA
    refine S.val hA (R.pickF rfl rfl) rfl ?_; clear hA a; intro a hA
    refine S.done ?_
    replace hA : St 97 [(2, _), (11, _), (12, _), (82, _)] a := hA.sub ((.cons rfl (.cons rfl (.cons rfl (.cons rfl .nil)))))
    refine Ends.condF hA rfl ?_
    refine Ends.skip ?_
    refine Ends.seq ?_
    refine Ends.seq ?_
    refine Ends.region ?_
    refine S.val hA (R.move rfl) rfl ?_; clear hA a; intro a hA
    refine S.val hA (R.eql rfl rfl) rfl ?_; clear hA a; intro a hA
    refine S.done ?_
    replace hA : St 97 [(2, _), (11, _), (84, _)] a := hA.sub ((.cons rfl (.cons rfl (.cons rfl .nil))))
    refine Ends.ite hA rfl (fun hc15 => ?_) (fun hc15 => ?_)
    ·
      have hnz := nthE_zero hc15
      refine Ends.seq ?_
      refine Ends.region ?_
      refine S.val hA (R.move rfl) rfl ?_; clear hA a; intro a hA
      refine S.call hA (R.callF Try.func21 rfl rfl rfl) rfl (rank_ok ra5 ((nthV n rk_)) rc6 hnz.1 hnz.2.1 _ (rh7.mem hM)) ?_; clear hA a
      rintro e w10 ⟨rfl, hb⟩
      replace hM := hM.callB hb; clear hb
      refine ⟨.tuple #[.int .i64 (((rnk ((nthV n rk_)) : Nat) : Int)), .int .i64 0], rfl, fun a hA => ?_⟩
      refine S.val hA (R.move rfl) rfl ?_; clear hA a; intro a hA
      refine S.val hA (R.extract (v := .int .i64 (((rnk ((nthV n rk_)) : Nat) : Int))) rfl rfl) rfl ?_; clear hA a; intro a hA
      refine S.val hA (R.extract (v := .int .i64 0) rfl rfl) rfl ?_; clear hA a; intro a hA
      refine S.val hA (R.assign rfl) rfl ?_; clear hA a; intro a hA
      refine S.val hA (R.assign rfl) rfl ?_; clear hA a; intro a hA
      refine S.done ?_
      replace hA : St 97 [(2, _), (17, _), (18, _)] a := hA.sub ((.cons rfl (.cons rfl (.cons rfl .nil))))
      refine Ends.seq ?_
      refine Ends.region ?_
      refine S.val hA (R.move rfl) rfl ?_; clear hA a; intro a hA
      refine S.val hA (R.tt (R.eql rfl rfl) (by first | decide | simp | omega)) rfl ?_; clear hA a; intro a hA
      refine S.val hA (R.move rfl) rfl ?_; clear hA a; intro a hA
      refine S.valg (dj := 92) hA (by kernel_rfl) rfl (R.move rfl) rfl ?_; clear hA a; intro a hA
      refine S.valg (dj := 92) hA (by kernel_rfl) rfl (R.move rfl) rfl ?_; clear hA a; intro a hA
      refine S.valg (dj := 92) hA (by kernel_rfl) rfl (R.tt (R.eql rfl rfl) (by omega)) rfl ?_; clear hA a; intro a hA
      refine S.val hA (R.pickT rfl rfl) rfl ?_; clear hA a; intro a hA
      refine S.val hA (R.assign rfl) rfl ?_; clear hA a; intro a hA
      refine S.done ?_
      replace hA : St 97 [(6, _)] a := hA.sub ((.cons rfl .nil))
      refine Ends.ret1 Try.func7 Try.results7 hA rfl ?_
      exact ⟨rfl, Mem.trans0 hbs hM.nilL⟩
    ·
      refine Ends.skip ?_
      refine Ends.seq ?_
      refine Ends.region ?_
      refine S.val hA (R.assign rfl) rfl ?_; clear hA a; intro a hA
      refine S.done ?_
      replace hA : St 97 [(6, _)] a := hA.sub ((.cons rfl .nil))
      refine Ends.ret1 Try.func7 Try.results7 hA rfl ?_
      exact ⟨rfl, Mem.trans0 hbs hM.nilL⟩
  ·
    refine Ends.skip ?_
    refine Ends.seq ?_
    refine Ends.seq ?_
    refine Ends.region ?_
    refine S.val hA (R.move rfl) rfl ?_; clear hA a; intro a hA
    refine S.val hA (R.eql rfl rfl) rfl ?_; clear hA a; intro a hA
    refine S.done ?_
    replace hA : St 97 [(2, _), (11, _), (84, _)] a := hA.sub ((.cons rfl (.cons rfl (.cons rfl .nil))))
    refine Ends.ite hA rfl (fun hc16 => ?_) (fun hc16 => ?_)
    ·
      have hnz := nthE_zero hc16
      refine Ends.seq ?_
      refine Ends.region ?_
      refine S.val hA (R.move rfl) rfl ?_; clear hA a; intro a hA
      refine S.call hA (R.callF Try.func21 rfl rfl rfl) rfl (rank_ok ra5 ((nthV n rk_)) rc6 hnz.1 hnz.2.1 _ (rh7.mem hM)) ?_; clear hA a
      rintro e w11 ⟨rfl, hb⟩
      replace hM := hM.callB hb; clear hb
      refine ⟨.tuple #[.int .i64 (((rnk ((nthV n rk_)) : Nat) : Int)), .int .i64 0], rfl, fun a hA => ?_⟩
      refine S.val hA (R.move rfl) rfl ?_; clear hA a; intro a hA
      refine S.val hA (R.extract (v := .int .i64 (((rnk ((nthV n rk_)) : Nat) : Int))) rfl rfl) rfl ?_; clear hA a; intro a hA
      refine S.val hA (R.extract (v := .int .i64 0) rfl rfl) rfl ?_; clear hA a; intro a hA
      refine S.val hA (R.assign rfl) rfl ?_; clear hA a; intro a hA
      refine S.val hA (R.assign rfl) rfl ?_; clear hA a; intro a hA
      refine S.done ?_
      replace hA : St 97 [(2, _), (17, _), (18, _)] a := hA.sub ((.cons rfl (.cons rfl (.cons rfl .nil))))
      refine Ends.seq ?_
      refine Ends.region ?_
      refine S.val hA (R.move rfl) rfl ?_; clear hA a; intro a hA
      refine S.val hA (R.tt (R.eql rfl rfl) (by first | decide | simp | omega)) rfl ?_; clear hA a; intro a hA
      refine S.val hA (R.move rfl) rfl ?_; clear hA a; intro a hA
      refine S.valg (dj := 92) hA (by kernel_rfl) rfl (R.move rfl) rfl ?_; clear hA a; intro a hA
      refine S.valg (dj := 92) hA (by kernel_rfl) rfl (R.move rfl) rfl ?_; clear hA a; intro a hA
      refine S.valg (dj := 92) hA (by kernel_rfl) rfl (R.tt (R.eql rfl rfl) (by omega)) rfl ?_; clear hA a; intro a hA
      refine S.val hA (R.pickT rfl rfl) rfl ?_; clear hA a; intro a hA
      refine S.val hA (R.assign rfl) rfl ?_; clear hA a; intro a hA
      refine S.done ?_
      replace hA : St 97 [(6, _)] a := hA.sub ((.cons rfl .nil))
      refine Ends.ret1 Try.func7 Try.results7 hA rfl ?_
      exact ⟨rfl, Mem.trans0 hbs hM.nilL⟩
    ·
      refine Ends.skip ?_
      refine Ends.seq ?_
      refine Ends.region ?_
      refine S.val hA (R.assign rfl) rfl ?_; clear hA a; intro a hA
      refine S.done ?_
      replace hA : St 97 [(6, _)] a := hA.sub ((.cons rfl .nil))
      refine Ends.ret1 Try.func7 Try.results7 hA rfl ?_
      exact ⟨rfl, Mem.trans0 hbs hM.nilL⟩
theorem orderRanks_any (v : Value) (l : List Int) (n rk_ : Int) (w : World) (h1 : IntSl w v l) (_h2 : ∀ x ∈ l, (Lit.int .i64 x).wf = true) (_h3 : (Lit.int .i64 n).wf = true) (h4 : (Lit.int .i64 rk_).wf = true) :
    Calls Try.prog 7 #[v, .int .i64 n, .int .i64 rk_] w fun e w' => e = .returned (.bool true) ∧ Below w.heap.size w w' := by
  obtain ⟨a, c, rfl⟩ := h1.form
  exact orderRanks_w a l c n rk_ (bd_i64 h4).2 w h1
theorem inv_no {X Y : List Int} {er : Int} (h : invR X Y er) (ho : okP X = false) : er = 1 := by
  rcases h with ⟨-, h, -⟩ | ⟨h, -⟩
  · exact h
  · rw [ho] at h; cases h
theorem inv_yes {X Y : List Int} {er : Int} (h : invR X Y er) (ho : okP X = true) : er = 0 ∧ Y.length = X.length ∧ okP Y = true ∧ ∀ k, k < X.length → Y.getD (X.getD k 0).toNat 0 = (k : Int) ∧ X.getD (Y.getD k 0).toNat 0 = (k : Int) := by
  rcases h with ⟨h, -⟩ | ⟨-, h2, h3, h4⟩
  · rw [ho] at h; cases h
  have hsur : ∀ j, j < X.length → ∃ k, k < X.length ∧ X.getD k 0 = (j : Int) := fun j hj => by
    have hm := (okP_perm.1 ho).mem_iff.2 (mem_pl.2 (show 0 ≤ (j : Int) ∧ (j : Int) < X.length by omega))
    obtain ⟨k, hk, e⟩ := List.mem_iff_getElem.1 hm
    exact ⟨k, hk, by simp [List.getD, hk, e]⟩
  have hY : ∀ j, j < X.length → ∃ k, k < X.length ∧ X.getD k 0 = (j : Int) ∧ Y.getD j 0 = (k : Int) := fun j hj => by
    obtain ⟨k, hk, e⟩ := hsur j hj
    have := h4 k hk
    rw [e, Int.toNat_natCast] at this
    exact ⟨k, hk, e, this⟩
  refine ⟨h2, h3, ?_, fun k hk => ⟨h4 k hk, ?_⟩⟩
  · refine decide_eq_true ⟨?_, fun x hx => ?_⟩
    · refine List.pairwise_iff_getElem.2 fun i j hi hj hij e => ?_
      obtain ⟨k1, q1, q2, q3⟩ := hY i (by omega)
      obtain ⟨k2, p1, p2, p3⟩ := hY j (by omega)
      have e1 : Y.getD i 0 = Y.getD j 0 := by simp [List.getD, hi, hj, e]
      have : k1 = k2 := by omega
      rw [this, p2] at q2; omega
    · obtain ⟨j, hj, rfl⟩ := List.mem_iff_getElem.1 hx
      obtain ⟨k, q1, -, q3⟩ := hY j (by omega)
      have : Y.getD j 0 = Y[j] := by simp [List.getD, hj]
      omega
  · obtain ⟨k1, q1, q2, q3⟩ := hY k hk
    rw [q3, Int.toNat_natCast, q2]
theorem then_no {X Z Y : List Int} {er : Int} (h : thenR X Z Y er) (ho : ¬ (okP X = true ∧ okP Z = true ∧ X.length = Z.length)) : er = 1 := by
  rcases h with ⟨-, h, -⟩ | ⟨h, -⟩
  · exact h
  · exact absurd h ho
theorem then_yes {X Z Y : List Int} {er : Int} (h : thenR X Z Y er) (ho : okP X = true ∧ okP Z = true ∧ X.length = Z.length) : er = 0 ∧ Y.length = X.length ∧ ∀ k, k < X.length → Y.getD k 0 = X.getD (Z.getD k 0).toNat 0 := by
  rcases h with ⟨h, -⟩ | ⟨-, h⟩
  · exact absurd ho h
  · exact h
set_option maxRecDepth 100000 in
set_option maxHeartbeats 400000 in
theorem orderTurns_w (av : Option Addr) (V : List Int) (cv : Nat) (au : Option Addr) (U : List Int) (cu : Nat) (w : World) (hv : IntSl w (.slice av V.length cv) V) (hu : IntSl w (.slice au U.length cu) U) :
    Calls Try.prog 6 #[.slice av V.length cv, .slice au U.length cu] w fun e w' => e = .returned (.bool true) ∧ Below w.heap.size w w' := by
  have hbs := Below.refl (B := w.heap.size) w
  have hM := Mem.start w
  refine Calls.of_ends (vs := [.slice av V.length cv, .slice au U.length cu]) Try.func6 rfl Try.ntmps6 rfl ?_
  intro a hA
  replace hA : St 133 [(0, _), (1, _)] a := hA
  refine Ends.seq ?_
  refine Ends.region ?_
  refine S.val hA (R.assign rfl) rfl ?_; clear hA a; intro a hA
  refine S.done ?_
  replace hA : St 133 [(0, _), (1, _)] a := hA.sub ((.cons rfl (.cons rfl .nil)))
  refine Ends.seq ?_
  refine Ends.region ?_
  refine S.val hA (R.move rfl) rfl ?_; clear hA a; intro a hA
  refine S.call hA (R.callF Try.func8 rfl rfl rfl) rfl (cut09 av V cv 60 (by omega) _ (hv.mem hM)) ?_; clear hA a
  rintro e w1 ⟨X1, ra2, rc3, hYX1, hlX1, rfl, rh4, hb⟩
  replace hM := hM.callB hb; clear hb
  have hbs := hbs.trans (hM.below.mono hbs.size)
  have hv := hv.mem hM
  have hu := hu.mem hM
  replace hM := Mem.start w1
  have hmX1 : ∀ x ∈ X1, x ∈ V := by rw [hYX1]; exact fun x hx => List.mem_of_mem_take hx
  refine ⟨.slice ra2 X1.length rc3, rfl, fun a hA => ?_⟩
  refine S.val hA (R.move rfl) rfl ?_; clear hA a; intro a hA
  refine S.call hA (R.callF Try.func8 rfl rfl rfl) rfl (cut09 au U cu 60 (by omega) _ (hu.mem hM)) ?_; clear hA a
  rintro e w2 ⟨X5, ra6, rc7, hYX5, hlX5, rfl, rh8, hb⟩
  replace hM := hM.callB hb; clear hb
  have hbs := hbs.trans (hM.below.mono hbs.size)
  have hv := hv.mem hM
  have hu := hu.mem hM
  have rh4 := rh4.mem hM
  replace hM := Mem.start w2
  have hmX5 : ∀ x ∈ X5, x ∈ U := by rw [hYX5]; exact fun x hx => List.mem_of_mem_take hx
  refine ⟨.slice ra6 X5.length rc7, rfl, fun a hA => ?_⟩
  refine S.val hA (R.assign rfl) rfl ?_; clear hA a; intro a hA
  refine S.val hA (R.assign rfl) rfl ?_; clear hA a; intro a hA
  refine S.done ?_
  replace hA : St 133 [(0, _), (1, _)] a := hA.sub ((.cons rfl (.cons rfl .nil)))
  refine Ends.seq ?_
  refine Ends.region ?_
  refine S.val hA (R.move rfl) rfl ?_; clear hA a; intro a hA
  refine S.call hA (R.callF Try.func19 rfl rfl rfl) rfl (inv09 ra2 X1 rc3 (by omega) _ (rh4.mem hM)) ?_; clear hA a
  rintro e w3 ⟨Yi, er1, hiv, ra9, rc10, rfl, rh11, hb⟩
  replace hM := hM.callB hb; clear hb
  have hbs := hbs.trans (hM.below.mono hbs.size)
  have hv := hv.mem hM
  have hu := hu.mem hM
  have rh4 := rh4.mem hM
  have rh8 := rh8.mem hM
  replace hM := Mem.start w3
  refine ⟨.tuple #[.slice ra9 Yi.length rc10, .int .i64 er1], rfl, fun a hA => ?_⟩
  refine S.val hA (R.move rfl) rfl ?_; clear hA a; intro a hA
  refine S.val hA (R.extract (v := .slice ra9 Yi.length rc10) rfl rfl) rfl ?_; clear hA a; intro a hA
  refine S.val hA (R.extract (v := .int .i64 er1) rfl rfl) rfl ?_; clear hA a; intro a hA
  refine S.val hA (R.assign rfl) rfl ?_; clear hA a; intro a hA
  refine S.val hA (R.assign rfl) rfl ?_; clear hA a; intro a hA
  refine S.done ?_
  replace hA : St 133 [(0, _), (1, _), (5, _), (6, _)] a := hA.sub ((.cons rfl (.cons rfl (.cons rfl (.cons rfl .nil)))))
  refine Ends.seq ?_
  refine Ends.region ?_
  refine S.val hA (R.move rfl) rfl ?_; clear hA a; intro a hA
  refine S.val hA (R.move rfl) rfl ?_; clear hA a; intro a hA
  refine S.call hA (R.callF Try.func20 rfl rfl rfl) rfl (then09 ra2 X1 rc3 ra6 X5 rc7 (by omega) (by omega) _ (rh4.mem hM) (rh8.mem hM)) ?_; clear hA a
  rintro e w4 ⟨Yt, er2, hth, ra12, rc13, rfl, rh14, hb⟩
  replace hM := hM.callB hb; clear hb
  have hbs := hbs.trans (hM.below.mono hbs.size)
  have hv := hv.mem hM
  have hu := hu.mem hM
  have rh4 := rh4.mem hM
  have rh8 := rh8.mem hM
  have rh11 := rh11.mem hM
  replace hM := Mem.start w4
  refine ⟨.tuple #[.slice ra12 Yt.length rc13, .int .i64 er2], rfl, fun a hA => ?_⟩
  refine S.val hA (R.move rfl) rfl ?_; clear hA a; intro a hA
  refine S.val hA (R.extract (v := .slice ra12 Yt.length rc13) rfl rfl) rfl ?_; clear hA a; intro a hA
  refine S.val hA (R.extract (v := .int .i64 er2) rfl rfl) rfl ?_; clear hA a; intro a hA
  refine S.val hA (R.assign rfl) rfl ?_; clear hA a; intro a hA
  refine S.val hA (R.assign rfl) rfl ?_; clear hA a; intro a hA
  refine S.done ?_
  replace hA : St 133 [(0, _), (1, _), (5, _), (6, _), (7, _), (8, _)] a := hA.sub ((.cons rfl (.cons rfl (.cons rfl (.cons rfl (.cons rfl (.cons rfl .nil)))))))
  refine Ends.seq ?_
  refine Ends.seq ?_
  by_cases hs15 : okP X1 = true
  ·
    by_cases hs16 : okP X5 = true
    ·
      by_cases hs17 : X1.length = X5.length
      ·
        have hokx : okP X1 = true := hs15
        have hokz : okP X5 = true := hs16
        have hln := hs17
        obtain ⟨he1, hil, hiy0, hif⟩ := inv_yes hiv hokx
        have hiy := And.intro hiy0 True.intro
        subst he1
        obtain ⟨he2, htl, htf⟩ := then_yes hth ⟨hokx, hokz, hln⟩
        subst he2
        refine Ends.region ?_
        refine S.call hA (R.callF Try.func11 rfl rfl rfl) rfl (orders_any _) ?_; clear hA a
        rintro e w5 ⟨rfl, hb⟩
        replace hM := hM.callB hb; clear hb
        refine ⟨.bool true, rfl, fun a hA => ?_⟩
        refine S.val hA (R.not rfl) rfl ?_; clear hA a; intro a hA
        refine S.val hA (R.move rfl) rfl ?_; clear hA a; intro a hA
        refine S.valg (dj := 30) hA (by kernel_rfl) rfl (R.move rfl) rfl ?_; clear hA a; intro a hA
        refine S.callg (dj := 30) hA (by kernel_rfl) rfl (R.callF Try.func18 rfl rfl rfl) rfl (is09_b ra2 X1 rc3 (by omega) hokx _ (rh4.mem hM)) ?_; clear hA a
        rintro e w6 ⟨rfl, hb⟩
        replace hM := hM.callB hb; clear hb
        refine ⟨.bool true, rfl, fun a hA => ?_⟩
        refine S.valg (dj := 30) hA (by kernel_rfl) rfl (R.move rfl) rfl ?_; clear hA a; intro a hA
        refine S.callg (dj := 30) hA (by kernel_rfl) rfl (R.callF Try.func14 rfl rfl rfl) rfl (ris09_b ra2 X1 rc3 (by omega) hokx _ (rh4.mem hM)) ?_; clear hA a
        rintro e w7 ⟨rfl, hb⟩
        replace hM := hM.callB hb; clear hb
        refine ⟨.bool true, rfl, fun a hA => ?_⟩
        refine S.valg (dj := 30) hA (by kernel_rfl) rfl (R.to (v := .bool false) (R.neqB Try.underlying4 rfl rfl) (congrArg Value.bool (by simp))) rfl ?_; clear hA a; intro a hA
        refine S.val hA (R.pickF rfl rfl) rfl ?_; clear hA a; intro a hA
        refine S.val hA (R.move rfl) rfl ?_; clear hA a; intro a hA
        refine S.valg (dj := 37) hA (by kernel_rfl) rfl (R.move rfl) rfl ?_; clear hA a; intro a hA
        refine S.valg (dj := 37) hA (by kernel_rfl) rfl (R.tt (R.eql rfl rfl) (by first | decide | simp | omega)) rfl ?_; clear hA a; intro a hA
        refine S.valg (dj := 37) hA (by kernel_rfl) rfl (R.move rfl) rfl ?_; clear hA a; intro a hA
        refine S.callg (dj := 37) hA (by kernel_rfl) rfl (R.callF Try.func14 rfl rfl rfl) rfl (ris09_b ra2 X1 rc3 (by omega) hokx _ (rh4.mem hM)) ?_; clear hA a
        rintro e w8 ⟨rfl, hb⟩
        replace hM := hM.callB hb; clear hb
        refine ⟨.bool true, rfl, fun a hA => ?_⟩
        refine S.valg (dj := 37) hA (by kernel_rfl) rfl (R.to (v := .bool false) (R.neqB Try.underlying4 rfl rfl) (congrArg Value.bool (by simp))) rfl ?_; clear hA a; intro a hA
        refine S.val hA (R.pickF rfl rfl) rfl ?_; clear hA a; intro a hA
        refine S.val hA (R.move rfl) rfl ?_; clear hA a; intro a hA
        refine S.valg (dj := 44) hA (by kernel_rfl) rfl (R.move rfl) rfl ?_; clear hA a; intro a hA
        refine S.valg (dj := 44) hA (by kernel_rfl) rfl (R.tt (R.eql rfl rfl) (by first | decide | simp | omega)) rfl ?_; clear hA a; intro a hA
        refine S.valg (dj := 44) hA (by kernel_rfl) rfl (R.move rfl) rfl ?_; clear hA a; intro a hA
        refine S.callg (dj := 44) hA (by kernel_rfl) rfl (R.callF Try.func14 rfl rfl rfl) rfl (ris09_b ra2 X1 rc3 (by omega) hokx _ (rh4.mem hM)) ?_; clear hA a
        rintro e w9 ⟨rfl, hb⟩
        replace hM := hM.callB hb; clear hb
        refine ⟨.bool true, rfl, fun a hA => ?_⟩
        refine S.valg (dj := 44) hA (by kernel_rfl) rfl (R.move rfl) rfl ?_; clear hA a; intro a hA
        refine S.valg (dj := 49) hA (by kernel_rfl) rfl (R.move rfl) rfl ?_; clear hA a; intro a hA
        refine S.callg (dj := 49) hA (by kernel_rfl) rfl (R.callF Try.func14 rfl rfl rfl) rfl (ris09_b ra6 X5 rc7 (by omega) hokz _ (rh8.mem hM)) ?_; clear hA a
        rintro e w10 ⟨rfl, hb⟩
        replace hM := hM.callB hb; clear hb
        refine ⟨.bool true, rfl, fun a hA => ?_⟩
        refine S.valg (dj := 44) hA (by kernel_rfl) rfl (R.pickT rfl rfl) rfl ?_; clear hA a; intro a hA
        refine S.valg (dj := 44) hA (by kernel_rfl) rfl (R.move rfl) rfl ?_; clear hA a; intro a hA
        refine S.valg (dj := 53) hA (by kernel_rfl) rfl (R.move rfl) rfl ?_; clear hA a; intro a hA
        refine S.valg (dj := 53) hA (by kernel_rfl) rfl (R.lenS Try.underlying22 rfl rfl) rfl ?_; clear hA a; intro a hA
        refine S.valg (dj := 53) hA (by kernel_rfl) rfl (R.move rfl) rfl ?_; clear hA a; intro a hA
        refine S.valg (dj := 53) hA (by kernel_rfl) rfl (R.lenS Try.underlying22 rfl rfl) rfl ?_; clear hA a; intro a hA
        refine S.valg (dj := 53) hA (by kernel_rfl) rfl (R.tt (R.eql rfl rfl) (by omega)) rfl ?_; clear hA a; intro a hA
        refine S.valg (dj := 44) hA (by kernel_rfl) rfl (R.pickT rfl rfl) rfl ?_; clear hA a; intro a hA
        refine S.valg (dj := 44) hA (by kernel_rfl) rfl (R.to (v := .bool false) (R.neqB Try.underlying4 rfl rfl) (congrArg Value.bool (by simp))) rfl ?_; clear hA a; intro a hA
        refine S.val hA (R.pickF rfl rfl) rfl ?_; clear hA a; intro a hA
        refine S.val hA (R.move rfl) rfl ?_; clear hA a; intro a hA
        refine S.valg (dj := 62) hA (by kernel_rfl) rfl (R.move rfl) rfl ?_; clear hA a; intro a hA
        refine S.valg (dj := 62) hA (by kernel_rfl) rfl (R.ff (R.neq rfl rfl) (by first | decide | simp | omega)) rfl ?_; clear hA a; intro a hA
        refine S.valg (dj := 62) hA (by kernel_rfl) rfl (R.move rfl) rfl ?_; clear hA a; intro a hA
        refine S.no (dj := 65) hA (by kernel_rfl) rfl rfl rfl ?_; clear hA a; intro a hA
        refine S.no (dj := 65) hA (by kernel_rfl) rfl rfl rfl ?_; clear hA a; intro a hA
        refine S.valg (dj := 62) hA (by kernel_rfl) rfl (R.pickF rfl rfl) rfl ?_; clear hA a; intro a hA
        refine S.val hA (R.pickF rfl rfl) rfl ?_; clear hA a; intro a hA
        refine S.val hA (R.move rfl) rfl ?_; clear hA a; intro a hA
        refine S.valg (dj := 70) hA (by kernel_rfl) rfl (R.move rfl) rfl ?_; clear hA a; intro a hA
        refine S.valg (dj := 70) hA (by kernel_rfl) rfl (R.ff (R.neq rfl rfl) (by first | decide | simp | omega)) rfl ?_; clear hA a; intro a hA
        refine S.valg (dj := 70) hA (by kernel_rfl) rfl (R.move rfl) rfl ?_; clear hA a; intro a hA
        refine S.no (dj := 73) hA (by kernel_rfl) rfl rfl rfl ?_; clear hA a; intro a hA
        refine S.no (dj := 73) hA (by kernel_rfl) rfl rfl rfl ?_; clear hA a; intro a hA
        refine S.valg (dj := 70) hA (by kernel_rfl) rfl (R.pickF rfl rfl) rfl ?_; clear hA a; intro a hA
        refine S.val hA (R.pickF rfl rfl) rfl ?_; clear hA a; intro a hA
        refine S.done ?_
        replace hA : St 133 [(0, _), (1, _), (5, _), (6, _), (7, _), (8, _), (77, _)] a := hA.sub ((.cons rfl (.cons rfl (.cons rfl (.cons rfl (.cons rfl (.cons rfl (.cons rfl .nil))))))))
        refine Ends.condF hA rfl ?_
        refine Ends.skip ?_
        refine Ends.seq ?_
        refine Ends.seq ?_
        refine Ends.region ?_
        refine S.val hA (R.move rfl) rfl ?_; clear hA a; intro a hA
        refine S.val hA (R.tt (R.eql rfl rfl) (by first | decide | simp | omega)) rfl ?_; clear hA a; intro a hA
        refine S.done ?_
        replace hA : St 133 [(0, _), (1, _), (5, _), (7, _), (8, _), (79, _)] a := hA.sub ((.cons rfl (.cons rfl (.cons rfl (.cons rfl (.cons rfl (.cons rfl .nil)))))))
        refine Ends.condT hA rfl ?_
        refine Ends.seq ?_
        refine Ends.region ?_
        refine S.val hA (R.move rfl) rfl ?_; clear hA a; intro a hA
        refine S.val hA (R.move rfl) rfl ?_; clear hA a; intro a hA
        refine S.call hA (R.callF Try.func20 rfl rfl rfl) rfl (then09 ra2 X1 rc3 ra9 Yi rc10 (by omega) (by omega) _ (rh4.mem hM) (rh11.mem hM)) ?_; clear hA a
        rintro e w11 ⟨Yb, er3, htb, ra18, rc19, rfl, rh20, hb⟩
        replace hM := hM.callB hb; clear hb
        have hbs := hbs.trans (hM.below.mono hbs.size)
        have hv := hv.mem hM
        have hu := hu.mem hM
        have rh4 := rh4.mem hM
        have rh8 := rh8.mem hM
        have rh11 := rh11.mem hM
        have rh14 := rh14.mem hM
        replace hM := Mem.start w11
        obtain ⟨he3, hbl, hbf⟩ := then_yes htb ⟨hokx, hiy.1, hil.symm⟩
        subst he3
        refine ⟨.tuple #[.slice ra18 Yb.length rc19, .int .i64 0], rfl, fun a hA => ?_⟩
        refine S.val hA (R.move rfl) rfl ?_; clear hA a; intro a hA
        refine S.val hA (R.extract (v := .slice ra18 Yb.length rc19) rfl rfl) rfl ?_; clear hA a; intro a hA
        refine S.val hA (R.extract (v := .int .i64 0) rfl rfl) rfl ?_; clear hA a; intro a hA
        refine S.val hA (R.assign rfl) rfl ?_; clear hA a; intro a hA
        refine S.val hA (R.assign rfl) rfl ?_; clear hA a; intro a hA
        refine S.done ?_
        replace hA : St 133 [(0, _), (1, _), (5, _), (7, _), (8, _), (9, _), (10, _)] a := hA.sub ((.cons rfl (.cons rfl (.cons rfl (.cons rfl (.cons rfl (.cons rfl (.cons rfl .nil))))))))
        refine Ends.seq ?_
        refine Ends.region ?_
        refine S.val hA (R.assign rfl) rfl ?_; clear hA a; intro a hA
        refine S.done ?_
        replace hA : St 133 [(0, _), (1, _), (5, _), (7, _), (8, _), (9, _), (10, _), (11, _)] a := hA.sub ((.cons rfl (.cons rfl (.cons rfl (.cons rfl (.cons rfl (.cons rfl (.cons rfl (.cons rfl .nil)))))))))
        refine Ends.block ?_
        refine Ends.loop (σ := Nat) (fun k (a : Act) (wv : World) => St 133 [(0, .slice ra2 X1.length rc3), (1, .slice ra6 X5.length rc7), (5, .slice ra9 Yi.length rc10), (7, .slice ra12 Yt.length rc13), (8, .int .i64 0), (9, .slice ra18 Yb.length rc19), (10, .int .i64 0), (11, .int .i64 ((k : Int)))] a ∧ Mem w11 nof [] wv ∧ (k ≤ X1.length)) (fun k => X1.length - k) 0 ⟨hA.sub ((.cons rfl (.cons rfl (.cons rfl (.cons rfl (.cons rfl (.cons rfl (.cons rfl (.cons rfl .nil))))))))), hM, (Nat.zero_le _)⟩ ?_
        clear hA hM a
        rintro k a w12 ⟨hA, hM, hk⟩ hNext
        refine Ends.seq ?_
        refine Ends.seq ?_
        refine Ends.region ?_
        refine S.val hA (R.move rfl) rfl ?_; clear hA a; intro a hA
        refine S.val hA (R.move rfl) rfl ?_; clear hA a; intro a hA
        refine S.val hA (R.lenS Try.underlying22 rfl rfl) rfl ?_; clear hA a; intro a hA
        refine S.val hA (R.lss rfl rfl) rfl ?_; clear hA a; intro a hA
        refine S.done ?_
        replace hA : St 133 [(0, _), (1, _), (5, _), (7, _), (8, _), (9, _), (10, _), (11, _), (89, _)] a := hA.sub ((.cons rfl (.cons rfl (.cons rfl (.cons rfl (.cons rfl (.cons rfl (.cons rfl (.cons rfl (.cons rfl .nil))))))))))
        refine Ends.ite hA rfl (fun hc21 => ?_) (fun hc21 => ?_)
        ·
          refine Ends.skip ?_
          refine Ends.seq ?_
          refine Ends.block ?_
          refine Ends.seq ?_
          have hrg := ok_rng hokx (show k < X1.length by omega)
          have hi1 := (hif k (by omega)).1
          have hi2 := hbf k (by omega)
          rw [(hif k (by omega)).2] at hi2
          refine Ends.region ?_
          refine S.val hA (R.move rfl) rfl ?_; clear hA a; intro a hA
          refine S.val hA (R.move rfl) rfl ?_; clear hA a; intro a hA
          refine S.val hA (R.move rfl) rfl ?_; clear hA a; intro a hA
          refine S.val hA (R.idxI rh4 (j := k) sl22 rfl rfl (by omega) (rfl)) rfl ?_; clear hA a; intro a hA
          refine S.val hA (R.loadI (rh4.mem hM) sz3 rfl (by omega)) rfl ?_; clear hA a; intro a hA
          refine S.val hA (R.idxI rh11 (j := (X1.getD k 0).toNat) sl22 rfl rfl (by omega) (rfl)) rfl ?_; clear hA a; intro a hA
          refine S.val hA (R.loadI (rh11.mem hM) sz3 rfl (by omega)) rfl ?_; clear hA a; intro a hA
          refine S.val hA (R.move rfl) rfl ?_; clear hA a; intro a hA
          refine S.val hA (R.ff (R.neq rfl rfl) (by omega)) rfl ?_; clear hA a; intro a hA
          refine S.val hA (R.move rfl) rfl ?_; clear hA a; intro a hA
          refine S.valg (dj := 101) hA (by kernel_rfl) rfl (R.move rfl) rfl ?_; clear hA a; intro a hA
          refine S.valg (dj := 101) hA (by kernel_rfl) rfl (R.ff (R.neq rfl rfl) (by first | decide | simp | omega)) rfl ?_; clear hA a; intro a hA
          refine S.val hA (R.pickF rfl rfl) rfl ?_; clear hA a; intro a hA
          refine S.val hA (R.move rfl) rfl ?_; clear hA a; intro a hA
          refine S.valg (dj := 105) hA (by kernel_rfl) rfl (R.move rfl) rfl ?_; clear hA a; intro a hA
          refine S.valg (dj := 105) hA (by kernel_rfl) rfl (R.move rfl) rfl ?_; clear hA a; intro a hA
          refine S.valg (dj := 105) hA (by kernel_rfl) rfl (R.idxI rh20 (j := k) sl22 rfl rfl (by omega) (rfl)) rfl ?_; clear hA a; intro a hA
          refine S.valg (dj := 105) hA (by kernel_rfl) rfl (R.loadI (rh20.mem hM) sz3 rfl (by omega)) rfl ?_; clear hA a; intro a hA
          refine S.valg (dj := 105) hA (by kernel_rfl) rfl (R.move rfl) rfl ?_; clear hA a; intro a hA
          refine S.valg (dj := 105) hA (by kernel_rfl) rfl (R.ff (R.neq rfl rfl) (by omega)) rfl ?_; clear hA a; intro a hA
          refine S.val hA (R.pickF rfl rfl) rfl ?_; clear hA a; intro a hA
          refine S.done ?_
          replace hA : St 133 [(0, _), (1, _), (5, _), (7, _), (8, _), (9, _), (10, _), (11, _), (112, _)] a := hA.sub ((.cons rfl (.cons rfl (.cons rfl (.cons rfl (.cons rfl (.cons rfl (.cons rfl (.cons rfl (.cons rfl .nil))))))))))
          refine Ends.condF hA rfl ?_
          refine Ends.skip ?_
          refine Ends.inBlock ?_
          refine Ends.region ?_
          refine S.val hA (R.move rfl) rfl ?_; clear hA a; intro a hA
          refine S.val hA (R.addI rfl rfl (r := ((k : Int)) + 1) rfl (by omega)) rfl ?_; clear hA a; intro a hA
          refine S.val hA (R.assign rfl) rfl ?_; clear hA a; intro a hA
          refine S.done ?_
          replace hA : St 133 [(0, _), (1, _), (5, _), (7, _), (8, _), (9, _), (10, _), (11, _)] a := hA.sub ((.cons rfl (.cons rfl (.cons rfl (.cons rfl (.cons rfl (.cons rfl (.cons rfl (.cons rfl .nil)))))))))
          exact hNext ((k + 1)) _ _ ((by show X1.length - (k + 1) < X1.length - k; omega)) ⟨hA.sub ((.cons rfl (.cons rfl (.cons rfl (.cons rfl (.cons rfl (.cons rfl (.cons rfl (.cons rfl .nil))))))))), hM, (by omega)⟩
        ·
          refine Ends.exit rfl ?_
          replace hA : St 133 [(0, _), (1, _), (7, _), (8, _)] a := hA.sub ((.cons rfl (.cons rfl (.cons rfl (.cons rfl .nil)))))
          refine Ends.seq ?_
          refine Ends.seq ?_
          refine Ends.region ?_
          refine S.val hA (R.move rfl) rfl ?_; clear hA a; intro a hA
          refine S.val hA (R.tt (R.eql rfl rfl) (by first | decide | simp | omega)) rfl ?_; clear hA a; intro a hA
          refine S.done ?_
          replace hA : St 133 [(0, _), (1, _), (7, _), (114, _)] a := hA.sub ((.cons rfl (.cons rfl (.cons rfl (.cons rfl .nil)))))
          refine Ends.condT hA rfl ?_
          refine Ends.seq ?_
          refine Ends.region ?_
          refine S.val hA (R.assign rfl) rfl ?_; clear hA a; intro a hA
          refine S.done ?_
          replace hA : St 133 [(0, _), (1, _), (7, _), (12, _)] a := hA.sub ((.cons rfl (.cons rfl (.cons rfl (.cons rfl .nil)))))
          refine Ends.block ?_
          refine Ends.loop (σ := Nat) (fun k (a : Act) (wv : World) => St 133 [(0, .slice ra2 X1.length rc3), (1, .slice ra6 X5.length rc7), (7, .slice ra12 Yt.length rc13), (12, .int .i64 ((k : Int)))] a ∧ Mem w11 nof [] wv ∧ (k ≤ X1.length)) (fun k => X1.length - k) 0 ⟨hA.sub ((.cons rfl (.cons rfl (.cons rfl (.cons rfl .nil))))), hM, (Nat.zero_le _)⟩ ?_
          clear hA hM a
          rintro k a w13 ⟨hA, hM, hk⟩ hNext1
          refine Ends.seq ?_
          refine Ends.seq ?_
          refine Ends.region ?_
          refine S.val hA (R.move rfl) rfl ?_; clear hA a; intro a hA
          refine S.val hA (R.move rfl) rfl ?_; clear hA a; intro a hA
          refine S.val hA (R.lenS Try.underlying22 rfl rfl) rfl ?_; clear hA a; intro a hA
          refine S.val hA (R.lss rfl rfl) rfl ?_; clear hA a; intro a hA
          refine S.done ?_
          replace hA : St 133 [(0, _), (1, _), (7, _), (12, _), (118, _)] a := hA.sub ((.cons rfl (.cons rfl (.cons rfl (.cons rfl (.cons rfl .nil))))))
          refine Ends.ite hA rfl (fun hc22 => ?_) (fun hc22 => ?_)
          ·
            refine Ends.skip ?_
            refine Ends.seq ?_
            refine Ends.block ?_
            refine Ends.seq ?_
            have hrg := ok_rng hokz (show k < X5.length by omega)
            have hi1 := htf k (by omega)
            refine Ends.drawn (Mem w11 nof []) (.cons (0, true) (.cons (1, true) (.cons (2, true) (.cons (3, true) (.cons (4, true) (.cons (5, true) (.cons (6, true) (.cons (7, true) (.cons (8, true) (.cons (9, true) (.cons (10, true) (.cons (11, true) .nil)))))))))))) 12 mixed (by kernel_rfl) (by kernel_rfl) (by kernel_rfl) hM.drew ?_
            replace hM := hM.drew
            refine D.valF hA rfl (fun _ => R.move rfl) rfl ?_; clear hA a; intro a hA
            refine D.valF hA rfl (fun _ => R.move rfl) rfl ?_; clear hA a; intro a hA
            refine D.valF hA rfl (fun _ => R.idxI rh14 (j := k) sl22 rfl rfl (by omega) (rfl)) rfl ?_; clear hA a; intro a hA
            refine D.val hA rfl (by kernel_rfl) (fun _ hM => R.loadI (rh14.mem hM) sz3 rfl (by omega)) rfl ?_; clear hA a; intro a hA
            refine D.valF hA rfl (fun _ => R.move rfl) rfl ?_; clear hA a; intro a hA
            refine D.valF hA rfl (fun _ => R.move rfl) rfl ?_; clear hA a; intro a hA
            refine D.valF hA rfl (fun _ => R.move rfl) rfl ?_; clear hA a; intro a hA
            refine D.valF hA rfl (fun _ => R.idxI rh8 (j := k) sl22 rfl rfl (by omega) (rfl)) rfl ?_; clear hA a; intro a hA
            refine D.val hA rfl (by kernel_rfl) (fun _ hM => R.loadI (rh8.mem hM) sz3 rfl (by omega)) rfl ?_; clear hA a; intro a hA
            refine D.valF hA rfl (fun _ => R.idxI rh4 (j := (X5.getD k 0).toNat) sl22 rfl rfl (by omega) (rfl)) rfl ?_; clear hA a; intro a hA
            refine D.val hA rfl (by kernel_rfl) (fun _ hM => R.loadI (rh4.mem hM) sz3 rfl (by omega)) rfl ?_; clear hA a; intro a hA
            refine D.valF hA rfl (fun _ => R.ff (R.neq rfl rfl) (by omega)) rfl ?_; clear hA a; intro a hA
            refine D.done ?_
            replace hA : St 133 [(0, _), (1, _), (7, _), (12, _), (132, _)] a := hA.sub ((.cons rfl (.cons rfl (.cons rfl (.cons rfl (.cons rfl .nil))))))
            refine Ends.condF hA rfl ?_
            refine Ends.skip ?_
            refine Ends.inBlock ?_
            refine Ends.region ?_
            refine S.val hA (R.move rfl) rfl ?_; clear hA a; intro a hA
            refine S.val hA (R.addI rfl rfl (r := ((k : Int)) + 1) rfl (by omega)) rfl ?_; clear hA a; intro a hA
            refine S.val hA (R.assign rfl) rfl ?_; clear hA a; intro a hA
            refine S.done ?_
            replace hA : St 133 [(0, _), (1, _), (7, _), (12, _)] a := hA.sub ((.cons rfl (.cons rfl (.cons rfl (.cons rfl .nil)))))
            exact hNext1 ((k + 1)) _ _ ((by show X1.length - (k + 1) < X1.length - k; omega)) ⟨hA.sub ((.cons rfl (.cons rfl (.cons rfl (.cons rfl .nil))))), hM, (by omega)⟩
          ·
            refine Ends.exit rfl ?_
            replace hA : St 133 [] a := hA.sub (.nil)
            refine Ends.seq ?_
            refine Ends.region ?_
            refine S.val hA (R.assign rfl) rfl ?_; clear hA a; intro a hA
            refine S.done ?_
            replace hA : St 133 [(4, _)] a := hA.sub ((.cons rfl .nil))
            refine Ends.ret1 Try.func6 Try.results6 hA rfl ?_
            exact ⟨rfl, Mem.trans0 hbs hM.nilL⟩
      ·
        have hokx : okP X1 = true := hs15
        have hokz : okP X5 = true := hs16
        have hln := hs17
        obtain ⟨he1, hil, hiy0, hif⟩ := inv_yes hiv hokx
        have hiy := And.intro hiy0 True.intro
        subst he1
        have he2 := then_no hth (by simp [hokx, hokz, hln])
        subst he2
        refine Ends.region ?_
        refine S.call hA (R.callF Try.func11 rfl rfl rfl) rfl (orders_any _) ?_; clear hA a
        rintro e w14 ⟨rfl, hb⟩
        replace hM := hM.callB hb; clear hb
        refine ⟨.bool true, rfl, fun a hA => ?_⟩
        refine S.val hA (R.not rfl) rfl ?_; clear hA a; intro a hA
        refine S.val hA (R.move rfl) rfl ?_; clear hA a; intro a hA
        refine S.valg (dj := 30) hA (by kernel_rfl) rfl (R.move rfl) rfl ?_; clear hA a; intro a hA
        refine S.callg (dj := 30) hA (by kernel_rfl) rfl (R.callF Try.func18 rfl rfl rfl) rfl (is09_b ra2 X1 rc3 (by omega) hokx _ (rh4.mem hM)) ?_; clear hA a
        rintro e w15 ⟨rfl, hb⟩
        replace hM := hM.callB hb; clear hb
        refine ⟨.bool true, rfl, fun a hA => ?_⟩
        refine S.valg (dj := 30) hA (by kernel_rfl) rfl (R.move rfl) rfl ?_; clear hA a; intro a hA
        refine S.callg (dj := 30) hA (by kernel_rfl) rfl (R.callF Try.func14 rfl rfl rfl) rfl (ris09_b ra2 X1 rc3 (by omega) hokx _ (rh4.mem hM)) ?_; clear hA a
        rintro e w16 ⟨rfl, hb⟩
        replace hM := hM.callB hb; clear hb
        refine ⟨.bool true, rfl, fun a hA => ?_⟩
        refine S.valg (dj := 30) hA (by kernel_rfl) rfl (R.to (v := .bool false) (R.neqB Try.underlying4 rfl rfl) (congrArg Value.bool (by simp))) rfl ?_; clear hA a; intro a hA
        refine S.val hA (R.pickF rfl rfl) rfl ?_; clear hA a; intro a hA
        refine S.val hA (R.move rfl) rfl ?_; clear hA a; intro a hA
        refine S.valg (dj := 37) hA (by kernel_rfl) rfl (R.move rfl) rfl ?_; clear hA a; intro a hA
        refine S.valg (dj := 37) hA (by kernel_rfl) rfl (R.tt (R.eql rfl rfl) (by first | decide | simp | omega)) rfl ?_; clear hA a; intro a hA
        refine S.valg (dj := 37) hA (by kernel_rfl) rfl (R.move rfl) rfl ?_; clear hA a; intro a hA
        refine S.callg (dj := 37) hA (by kernel_rfl) rfl (R.callF Try.func14 rfl rfl rfl) rfl (ris09_b ra2 X1 rc3 (by omega) hokx _ (rh4.mem hM)) ?_; clear hA a
        rintro e w17 ⟨rfl, hb⟩
        replace hM := hM.callB hb; clear hb
        refine ⟨.bool true, rfl, fun a hA => ?_⟩
        refine S.valg (dj := 37) hA (by kernel_rfl) rfl (R.to (v := .bool false) (R.neqB Try.underlying4 rfl rfl) (congrArg Value.bool (by simp))) rfl ?_; clear hA a; intro a hA
        refine S.val hA (R.pickF rfl rfl) rfl ?_; clear hA a; intro a hA
        refine S.val hA (R.move rfl) rfl ?_; clear hA a; intro a hA
        refine S.valg (dj := 44) hA (by kernel_rfl) rfl (R.move rfl) rfl ?_; clear hA a; intro a hA
        refine S.valg (dj := 44) hA (by kernel_rfl) rfl (R.ff (R.eql rfl rfl) (by first | decide | simp | omega)) rfl ?_; clear hA a; intro a hA
        refine S.valg (dj := 44) hA (by kernel_rfl) rfl (R.move rfl) rfl ?_; clear hA a; intro a hA
        refine S.callg (dj := 44) hA (by kernel_rfl) rfl (R.callF Try.func14 rfl rfl rfl) rfl (ris09_b ra2 X1 rc3 (by omega) hokx _ (rh4.mem hM)) ?_; clear hA a
        rintro e w18 ⟨rfl, hb⟩
        replace hM := hM.callB hb; clear hb
        refine ⟨.bool true, rfl, fun a hA => ?_⟩
        refine S.valg (dj := 44) hA (by kernel_rfl) rfl (R.move rfl) rfl ?_; clear hA a; intro a hA
        refine S.valg (dj := 49) hA (by kernel_rfl) rfl (R.move rfl) rfl ?_; clear hA a; intro a hA
        refine S.callg (dj := 49) hA (by kernel_rfl) rfl (R.callF Try.func14 rfl rfl rfl) rfl (ris09_b ra6 X5 rc7 (by omega) hokz _ (rh8.mem hM)) ?_; clear hA a
        rintro e w19 ⟨rfl, hb⟩
        replace hM := hM.callB hb; clear hb
        refine ⟨.bool true, rfl, fun a hA => ?_⟩
        refine S.valg (dj := 44) hA (by kernel_rfl) rfl (R.pickT rfl rfl) rfl ?_; clear hA a; intro a hA
        refine S.valg (dj := 44) hA (by kernel_rfl) rfl (R.move rfl) rfl ?_; clear hA a; intro a hA
        refine S.valg (dj := 53) hA (by kernel_rfl) rfl (R.move rfl) rfl ?_; clear hA a; intro a hA
        refine S.valg (dj := 53) hA (by kernel_rfl) rfl (R.lenS Try.underlying22 rfl rfl) rfl ?_; clear hA a; intro a hA
        refine S.valg (dj := 53) hA (by kernel_rfl) rfl (R.move rfl) rfl ?_; clear hA a; intro a hA
        refine S.valg (dj := 53) hA (by kernel_rfl) rfl (R.lenS Try.underlying22 rfl rfl) rfl ?_; clear hA a; intro a hA
        refine S.valg (dj := 53) hA (by kernel_rfl) rfl (R.ff (R.eql rfl rfl) (by omega)) rfl ?_; clear hA a; intro a hA
        refine S.valg (dj := 44) hA (by kernel_rfl) rfl (R.pickT rfl rfl) rfl ?_; clear hA a; intro a hA
        refine S.valg (dj := 44) hA (by kernel_rfl) rfl (R.to (v := .bool false) (R.neqB Try.underlying4 rfl rfl) (congrArg Value.bool (by simp))) rfl ?_; clear hA a; intro a hA
        refine S.val hA (R.pickF rfl rfl) rfl ?_; clear hA a; intro a hA
        refine S.val hA (R.move rfl) rfl ?_; clear hA a; intro a hA
        refine S.valg (dj := 62) hA (by kernel_rfl) rfl (R.move rfl) rfl ?_; clear hA a; intro a hA
        refine S.valg (dj := 62) hA (by kernel_rfl) rfl (R.ff (R.neq rfl rfl) (by first | decide | simp | omega)) rfl ?_; clear hA a; intro a hA
        refine S.valg (dj := 62) hA (by kernel_rfl) rfl (R.move rfl) rfl ?_; clear hA a; intro a hA
        refine S.no (dj := 65) hA (by kernel_rfl) rfl rfl rfl ?_; clear hA a; intro a hA
        refine S.no (dj := 65) hA (by kernel_rfl) rfl rfl rfl ?_; clear hA a; intro a hA
        refine S.valg (dj := 62) hA (by kernel_rfl) rfl (R.pickF rfl rfl) rfl ?_; clear hA a; intro a hA
        refine S.val hA (R.pickF rfl rfl) rfl ?_; clear hA a; intro a hA
        refine S.val hA (R.move rfl) rfl ?_; clear hA a; intro a hA
        refine S.valg (dj := 70) hA (by kernel_rfl) rfl (R.move rfl) rfl ?_; clear hA a; intro a hA
        refine S.valg (dj := 70) hA (by kernel_rfl) rfl (R.tt (R.neq rfl rfl) (by first | decide | simp | omega)) rfl ?_; clear hA a; intro a hA
        refine S.valg (dj := 70) hA (by kernel_rfl) rfl (R.move rfl) rfl ?_; clear hA a; intro a hA
        refine S.valg (dj := 73) hA (by kernel_rfl) rfl (R.move rfl) rfl ?_; clear hA a; intro a hA
        refine S.valg (dj := 73) hA (by kernel_rfl) rfl (R.ff (R.neq rfl rfl) (by first | decide | simp | omega)) rfl ?_; clear hA a; intro a hA
        refine S.valg (dj := 70) hA (by kernel_rfl) rfl (R.pickT rfl rfl) rfl ?_; clear hA a; intro a hA
        refine S.val hA (R.pickF rfl rfl) rfl ?_; clear hA a; intro a hA
        refine S.done ?_
        replace hA : St 133 [(0, _), (1, _), (5, _), (6, _), (7, _), (8, _), (77, _)] a := hA.sub ((.cons rfl (.cons rfl (.cons rfl (.cons rfl (.cons rfl (.cons rfl (.cons rfl .nil))))))))
        refine Ends.condF hA rfl ?_
        refine Ends.skip ?_
        refine Ends.seq ?_
        refine Ends.seq ?_
        refine Ends.region ?_
        refine S.val hA (R.move rfl) rfl ?_; clear hA a; intro a hA
        refine S.val hA (R.tt (R.eql rfl rfl) (by first | decide | simp | omega)) rfl ?_; clear hA a; intro a hA
        refine S.done ?_
        replace hA : St 133 [(0, _), (1, _), (5, _), (7, _), (8, _), (79, _)] a := hA.sub ((.cons rfl (.cons rfl (.cons rfl (.cons rfl (.cons rfl (.cons rfl .nil)))))))
        refine Ends.condT hA rfl ?_
        refine Ends.seq ?_
        refine Ends.region ?_
        refine S.val hA (R.move rfl) rfl ?_; clear hA a; intro a hA
        refine S.val hA (R.move rfl) rfl ?_; clear hA a; intro a hA
        refine S.call hA (R.callF Try.func20 rfl rfl rfl) rfl (then09 ra2 X1 rc3 ra9 Yi rc10 (by omega) (by omega) _ (rh4.mem hM) (rh11.mem hM)) ?_; clear hA a
        rintro e w20 ⟨Yb, er3, htb, ra23, rc24, rfl, rh25, hb⟩
        replace hM := hM.callB hb; clear hb
        have hbs := hbs.trans (hM.below.mono hbs.size)
        have hv := hv.mem hM
        have hu := hu.mem hM
        have rh4 := rh4.mem hM
        have rh8 := rh8.mem hM
        have rh11 := rh11.mem hM
        have rh14 := rh14.mem hM
        replace hM := Mem.start w20
        obtain ⟨he3, hbl, hbf⟩ := then_yes htb ⟨hokx, hiy.1, hil.symm⟩
        subst he3
        refine ⟨.tuple #[.slice ra23 Yb.length rc24, .int .i64 0], rfl, fun a hA => ?_⟩
        refine S.val hA (R.move rfl) rfl ?_; clear hA a; intro a hA
        refine S.val hA (R.extract (v := .slice ra23 Yb.length rc24) rfl rfl) rfl ?_; clear hA a; intro a hA
        refine S.val hA (R.extract (v := .int .i64 0) rfl rfl) rfl ?_; clear hA a; intro a hA
        refine S.val hA (R.assign rfl) rfl ?_; clear hA a; intro a hA
        refine S.val hA (R.assign rfl) rfl ?_; clear hA a; intro a hA
        refine S.done ?_
        replace hA : St 133 [(0, _), (1, _), (5, _), (7, _), (8, _), (9, _), (10, _)] a := hA.sub ((.cons rfl (.cons rfl (.cons rfl (.cons rfl (.cons rfl (.cons rfl (.cons rfl .nil))))))))
        refine Ends.seq ?_
        refine Ends.region ?_
        refine S.val hA (R.assign rfl) rfl ?_; clear hA a; intro a hA
        refine S.done ?_
        replace hA : St 133 [(0, _), (1, _), (5, _), (7, _), (8, _), (9, _), (10, _), (11, _)] a := hA.sub ((.cons rfl (.cons rfl (.cons rfl (.cons rfl (.cons rfl (.cons rfl (.cons rfl (.cons rfl .nil)))))))))
        refine Ends.block ?_
        refine Ends.loop (σ := Nat) (fun k (a : Act) (wv : World) => St 133 [(0, .slice ra2 X1.length rc3), (1, .slice ra6 X5.length rc7), (5, .slice ra9 Yi.length rc10), (7, .slice ra12 Yt.length rc13), (8, .int .i64 1), (9, .slice ra23 Yb.length rc24), (10, .int .i64 0), (11, .int .i64 ((k : Int)))] a ∧ Mem w20 nof [] wv ∧ (k ≤ X1.length)) (fun k => X1.length - k) 0 ⟨hA.sub ((.cons rfl (.cons rfl (.cons rfl (.cons rfl (.cons rfl (.cons rfl (.cons rfl (.cons rfl .nil))))))))), hM, (Nat.zero_le _)⟩ ?_
        clear hA hM a
        rintro k a w21 ⟨hA, hM, hk⟩ hNext
        refine Ends.seq ?_
        refine Ends.seq ?_
        refine Ends.region ?_
        refine S.val hA (R.move rfl) rfl ?_; clear hA a; intro a hA
        refine S.val hA (R.move rfl) rfl ?_; clear hA a; intro a hA
        refine S.val hA (R.lenS Try.underlying22 rfl rfl) rfl ?_; clear hA a; intro a hA
        refine S.val hA (R.lss rfl rfl) rfl ?_; clear hA a; intro a hA
        refine S.done ?_
        replace hA : St 133 [(0, _), (1, _), (5, _), (7, _), (8, _), (9, _), (10, _), (11, _), (89, _)] a := hA.sub ((.cons rfl (.cons rfl (.cons rfl (.cons rfl (.cons rfl (.cons rfl (.cons rfl (.cons rfl (.cons rfl .nil))))))))))
        refine Ends.ite hA rfl (fun hc26 => ?_) (fun hc26 => ?_)
        ·
          refine Ends.skip ?_
          refine Ends.seq ?_
          refine Ends.block ?_
          refine Ends.seq ?_
          have hrg := ok_rng hokx (show k < X1.length by omega)
          have hi1 := (hif k (by omega)).1
          have hi2 := hbf k (by omega)
          rw [(hif k (by omega)).2] at hi2
          refine Ends.region ?_
          refine S.val hA (R.move rfl) rfl ?_; clear hA a; intro a hA
          refine S.val hA (R.move rfl) rfl ?_; clear hA a; intro a hA
          refine S.val hA (R.move rfl) rfl ?_; clear hA a; intro a hA
          refine S.val hA (R.idxI rh4 (j := k) sl22 rfl rfl (by omega) (rfl)) rfl ?_; clear hA a; intro a hA
          refine S.val hA (R.loadI (rh4.mem hM) sz3 rfl (by omega)) rfl ?_; clear hA a; intro a hA
          refine S.val hA (R.idxI rh11 (j := (X1.getD k 0).toNat) sl22 rfl rfl (by omega) (rfl)) rfl ?_; clear hA a; intro a hA
          refine S.val hA (R.loadI (rh11.mem hM) sz3 rfl (by omega)) rfl ?_; clear hA a; intro a hA
          refine S.val hA (R.move rfl) rfl ?_; clear hA a; intro a hA
          refine S.val hA (R.ff (R.neq rfl rfl) (by omega)) rfl ?_; clear hA a; intro a hA
          refine S.val hA (R.move rfl) rfl ?_; clear hA a; intro a hA
          refine S.valg (dj := 101) hA (by kernel_rfl) rfl (R.move rfl) rfl ?_; clear hA a; intro a hA
          refine S.valg (dj := 101) hA (by kernel_rfl) rfl (R.ff (R.neq rfl rfl) (by first | decide | simp | omega)) rfl ?_; clear hA a; intro a hA
          refine S.val hA (R.pickF rfl rfl) rfl ?_; clear hA a; intro a hA
          refine S.val hA (R.move rfl) rfl ?_; clear hA a; intro a hA
          refine S.valg (dj := 105) hA (by kernel_rfl) rfl (R.move rfl) rfl ?_; clear hA a; intro a hA
          refine S.valg (dj := 105) hA (by kernel_rfl) rfl (R.move rfl) rfl ?_; clear hA a; intro a hA
          refine S.valg (dj := 105) hA (by kernel_rfl) rfl (R.idxI rh25 (j := k) sl22 rfl rfl (by omega) (rfl)) rfl ?_; clear hA a; intro a hA
          refine S.valg (dj := 105) hA (by kernel_rfl) rfl (R.loadI (rh25.mem hM) sz3 rfl (by omega)) rfl ?_; clear hA a; intro a hA
          refine S.valg (dj := 105) hA (by kernel_rfl) rfl (R.move rfl) rfl ?_; clear hA a; intro a hA
          refine S.valg (dj := 105) hA (by kernel_rfl) rfl (R.ff (R.neq rfl rfl) (by omega)) rfl ?_; clear hA a; intro a hA
          refine S.val hA (R.pickF rfl rfl) rfl ?_; clear hA a; intro a hA
          refine S.done ?_
          replace hA : St 133 [(0, _), (1, _), (5, _), (7, _), (8, _), (9, _), (10, _), (11, _), (112, _)] a := hA.sub ((.cons rfl (.cons rfl (.cons rfl (.cons rfl (.cons rfl (.cons rfl (.cons rfl (.cons rfl (.cons rfl .nil))))))))))
          refine Ends.condF hA rfl ?_
          refine Ends.skip ?_
          refine Ends.inBlock ?_
          refine Ends.region ?_
          refine S.val hA (R.move rfl) rfl ?_; clear hA a; intro a hA
          refine S.val hA (R.addI rfl rfl (r := ((k : Int)) + 1) rfl (by omega)) rfl ?_; clear hA a; intro a hA
          refine S.val hA (R.assign rfl) rfl ?_; clear hA a; intro a hA
          refine S.done ?_
          replace hA : St 133 [(0, _), (1, _), (5, _), (7, _), (8, _), (9, _), (10, _), (11, _)] a := hA.sub ((.cons rfl (.cons rfl (.cons rfl (.cons rfl (.cons rfl (.cons rfl (.cons rfl (.cons rfl .nil)))))))))
          exact hNext ((k + 1)) _ _ ((by show X1.length - (k + 1) < X1.length - k; omega)) ⟨hA.sub ((.cons rfl (.cons rfl (.cons rfl (.cons rfl (.cons rfl (.cons rfl (.cons rfl (.cons rfl .nil))))))))), hM, (by omega)⟩
        ·
          refine Ends.exit rfl ?_
          replace hA : St 133 [(0, _), (1, _), (7, _), (8, _)] a := hA.sub ((.cons rfl (.cons rfl (.cons rfl (.cons rfl .nil)))))
          refine Ends.seq ?_
          refine Ends.seq ?_
          refine Ends.region ?_
          refine S.val hA (R.move rfl) rfl ?_; clear hA a; intro a hA
          refine S.val hA (R.ff (R.eql rfl rfl) (by first | decide | simp | omega)) rfl ?_; clear hA a; intro a hA
          refine S.done ?_
          replace hA : St 133 [(0, _), (1, _), (7, _), (114, _)] a := hA.sub ((.cons rfl (.cons rfl (.cons rfl (.cons rfl .nil)))))
          refine Ends.condF hA rfl ?_
          refine Ends.skip ?_
          refine Ends.seq ?_
          refine Ends.region ?_
          refine S.val hA (R.assign rfl) rfl ?_; clear hA a; intro a hA
          refine S.done ?_
          replace hA : St 133 [(4, _)] a := hA.sub ((.cons rfl .nil))
          refine Ends.ret1 Try.func6 Try.results6 hA rfl ?_
          exact ⟨rfl, Mem.trans0 hbs hM.nilL⟩
    ·
      by_cases hs27 : X1.length = X5.length
      ·
        have hokx : okP X1 = true := hs15
        have hokz : okP X5 = false := by simpa using hs16
        have hln := hs27
        obtain ⟨he1, hil, hiy0, hif⟩ := inv_yes hiv hokx
        have hiy := And.intro hiy0 True.intro
        subst he1
        have he2 := then_no hth (by simp [hokx, hokz, hln])
        subst he2
        refine Ends.region ?_
        refine S.call hA (R.callF Try.func11 rfl rfl rfl) rfl (orders_any _) ?_; clear hA a
        rintro e w22 ⟨rfl, hb⟩
        replace hM := hM.callB hb; clear hb
        refine ⟨.bool true, rfl, fun a hA => ?_⟩
        refine S.val hA (R.not rfl) rfl ?_; clear hA a; intro a hA
        refine S.val hA (R.move rfl) rfl ?_; clear hA a; intro a hA
        refine S.valg (dj := 30) hA (by kernel_rfl) rfl (R.move rfl) rfl ?_; clear hA a; intro a hA
        refine S.callg (dj := 30) hA (by kernel_rfl) rfl (R.callF Try.func18 rfl rfl rfl) rfl (is09_b ra2 X1 rc3 (by omega) hokx _ (rh4.mem hM)) ?_; clear hA a
        rintro e w23 ⟨rfl, hb⟩
        replace hM := hM.callB hb; clear hb
        refine ⟨.bool true, rfl, fun a hA => ?_⟩
        refine S.valg (dj := 30) hA (by kernel_rfl) rfl (R.move rfl) rfl ?_; clear hA a; intro a hA
        refine S.callg (dj := 30) hA (by kernel_rfl) rfl (R.callF Try.func14 rfl rfl rfl) rfl (ris09_b ra2 X1 rc3 (by omega) hokx _ (rh4.mem hM)) ?_; clear hA a
        rintro e w24 ⟨rfl, hb⟩
        replace hM := hM.callB hb; clear hb
        refine ⟨.bool true, rfl, fun a hA => ?_⟩
        refine S.valg (dj := 30) hA (by kernel_rfl) rfl (R.to (v := .bool false) (R.neqB Try.underlying4 rfl rfl) (congrArg Value.bool (by simp))) rfl ?_; clear hA a; intro a hA
        refine S.val hA (R.pickF rfl rfl) rfl ?_; clear hA a; intro a hA
        refine S.val hA (R.move rfl) rfl ?_; clear hA a; intro a hA
        refine S.valg (dj := 37) hA (by kernel_rfl) rfl (R.move rfl) rfl ?_; clear hA a; intro a hA
        refine S.valg (dj := 37) hA (by kernel_rfl) rfl (R.tt (R.eql rfl rfl) (by first | decide | simp | omega)) rfl ?_; clear hA a; intro a hA
        refine S.valg (dj := 37) hA (by kernel_rfl) rfl (R.move rfl) rfl ?_; clear hA a; intro a hA
        refine S.callg (dj := 37) hA (by kernel_rfl) rfl (R.callF Try.func14 rfl rfl rfl) rfl (ris09_b ra2 X1 rc3 (by omega) hokx _ (rh4.mem hM)) ?_; clear hA a
        rintro e w25 ⟨rfl, hb⟩
        replace hM := hM.callB hb; clear hb
        refine ⟨.bool true, rfl, fun a hA => ?_⟩
        refine S.valg (dj := 37) hA (by kernel_rfl) rfl (R.to (v := .bool false) (R.neqB Try.underlying4 rfl rfl) (congrArg Value.bool (by simp))) rfl ?_; clear hA a; intro a hA
        refine S.val hA (R.pickF rfl rfl) rfl ?_; clear hA a; intro a hA
        refine S.val hA (R.move rfl) rfl ?_; clear hA a; intro a hA
        refine S.valg (dj := 44) hA (by kernel_rfl) rfl (R.move rfl) rfl ?_; clear hA a; intro a hA
        refine S.valg (dj := 44) hA (by kernel_rfl) rfl (R.ff (R.eql rfl rfl) (by first | decide | simp | omega)) rfl ?_; clear hA a; intro a hA
        refine S.valg (dj := 44) hA (by kernel_rfl) rfl (R.move rfl) rfl ?_; clear hA a; intro a hA
        refine S.callg (dj := 44) hA (by kernel_rfl) rfl (R.callF Try.func14 rfl rfl rfl) rfl (ris09_b ra2 X1 rc3 (by omega) hokx _ (rh4.mem hM)) ?_; clear hA a
        rintro e w26 ⟨rfl, hb⟩
        replace hM := hM.callB hb; clear hb
        refine ⟨.bool true, rfl, fun a hA => ?_⟩
        refine S.valg (dj := 44) hA (by kernel_rfl) rfl (R.move rfl) rfl ?_; clear hA a; intro a hA
        refine S.valg (dj := 49) hA (by kernel_rfl) rfl (R.move rfl) rfl ?_; clear hA a; intro a hA
        refine S.callg (dj := 49) hA (by kernel_rfl) rfl (R.callF Try.func14 rfl rfl rfl) rfl (ris09_b ra6 X5 rc7 (by omega) hokz _ (rh8.mem hM)) ?_; clear hA a
        rintro e w27 ⟨rfl, hb⟩
        replace hM := hM.callB hb; clear hb
        refine ⟨.bool false, rfl, fun a hA => ?_⟩
        refine S.valg (dj := 44) hA (by kernel_rfl) rfl (R.pickT rfl rfl) rfl ?_; clear hA a; intro a hA
        refine S.valg (dj := 44) hA (by kernel_rfl) rfl (R.move rfl) rfl ?_; clear hA a; intro a hA
        refine S.no (dj := 53) hA (by kernel_rfl) rfl rfl rfl ?_; clear hA a; intro a hA
        refine S.no (dj := 53) hA (by kernel_rfl) rfl rfl rfl ?_; clear hA a; intro a hA
        refine S.no (dj := 53) hA (by kernel_rfl) rfl rfl rfl ?_; clear hA a; intro a hA
        refine S.no (dj := 53) hA (by kernel_rfl) rfl rfl rfl ?_; clear hA a; intro a hA
        refine S.no (dj := 53) hA (by kernel_rfl) rfl rfl rfl ?_; clear hA a; intro a hA
        refine S.valg (dj := 44) hA (by kernel_rfl) rfl (R.pickF rfl rfl) rfl ?_; clear hA a; intro a hA
        refine S.valg (dj := 44) hA (by kernel_rfl) rfl (R.to (v := .bool false) (R.neqB Try.underlying4 rfl rfl) (congrArg Value.bool (by simp))) rfl ?_; clear hA a; intro a hA
        refine S.val hA (R.pickF rfl rfl) rfl ?_; clear hA a; intro a hA
        refine S.val hA (R.move rfl) rfl ?_; clear hA a; intro a hA
        refine S.valg (dj := 62) hA (by kernel_rfl) rfl (R.move rfl) rfl ?_; clear hA a; intro a hA
        refine S.valg (dj := 62) hA (by kernel_rfl) rfl (R.ff (R.neq rfl rfl) (by first | decide | simp | omega)) rfl ?_; clear hA a; intro a hA
        refine S.valg (dj := 62) hA (by kernel_rfl) rfl (R.move rfl) rfl ?_; clear hA a; intro a hA
        refine S.no (dj := 65) hA (by kernel_rfl) rfl rfl rfl ?_; clear hA a; intro a hA
        refine S.no (dj := 65) hA (by kernel_rfl) rfl rfl rfl ?_; clear hA a; intro a hA
        refine S.valg (dj := 62) hA (by kernel_rfl) rfl (R.pickF rfl rfl) rfl ?_; clear hA a; intro a hA
        refine S.val hA (R.pickF rfl rfl) rfl ?_; clear hA a; intro a hA
        refine S.val hA (R.move rfl) rfl ?_; clear hA a; intro a hA
        refine S.valg (dj := 70) hA (by kernel_rfl) rfl (R.move rfl) rfl ?_; clear hA a; intro a hA
        refine S.valg (dj := 70) hA (by kernel_rfl) rfl (R.tt (R.neq rfl rfl) (by first | decide | simp | omega)) rfl ?_; clear hA a; intro a hA
        refine S.valg (dj := 70) hA (by kernel_rfl) rfl (R.move rfl) rfl ?_; clear hA a; intro a hA
        refine S.valg (dj := 73) hA (by kernel_rfl) rfl (R.move rfl) rfl ?_; clear hA a; intro a hA
        refine S.valg (dj := 73) hA (by kernel_rfl) rfl (R.ff (R.neq rfl rfl) (by first | decide | simp | omega)) rfl ?_; clear hA a; intro a hA
        refine S.valg (dj := 70) hA (by kernel_rfl) rfl (R.pickT rfl rfl) rfl ?_; clear hA a; intro a hA
        refine S.val hA (R.pickF rfl rfl) rfl ?_; clear hA a; intro a hA
        refine S.done ?_
        replace hA : St 133 [(0, _), (1, _), (5, _), (6, _), (7, _), (8, _), (77, _)] a := hA.sub ((.cons rfl (.cons rfl (.cons rfl (.cons rfl (.cons rfl (.cons rfl (.cons rfl .nil))))))))
        refine Ends.condF hA rfl ?_
        refine Ends.skip ?_
        refine Ends.seq ?_
        refine Ends.seq ?_
        refine Ends.region ?_
        refine S.val hA (R.move rfl) rfl ?_; clear hA a; intro a hA
        refine S.val hA (R.tt (R.eql rfl rfl) (by first | decide | simp | omega)) rfl ?_; clear hA a; intro a hA
        refine S.done ?_
        replace hA : St 133 [(0, _), (1, _), (5, _), (7, _), (8, _), (79, _)] a := hA.sub ((.cons rfl (.cons rfl (.cons rfl (.cons rfl (.cons rfl (.cons rfl .nil)))))))
        refine Ends.condT hA rfl ?_
        refine Ends.seq ?_
        refine Ends.region ?_
        refine S.val hA (R.move rfl) rfl ?_; clear hA a; intro a hA
        refine S.val hA (R.move rfl) rfl ?_; clear hA a; intro a hA
        refine S.call hA (R.callF Try.func20 rfl rfl rfl) rfl (then09 ra2 X1 rc3 ra9 Yi rc10 (by omega) (by omega) _ (rh4.mem hM) (rh11.mem hM)) ?_; clear hA a
        rintro e w28 ⟨Yb, er3, htb, ra28, rc29, rfl, rh30, hb⟩
        replace hM := hM.callB hb; clear hb
        have hbs := hbs.trans (hM.below.mono hbs.size)
        have hv := hv.mem hM
        have hu := hu.mem hM
        have rh4 := rh4.mem hM
        have rh8 := rh8.mem hM
        have rh11 := rh11.mem hM
        have rh14 := rh14.mem hM
        replace hM := Mem.start w28
        obtain ⟨he3, hbl, hbf⟩ := then_yes htb ⟨hokx, hiy.1, hil.symm⟩
        subst he3
        refine ⟨.tuple #[.slice ra28 Yb.length rc29, .int .i64 0], rfl, fun a hA => ?_⟩
        refine S.val hA (R.move rfl) rfl ?_; clear hA a; intro a hA
        refine S.val hA (R.extract (v := .slice ra28 Yb.length rc29) rfl rfl) rfl ?_; clear hA a; intro a hA
        refine S.val hA (R.extract (v := .int .i64 0) rfl rfl) rfl ?_; clear hA a; intro a hA
        refine S.val hA (R.assign rfl) rfl ?_; clear hA a; intro a hA
        refine S.val hA (R.assign rfl) rfl ?_; clear hA a; intro a hA
        refine S.done ?_
        replace hA : St 133 [(0, _), (1, _), (5, _), (7, _), (8, _), (9, _), (10, _)] a := hA.sub ((.cons rfl (.cons rfl (.cons rfl (.cons rfl (.cons rfl (.cons rfl (.cons rfl .nil))))))))
        refine Ends.seq ?_
        refine Ends.region ?_
        refine S.val hA (R.assign rfl) rfl ?_; clear hA a; intro a hA
        refine S.done ?_
        replace hA : St 133 [(0, _), (1, _), (5, _), (7, _), (8, _), (9, _), (10, _), (11, _)] a := hA.sub ((.cons rfl (.cons rfl (.cons rfl (.cons rfl (.cons rfl (.cons rfl (.cons rfl (.cons rfl .nil)))))))))
        refine Ends.block ?_
        refine Ends.loop (σ := Nat) (fun k (a : Act) (wv : World) => St 133 [(0, .slice ra2 X1.length rc3), (1, .slice ra6 X5.length rc7), (5, .slice ra9 Yi.length rc10), (7, .slice ra12 Yt.length rc13), (8, .int .i64 1), (9, .slice ra28 Yb.length rc29), (10, .int .i64 0), (11, .int .i64 ((k : Int)))] a ∧ Mem w28 nof [] wv ∧ (k ≤ X1.length)) (fun k => X1.length - k) 0 ⟨hA.sub ((.cons rfl (.cons rfl (.cons rfl (.cons rfl (.cons rfl (.cons rfl (.cons rfl (.cons rfl .nil))))))))), hM, (Nat.zero_le _)⟩ ?_
        clear hA hM a
        rintro k a w29 ⟨hA, hM, hk⟩ hNext
        refine Ends.seq ?_
        refine Ends.seq ?_
        refine Ends.region ?_
        refine S.val hA (R.move rfl) rfl ?_; clear hA a; intro a hA
        refine S.val hA (R.move rfl) rfl ?_; clear hA a; intro a hA
        refine S.val hA (R.lenS Try.underlying22 rfl rfl) rfl ?_; clear hA a; intro a hA
        refine S.val hA (R.lss rfl rfl) rfl ?_; clear hA a; intro a hA
        refine S.done ?_
        replace hA : St 133 [(0, _), (1, _), (5, _), (7, _), (8, _), (9, _), (10, _), (11, _), (89, _)] a := hA.sub ((.cons rfl (.cons rfl (.cons rfl (.cons rfl (.cons rfl (.cons rfl (.cons rfl (.cons rfl (.cons rfl .nil))))))))))
        refine Ends.ite hA rfl (fun hc31 => ?_) (fun hc31 => ?_)
        ·
          refine Ends.skip ?_
          refine Ends.seq ?_
          refine Ends.block ?_
          refine Ends.seq ?_
          have hrg := ok_rng hokx (show k < X1.length by omega)
          have hi1 := (hif k (by omega)).1
          have hi2 := hbf k (by omega)
          rw [(hif k (by omega)).2] at hi2
          refine Ends.region ?_
          refine S.val hA (R.move rfl) rfl ?_; clear hA a; intro a hA
          refine S.val hA (R.move rfl) rfl ?_; clear hA a; intro a hA
          refine S.val hA (R.move rfl) rfl ?_; clear hA a; intro a hA
          refine S.val hA (R.idxI rh4 (j := k) sl22 rfl rfl (by omega) (rfl)) rfl ?_; clear hA a; intro a hA
          refine S.val hA (R.loadI (rh4.mem hM) sz3 rfl (by omega)) rfl ?_; clear hA a; intro a hA
          refine S.val hA (R.idxI rh11 (j := (X1.getD k 0).toNat) sl22 rfl rfl (by omega) (rfl)) rfl ?_; clear hA a; intro a hA
          refine S.val hA (R.loadI (rh11.mem hM) sz3 rfl (by omega)) rfl ?_; clear hA a; intro a hA
          refine S.val hA (R.move rfl) rfl ?_; clear hA a; intro a hA
          refine S.val hA (R.ff (R.neq rfl rfl) (by omega)) rfl ?_; clear hA a; intro a hA
          refine S.val hA (R.move rfl) rfl ?_; clear hA a; intro a hA
          refine S.valg (dj := 101) hA (by kernel_rfl) rfl (R.move rfl) rfl ?_; clear hA a; intro a hA
          refine S.valg (dj := 101) hA (by kernel_rfl) rfl (R.ff (R.neq rfl rfl) (by first | decide | simp | omega)) rfl ?_; clear hA a; intro a hA
          refine S.val hA (R.pickF rfl rfl) rfl ?_; clear hA a; intro a hA
          refine S.val hA (R.move rfl) rfl ?_; clear hA a; intro a hA
          refine S.valg (dj := 105) hA (by kernel_rfl) rfl (R.move rfl) rfl ?_; clear hA a; intro a hA
          refine S.valg (dj := 105) hA (by kernel_rfl) rfl (R.move rfl) rfl ?_; clear hA a; intro a hA
          refine S.valg (dj := 105) hA (by kernel_rfl) rfl (R.idxI rh30 (j := k) sl22 rfl rfl (by omega) (rfl)) rfl ?_; clear hA a; intro a hA
          refine S.valg (dj := 105) hA (by kernel_rfl) rfl (R.loadI (rh30.mem hM) sz3 rfl (by omega)) rfl ?_; clear hA a; intro a hA
          refine S.valg (dj := 105) hA (by kernel_rfl) rfl (R.move rfl) rfl ?_; clear hA a; intro a hA
          refine S.valg (dj := 105) hA (by kernel_rfl) rfl (R.ff (R.neq rfl rfl) (by omega)) rfl ?_; clear hA a; intro a hA
          refine S.val hA (R.pickF rfl rfl) rfl ?_; clear hA a; intro a hA
          refine S.done ?_
          replace hA : St 133 [(0, _), (1, _), (5, _), (7, _), (8, _), (9, _), (10, _), (11, _), (112, _)] a := hA.sub ((.cons rfl (.cons rfl (.cons rfl (.cons rfl (.cons rfl (.cons rfl (.cons rfl (.cons rfl (.cons rfl .nil))))))))))
          refine Ends.condF hA rfl ?_
          refine Ends.skip ?_
          refine Ends.inBlock ?_
          refine Ends.region ?_
          refine S.val hA (R.move rfl) rfl ?_; clear hA a; intro a hA
          refine S.val hA (R.addI rfl rfl (r := ((k : Int)) + 1) rfl (by omega)) rfl ?_; clear hA a; intro a hA
          refine S.val hA (R.assign rfl) rfl ?_; clear hA a; intro a hA
          refine S.done ?_
          replace hA : St 133 [(0, _), (1, _), (5, _), (7, _), (8, _), (9, _), (10, _), (11, _)] a := hA.sub ((.cons rfl (.cons rfl (.cons rfl (.cons rfl (.cons rfl (.cons rfl (.cons rfl (.cons rfl .nil)))))))))
          exact hNext ((k + 1)) _ _ ((by show X1.length - (k + 1) < X1.length - k; omega)) ⟨hA.sub ((.cons rfl (.cons rfl (.cons rfl (.cons rfl (.cons rfl (.cons rfl (.cons rfl (.cons rfl .nil))))))))), hM, (by omega)⟩
        ·
          refine Ends.exit rfl ?_
          replace hA : St 133 [(0, _), (1, _), (7, _), (8, _)] a := hA.sub ((.cons rfl (.cons rfl (.cons rfl (.cons rfl .nil)))))
          refine Ends.seq ?_
          refine Ends.seq ?_
          refine Ends.region ?_
          refine S.val hA (R.move rfl) rfl ?_; clear hA a; intro a hA
          refine S.val hA (R.ff (R.eql rfl rfl) (by first | decide | simp | omega)) rfl ?_; clear hA a; intro a hA
          refine S.done ?_
          replace hA : St 133 [(0, _), (1, _), (7, _), (114, _)] a := hA.sub ((.cons rfl (.cons rfl (.cons rfl (.cons rfl .nil)))))
          refine Ends.condF hA rfl ?_
          refine Ends.skip ?_
          refine Ends.seq ?_
          refine Ends.region ?_
          refine S.val hA (R.assign rfl) rfl ?_; clear hA a; intro a hA
          refine S.done ?_
          replace hA : St 133 [(4, _)] a := hA.sub ((.cons rfl .nil))
          refine Ends.ret1 Try.func6 Try.results6 hA rfl ?_
          exact ⟨rfl, Mem.trans0 hbs hM.nilL⟩
      ·
        have hokx : okP X1 = true := hs15
        have hokz : okP X5 = false := by simpa using hs16
        have hln := hs27
        obtain ⟨he1, hil, hiy0, hif⟩ := inv_yes hiv hokx
        have hiy := And.intro hiy0 True.intro
        subst he1
        have he2 := then_no hth (by simp [hokx, hokz, hln])
        subst he2
        refine Ends.region ?_
        refine S.call hA (R.callF Try.func11 rfl rfl rfl) rfl (orders_any _) ?_; clear hA a
        rintro e w30 ⟨rfl, hb⟩
        replace hM := hM.callB hb; clear hb
        refine ⟨.bool true, rfl, fun a hA => ?_⟩
        refine S.val hA (R.not rfl) rfl ?_; clear hA a; intro a hA
        refine S.val hA (R.move rfl) rfl ?_; clear hA a; intro a hA
        refine S.valg (dj := 30) hA (by kernel_rfl) rfl (R.move rfl) rfl ?_; clear hA a; intro a hA
        refine S.callg (dj := 30) hA (by kernel_rfl) rfl (R.callF Try.func18 rfl rfl rfl) rfl (is09_b ra2 X1 rc3 (by omega) hokx _ (rh4.mem hM)) ?_; clear hA a
        rintro e w31 ⟨rfl, hb⟩
        replace hM := hM.callB hb; clear hb
        refine ⟨.bool true, rfl, fun a hA => ?_⟩
        refine S.valg (dj := 30) hA (by kernel_rfl) rfl (R.move rfl) rfl ?_; clear hA a; intro a hA
        refine S.callg (dj := 30) hA (by kernel_rfl) rfl (R.callF Try.func14 rfl rfl rfl) rfl (ris09_b ra2 X1 rc3 (by omega) hokx _ (rh4.mem hM)) ?_; clear hA a
        rintro e w32 ⟨rfl, hb⟩
        replace hM := hM.callB hb; clear hb
        refine ⟨.bool true, rfl, fun a hA => ?_⟩
        refine S.valg (dj := 30) hA (by kernel_rfl) rfl (R.to (v := .bool false) (R.neqB Try.underlying4 rfl rfl) (congrArg Value.bool (by simp))) rfl ?_; clear hA a; intro a hA
        refine S.val hA (R.pickF rfl rfl) rfl ?_; clear hA a; intro a hA
        refine S.val hA (R.move rfl) rfl ?_; clear hA a; intro a hA
        refine S.valg (dj := 37) hA (by kernel_rfl) rfl (R.move rfl) rfl ?_; clear hA a; intro a hA
        refine S.valg (dj := 37) hA (by kernel_rfl) rfl (R.tt (R.eql rfl rfl) (by first | decide | simp | omega)) rfl ?_; clear hA a; intro a hA
        refine S.valg (dj := 37) hA (by kernel_rfl) rfl (R.move rfl) rfl ?_; clear hA a; intro a hA
        refine S.callg (dj := 37) hA (by kernel_rfl) rfl (R.callF Try.func14 rfl rfl rfl) rfl (ris09_b ra2 X1 rc3 (by omega) hokx _ (rh4.mem hM)) ?_; clear hA a
        rintro e w33 ⟨rfl, hb⟩
        replace hM := hM.callB hb; clear hb
        refine ⟨.bool true, rfl, fun a hA => ?_⟩
        refine S.valg (dj := 37) hA (by kernel_rfl) rfl (R.to (v := .bool false) (R.neqB Try.underlying4 rfl rfl) (congrArg Value.bool (by simp))) rfl ?_; clear hA a; intro a hA
        refine S.val hA (R.pickF rfl rfl) rfl ?_; clear hA a; intro a hA
        refine S.val hA (R.move rfl) rfl ?_; clear hA a; intro a hA
        refine S.valg (dj := 44) hA (by kernel_rfl) rfl (R.move rfl) rfl ?_; clear hA a; intro a hA
        refine S.valg (dj := 44) hA (by kernel_rfl) rfl (R.ff (R.eql rfl rfl) (by first | decide | simp | omega)) rfl ?_; clear hA a; intro a hA
        refine S.valg (dj := 44) hA (by kernel_rfl) rfl (R.move rfl) rfl ?_; clear hA a; intro a hA
        refine S.callg (dj := 44) hA (by kernel_rfl) rfl (R.callF Try.func14 rfl rfl rfl) rfl (ris09_b ra2 X1 rc3 (by omega) hokx _ (rh4.mem hM)) ?_; clear hA a
        rintro e w34 ⟨rfl, hb⟩
        replace hM := hM.callB hb; clear hb
        refine ⟨.bool true, rfl, fun a hA => ?_⟩
        refine S.valg (dj := 44) hA (by kernel_rfl) rfl (R.move rfl) rfl ?_; clear hA a; intro a hA
        refine S.valg (dj := 49) hA (by kernel_rfl) rfl (R.move rfl) rfl ?_; clear hA a; intro a hA
        refine S.callg (dj := 49) hA (by kernel_rfl) rfl (R.callF Try.func14 rfl rfl rfl) rfl (ris09_b ra6 X5 rc7 (by omega) hokz _ (rh8.mem hM)) ?_; clear hA a
        rintro e w35 ⟨rfl, hb⟩
        replace hM := hM.callB hb; clear hb
        refine ⟨.bool false, rfl, fun a hA => ?_⟩
        refine S.valg (dj := 44) hA (by kernel_rfl) rfl (R.pickT rfl rfl) rfl ?_; clear hA a; intro a hA
        refine S.valg (dj := 44) hA (by kernel_rfl) rfl (R.move rfl) rfl ?_; clear hA a; intro a hA
        refine S.no (dj := 53) hA (by kernel_rfl) rfl rfl rfl ?_; clear hA a; intro a hA
        refine S.no (dj := 53) hA (by kernel_rfl) rfl rfl rfl ?_; clear hA a; intro a hA
        refine S.no (dj := 53) hA (by kernel_rfl) rfl rfl rfl ?_; clear hA a; intro a hA
        refine S.no (dj := 53) hA (by kernel_rfl) rfl rfl rfl ?_; clear hA a; intro a hA
        refine S.no (dj := 53) hA (by kernel_rfl) rfl rfl rfl ?_; clear hA a; intro a hA
        refine S.valg (dj := 44) hA (by kernel_rfl) rfl (R.pickF rfl rfl) rfl ?_; clear hA a; intro a hA
        refine S.valg (dj := 44) hA (by kernel_rfl) rfl (R.to (v := .bool false) (R.neqB Try.underlying4 rfl rfl) (congrArg Value.bool (by simp))) rfl ?_; clear hA a; intro a hA
        refine S.val hA (R.pickF rfl rfl) rfl ?_; clear hA a; intro a hA
        refine S.val hA (R.move rfl) rfl ?_; clear hA a; intro a hA
        refine S.valg (dj := 62) hA (by kernel_rfl) rfl (R.move rfl) rfl ?_; clear hA a; intro a hA
        refine S.valg (dj := 62) hA (by kernel_rfl) rfl (R.ff (R.neq rfl rfl) (by first | decide | simp | omega)) rfl ?_; clear hA a; intro a hA
        refine S.valg (dj := 62) hA (by kernel_rfl) rfl (R.move rfl) rfl ?_; clear hA a; intro a hA
        refine S.no (dj := 65) hA (by kernel_rfl) rfl rfl rfl ?_; clear hA a; intro a hA
        refine S.no (dj := 65) hA (by kernel_rfl) rfl rfl rfl ?_; clear hA a; intro a hA
        refine S.valg (dj := 62) hA (by kernel_rfl) rfl (R.pickF rfl rfl) rfl ?_; clear hA a; intro a hA
        refine S.val hA (R.pickF rfl rfl) rfl ?_; clear hA a; intro a hA
        refine S.val hA (R.move rfl) rfl ?_; clear hA a; intro a hA
        refine S.valg (dj := 70) hA (by kernel_rfl) rfl (R.move rfl) rfl ?_; clear hA a; intro a hA
        refine S.valg (dj := 70) hA (by kernel_rfl) rfl (R.tt (R.neq rfl rfl) (by first | decide | simp | omega)) rfl ?_; clear hA a; intro a hA
        refine S.valg (dj := 70) hA (by kernel_rfl) rfl (R.move rfl) rfl ?_; clear hA a; intro a hA
        refine S.valg (dj := 73) hA (by kernel_rfl) rfl (R.move rfl) rfl ?_; clear hA a; intro a hA
        refine S.valg (dj := 73) hA (by kernel_rfl) rfl (R.ff (R.neq rfl rfl) (by first | decide | simp | omega)) rfl ?_; clear hA a; intro a hA
        refine S.valg (dj := 70) hA (by kernel_rfl) rfl (R.pickT rfl rfl) rfl ?_; clear hA a; intro a hA
        refine S.val hA (R.pickF rfl rfl) rfl ?_; clear hA a; intro a hA
        refine S.done ?_
        replace hA : St 133 [(0, _), (1, _), (5, _), (6, _), (7, _), (8, _), (77, _)] a := hA.sub ((.cons rfl (.cons rfl (.cons rfl (.cons rfl (.cons rfl (.cons rfl (.cons rfl .nil))))))))
        refine Ends.condF hA rfl ?_
        refine Ends.skip ?_
        refine Ends.seq ?_
        refine Ends.seq ?_
        refine Ends.region ?_
        refine S.val hA (R.move rfl) rfl ?_; clear hA a; intro a hA
        refine S.val hA (R.tt (R.eql rfl rfl) (by first | decide | simp | omega)) rfl ?_; clear hA a; intro a hA
        refine S.done ?_
        replace hA : St 133 [(0, _), (1, _), (5, _), (7, _), (8, _), (79, _)] a := hA.sub ((.cons rfl (.cons rfl (.cons rfl (.cons rfl (.cons rfl (.cons rfl .nil)))))))
        refine Ends.condT hA rfl ?_
        refine Ends.seq ?_
        refine Ends.region ?_
        refine S.val hA (R.move rfl) rfl ?_; clear hA a; intro a hA
        refine S.val hA (R.move rfl) rfl ?_; clear hA a; intro a hA
        refine S.call hA (R.callF Try.func20 rfl rfl rfl) rfl (then09 ra2 X1 rc3 ra9 Yi rc10 (by omega) (by omega) _ (rh4.mem hM) (rh11.mem hM)) ?_; clear hA a
        rintro e w36 ⟨Yb, er3, htb, ra32, rc33, rfl, rh34, hb⟩
        replace hM := hM.callB hb; clear hb
        have hbs := hbs.trans (hM.below.mono hbs.size)
        have hv := hv.mem hM
        have hu := hu.mem hM
        have rh4 := rh4.mem hM
        have rh8 := rh8.mem hM
        have rh11 := rh11.mem hM
        have rh14 := rh14.mem hM
        replace hM := Mem.start w36
        obtain ⟨he3, hbl, hbf⟩ := then_yes htb ⟨hokx, hiy.1, hil.symm⟩
        subst he3
        refine ⟨.tuple #[.slice ra32 Yb.length rc33, .int .i64 0], rfl, fun a hA => ?_⟩
        refine S.val hA (R.move rfl) rfl ?_; clear hA a; intro a hA
        refine S.val hA (R.extract (v := .slice ra32 Yb.length rc33) rfl rfl) rfl ?_; clear hA a; intro a hA
        refine S.val hA (R.extract (v := .int .i64 0) rfl rfl) rfl ?_; clear hA a; intro a hA
        refine S.val hA (R.assign rfl) rfl ?_; clear hA a; intro a hA
        refine S.val hA (R.assign rfl) rfl ?_; clear hA a; intro a hA
        refine S.done ?_
        replace hA : St 133 [(0, _), (1, _), (5, _), (7, _), (8, _), (9, _), (10, _)] a := hA.sub ((.cons rfl (.cons rfl (.cons rfl (.cons rfl (.cons rfl (.cons rfl (.cons rfl .nil))))))))
        refine Ends.seq ?_
        refine Ends.region ?_
        refine S.val hA (R.assign rfl) rfl ?_; clear hA a; intro a hA
        refine S.done ?_
        replace hA : St 133 [(0, _), (1, _), (5, _), (7, _), (8, _), (9, _), (10, _), (11, _)] a := hA.sub ((.cons rfl (.cons rfl (.cons rfl (.cons rfl (.cons rfl (.cons rfl (.cons rfl (.cons rfl .nil)))))))))
        refine Ends.block ?_
        refine Ends.loop (σ := Nat) (fun k (a : Act) (wv : World) => St 133 [(0, .slice ra2 X1.length rc3), (1, .slice ra6 X5.length rc7), (5, .slice ra9 Yi.length rc10), (7, .slice ra12 Yt.length rc13), (8, .int .i64 1), (9, .slice ra32 Yb.length rc33), (10, .int .i64 0), (11, .int .i64 ((k : Int)))] a ∧ Mem w36 nof [] wv ∧ (k ≤ X1.length)) (fun k => X1.length - k) 0 ⟨hA.sub ((.cons rfl (.cons rfl (.cons rfl (.cons rfl (.cons rfl (.cons rfl (.cons rfl (.cons rfl .nil))))))))), hM, (Nat.zero_le _)⟩ ?_
        clear hA hM a
        rintro k a w37 ⟨hA, hM, hk⟩ hNext
        refine Ends.seq ?_
        refine Ends.seq ?_
        refine Ends.region ?_
        refine S.val hA (R.move rfl) rfl ?_; clear hA a; intro a hA
        refine S.val hA (R.move rfl) rfl ?_; clear hA a; intro a hA
        refine S.val hA (R.lenS Try.underlying22 rfl rfl) rfl ?_; clear hA a; intro a hA
        refine S.val hA (R.lss rfl rfl) rfl ?_; clear hA a; intro a hA
        refine S.done ?_
        replace hA : St 133 [(0, _), (1, _), (5, _), (7, _), (8, _), (9, _), (10, _), (11, _), (89, _)] a := hA.sub ((.cons rfl (.cons rfl (.cons rfl (.cons rfl (.cons rfl (.cons rfl (.cons rfl (.cons rfl (.cons rfl .nil))))))))))
        refine Ends.ite hA rfl (fun hc35 => ?_) (fun hc35 => ?_)
        ·
          refine Ends.skip ?_
          refine Ends.seq ?_
          refine Ends.block ?_
          refine Ends.seq ?_
          have hrg := ok_rng hokx (show k < X1.length by omega)
          have hi1 := (hif k (by omega)).1
          have hi2 := hbf k (by omega)
          rw [(hif k (by omega)).2] at hi2
          refine Ends.region ?_
          refine S.val hA (R.move rfl) rfl ?_; clear hA a; intro a hA
          refine S.val hA (R.move rfl) rfl ?_; clear hA a; intro a hA
          refine S.val hA (R.move rfl) rfl ?_; clear hA a; intro a hA
          refine S.val hA (R.idxI rh4 (j := k) sl22 rfl rfl (by omega) (rfl)) rfl ?_; clear hA a; intro a hA
          refine S.val hA (R.loadI (rh4.mem hM) sz3 rfl (by omega)) rfl ?_; clear hA a; intro a hA
          refine S.val hA (R.idxI rh11 (j := (X1.getD k 0).toNat) sl22 rfl rfl (by omega) (rfl)) rfl ?_; clear hA a; intro a hA
          refine S.val hA (R.loadI (rh11.mem hM) sz3 rfl (by omega)) rfl ?_; clear hA a; intro a hA
          refine S.val hA (R.move rfl) rfl ?_; clear hA a; intro a hA
          refine S.val hA (R.ff (R.neq rfl rfl) (by omega)) rfl ?_; clear hA a; intro a hA
          refine S.val hA (R.move rfl) rfl ?_; clear hA a; intro a hA
          refine S.valg (dj := 101) hA (by kernel_rfl) rfl (R.move rfl) rfl ?_; clear hA a; intro a hA
          refine S.valg (dj := 101) hA (by kernel_rfl) rfl (R.ff (R.neq rfl rfl) (by first | decide | simp | omega)) rfl ?_; clear hA a; intro a hA
          refine S.val hA (R.pickF rfl rfl) rfl ?_; clear hA a; intro a hA
          refine S.val hA (R.move rfl) rfl ?_; clear hA a; intro a hA
          refine S.valg (dj := 105) hA (by kernel_rfl) rfl (R.move rfl) rfl ?_; clear hA a; intro a hA
          refine S.valg (dj := 105) hA (by kernel_rfl) rfl (R.move rfl) rfl ?_; clear hA a; intro a hA
          refine S.valg (dj := 105) hA (by kernel_rfl) rfl (R.idxI rh34 (j := k) sl22 rfl rfl (by omega) (rfl)) rfl ?_; clear hA a; intro a hA
          refine S.valg (dj := 105) hA (by kernel_rfl) rfl (R.loadI (rh34.mem hM) sz3 rfl (by omega)) rfl ?_; clear hA a; intro a hA
          refine S.valg (dj := 105) hA (by kernel_rfl) rfl (R.move rfl) rfl ?_; clear hA a; intro a hA
          refine S.valg (dj := 105) hA (by kernel_rfl) rfl (R.ff (R.neq rfl rfl) (by omega)) rfl ?_; clear hA a; intro a hA
          refine S.val hA (R.pickF rfl rfl) rfl ?_; clear hA a; intro a hA
          refine S.done ?_
          replace hA : St 133 [(0, _), (1, _), (5, _), (7, _), (8, _), (9, _), (10, _), (11, _), (112, _)] a := hA.sub ((.cons rfl (.cons rfl (.cons rfl (.cons rfl (.cons rfl (.cons rfl (.cons rfl (.cons rfl (.cons rfl .nil))))))))))
          refine Ends.condF hA rfl ?_
          refine Ends.skip ?_
          refine Ends.inBlock ?_
          refine Ends.region ?_
          refine S.val hA (R.move rfl) rfl ?_; clear hA a; intro a hA
          refine S.val hA (R.addI rfl rfl (r := ((k : Int)) + 1) rfl (by omega)) rfl ?_; clear hA a; intro a hA
          refine S.val hA (R.assign rfl) rfl ?_; clear hA a; intro a hA
          refine S.done ?_
          replace hA : St 133 [(0, _), (1, _), (5, _), (7, _), (8, _), (9, _), (10, _), (11, _)] a := hA.sub ((.cons rfl (.cons rfl (.cons rfl (.cons rfl (.cons rfl (.cons rfl (.cons rfl (.cons rfl .nil)))))))))
          exact hNext ((k + 1)) _ _ ((by show X1.length - (k + 1) < X1.length - k; omega)) ⟨hA.sub ((.cons rfl (.cons rfl (.cons rfl (.cons rfl (.cons rfl (.cons rfl (.cons rfl (.cons rfl .nil))))))))), hM, (by omega)⟩
        ·
          refine Ends.exit rfl ?_
          replace hA : St 133 [(0, _), (1, _), (7, _), (8, _)] a := hA.sub ((.cons rfl (.cons rfl (.cons rfl (.cons rfl .nil)))))
          refine Ends.seq ?_
          refine Ends.seq ?_
          refine Ends.region ?_
          refine S.val hA (R.move rfl) rfl ?_; clear hA a; intro a hA
          refine S.val hA (R.ff (R.eql rfl rfl) (by first | decide | simp | omega)) rfl ?_; clear hA a; intro a hA
          refine S.done ?_
          replace hA : St 133 [(0, _), (1, _), (7, _), (114, _)] a := hA.sub ((.cons rfl (.cons rfl (.cons rfl (.cons rfl .nil)))))
          refine Ends.condF hA rfl ?_
          refine Ends.skip ?_
          refine Ends.seq ?_
          refine Ends.region ?_
          refine S.val hA (R.assign rfl) rfl ?_; clear hA a; intro a hA
          refine S.done ?_
          replace hA : St 133 [(4, _)] a := hA.sub ((.cons rfl .nil))
          refine Ends.ret1 Try.func6 Try.results6 hA rfl ?_
          exact ⟨rfl, Mem.trans0 hbs hM.nilL⟩
  ·
    by_cases hs36 : okP X5 = true
    ·
      by_cases hs37 : X1.length = X5.length
      ·
        have hokx : okP X1 = false := by simpa using hs15
        have hokz : okP X5 = true := hs36
        have hln := hs37
        have he1 := inv_no hiv hokx
        subst he1
        have he2 := then_no hth (by simp [hokx, hokz, hln])
        subst he2
        refine Ends.region ?_
        refine S.call hA (R.callF Try.func11 rfl rfl rfl) rfl (orders_any _) ?_; clear hA a
        rintro e w38 ⟨rfl, hb⟩
        replace hM := hM.callB hb; clear hb
        refine ⟨.bool true, rfl, fun a hA => ?_⟩
        refine S.val hA (R.not rfl) rfl ?_; clear hA a; intro a hA
        refine S.val hA (R.move rfl) rfl ?_; clear hA a; intro a hA
        refine S.valg (dj := 30) hA (by kernel_rfl) rfl (R.move rfl) rfl ?_; clear hA a; intro a hA
        refine S.callg (dj := 30) hA (by kernel_rfl) rfl (R.callF Try.func18 rfl rfl rfl) rfl (is09_b ra2 X1 rc3 (by omega) hokx _ (rh4.mem hM)) ?_; clear hA a
        rintro e w39 ⟨rfl, hb⟩
        replace hM := hM.callB hb; clear hb
        refine ⟨.bool false, rfl, fun a hA => ?_⟩
        refine S.valg (dj := 30) hA (by kernel_rfl) rfl (R.move rfl) rfl ?_; clear hA a; intro a hA
        refine S.callg (dj := 30) hA (by kernel_rfl) rfl (R.callF Try.func14 rfl rfl rfl) rfl (ris09_b ra2 X1 rc3 (by omega) hokx _ (rh4.mem hM)) ?_; clear hA a
        rintro e w40 ⟨rfl, hb⟩
        replace hM := hM.callB hb; clear hb
        refine ⟨.bool false, rfl, fun a hA => ?_⟩
        refine S.valg (dj := 30) hA (by kernel_rfl) rfl (R.to (v := .bool false) (R.neqB Try.underlying4 rfl rfl) (congrArg Value.bool (by simp))) rfl ?_; clear hA a; intro a hA
        refine S.val hA (R.pickF rfl rfl) rfl ?_; clear hA a; intro a hA
        refine S.val hA (R.move rfl) rfl ?_; clear hA a; intro a hA
        refine S.valg (dj := 37) hA (by kernel_rfl) rfl (R.move rfl) rfl ?_; clear hA a; intro a hA
        refine S.valg (dj := 37) hA (by kernel_rfl) rfl (R.ff (R.eql rfl rfl) (by first | decide | simp | omega)) rfl ?_; clear hA a; intro a hA
        refine S.valg (dj := 37) hA (by kernel_rfl) rfl (R.move rfl) rfl ?_; clear hA a; intro a hA
        refine S.callg (dj := 37) hA (by kernel_rfl) rfl (R.callF Try.func14 rfl rfl rfl) rfl (ris09_b ra2 X1 rc3 (by omega) hokx _ (rh4.mem hM)) ?_; clear hA a
        rintro e w41 ⟨rfl, hb⟩
        replace hM := hM.callB hb; clear hb
        refine ⟨.bool false, rfl, fun a hA => ?_⟩
        refine S.valg (dj := 37) hA (by kernel_rfl) rfl (R.to (v := .bool false) (R.neqB Try.underlying4 rfl rfl) (congrArg Value.bool (by simp))) rfl ?_; clear hA a; intro a hA
        refine S.val hA (R.pickF rfl rfl) rfl ?_; clear hA a; intro a hA
        refine S.val hA (R.move rfl) rfl ?_; clear hA a; intro a hA
        refine S.valg (dj := 44) hA (by kernel_rfl) rfl (R.move rfl) rfl ?_; clear hA a; intro a hA
        refine S.valg (dj := 44) hA (by kernel_rfl) rfl (R.ff (R.eql rfl rfl) (by first | decide | simp | omega)) rfl ?_; clear hA a; intro a hA
        refine S.valg (dj := 44) hA (by kernel_rfl) rfl (R.move rfl) rfl ?_; clear hA a; intro a hA
        refine S.callg (dj := 44) hA (by kernel_rfl) rfl (R.callF Try.func14 rfl rfl rfl) rfl (ris09_b ra2 X1 rc3 (by omega) hokx _ (rh4.mem hM)) ?_; clear hA a
        rintro e w42 ⟨rfl, hb⟩
        replace hM := hM.callB hb; clear hb
        refine ⟨.bool false, rfl, fun a hA => ?_⟩
        refine S.valg (dj := 44) hA (by kernel_rfl) rfl (R.move rfl) rfl ?_; clear hA a; intro a hA
        refine S.no (dj := 49) hA (by kernel_rfl) rfl rfl rfl ?_; clear hA a; intro a hA
        refine S.no (dj := 49) hA (by kernel_rfl) rfl rfl rfl ?_; clear hA a; intro a hA
        refine S.valg (dj := 44) hA (by kernel_rfl) rfl (R.pickF rfl rfl) rfl ?_; clear hA a; intro a hA
        refine S.valg (dj := 44) hA (by kernel_rfl) rfl (R.move rfl) rfl ?_; clear hA a; intro a hA
        refine S.no (dj := 53) hA (by kernel_rfl) rfl rfl rfl ?_; clear hA a; intro a hA
        refine S.no (dj := 53) hA (by kernel_rfl) rfl rfl rfl ?_; clear hA a; intro a hA
        refine S.no (dj := 53) hA (by kernel_rfl) rfl rfl rfl ?_; clear hA a; intro a hA
        refine S.no (dj := 53) hA (by kernel_rfl) rfl rfl rfl ?_; clear hA a; intro a hA
        refine S.no (dj := 53) hA (by kernel_rfl) rfl rfl rfl ?_; clear hA a; intro a hA
        refine S.valg (dj := 44) hA (by kernel_rfl) rfl (R.pickF rfl rfl) rfl ?_; clear hA a; intro a hA
        refine S.valg (dj := 44) hA (by kernel_rfl) rfl (R.to (v := .bool false) (R.neqB Try.underlying4 rfl rfl) (congrArg Value.bool (by simp))) rfl ?_; clear hA a; intro a hA
        refine S.val hA (R.pickF rfl rfl) rfl ?_; clear hA a; intro a hA
        refine S.val hA (R.move rfl) rfl ?_; clear hA a; intro a hA
        refine S.valg (dj := 62) hA (by kernel_rfl) rfl (R.move rfl) rfl ?_; clear hA a; intro a hA
        refine S.valg (dj := 62) hA (by kernel_rfl) rfl (R.tt (R.neq rfl rfl) (by first | decide | simp | omega)) rfl ?_; clear hA a; intro a hA
        refine S.valg (dj := 62) hA (by kernel_rfl) rfl (R.move rfl) rfl ?_; clear hA a; intro a hA
        refine S.valg (dj := 65) hA (by kernel_rfl) rfl (R.move rfl) rfl ?_; clear hA a; intro a hA
        refine S.valg (dj := 65) hA (by kernel_rfl) rfl (R.ff (R.neq rfl rfl) (by first | decide | simp | omega)) rfl ?_; clear hA a; intro a hA
        refine S.valg (dj := 62) hA (by kernel_rfl) rfl (R.pickT rfl rfl) rfl ?_; clear hA a; intro a hA
        refine S.val hA (R.pickF rfl rfl) rfl ?_; clear hA a; intro a hA
        refine S.val hA (R.move rfl) rfl ?_; clear hA a; intro a hA
        refine S.valg (dj := 70) hA (by kernel_rfl) rfl (R.move rfl) rfl ?_; clear hA a; intro a hA
        refine S.valg (dj := 70) hA (by kernel_rfl) rfl (R.tt (R.neq rfl rfl) (by first | decide | simp | omega)) rfl ?_; clear hA a; intro a hA
        refine S.valg (dj := 70) hA (by kernel_rfl) rfl (R.move rfl) rfl ?_; clear hA a; intro a hA
        refine S.valg (dj := 73) hA (by kernel_rfl) rfl (R.move rfl) rfl ?_; clear hA a; intro a hA
        refine S.valg (dj := 73) hA (by kernel_rfl) rfl (R.ff (R.neq rfl rfl) (by first | decide | simp | omega)) rfl ?_; clear hA a; intro a hA
        refine S.valg (dj := 70) hA (by kernel_rfl) rfl (R.pickT rfl rfl) rfl ?_; clear hA a; intro a hA
        refine S.val hA (R.pickF rfl rfl) rfl ?_; clear hA a; intro a hA
        refine S.done ?_
        replace hA : St 133 [(0, _), (1, _), (5, _), (6, _), (7, _), (8, _), (77, _)] a := hA.sub ((.cons rfl (.cons rfl (.cons rfl (.cons rfl (.cons rfl (.cons rfl (.cons rfl .nil))))))))
        refine Ends.condF hA rfl ?_
        refine Ends.skip ?_
        refine Ends.seq ?_
        refine Ends.seq ?_
        refine Ends.region ?_
        refine S.val hA (R.move rfl) rfl ?_; clear hA a; intro a hA
        refine S.val hA (R.ff (R.eql rfl rfl) (by first | decide | simp | omega)) rfl ?_; clear hA a; intro a hA
        refine S.done ?_
        replace hA : St 133 [(0, _), (1, _), (5, _), (7, _), (8, _), (79, _)] a := hA.sub ((.cons rfl (.cons rfl (.cons rfl (.cons rfl (.cons rfl (.cons rfl .nil)))))))
        refine Ends.condF hA rfl ?_
        refine Ends.skip ?_
        refine Ends.seq ?_
        refine Ends.seq ?_
        refine Ends.region ?_
        refine S.val hA (R.move rfl) rfl ?_; clear hA a; intro a hA
        refine S.val hA (R.ff (R.eql rfl rfl) (by first | decide | simp | omega)) rfl ?_; clear hA a; intro a hA
        refine S.done ?_
        replace hA : St 133 [(0, _), (1, _), (7, _), (114, _)] a := hA.sub ((.cons rfl (.cons rfl (.cons rfl (.cons rfl .nil)))))
        refine Ends.condF hA rfl ?_
        refine Ends.skip ?_
        refine Ends.seq ?_
        refine Ends.region ?_
        refine S.val hA (R.assign rfl) rfl ?_; clear hA a; intro a hA
        refine S.done ?_
        replace hA : St 133 [(4, _)] a := hA.sub ((.cons rfl .nil))
        refine Ends.ret1 Try.func6 Try.results6 hA rfl ?_
        exact ⟨rfl, Mem.trans0 hbs hM.nilL⟩
      ·
        have hokx : okP X1 = false := by simpa using hs15
        have hokz : okP X5 = true := hs36
        have hln := hs37
        have he1 := inv_no hiv hokx
        subst he1
        have he2 := then_no hth (by simp [hokx, hokz, hln])
        subst he2
        refine Ends.region ?_
        refine S.call hA (R.callF Try.func11 rfl rfl rfl) rfl (orders_any _) ?_; clear hA a
        rintro e w43 ⟨rfl, hb⟩
        replace hM := hM.callB hb; clear hb
        refine ⟨.bool true, rfl, fun a hA => ?_⟩
        refine S.val hA (R.not rfl) rfl ?_; clear hA a; intro a hA
        refine S.val hA (R.move rfl) rfl ?_; clear hA a; intro a hA
        refine S.valg (dj := 30) hA (by kernel_rfl) rfl (R.move rfl) rfl ?_; clear hA a; intro a hA
        refine S.callg (dj := 30) hA (by kernel_rfl) rfl (R.callF Try.func18 rfl rfl rfl) rfl (is09_b ra2 X1 rc3 (by omega) hokx _ (rh4.mem hM)) ?_; clear hA a
        rintro e w44 ⟨rfl, hb⟩
        replace hM := hM.callB hb; clear hb
        refine ⟨.bool false, rfl, fun a hA => ?_⟩
        refine S.valg (dj := 30) hA (by kernel_rfl) rfl (R.move rfl) rfl ?_; clear hA a; intro a hA
        refine S.callg (dj := 30) hA (by kernel_rfl) rfl (R.callF Try.func14 rfl rfl rfl) rfl (ris09_b ra2 X1 rc3 (by omega) hokx _ (rh4.mem hM)) ?_; clear hA a
        rintro e w45 ⟨rfl, hb⟩
        replace hM := hM.callB hb; clear hb
        refine ⟨.bool false, rfl, fun a hA => ?_⟩
        refine S.valg (dj := 30) hA (by kernel_rfl) rfl (R.to (v := .bool false) (R.neqB Try.underlying4 rfl rfl) (congrArg Value.bool (by simp))) rfl ?_; clear hA a; intro a hA
        refine S.val hA (R.pickF rfl rfl) rfl ?_; clear hA a; intro a hA
        refine S.val hA (R.move rfl) rfl ?_; clear hA a; intro a hA
        refine S.valg (dj := 37) hA (by kernel_rfl) rfl (R.move rfl) rfl ?_; clear hA a; intro a hA
        refine S.valg (dj := 37) hA (by kernel_rfl) rfl (R.ff (R.eql rfl rfl) (by first | decide | simp | omega)) rfl ?_; clear hA a; intro a hA
        refine S.valg (dj := 37) hA (by kernel_rfl) rfl (R.move rfl) rfl ?_; clear hA a; intro a hA
        refine S.callg (dj := 37) hA (by kernel_rfl) rfl (R.callF Try.func14 rfl rfl rfl) rfl (ris09_b ra2 X1 rc3 (by omega) hokx _ (rh4.mem hM)) ?_; clear hA a
        rintro e w46 ⟨rfl, hb⟩
        replace hM := hM.callB hb; clear hb
        refine ⟨.bool false, rfl, fun a hA => ?_⟩
        refine S.valg (dj := 37) hA (by kernel_rfl) rfl (R.to (v := .bool false) (R.neqB Try.underlying4 rfl rfl) (congrArg Value.bool (by simp))) rfl ?_; clear hA a; intro a hA
        refine S.val hA (R.pickF rfl rfl) rfl ?_; clear hA a; intro a hA
        refine S.val hA (R.move rfl) rfl ?_; clear hA a; intro a hA
        refine S.valg (dj := 44) hA (by kernel_rfl) rfl (R.move rfl) rfl ?_; clear hA a; intro a hA
        refine S.valg (dj := 44) hA (by kernel_rfl) rfl (R.ff (R.eql rfl rfl) (by first | decide | simp | omega)) rfl ?_; clear hA a; intro a hA
        refine S.valg (dj := 44) hA (by kernel_rfl) rfl (R.move rfl) rfl ?_; clear hA a; intro a hA
        refine S.callg (dj := 44) hA (by kernel_rfl) rfl (R.callF Try.func14 rfl rfl rfl) rfl (ris09_b ra2 X1 rc3 (by omega) hokx _ (rh4.mem hM)) ?_; clear hA a
        rintro e w47 ⟨rfl, hb⟩
        replace hM := hM.callB hb; clear hb
        refine ⟨.bool false, rfl, fun a hA => ?_⟩
        refine S.valg (dj := 44) hA (by kernel_rfl) rfl (R.move rfl) rfl ?_; clear hA a; intro a hA
        refine S.no (dj := 49) hA (by kernel_rfl) rfl rfl rfl ?_; clear hA a; intro a hA
        refine S.no (dj := 49) hA (by kernel_rfl) rfl rfl rfl ?_; clear hA a; intro a hA
        refine S.valg (dj := 44) hA (by kernel_rfl) rfl (R.pickF rfl rfl) rfl ?_; clear hA a; intro a hA
        refine S.valg (dj := 44) hA (by kernel_rfl) rfl (R.move rfl) rfl ?_; clear hA a; intro a hA
        refine S.no (dj := 53) hA (by kernel_rfl) rfl rfl rfl ?_; clear hA a; intro a hA
        refine S.no (dj := 53) hA (by kernel_rfl) rfl rfl rfl ?_; clear hA a; intro a hA
        refine S.no (dj := 53) hA (by kernel_rfl) rfl rfl rfl ?_; clear hA a; intro a hA
        refine S.no (dj := 53) hA (by kernel_rfl) rfl rfl rfl ?_; clear hA a; intro a hA
        refine S.no (dj := 53) hA (by kernel_rfl) rfl rfl rfl ?_; clear hA a; intro a hA
        refine S.valg (dj := 44) hA (by kernel_rfl) rfl (R.pickF rfl rfl) rfl ?_; clear hA a; intro a hA
        refine S.valg (dj := 44) hA (by kernel_rfl) rfl (R.to (v := .bool false) (R.neqB Try.underlying4 rfl rfl) (congrArg Value.bool (by simp))) rfl ?_; clear hA a; intro a hA
        refine S.val hA (R.pickF rfl rfl) rfl ?_; clear hA a; intro a hA
        refine S.val hA (R.move rfl) rfl ?_; clear hA a; intro a hA
        refine S.valg (dj := 62) hA (by kernel_rfl) rfl (R.move rfl) rfl ?_; clear hA a; intro a hA
        refine S.valg (dj := 62) hA (by kernel_rfl) rfl (R.tt (R.neq rfl rfl) (by first | decide | simp | omega)) rfl ?_; clear hA a; intro a hA
        refine S.valg (dj := 62) hA (by kernel_rfl) rfl (R.move rfl) rfl ?_; clear hA a; intro a hA
        refine S.valg (dj := 65) hA (by kernel_rfl) rfl (R.move rfl) rfl ?_; clear hA a; intro a hA
        refine S.valg (dj := 65) hA (by kernel_rfl) rfl (R.ff (R.neq rfl rfl) (by first | decide | simp | omega)) rfl ?_; clear hA a; intro a hA
        refine S.valg (dj := 62) hA (by kernel_rfl) rfl (R.pickT rfl rfl) rfl ?_; clear hA a; intro a hA
        refine S.val hA (R.pickF rfl rfl) rfl ?_; clear hA a; intro a hA
        refine S.val hA (R.move rfl) rfl ?_; clear hA a; intro a hA
        refine S.valg (dj := 70) hA (by kernel_rfl) rfl (R.move rfl) rfl ?_; clear hA a; intro a hA
        refine S.valg (dj := 70) hA (by kernel_rfl) rfl (R.tt (R.neq rfl rfl) (by first | decide | simp | omega)) rfl ?_; clear hA a; intro a hA
        refine S.valg (dj := 70) hA (by kernel_rfl) rfl (R.move rfl) rfl ?_; clear hA a; intro a hA
        refine S.valg (dj := 73) hA (by kernel_rfl) rfl (R.move rfl) rfl ?_; clear hA a; intro a hA
        refine S.valg (dj := 73) hA (by kernel_rfl) rfl (R.ff (R.neq rfl rfl) (by first | decide | simp | omega)) rfl ?_; clear hA a; intro a hA
        refine S.valg (dj := 70) hA (by kernel_rfl) rfl (R.pickT rfl rfl) rfl ?_; clear hA a; intro a hA
        refine S.val hA (R.pickF rfl rfl) rfl ?_; clear hA a; intro a hA
        refine S.done ?_
        replace hA : St 133 [(0, _), (1, _), (5, _), (6, _), (7, _), (8, _), (77, _)] a := hA.sub ((.cons rfl (.cons rfl (.cons rfl (.cons rfl (.cons rfl (.cons rfl (.cons rfl .nil))))))))
        refine Ends.condF hA rfl ?_
        refine Ends.skip ?_
        refine Ends.seq ?_
        refine Ends.seq ?_
        refine Ends.region ?_
        refine S.val hA (R.move rfl) rfl ?_; clear hA a; intro a hA
        refine S.val hA (R.ff (R.eql rfl rfl) (by first | decide | simp | omega)) rfl ?_; clear hA a; intro a hA
        refine S.done ?_
        replace hA : St 133 [(0, _), (1, _), (5, _), (7, _), (8, _), (79, _)] a := hA.sub ((.cons rfl (.cons rfl (.cons rfl (.cons rfl (.cons rfl (.cons rfl .nil)))))))
        refine Ends.condF hA rfl ?_
        refine Ends.skip ?_
        refine Ends.seq ?_
        refine Ends.seq ?_
        refine Ends.region ?_
        refine S.val hA (R.move rfl) rfl ?_; clear hA a; intro a hA
        refine S.val hA (R.ff (R.eql rfl rfl) (by first | decide | simp | omega)) rfl ?_; clear hA a; intro a hA
        refine S.done ?_
        replace hA : St 133 [(0, _), (1, _), (7, _), (114, _)] a := hA.sub ((.cons rfl (.cons rfl (.cons rfl (.cons rfl .nil)))))
        refine Ends.condF hA rfl ?_
        refine Ends.skip ?_
        refine Ends.seq ?_
        refine Ends.region ?_
        refine S.val hA (R.assign rfl) rfl ?_; clear hA a; intro a hA
        refine S.done ?_
        replace hA : St 133 [(4, _)] a := hA.sub ((.cons rfl .nil))
        refine Ends.ret1 Try.func6 Try.results6 hA rfl ?_
        exact ⟨rfl, Mem.trans0 hbs hM.nilL⟩
    ·
      by_cases hs38 : X1.length = X5.length
      ·
        have hokx : okP X1 = false := by simpa using hs15
        have hokz : okP X5 = false := by simpa using hs36
        have hln := hs38
        have he1 := inv_no hiv hokx
        subst he1
        have he2 := then_no hth (by simp [hokx, hokz, hln])
        subst he2
        refine Ends.region ?_
        refine S.call hA (R.callF Try.func11 rfl rfl rfl) rfl (orders_any _) ?_; clear hA a
        rintro e w48 ⟨rfl, hb⟩
        replace hM := hM.callB hb; clear hb
        refine ⟨.bool true, rfl, fun a hA => ?_⟩
        refine S.val hA (R.not rfl) rfl ?_; clear hA a; intro a hA
        refine S.val hA (R.move rfl) rfl ?_; clear hA a; intro a hA
        refine S.valg (dj := 30) hA (by kernel_rfl) rfl (R.move rfl) rfl ?_; clear hA a; intro a hA
        refine S.callg (dj := 30) hA (by kernel_rfl) rfl (R.callF Try.func18 rfl rfl rfl) rfl (is09_b ra2 X1 rc3 (by omega) hokx _ (rh4.mem hM)) ?_; clear hA a
        rintro e w49 ⟨rfl, hb⟩
        replace hM := hM.callB hb; clear hb
        refine ⟨.bool false, rfl, fun a hA => ?_⟩
        refine S.valg (dj := 30) hA (by kernel_rfl) rfl (R.move rfl) rfl ?_; clear hA a; intro a hA
        refine S.callg (dj := 30) hA (by kernel_rfl) rfl (R.callF Try.func14 rfl rfl rfl) rfl (ris09_b ra2 X1 rc3 (by omega) hokx _ (rh4.mem hM)) ?_; clear hA a
        rintro e w50 ⟨rfl, hb⟩
        replace hM := hM.callB hb; clear hb
        refine ⟨.bool false, rfl, fun a hA => ?_⟩
        refine S.valg (dj := 30) hA (by kernel_rfl) rfl (R.to (v := .bool false) (R.neqB Try.underlying4 rfl rfl) (congrArg Value.bool (by simp))) rfl ?_; clear hA a; intro a hA
        refine S.val hA (R.pickF rfl rfl) rfl ?_; clear hA a; intro a hA
        refine S.val hA (R.move rfl) rfl ?_; clear hA a; intro a hA
        refine S.valg (dj := 37) hA (by kernel_rfl) rfl (R.move rfl) rfl ?_; clear hA a; intro a hA
        refine S.valg (dj := 37) hA (by kernel_rfl) rfl (R.ff (R.eql rfl rfl) (by first | decide | simp | omega)) rfl ?_; clear hA a; intro a hA
        refine S.valg (dj := 37) hA (by kernel_rfl) rfl (R.move rfl) rfl ?_; clear hA a; intro a hA
        refine S.callg (dj := 37) hA (by kernel_rfl) rfl (R.callF Try.func14 rfl rfl rfl) rfl (ris09_b ra2 X1 rc3 (by omega) hokx _ (rh4.mem hM)) ?_; clear hA a
        rintro e w51 ⟨rfl, hb⟩
        replace hM := hM.callB hb; clear hb
        refine ⟨.bool false, rfl, fun a hA => ?_⟩
        refine S.valg (dj := 37) hA (by kernel_rfl) rfl (R.to (v := .bool false) (R.neqB Try.underlying4 rfl rfl) (congrArg Value.bool (by simp))) rfl ?_; clear hA a; intro a hA
        refine S.val hA (R.pickF rfl rfl) rfl ?_; clear hA a; intro a hA
        refine S.val hA (R.move rfl) rfl ?_; clear hA a; intro a hA
        refine S.valg (dj := 44) hA (by kernel_rfl) rfl (R.move rfl) rfl ?_; clear hA a; intro a hA
        refine S.valg (dj := 44) hA (by kernel_rfl) rfl (R.ff (R.eql rfl rfl) (by first | decide | simp | omega)) rfl ?_; clear hA a; intro a hA
        refine S.valg (dj := 44) hA (by kernel_rfl) rfl (R.move rfl) rfl ?_; clear hA a; intro a hA
        refine S.callg (dj := 44) hA (by kernel_rfl) rfl (R.callF Try.func14 rfl rfl rfl) rfl (ris09_b ra2 X1 rc3 (by omega) hokx _ (rh4.mem hM)) ?_; clear hA a
        rintro e w52 ⟨rfl, hb⟩
        replace hM := hM.callB hb; clear hb
        refine ⟨.bool false, rfl, fun a hA => ?_⟩
        refine S.valg (dj := 44) hA (by kernel_rfl) rfl (R.move rfl) rfl ?_; clear hA a; intro a hA
        refine S.no (dj := 49) hA (by kernel_rfl) rfl rfl rfl ?_; clear hA a; intro a hA
        refine S.no (dj := 49) hA (by kernel_rfl) rfl rfl rfl ?_; clear hA a; intro a hA
        refine S.valg (dj := 44) hA (by kernel_rfl) rfl (R.pickF rfl rfl) rfl ?_; clear hA a; intro a hA
        refine S.valg (dj := 44) hA (by kernel_rfl) rfl (R.move rfl) rfl ?_; clear hA a; intro a hA
        refine S.no (dj := 53) hA (by kernel_rfl) rfl rfl rfl ?_; clear hA a; intro a hA
        refine S.no (dj := 53) hA (by kernel_rfl) rfl rfl rfl ?_; clear hA a; intro a hA
        refine S.no (dj := 53) hA (by kernel_rfl) rfl rfl rfl ?_; clear hA a; intro a hA
        refine S.no (dj := 53) hA (by kernel_rfl) rfl rfl rfl ?_; clear hA a; intro a hA
        refine S.no (dj := 53) hA (by kernel_rfl) rfl rfl rfl ?_; clear hA a; intro a hA
        refine S.valg (dj := 44) hA (by kernel_rfl) rfl (R.pickF rfl rfl) rfl ?_; clear hA a; intro a hA
        refine S.valg (dj := 44) hA (by kernel_rfl) rfl (R.to (v := .bool false) (R.neqB Try.underlying4 rfl rfl) (congrArg Value.bool (by simp))) rfl ?_; clear hA a; intro a hA
        refine S.val hA (R.pickF rfl rfl) rfl ?_; clear hA a; intro a hA
        refine S.val hA (R.move rfl) rfl ?_; clear hA a; intro a hA
        refine S.valg (dj := 62) hA (by kernel_rfl) rfl (R.move rfl) rfl ?_; clear hA a; intro a hA
        refine S.valg (dj := 62) hA (by kernel_rfl) rfl (R.tt (R.neq rfl rfl) (by first | decide | simp | omega)) rfl ?_; clear hA a; intro a hA
        refine S.valg (dj := 62) hA (by kernel_rfl) rfl (R.move rfl) rfl ?_; clear hA a; intro a hA
        refine S.valg (dj := 65) hA (by kernel_rfl) rfl (R.move rfl) rfl ?_; clear hA a; intro a hA
        refine S.valg (dj := 65) hA (by kernel_rfl) rfl (R.ff (R.neq rfl rfl) (by first | decide | simp | omega)) rfl ?_; clear hA a; intro a hA
        refine S.valg (dj := 62) hA (by kernel_rfl) rfl (R.pickT rfl rfl) rfl ?_; clear hA a; intro a hA
        refine S.val hA (R.pickF rfl rfl) rfl ?_; clear hA a; intro a hA
        refine S.val hA (R.move rfl) rfl ?_; clear hA a; intro a hA
        refine S.valg (dj := 70) hA (by kernel_rfl) rfl (R.move rfl) rfl ?_; clear hA a; intro a hA
        refine S.valg (dj := 70) hA (by kernel_rfl) rfl (R.tt (R.neq rfl rfl) (by first | decide | simp | omega)) rfl ?_; clear hA a; intro a hA
        refine S.valg (dj := 70) hA (by kernel_rfl) rfl (R.move rfl) rfl ?_; clear hA a; intro a hA
        refine S.valg (dj := 73) hA (by kernel_rfl) rfl (R.move rfl) rfl ?_; clear hA a; intro a hA
        refine S.valg (dj := 73) hA (by kernel_rfl) rfl (R.ff (R.neq rfl rfl) (by first | decide | simp | omega)) rfl ?_; clear hA a; intro a hA
        refine S.valg (dj := 70) hA (by kernel_rfl) rfl (R.pickT rfl rfl) rfl ?_; clear hA a; intro a hA
        refine S.val hA (R.pickF rfl rfl) rfl ?_; clear hA a; intro a hA
        refine S.done ?_
        replace hA : St 133 [(0, _), (1, _), (5, _), (6, _), (7, _), (8, _), (77, _)] a := hA.sub ((.cons rfl (.cons rfl (.cons rfl (.cons rfl (.cons rfl (.cons rfl (.cons rfl .nil))))))))
        refine Ends.condF hA rfl ?_
        refine Ends.skip ?_
        refine Ends.seq ?_
        refine Ends.seq ?_
        refine Ends.region ?_
        refine S.val hA (R.move rfl) rfl ?_; clear hA a; intro a hA
        refine S.val hA (R.ff (R.eql rfl rfl) (by first | decide | simp | omega)) rfl ?_; clear hA a; intro a hA
        refine S.done ?_
        replace hA : St 133 [(0, _), (1, _), (5, _), (7, _), (8, _), (79, _)] a := hA.sub ((.cons rfl (.cons rfl (.cons rfl (.cons rfl (.cons rfl (.cons rfl .nil)))))))
        refine Ends.condF hA rfl ?_
        refine Ends.skip ?_
        refine Ends.seq ?_
        refine Ends.seq ?_
        refine Ends.region ?_
        refine S.val hA (R.move rfl) rfl ?_; clear hA a; intro a hA
        refine S.val hA (R.ff (R.eql rfl rfl) (by first | decide | simp | omega)) rfl ?_; clear hA a; intro a hA
        refine S.done ?_
        replace hA : St 133 [(0, _), (1, _), (7, _), (114, _)] a := hA.sub ((.cons rfl (.cons rfl (.cons rfl (.cons rfl .nil)))))
        refine Ends.condF hA rfl ?_
        refine Ends.skip ?_
        refine Ends.seq ?_
        refine Ends.region ?_
        refine S.val hA (R.assign rfl) rfl ?_; clear hA a; intro a hA
        refine S.done ?_
        replace hA : St 133 [(4, _)] a := hA.sub ((.cons rfl .nil))
        refine Ends.ret1 Try.func6 Try.results6 hA rfl ?_
        exact ⟨rfl, Mem.trans0 hbs hM.nilL⟩
      ·
        have hokx : okP X1 = false := by simpa using hs15
        have hokz : okP X5 = false := by simpa using hs36
        have hln := hs38
        have he1 := inv_no hiv hokx
        subst he1
        have he2 := then_no hth (by simp [hokx, hokz, hln])
        subst he2
        refine Ends.region ?_
        refine S.call hA (R.callF Try.func11 rfl rfl rfl) rfl (orders_any _) ?_; clear hA a
        rintro e w53 ⟨rfl, hb⟩
        replace hM := hM.callB hb; clear hb
        refine ⟨.bool true, rfl, fun a hA => ?_⟩
        refine S.val hA (R.not rfl) rfl ?_; clear hA a; intro a hA
        refine S.val hA (R.move rfl) rfl ?_; clear hA a; intro a hA
        refine S.valg (dj := 30) hA (by kernel_rfl) rfl (R.move rfl) rfl ?_; clear hA a; intro a hA
        refine S.callg (dj := 30) hA (by kernel_rfl) rfl (R.callF Try.func18 rfl rfl rfl) rfl (is09_b ra2 X1 rc3 (by omega) hokx _ (rh4.mem hM)) ?_; clear hA a
        rintro e w54 ⟨rfl, hb⟩
        replace hM := hM.callB hb; clear hb
        refine ⟨.bool false, rfl, fun a hA => ?_⟩
        refine S.valg (dj := 30) hA (by kernel_rfl) rfl (R.move rfl) rfl ?_; clear hA a; intro a hA
        refine S.callg (dj := 30) hA (by kernel_rfl) rfl (R.callF Try.func14 rfl rfl rfl) rfl (ris09_b ra2 X1 rc3 (by omega) hokx _ (rh4.mem hM)) ?_; clear hA a
        rintro e w55 ⟨rfl, hb⟩
        replace hM := hM.callB hb; clear hb
        refine ⟨.bool false, rfl, fun a hA => ?_⟩
        refine S.valg (dj := 30) hA (by kernel_rfl) rfl (R.to (v := .bool false) (R.neqB Try.underlying4 rfl rfl) (congrArg Value.bool (by simp))) rfl ?_; clear hA a; intro a hA
        refine S.val hA (R.pickF rfl rfl) rfl ?_; clear hA a; intro a hA
        refine S.val hA (R.move rfl) rfl ?_; clear hA a; intro a hA
        refine S.valg (dj := 37) hA (by kernel_rfl) rfl (R.move rfl) rfl ?_; clear hA a; intro a hA
        refine S.valg (dj := 37) hA (by kernel_rfl) rfl (R.ff (R.eql rfl rfl) (by first | decide | simp | omega)) rfl ?_; clear hA a; intro a hA
        refine S.valg (dj := 37) hA (by kernel_rfl) rfl (R.move rfl) rfl ?_; clear hA a; intro a hA
        refine S.callg (dj := 37) hA (by kernel_rfl) rfl (R.callF Try.func14 rfl rfl rfl) rfl (ris09_b ra2 X1 rc3 (by omega) hokx _ (rh4.mem hM)) ?_; clear hA a
        rintro e w56 ⟨rfl, hb⟩
        replace hM := hM.callB hb; clear hb
        refine ⟨.bool false, rfl, fun a hA => ?_⟩
        refine S.valg (dj := 37) hA (by kernel_rfl) rfl (R.to (v := .bool false) (R.neqB Try.underlying4 rfl rfl) (congrArg Value.bool (by simp))) rfl ?_; clear hA a; intro a hA
        refine S.val hA (R.pickF rfl rfl) rfl ?_; clear hA a; intro a hA
        refine S.val hA (R.move rfl) rfl ?_; clear hA a; intro a hA
        refine S.valg (dj := 44) hA (by kernel_rfl) rfl (R.move rfl) rfl ?_; clear hA a; intro a hA
        refine S.valg (dj := 44) hA (by kernel_rfl) rfl (R.ff (R.eql rfl rfl) (by first | decide | simp | omega)) rfl ?_; clear hA a; intro a hA
        refine S.valg (dj := 44) hA (by kernel_rfl) rfl (R.move rfl) rfl ?_; clear hA a; intro a hA
        refine S.callg (dj := 44) hA (by kernel_rfl) rfl (R.callF Try.func14 rfl rfl rfl) rfl (ris09_b ra2 X1 rc3 (by omega) hokx _ (rh4.mem hM)) ?_; clear hA a
        rintro e w57 ⟨rfl, hb⟩
        replace hM := hM.callB hb; clear hb
        refine ⟨.bool false, rfl, fun a hA => ?_⟩
        refine S.valg (dj := 44) hA (by kernel_rfl) rfl (R.move rfl) rfl ?_; clear hA a; intro a hA
        refine S.no (dj := 49) hA (by kernel_rfl) rfl rfl rfl ?_; clear hA a; intro a hA
        refine S.no (dj := 49) hA (by kernel_rfl) rfl rfl rfl ?_; clear hA a; intro a hA
        refine S.valg (dj := 44) hA (by kernel_rfl) rfl (R.pickF rfl rfl) rfl ?_; clear hA a; intro a hA
        refine S.valg (dj := 44) hA (by kernel_rfl) rfl (R.move rfl) rfl ?_; clear hA a; intro a hA
        refine S.no (dj := 53) hA (by kernel_rfl) rfl rfl rfl ?_; clear hA a; intro a hA
        refine S.no (dj := 53) hA (by kernel_rfl) rfl rfl rfl ?_; clear hA a; intro a hA
        refine S.no (dj := 53) hA (by kernel_rfl) rfl rfl rfl ?_; clear hA a; intro a hA
        refine S.no (dj := 53) hA (by kernel_rfl) rfl rfl rfl ?_; clear hA a; intro a hA
        refine S.no (dj := 53) hA (by kernel_rfl) rfl rfl rfl ?_; clear hA a; intro a hA
        refine S.valg (dj := 44) hA (by kernel_rfl) rfl (R.pickF rfl rfl) rfl ?_; clear hA a; intro a hA
        refine S.valg (dj := 44) hA (by kernel_rfl) rfl (R.to (v := .bool false) (R.neqB Try.underlying4 rfl rfl) (congrArg Value.bool (by simp))) rfl ?_; clear hA a; intro a hA
        refine S.val hA (R.pickF rfl rfl) rfl ?_; clear hA a; intro a hA
        refine S.val hA (R.move rfl) rfl ?_; clear hA a; intro a hA
        refine S.valg (dj := 62) hA (by kernel_rfl) rfl (R.move rfl) rfl ?_; clear hA a; intro a hA
        refine S.valg (dj := 62) hA (by kernel_rfl) rfl (R.tt (R.neq rfl rfl) (by first | decide | simp | omega)) rfl ?_; clear hA a; intro a hA
        refine S.valg (dj := 62) hA (by kernel_rfl) rfl (R.move rfl) rfl ?_; clear hA a; intro a hA
        refine S.valg (dj := 65) hA (by kernel_rfl) rfl (R.move rfl) rfl ?_; clear hA a; intro a hA
        refine S.valg (dj := 65) hA (by kernel_rfl) rfl (R.ff (R.neq rfl rfl) (by first | decide | simp | omega)) rfl ?_; clear hA a; intro a hA
        refine S.valg (dj := 62) hA (by kernel_rfl) rfl (R.pickT rfl rfl) rfl ?_; clear hA a; intro a hA
        refine S.val hA (R.pickF rfl rfl) rfl ?_; clear hA a; intro a hA
        refine S.val hA (R.move rfl) rfl ?_; clear hA a; intro a hA
        refine S.valg (dj := 70) hA (by kernel_rfl) rfl (R.move rfl) rfl ?_; clear hA a; intro a hA
        refine S.valg (dj := 70) hA (by kernel_rfl) rfl (R.tt (R.neq rfl rfl) (by first | decide | simp | omega)) rfl ?_; clear hA a; intro a hA
        refine S.valg (dj := 70) hA (by kernel_rfl) rfl (R.move rfl) rfl ?_; clear hA a; intro a hA
        refine S.valg (dj := 73) hA (by kernel_rfl) rfl (R.move rfl) rfl ?_; clear hA a; intro a hA
        refine S.valg (dj := 73) hA (by kernel_rfl) rfl (R.ff (R.neq rfl rfl) (by first | decide | simp | omega)) rfl ?_; clear hA a; intro a hA
        refine S.valg (dj := 70) hA (by kernel_rfl) rfl (R.pickT rfl rfl) rfl ?_; clear hA a; intro a hA
        refine S.val hA (R.pickF rfl rfl) rfl ?_; clear hA a; intro a hA
        refine S.done ?_
        replace hA : St 133 [(0, _), (1, _), (5, _), (6, _), (7, _), (8, _), (77, _)] a := hA.sub ((.cons rfl (.cons rfl (.cons rfl (.cons rfl (.cons rfl (.cons rfl (.cons rfl .nil))))))))
        refine Ends.condF hA rfl ?_
        refine Ends.skip ?_
        refine Ends.seq ?_
        refine Ends.seq ?_
        refine Ends.region ?_
        refine S.val hA (R.move rfl) rfl ?_; clear hA a; intro a hA
        refine S.val hA (R.ff (R.eql rfl rfl) (by first | decide | simp | omega)) rfl ?_; clear hA a; intro a hA
        refine S.done ?_
        replace hA : St 133 [(0, _), (1, _), (5, _), (7, _), (8, _), (79, _)] a := hA.sub ((.cons rfl (.cons rfl (.cons rfl (.cons rfl (.cons rfl (.cons rfl .nil)))))))
        refine Ends.condF hA rfl ?_
        refine Ends.skip ?_
        refine Ends.seq ?_
        refine Ends.seq ?_
        refine Ends.region ?_
        refine S.val hA (R.move rfl) rfl ?_; clear hA a; intro a hA
        refine S.val hA (R.ff (R.eql rfl rfl) (by first | decide | simp | omega)) rfl ?_; clear hA a; intro a hA
        refine S.done ?_
        replace hA : St 133 [(0, _), (1, _), (7, _), (114, _)] a := hA.sub ((.cons rfl (.cons rfl (.cons rfl (.cons rfl .nil)))))
        refine Ends.condF hA rfl ?_
        refine Ends.skip ?_
        refine Ends.seq ?_
        refine Ends.region ?_
        refine S.val hA (R.assign rfl) rfl ?_; clear hA a; intro a hA
        refine S.done ?_
        replace hA : St 133 [(4, _)] a := hA.sub ((.cons rfl .nil))
        refine Ends.ret1 Try.func6 Try.results6 hA rfl ?_
        exact ⟨rfl, Mem.trans0 hbs hM.nilL⟩
theorem orderTurns_any (v : Value) (l : List Int) (u : Value) (m : List Int) (w : World) (h1 : IntSl w v l) (_h2 : ∀ x ∈ l, (Lit.int .i64 x).wf = true) (h3 : IntSl w u m) (_h4 : ∀ x ∈ m, (Lit.int .i64 x).wf = true) :
    Calls Try.prog 6 #[v, u] w fun e w' => e = .returned (.bool true) ∧ Below w.heap.size w w' := by
  obtain ⟨a, c, rfl⟩ := h1.form
  obtain ⟨b, d, rfl⟩ := h3.form
  exact orderTurns_w a l c b m d  w h1 h3
end Go.Proofs.Ytphpbdnmdhlnoaa
