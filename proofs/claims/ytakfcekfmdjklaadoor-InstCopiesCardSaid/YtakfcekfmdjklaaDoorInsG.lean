/-
  Is a tour a mirror: inst.Mirror; own rows written at two levels.
-/
import Derived.Test.YtakfcekfmdjklaaDoorInsE
namespace Go.Proofs.YtakfcekfmdjklaaDoor
open Go.RowKit
def cl (i : Ins) (r c : Nat) : Int := (i.cost.getD r []).getD c 0
def mirP (i : Ins) : Prop := (i.kind = 3 ∧ chk i = 0) ∧ ∀ x y : Nat, x < i.n.toNat → y < i.n.toNat → cl i x y = cl i y x
/-- The problem with other rows. -/
def wr (i : Ins) (R : List (List Int)) : Ins := ⟨i.kind, i.n, i.cap, i.wt, i.vl, R⟩
theorem small_wr {i : Ins} (h : smallI i) {rs ss : List OwR} (hY : rs.map (·.Y) = i.cost) (hl : ss.map (·.Y.length) = rs.map (·.Y.length)) : smallI (wr i (ss.map (·.Y))) := by
  obtain ⟨h1, h2, h3, h4⟩ := h
  have e : (ss.map (·.Y)).map List.length = i.cost.map List.length := by rw [← hY, List.map_map, List.map_map]; exact hl
  have e2 : ss.length = i.cost.length := by have := congrArg List.length e; simpa using this
  refine ⟨h1, h2, by show (ss.map (·.Y)).length ≤ 30; rw [List.length_map, e2]; exact h3, fun r hr => ?_⟩
  have hm : r.length ∈ (ss.map (·.Y)).map List.length := List.mem_map.2 ⟨r, hr, rfl⟩
  rw [e] at hm
  obtain ⟨q, hq, e3⟩ := List.mem_map.1 hm
  rw [← e3]; exact h4 q hq
section
variable {P : Program} {l : List (Nat × Value)} {w w0 : World} {ty : TypeId} {x y z : Operand} {k k' : IntKind} {m n : Int} {t yt e : TypeId} {F : Nat → Prop} {L : List Ck}
theorem R.idxRn {a : Option Addr} {n cap j : Nat} {g : Bool} {i : Int} {Rs : List (List Int)} (hX : RowsV w0 (.slice a n cap) Rs) (hi : slInfo P t = some (g, 1)) (hx : opv l x = some (.slice a n cap)) (hy : opv l y = some (.int k i)) (h0 : 0 ≤ i ∧ i < (n : Int)) (hj : i.toNat = j) :
    Run P l w (.indexAddr t x y) ty (pI a j) w := by
  have hn : n = Rs.length := by obtain ⟨a', c', he, -⟩ := hX; cases he; rfl
  subst hn
  exact R.idxR hX hi hx hy h0 hj
theorem Mem.rowsV_ {eR : TypeId} {ac : Option Addr} {cc k k2 : Nat} {rs : List OwR} (hM : Mem w0 F L w) (hk : ith L k = some (own eR 1 (.slice ac rs.length cc) rs.length (rs.map orV))) (hk2 : ith L k2 = some (bundle (rs.map (orC e)))) : RowsV w (.slice ac (rs.map (·.Y)).length cc) (rs.map (·.Y)) := by
  have := hM.rowsV hk hk2
  rwa [show rs.length = (rs.map (·.Y)).length by rw [List.length_map]] at this
end
theorem orV_get {rs : List OwR} {i : Nat} {o : OwR} (h : rs[i]? = some o) : (rs.map orV)[i]? = some (orV o) := by rw [List.getElem?_map, h]; rfl
theorem orV_at {rs : List OwR} {i : Nat} {Y : List Int} {a : Option Addr} {c : Nat} (h : rs[i]? = some ⟨Y, a, c⟩) : (rs.map orV)[i]? = some (.slice a Y.length c) := orV_get h
theorem or_at {rs : List OwR} {i : Nat} (h : i < rs.length) : ∃ Y a c, rs[i]? = some ⟨Y, a, c⟩ := ⟨_, _, _, List.getElem?_eq_getElem h⟩
theorem rowY {rs : List OwR} {i : Nat} {o : OwR} (h : rs[i]? = some o) : (rs.map (·.Y)).getD i [] = o.Y := by simp [List.getD, h]
theorem set_lens {rs : List OwR} {i : Nat} {o u : OwR} (h : rs[i]? = some o) (hu : u.Y.length = o.Y.length) : (rs.set i u).map (·.Y.length) = rs.map (·.Y.length) := by
  obtain ⟨hi, rfl⟩ := List.getElem?_eq_some_iff.1 h
  rw [List.map_set, hu]
  have : (rs.map (·.Y.length))[i]'(by simpa using hi) = rs[i].Y.length := by simp
  rw [← this, List.set_getElem_self]
theorem set_orV {rs : List OwR} {i : Nat} {o u : OwR} (h : rs[i]? = some o) (hu : orV u = orV o) : (rs.set i u).map orV = rs.map orV := by
  obtain ⟨hi, rfl⟩ := List.getElem?_eq_some_iff.1 h
  rw [List.map_set, hu]
  have : (rs.map orV)[i]'(by simpa using hi) = orV rs[i] := by simp
  rw [← this, List.set_getElem_self]
theorem erase_get {rs : List OwR} {i j : Nat} (h : j < i) : (rs.eraseIdx i)[j]? = rs[j]? := by rw [List.getElem?_eraseIdx, if_pos h]
set_option maxRecDepth 100000 in
set_option maxHeartbeats 400000 in
theorem mirror05 (i : Ins) (ax3 : Option Addr) (cx3 : Nat) (ax4 : Option Addr) (cx4 : Nat) (ax5 : Option Addr) (cx5 : Nat) (hsm : i.wt.length ≤ 1000000 ∧ i.vl.length ≤ 1000000) (w : World) (hx3 : IntSl w (.slice ax3 i.wt.length cx3) i.wt) (hx4 : IntSl w (.slice ax4 i.vl.length cx4) i.vl) (hx5 : RowsV w (.slice ax5 i.cost.length cx5) i.cost) :
    Calls Tryd.prog 24 #[.agg #[.int .i64 i.kind, .int .i64 i.n, .int .i64 i.cap, .slice ax3 i.wt.length cx3, .slice ax4 i.vl.length cx4, .slice ax5 i.cost.length cx5]] w fun e w' => ∃ m : Bool, (m = true ↔ mirP i) ∧ e = .returned (.bool m) ∧ Below w.heap.size w w' := by
  have hbs := Below.refl (B := w.heap.size) w
  have hM := Mem.start w
  refine Calls.of_ends (vs := [.agg #[.int .i64 i.kind, .int .i64 i.n, .int .i64 i.cap, .slice ax3 i.wt.length cx3, .slice ax4 i.vl.length cx4, .slice ax5 i.cost.length cx5]]) Tryd.func24 rfl Tryd.ntmps24 rfl ?_
  intro a hA
  replace hA : St 41 [(0, _)] a := hA
  refine Ends.seq ?_
  refine Ends.region ?_
  refine S.box hA hM rfl rfl ?_; clear hA hM a; intro b1 w1 hb2 hM a hA
  replace hM : Mem _ _ [pt b1 #[.int .i64 i.kind, .int .i64 i.n, .int .i64 i.cap, .slice ax3 i.wt.length cx3, .slice ax4 i.vl.length cx4, .slice ax5 i.cost.length cx5] 25] _ := hM
  refine S.val hA (R.assign rfl) rfl ?_; clear hA a; intro a hA
  refine S.done ?_
  replace hA : St 41 [(1, _)] a := hA.sub ((.cons rfl .nil))
  refine Ends.seq ?_
  refine Ends.seq ?_
  refine Ends.cut (fun (a : Act) (wv : World) => St 41 [(1, .pointer (some ⟨b1, 0, none⟩)), (13, .bool (decide ((i.kind ≠ 3 ∨ (chk i) ≠ 0))))] a ∧ Mem w nof [pt b1 #[.int .i64 i.kind, .int .i64 i.n, .int .i64 i.cap, .slice ax3 i.wt.length cx3, .slice ax4 i.vl.length cx4, .slice ax5 i.cost.length cx5] 25] wv) ?_ (fun k2 hJ => ?_)
  · clear hA hM a; rintro a w2 ⟨hA, hM⟩
    refine Ends.ite hA rfl (fun hc3 => ?_) (fun hc3 => ?_)
    ·
      refine Ends.seq ?_
      refine Ends.region ?_
      refine S.val hA (R.assign rfl) rfl ?_; clear hA a; intro a hA
      refine S.done ?_
      replace hA : St 41 [(1, _), (2, _)] a := hA.sub ((.cons rfl (.cons rfl .nil)))
      refine Ends.ret1 Tryd.func24 Tryd.results24 hA rfl ?_
      exact ⟨false, ⟨fun h => (by cases h), fun h => absurd h.1 (by omega)⟩, rfl, Mem.trans0 hbs hM.nilL⟩
    ·
      have hk3 : i.kind = 3 ∧ chk i = 0 := by omega
      have hF := chk_inF hk3.2
      have f1 := hF.n1
      have f7 := hF.cost
      have f8 := hF.n24 (by omega)
      rw [if_neg (by omega)] at f7
      refine Ends.skip ?_
      refine Ends.seq ?_
      refine Ends.seq ?_
      refine Ends.region ?_
      refine S.val hA (R.fieldAddr (q := 5) fi25_5 rfl rfl rfl) rfl ?_; clear hA a; intro a hA
      refine S.val hA (R.load sz23 rfl (hM.cell (k := 0) rfl rfl)) rfl ?_; clear hA a; intro a hA
      refine S.val hA (R.lenS Tryd.underlying23 rfl rfl) rfl ?_; clear hA a; intro a hA
      refine S.val hA (R.move rfl) rfl ?_; clear hA a; intro a hA
      refine S.done ?_
      replace hA : St 41 [(1, _), (15, _), (16, _), (17, _)] a := hA.sub ((.cons rfl (.cons rfl (.cons rfl (.cons rfl .nil)))))
      refine Ends.block ?_
      refine Ends.loop (σ := Nat) (fun r (a : Act) (wv : World) => St 41 [(1, .pointer (some ⟨b1, 0, none⟩)), (15, .slice ax5 i.cost.length cx5), (16, .int .i64 ((i.cost.length : Int))), (17, .int .i64 ((r : Int)))] a ∧ Mem w nof [pt b1 #[.int .i64 i.kind, .int .i64 i.n, .int .i64 i.cap, .slice ax3 i.wt.length cx3, .slice ax4 i.vl.length cx4, .slice ax5 i.cost.length cx5] 25] wv ∧ (r ≤ i.cost.length) ∧ (∀ x y : Nat, x < r → y < x → cl i x y = cl i y x)) (fun r => i.cost.length - r) 0 ⟨hA.sub ((.cons rfl (.cons rfl (.cons rfl (.cons rfl .nil))))), hM, (Nat.zero_le _), (fun x y hx => absurd hx (Nat.not_lt_zero _))⟩ ?_
      clear hA hM a
      rintro r a w3 ⟨hA, hM, hr, hs⟩ hNext
      refine Ends.seq ?_
      refine Ends.region ?_
      refine S.val hA (R.lss rfl rfl) rfl ?_; clear hA a; intro a hA
      refine S.done ?_
      replace hA : St 41 [(1, _), (15, _), (16, _), (17, _), (18, _)] a := hA.sub ((.cons rfl (.cons rfl (.cons rfl (.cons rfl (.cons rfl .nil))))))
      refine Ends.seq ?_
      refine Ends.ite hA rfl (fun hc4 => ?_) (fun hc4 => ?_)
      ·
        have hrr := hF.row r (by omega)
        refine Ends.skip ?_
        refine Ends.seq ?_
        refine Ends.block ?_
        refine Ends.seq ?_
        refine Ends.region ?_
        refine S.val hA (R.move rfl) rfl ?_; clear hA a; intro a hA
        refine S.val hA (R.idxR hx5 (j := r) sl23 rfl rfl (by omega) (rfl)) rfl ?_; clear hA a; intro a hA
        obtain ⟨ra5, rc6, hrow7, hld8⟩ := hx5.atP (i := r) (by omega)
        refine S.val hA (hld8 _ _ _ _ _ _ hM sz22 rfl) rfl ?_; clear hA a; intro a hA
        refine S.val hA (R.assign rfl) rfl ?_; clear hA a; intro a hA
        refine S.val hA (R.assign rfl) rfl ?_; clear hA a; intro a hA
        refine S.done ?_
        replace hA : St 41 [(1, _), (3, _), (4, _), (15, _), (16, _), (17, _)] a := hA.sub ((.cons rfl (.cons rfl (.cons rfl (.cons rfl (.cons rfl (.cons rfl .nil)))))))
        refine Ends.seq ?_
        refine Ends.region ?_
        refine S.val hA (R.move rfl) rfl ?_; clear hA a; intro a hA
        refine S.val hA (R.move rfl) rfl ?_; clear hA a; intro a hA
        refine S.done ?_
        replace hA : St 41 [(1, _), (3, _), (4, _), (15, _), (16, _), (17, _), (22, _), (23, _)] a := hA.sub ((.cons rfl (.cons rfl (.cons rfl (.cons rfl (.cons rfl (.cons rfl (.cons rfl (.cons rfl .nil)))))))))
        refine Ends.block ?_
        refine Ends.loop (σ := Nat) (fun b (a : Act) (wv : World) => St 41 [(1, .pointer (some ⟨b1, 0, none⟩)), (3, .int .i64 ((r : Int))), (4, .slice ra5 (((i.cost.getD r [])).length) rc6), (15, .slice ax5 i.cost.length cx5), (16, .int .i64 ((i.cost.length : Int))), (17, .int .i64 ((r : Int))), (22, .int .i64 ((r : Int))), (23, .int .i64 ((b : Int)))] a ∧ Mem w nof [pt b1 #[.int .i64 i.kind, .int .i64 i.n, .int .i64 i.cap, .slice ax3 i.wt.length cx3, .slice ax4 i.vl.length cx4, .slice ax5 i.cost.length cx5] 25] wv ∧ (b ≤ r) ∧ (∀ y : Nat, y < b → cl i r y = cl i y r)) (fun b => r - b) 0 ⟨hA.sub ((.cons rfl (.cons rfl (.cons rfl (.cons rfl (.cons rfl (.cons rfl (.cons rfl (.cons rfl .nil))))))))), hM, (Nat.zero_le _), (fun y hy => absurd hy (Nat.not_lt_zero _))⟩ ?_
        clear hA hM a
        rintro b a w4 ⟨hA, hM, hb_, hs2⟩ hNext1
        refine Ends.seq ?_
        refine Ends.region ?_
        refine S.val hA (R.lss rfl rfl) rfl ?_; clear hA a; intro a hA
        refine S.done ?_
        replace hA : St 41 [(1, _), (3, _), (4, _), (15, _), (16, _), (17, _), (22, _), (23, _), (24, _)] a := hA.sub ((.cons rfl (.cons rfl (.cons rfl (.cons rfl (.cons rfl (.cons rfl (.cons rfl (.cons rfl (.cons rfl .nil))))))))))
        refine Ends.seq ?_
        refine Ends.ite hA rfl (fun hc9 => ?_) (fun hc9 => ?_)
        ·
          have hrb := hF.row b (by omega)
          refine Ends.skip ?_
          refine Ends.seq ?_
          refine Ends.block ?_
          refine Ends.seq ?_
          refine Ends.region ?_
          refine S.val hA (R.move rfl) rfl ?_; clear hA a; intro a hA
          refine S.val hA (R.assign rfl) rfl ?_; clear hA a; intro a hA
          refine S.done ?_
          replace hA : St 41 [(1, _), (3, _), (4, _), (5, _), (15, _), (16, _), (17, _), (22, _), (23, _)] a := hA.sub ((.cons rfl (.cons rfl (.cons rfl (.cons rfl (.cons rfl (.cons rfl (.cons rfl (.cons rfl (.cons rfl .nil))))))))))
          refine Ends.seq ?_
          refine Ends.drawn (Mem w nof [pt b1 #[.int .i64 i.kind, .int .i64 i.n, .int .i64 i.cap, .slice ax3 i.wt.length cx3, .slice ax4 i.vl.length cx4, .slice ax5 i.cost.length cx5] 25]) (.cons (0, true) (.cons (1, true) (.cons (2, true) (.cons (3, true) (.cons (4, true) (.cons (5, true) (.cons (6, true) (.cons (7, true) (.cons (8, true) (.cons (9, true) (.cons (10, true) (.cons (11, true) (.cons (12, true) .nil))))))))))))) 13 mixed (by kernel_rfl) (by kernel_rfl) (by kernel_rfl) hM.drew ?_
          replace hM := hM.drew
          refine D.valF hA rfl (fun _ => R.move rfl) rfl ?_; clear hA a; intro a hA
          refine D.valF hA rfl (fun _ => R.move rfl) rfl ?_; clear hA a; intro a hA
          refine D.valF hA rfl (fun _ => R.idxI hrow7 (j := b) sl22 rfl rfl (by omega) (rfl)) rfl ?_; clear hA a; intro a hA
          refine D.val hA rfl (by kernel_rfl) (fun _ hM => R.loadI (hrow7.mem hM) sz3 rfl (by omega)) rfl ?_; clear hA a; intro a hA
          refine D.valF hA rfl (fun _ => R.fieldAddr (q := 5) fi25_5 rfl rfl rfl) rfl ?_; clear hA a; intro a hA
          refine D.val hA rfl (by kernel_rfl) (fun _ hM => R.load sz23 rfl (hM.cell (k := 0) rfl rfl)) rfl ?_; clear hA a; intro a hA
          refine D.valF hA rfl (fun _ => R.move rfl) rfl ?_; clear hA a; intro a hA
          refine D.valF hA rfl (fun _ => R.idxR hx5 (j := b) sl23 rfl rfl (by omega) (rfl)) rfl ?_; clear hA a; intro a hA
          obtain ⟨ra10, rc11, hrow12, hld13⟩ := hx5.atP (i := b) (by omega)
          refine D.val hA rfl (by kernel_rfl) (fun _ hM => hld13 _ _ _ _ _ _ hM sz22 rfl) rfl ?_; clear hA a; intro a hA
          refine D.valF hA rfl (fun _ => R.move rfl) rfl ?_; clear hA a; intro a hA
          refine D.valF hA rfl (fun _ => R.idxI hrow12 (j := r) sl22 rfl rfl (by omega) (rfl)) rfl ?_; clear hA a; intro a hA
          refine D.val hA rfl (by kernel_rfl) (fun _ hM => R.loadI (hrow12.mem hM) sz3 rfl (by omega)) rfl ?_; clear hA a; intro a hA
          refine D.valF hA rfl (fun _ => R.neq rfl rfl) rfl ?_; clear hA a; intro a hA
          refine D.done ?_
          replace hA : St 41 [(1, _), (3, _), (4, _), (15, _), (16, _), (17, _), (22, _), (23, _), (38, _)] a := hA.sub ((.cons rfl (.cons rfl (.cons rfl (.cons rfl (.cons rfl (.cons rfl (.cons rfl (.cons rfl (.cons rfl .nil))))))))))
          refine Ends.ite hA rfl (fun hc14 => ?_) (fun hc14 => ?_)
          ·
            refine Ends.seq ?_
            refine Ends.region ?_
            refine S.val hA (R.assign rfl) rfl ?_; clear hA a; intro a hA
            refine S.done ?_
            replace hA : St 41 [(1, _), (2, _), (3, _), (4, _), (15, _), (16, _), (17, _), (22, _), (23, _)] a := hA.sub ((.cons rfl (.cons rfl (.cons rfl (.cons rfl (.cons rfl (.cons rfl (.cons rfl (.cons rfl (.cons rfl .nil))))))))))
            refine Ends.ret1 Tryd.func24 Tryd.results24 hA rfl ?_
            exact ⟨false, ⟨fun h => (by cases h), fun h => absurd (h.2 r b (by omega) (by omega)) hc14⟩, rfl, Mem.trans0 hbs hM.nilL⟩
          ·
            refine Ends.skip ?_
            refine Ends.inBlock ?_
            refine Ends.region ?_
            refine S.val hA (R.addI rfl rfl (r := ((b : Int)) + 1) rfl (by omega)) rfl ?_; clear hA a; intro a hA
            refine S.val hA (R.move rfl) rfl ?_; clear hA a; intro a hA
            refine S.done ?_
            replace hA : St 41 [(1, _), (3, _), (4, _), (15, _), (16, _), (17, _), (22, _), (23, _)] a := hA.sub ((.cons rfl (.cons rfl (.cons rfl (.cons rfl (.cons rfl (.cons rfl (.cons rfl (.cons rfl .nil)))))))))
            exact hNext1 ((b + 1)) _ _ ((by show r - (b + 1) < r - b; omega)) ⟨hA.sub ((.cons rfl (.cons rfl (.cons rfl (.cons rfl (.cons rfl (.cons rfl (.cons rfl (.cons rfl .nil))))))))), hM, (by omega), (fun y hy => by rcases Nat.lt_succ_iff_lt_or_eq.1 hy with h9 | h9; exact hs2 y h9; subst h9; exact Decidable.not_not.1 hc14)⟩
        ·
          refine Ends.exit rfl ?_
          replace hA : St 41 [(1, _), (15, _), (16, _), (17, _)] a := hA.sub ((.cons rfl (.cons rfl (.cons rfl (.cons rfl .nil)))))
          refine Ends.inBlock ?_
          refine Ends.region ?_
          refine S.val hA (R.addI rfl rfl (r := ((r : Int)) + 1) rfl (by omega)) rfl ?_; clear hA a; intro a hA
          refine S.val hA (R.move rfl) rfl ?_; clear hA a; intro a hA
          refine S.done ?_
          replace hA : St 41 [(1, _), (15, _), (16, _), (17, _)] a := hA.sub ((.cons rfl (.cons rfl (.cons rfl (.cons rfl .nil)))))
          exact hNext ((r + 1)) _ _ ((by show i.cost.length - (r + 1) < i.cost.length - r; omega)) ⟨hA.sub ((.cons rfl (.cons rfl (.cons rfl (.cons rfl .nil))))), hM, (by omega), (fun x y hx hy => by rcases Nat.lt_succ_iff_lt_or_eq.1 hx with h9 | h9; exact hs x y h9 hy; subst h9; exact hs2 y (by omega))⟩
      ·
        refine Ends.exit rfl ?_
        replace hA : St 41 [] a := hA.sub (.nil)
        refine Ends.seq ?_
        refine Ends.region ?_
        refine S.val hA (R.assign rfl) rfl ?_; clear hA a; intro a hA
        refine S.done ?_
        replace hA : St 41 [(2, _)] a := hA.sub ((.cons rfl .nil))
        refine Ends.ret1 Tryd.func24 Tryd.results24 hA rfl ?_
        exact ⟨true, ⟨fun _ => ⟨hk3, fun x y hx hy => by rcases Nat.lt_trichotomy y x with h9 | h9 | h9; exact hs x y (by omega) h9; rw [h9]; exact (hs y x (by omega) h9).symm⟩, fun _ => rfl⟩, rfl, Mem.trans0 hbs hM.nilL⟩
  ·
    refine Ends.region ?_
    refine S.val hA (R.fieldAddr (q := 0) fi25_0 rfl rfl rfl) rfl ?_; clear hA a; intro a hA
    refine S.val hA (R.load sz3 rfl (hM.cell (k := 0) rfl rfl)) rfl ?_; clear hA a; intro a hA
    refine S.val hA (R.neq rfl rfl) rfl ?_; clear hA a; intro a hA
    refine S.val hA (R.move rfl) rfl ?_; clear hA a; intro a hA
    refine hA.split (d := 9) rfl ?_ ?_
    · clear hA; intro hg15 hA
      refine S.no (dj := 9) hA (by kernel_rfl) rfl rfl rfl ?_; clear hA a; intro a hA
      refine S.no (dj := 9) hA (by kernel_rfl) rfl rfl rfl ?_; clear hA a; intro a hA
      refine S.no (dj := 9) hA (by kernel_rfl) rfl rfl rfl ?_; clear hA a; intro a hA
      refine S.val hA (R.pickT rfl rfl) rfl ?_; clear hA a; intro a hA
      refine S.done ?_
      replace hA : St 41 [(1, _), (13, _)] a := hA.sub ((.cons rfl (.cons rfl .nil)))
      exact hJ _ _ ⟨hA.sub (.cons rfl (.cons (by first | rfl | exact congrArg (fun b => some (Value.bool b)) (by first | exact decide_eq_decide.2 (by omega) | exact or_bool (by omega) | exact and_bool (by omega) | (simp; done) | (simp [hg15]; done) | (have h80 := hg15; (try simp at h80); simp [h80]; done) | exact (decide_eq_false (fun h9 => hg15 h9.1)).symm)) .nil)), hM⟩
    · clear hA; intro hg15 hA
      refine S.valg (dj := 9) hA (by kernel_rfl) rfl (R.loadA sz25 rfl (hM.range (k := 0) rfl) rfl) rfl ?_; clear hA a; intro a hA
      refine S.callg (dj := 9) hA (by kernel_rfl) rfl (R.callF Tryd.func18 rfl rfl rfl) rfl (check05 i ax3 cx3 ax4 cx4 ax5 cx5 hsm _ (hx3.mem hM) (hx4.mem hM) (hx5.mem hM)) ?_; clear hA a
      rintro e w5 ⟨rfl, hb⟩
      replace hM := hM.callB hb; clear hb
      refine ⟨.int .i64 (chk i), rfl, fun a hA => ?_⟩
      refine S.valg (dj := 9) hA (by kernel_rfl) rfl (R.neq rfl rfl) rfl ?_; clear hA a; intro a hA
      refine S.val hA (R.pickF rfl rfl) rfl ?_; clear hA a; intro a hA
      refine S.done ?_
      replace hA : St 41 [(1, _), (13, _)] a := hA.sub ((.cons rfl (.cons rfl .nil)))
      exact hJ _ _ ⟨hA.sub (.cons rfl (.cons (by first | rfl | exact congrArg (fun b => some (Value.bool b)) (by first | exact decide_eq_decide.2 (by omega) | exact or_bool (by omega) | exact and_bool (by omega) | (simp; done) | (simp [hg15]; done) | (have h80 := hg15; (try simp at h80); simp [h80]; done) | exact (decide_eq_false (fun h9 => hg15 h9.1)).symm)) .nil)), hM⟩
theorem getD_len (ss : List OwR) (r : Nat) : ((ss.map (·.Y)).getD r []).length = (ss.map (·.Y.length)).getD r 0 := by
  simp only [List.getD_eq_getElem?_getD, List.getElem?_map]
  cases ss[r]? <;> rfl
theorem small_row {i : Ins} (h : smallI i) {rs : List OwR} (hY : rs.map (·.Y) = i.cost) (r : Nat) : (rs.map (·.Y.length)).getD r 0 ≤ 70 := by
  rw [← getD_len, hY]
  by_cases h9 : r < i.cost.length
  · rw [List.getD_eq_getElem?_getD, List.getElem?_eq_getElem h9]; exact h.2.2.2 _ (List.getElem_mem h9)
  · rw [List.getD_eq_getElem?_getD, List.getElem?_eq_none (by omega)]; exact Nat.zero_le _
theorem lens_eq {ss rs : List OwR} (h : ss.map (·.Y.length) = rs.map (·.Y.length)) : ss.length = rs.length := by have := congrArg List.length h; simpa using this
theorem stepP {f : Nat → Prop} {p : Prop} {k : Nat} (h : p ↔ ∀ y, y < k → f y) : (p ∧ f k) ↔ ∀ y, y < k + 1 → f y :=
  ⟨fun g y hy => by rcases Nat.lt_succ_iff_lt_or_eq.1 hy with h9 | h9; exact h.1 g.1 y h9; rw [h9]; exact g.2, fun g => ⟨h.2 fun y hy => g y (by omega), g k (by omega)⟩⟩
theorem stepQ {f : Nat → Nat → Prop} {p A : Prop} {r n m : Nat} (hA : A) (hn : m = n) (hw : ∀ x y, x < r → y < n → f x y) (h : p ↔ ∀ y, y < m → f r y) : p ↔ A ∧ ∀ x y, x < r + 1 → y < n → f x y :=
  ⟨fun g => ⟨hA, fun x y hx hy => by rcases Nat.lt_succ_iff_lt_or_eq.1 hx with h9 | h9; exact hw x y h9 hy; rw [h9]; exact h.1 g y (by omega)⟩, fun g => h.2 fun y hy => g.2 r y (by omega) (by omega)⟩
theorem Mem.closeSame {w0 w : World} {F : Nat → Prop} {L : List Ck} {α : Type} {f : α → Ck} {xs : List α} {x : α} {j : Nat} (h : Mem w0 F (f x :: bundle ((xs.eraseIdx j).map f) :: L) w) (hx : xs[j]? = some x) : Mem w0 F (bundle (xs.map f) :: L) w := by
  have h1 := h.closeB hx
  obtain ⟨hj, rfl⟩ := List.getElem?_eq_some_iff.1 hx
  rwa [List.set_getElem_self] at h1
set_option maxRecDepth 100000 in
set_option maxHeartbeats 400000 in
theorem instMirrors_w (i : Ins) (ax3 : Option Addr) (cx3 : Nat) (ax4 : Option Addr) (cx4 : Nat) (ax5 : Option Addr) (cx5 : Nat) (turn : Bool) (w : World) (hx3 : IntSl w (.slice ax3 i.wt.length cx3) i.wt) (hx4 : IntSl w (.slice ax4 i.vl.length cx4) i.vl) (hx5 : RowsV w (.slice ax5 i.cost.length cx5) i.cost) (htab : Lib.TabIs Tryd.prog w "internal/strconv.uint64pow10" .u64 Lib.pow10Tab) :
    Calls Tryd.prog 6 #[.agg #[.int .i64 i.kind, .int .i64 i.n, .int .i64 i.cap, .slice ax3 i.wt.length cx3, .slice ax4 i.vl.length cx4, .slice ax5 i.cost.length cx5], .bool turn] w fun e w' => e = .returned (.bool true) ∧ Below w.heap.size w w' := by
  have hbs := Below.refl (B := w.heap.size) w
  have hM := Mem.start w
  refine Calls.of_ends (vs := [.agg #[.int .i64 i.kind, .int .i64 i.n, .int .i64 i.cap, .slice ax3 i.wt.length cx3, .slice ax4 i.vl.length cx4, .slice ax5 i.cost.length cx5], .bool turn]) Tryd.func6 rfl Tryd.ntmps6 rfl ?_
  intro a hA
  replace hA : St 115 [(0, _), (1, _)] a := hA
  refine Ends.seq ?_
  refine Ends.region ?_
  refine S.box hA hM rfl rfl ?_; clear hA hM a; intro b1 w1 hb2 hM a hA
  replace hM : Mem _ _ [pt b1 #[.int .i64 i.kind, .int .i64 i.n, .int .i64 i.cap, .slice ax3 i.wt.length cx3, .slice ax4 i.vl.length cx4, .slice ax5 i.cost.length cx5] 25] _ := hM
  refine S.val hA (R.assign rfl) rfl ?_; clear hA a; intro a hA
  refine S.done ?_
  replace hA : St 115 [(1, _), (2, _)] a := hA.sub ((.cons rfl (.cons rfl .nil)))
  refine Ends.seq ?_
  refine Ends.region ?_
  refine S.val hA (R.loadA sz25 rfl (hM.range (k := 0) rfl) rfl) rfl ?_; clear hA a; intro a hA
  obtain ⟨Gy, hGy⟩ : ∃ Gy, Gy = cutI i := ⟨_, rfl⟩
  have hsmy : smallI Gy := by rw [hGy]; exact cutI_small _
  have hscy := cutI_of_small hsmy
  have hsy1 := hsmy.1
  have hsy2 := hsmy.2.1
  have hsy3 := hsmy.2.2.1
  refine S.call hA (R.callF Tryd.func16 rfl rfl rfl) rfl (copyG i ax3 cx3 ax4 cx4 ax5 cx5 Gy hGy _ (hx3.mem hM) (hx4.mem hM) (hx5.mem hM)) ?_; clear hA a
  rintro e w2 ⟨ay3, cy3, ay4, cy4, ay5, cy5, rsy, rfl, hYy, hn⟩
  replace hM : Mem _ _ [bundle (insL 3 22 Gy ay3 cy3 ay4 cy4 ay5 cy5 rsy), pt b1 #[.int .i64 i.kind, .int .i64 i.n, .int .i64 i.cap, .slice ax3 i.wt.length cx3, .slice ax4 i.vl.length cx4, .slice ax5 i.cost.length cx5] 25] _ := hM.call hn; clear hn
  refine ⟨.agg #[.int .i64 Gy.kind, .int .i64 Gy.n, .int .i64 Gy.cap, .slice ay3 Gy.wt.length cy3, .slice ay4 Gy.vl.length cy4, .slice ay5 rsy.length cy5], rfl, fun a hA => ?_⟩
  refine S.storeA (k := 1) hA hM sz25 rfl rfl rfl rfl rfl rfl ?_; clear hM
  intro w3 hM
  replace hM : Mem _ _ [bundle (insL 3 22 Gy ay3 cy3 ay4 cy4 ay5 cy5 rsy), pt b1 #[.int .i64 Gy.kind, .int .i64 Gy.n, .int .i64 Gy.cap, .slice ay3 Gy.wt.length cy3, .slice ay4 Gy.vl.length cy4, .slice ay5 rsy.length cy5] 25] _ := hM
  refine S.done ?_
  replace hA : St 115 [(1, _), (2, _)] a := hA.sub ((.cons rfl (.cons rfl .nil)))
  refine Ends.seq ?_
  refine Ends.seq ?_
  replace hM := hM.front (k := 1) rfl
  replace hM := hM.front (k := 1) rfl
  replace hM := hM.unpack
  replace hM : Mem _ _ [own 3 1 (.slice ay3 Gy.wt.length cy3) Gy.wt.length (Gy.wt.map (Value.int .i64)), own 3 1 (.slice ay4 Gy.vl.length cy4) Gy.vl.length (Gy.vl.map (Value.int .i64)), own 22 1 (.slice ay5 rsy.length cy5) rsy.length ((rsy.map orV)), bundle (rsy.map (orC 3)), pt b1 #[.int .i64 Gy.kind, .int .i64 Gy.n, .int .i64 Gy.cap, .slice ay3 Gy.wt.length cy3, .slice ay4 Gy.vl.length cy4, .slice ay5 rsy.length cy5] 25] _ := hM
  replace hM := hM.front (k := 4) rfl
  replace hM : Mem _ _ [pt b1 #[.int .i64 Gy.kind, .int .i64 Gy.n, .int .i64 Gy.cap, .slice ay3 Gy.wt.length cy3, .slice ay4 Gy.vl.length cy4, .slice ay5 rsy.length cy5] 25, own 3 1 (.slice ay3 Gy.wt.length cy3) Gy.wt.length (Gy.wt.map (Value.int .i64)), own 3 1 (.slice ay4 Gy.vl.length cy4) Gy.vl.length (Gy.vl.map (Value.int .i64)), own 22 1 (.slice ay5 rsy.length cy5) rsy.length ((rsy.map orV)), bundle (rsy.map (orC 3))] _ := hM
  have hlry : rsy.length = Gy.cost.length := by rw [← hYy, List.length_map]
  refine Ends.region ?_
  refine S.val hA (R.move rfl) rfl ?_; clear hA a; intro a hA
  refine S.done ?_
  replace hA : St 115 [(2, _), (12, _)] a := hA.sub ((.cons rfl (.cons rfl .nil)))
  refine Ends.iteB hA rfl (fun hc3 => ?_) (fun hc3 => ?_)
  ·
    refine Ends.seq ?_
    refine Ends.region ?_
    refine S.val hA (R.assign rfl) rfl ?_; clear hA a; intro a hA
    refine S.done ?_
    replace hA : St 115 [(2, _), (5, _)] a := hA.sub ((.cons rfl (.cons rfl .nil)))
    refine Ends.block ?_
    refine Ends.loop (σ := Nat × List OwR) (fun (r, rs) (a : Act) (wv : World) => St 115 [(2, .pointer (some ⟨b1, 0, none⟩)), (5, .int .i64 ((r : Int)))] a ∧ Mem w nof [pt b1 #[.int .i64 Gy.kind, .int .i64 Gy.n, .int .i64 Gy.cap, .slice ay3 Gy.wt.length cy3, .slice ay4 Gy.vl.length cy4, .slice ay5 rs.length cy5] 25, own 3 1 (.slice ay3 Gy.wt.length cy3) Gy.wt.length (Gy.wt.map (Value.int .i64)), own 3 1 (.slice ay4 Gy.vl.length cy4) Gy.vl.length (Gy.vl.map (Value.int .i64)), own 22 1 (.slice ay5 rs.length cy5) rs.length ((rs.map orV)), bundle (rs.map (orC 3))] wv ∧ (rs.map (·.Y.length) = rsy.map (·.Y.length)) ∧ (r ≤ rsy.length)) (fun (r, rs) => rsy.length - r) ((0, rsy)) ⟨hA.sub ((.cons rfl (.cons rfl .nil))), hM, rfl, (Nat.zero_le _)⟩ ?_
    clear hA hM a
    rintro ⟨r, rs⟩ a w4 ⟨hA, hM, hl1, hr⟩ hNext
    refine Ends.seq ?_
    refine Ends.seq ?_
    refine Ends.region ?_
    refine S.val hA (R.move rfl) rfl ?_; clear hA a; intro a hA
    refine S.val hA (R.fieldAddr (q := 5) fi25_5 rfl rfl rfl) rfl ?_; clear hA a; intro a hA
    refine S.val hA (R.load sz23 rfl (hM.cell (k := 0) rfl rfl)) rfl ?_; clear hA a; intro a hA
    refine S.val hA (R.lenS Tryd.underlying23 rfl rfl) rfl ?_; clear hA a; intro a hA
    refine S.val hA (R.lss rfl rfl) rfl ?_; clear hA a; intro a hA
    refine S.done ?_
    replace hA : St 115 [(2, _), (5, _), (17, _)] a := hA.sub ((.cons rfl (.cons rfl (.cons rfl .nil))))
    refine Ends.ite hA rfl (fun hc4 => ?_) (fun hc4 => ?_)
    ·
      have hlo := lens_eq hl1
      have h70 := small_row hsmy hYy r
      refine Ends.skip ?_
      refine Ends.seq ?_
      refine Ends.block ?_
      refine Ends.seq ?_
      refine Ends.region ?_
      refine S.val hA (R.assign rfl) rfl ?_; clear hA a; intro a hA
      refine S.done ?_
      replace hA : St 115 [(2, _), (5, _), (6, _)] a := hA.sub ((.cons rfl (.cons rfl (.cons rfl .nil))))
      refine Ends.block ?_
      refine Ends.loop (σ := Nat × List OwR) (fun (c_, ss) (a : Act) (wv : World) => St 115 [(2, .pointer (some ⟨b1, 0, none⟩)), (5, .int .i64 ((r : Int))), (6, .int .i64 ((c_ : Int)))] a ∧ Mem w nof [pt b1 #[.int .i64 Gy.kind, .int .i64 Gy.n, .int .i64 Gy.cap, .slice ay3 Gy.wt.length cy3, .slice ay4 Gy.vl.length cy4, .slice ay5 ss.length cy5] 25, own 3 1 (.slice ay3 Gy.wt.length cy3) Gy.wt.length (Gy.wt.map (Value.int .i64)), own 3 1 (.slice ay4 Gy.vl.length cy4) Gy.vl.length (Gy.vl.map (Value.int .i64)), own 22 1 (.slice ay5 ss.length cy5) ss.length ((ss.map orV)), bundle (ss.map (orC 3))] wv ∧ (ss.map (·.Y.length) = rsy.map (·.Y.length))) (fun (c_, ss) => (rsy.map (·.Y.length)).getD r 0 - c_) ((0, rs)) ⟨hA.sub ((.cons rfl (.cons rfl (.cons rfl .nil)))), hM, hl1⟩ ?_
      clear hA hM a
      rintro ⟨c_, ss⟩ a w5 ⟨hA, hM, hl2⟩ hNext1
      refine Ends.seq ?_
      refine Ends.seq ?_
      have hls := lens_eq hl2
      refine Ends.region ?_
      refine S.val hA (R.move rfl) rfl ?_; clear hA a; intro a hA
      refine S.val hA (R.fieldAddr (q := 5) fi25_5 rfl rfl rfl) rfl ?_; clear hA a; intro a hA
      refine S.val hA (R.load sz23 rfl (hM.cell (k := 0) rfl rfl)) rfl ?_; clear hA a; intro a hA
      refine S.val hA (R.move rfl) rfl ?_; clear hA a; intro a hA
      refine S.val hA (R.idxRn (hM.rowsV (k := 3) rfl (k2 := 4) rfl) (j := r) sl23 rfl rfl (by omega) (rfl)) rfl ?_; clear hA a; intro a hA
      obtain ⟨ra5, rc6, hrow7, hld8⟩ := (hM.rowsV_ (k := 3) rfl (k2 := 4) rfl).atP (i := r) (by rw [List.length_map]; omega)
      refine S.val hA (hld8 _ _ _ _ _ _ (Mem.start _) sz22 rfl) rfl ?_; clear hA a; intro a hA
      refine S.val hA (R.lenS Tryd.underlying22 rfl rfl) rfl ?_; clear hA a; intro a hA
      refine S.val hA (R.lss rfl rfl) rfl ?_; clear hA a; intro a hA
      refine S.done ?_
      replace hA : St 115 [(2, _), (5, _), (6, _), (27, _)] a := hA.sub ((.cons rfl (.cons rfl (.cons rfl (.cons rfl .nil)))))
      refine Ends.ite hA rfl (fun hc9 => ?_) (fun hc9 => ?_)
      ·
        have hgl := getD_len ss r
        rw [hl2] at hgl
        refine Ends.skip ?_
        refine Ends.seq ?_
        refine Ends.block ?_
        refine Ends.seq ?_
        refine Ends.cut (fun (a : Act) (wv : World) => St 115 [(2, .pointer (some ⟨b1, 0, none⟩)), (5, .int .i64 ((r : Int))), (6, .int .i64 ((c_ : Int))), (49, .bool (decide (((((c_ : Int)) < ((r : Int)) ∧ ((c_ : Int)) < ((ss.length : Int))) ∧ ((r : Int)) < ((((((ss.map (·.Y))).getD c_ [])).length : Int))))))] a ∧ Mem w nof [pt b1 #[.int .i64 Gy.kind, .int .i64 Gy.n, .int .i64 Gy.cap, .slice ay3 Gy.wt.length cy3, .slice ay4 Gy.vl.length cy4, .slice ay5 ss.length cy5] 25, own 3 1 (.slice ay3 Gy.wt.length cy3) Gy.wt.length (Gy.wt.map (Value.int .i64)), own 3 1 (.slice ay4 Gy.vl.length cy4) Gy.vl.length (Gy.vl.map (Value.int .i64)), own 22 1 (.slice ay5 ss.length cy5) ss.length ((ss.map orV)), bundle (ss.map (orC 3))] wv) ?_ (fun k2 hJ => ?_)
        · clear hA hM a; rintro a w6 ⟨hA, hM⟩
          refine Ends.ite hA rfl (fun hc10 => ?_) (fun hc10 => ?_)
          ·
            replace hM := hM.front (k := 4) rfl
            replace hM := hM.front (k := 4) rfl
            replace hM := hM.front (k := 4) rfl
            replace hM := hM.front (k := 4) rfl
            replace hM := hM.front (k := 4) rfl
            obtain ⟨Yr, ar, cr, hxr⟩ := or_at (rs := ss) (i := r) (by omega)
            obtain ⟨Yc, ac_, cc_, hxc⟩ := or_at (rs := ss) (i := c_) (by omega)
            have hyr : (ss.map (·.Y)).getD r [] = Yr := rowY hxr
            have hyc : (ss.map (·.Y)).getD c_ [] = Yc := rowY hxc
            have hif := hc10
            rw [hyc] at hif
            have hgl2 := hgl
            rw [hyr] at hgl2
            have hxc2 : (ss.eraseIdx r)[c_]? = some ⟨Yc, ac_, cc_⟩ := by rw [erase_get (by omega)]; exact hxc
            replace hM := hM.front (k := 4) rfl
            replace hM := ((hM.openB hxr).front (k := 1) rfl).openB hxc2
            replace hM : Mem _ _ [own 3 1 (.slice ac_ Yc.length cc_) Yc.length (Yc.map (Value.int .i64)), bundle (((ss.eraseIdx r).eraseIdx c_).map (orC 3)), own 3 1 (.slice ar Yr.length cr) Yr.length (Yr.map (Value.int .i64)), pt b1 #[.int .i64 Gy.kind, .int .i64 Gy.n, .int .i64 Gy.cap, .slice ay3 Gy.wt.length cy3, .slice ay4 Gy.vl.length cy4, .slice ay5 ss.length cy5] 25, own 3 1 (.slice ay3 Gy.wt.length cy3) Gy.wt.length (Gy.wt.map (Value.int .i64)), own 3 1 (.slice ay4 Gy.vl.length cy4) Gy.vl.length (Gy.vl.map (Value.int .i64)), own 22 1 (.slice ay5 ss.length cy5) ss.length ((ss.map orV))] _ := hM
            replace hM := hM.front (k := 1) rfl
            replace hM := hM.front (k := 6) rfl
            replace hM := hM.front (k := 6) rfl
            replace hM := hM.front (k := 6) rfl
            replace hM := hM.front (k := 6) rfl
            replace hM := hM.front (k := 6) rfl
            replace hM := hM.front (k := 6) rfl
            obtain ⟨gc, hgc⟩ := hM.ownAt (k := 0) rfl (by omega)
            obtain ⟨gr, hgr⟩ := hM.ownAt (k := 1) rfl (by omega)
            obtain ⟨gb, hgb⟩ := hM.ownAt (k := 5) rfl (by omega)
            subst hgc
            subst hgr
            rw [hgb] at hM
            replace hM : Mem _ _ [own 3 1 (.slice ((some ⟨gc, 0, none⟩)) Yc.length cc_) Yc.length (Yc.map (Value.int .i64)), own 3 1 (.slice ((some ⟨gr, 0, none⟩)) Yr.length cr) Yr.length (Yr.map (Value.int .i64)), pt b1 #[.int .i64 Gy.kind, .int .i64 Gy.n, .int .i64 Gy.cap, .slice ay3 Gy.wt.length cy3, .slice ay4 Gy.vl.length cy4, .slice ((some ⟨gb, 0, none⟩)) ss.length cy5] 25, own 3 1 (.slice ay3 Gy.wt.length cy3) Gy.wt.length (Gy.wt.map (Value.int .i64)), own 3 1 (.slice ay4 Gy.vl.length cy4) Gy.vl.length (Gy.vl.map (Value.int .i64)), own 22 1 (.slice ((some ⟨gb, 0, none⟩)) ss.length cy5) ss.length ((ss.map orV)), bundle (((ss.eraseIdx r).eraseIdx c_).map (orC 3))] _ := hM
            refine Ends.drawn (Mem w nof [own 3 1 (.slice ((some ⟨gc, 0, none⟩)) Yc.length cc_) Yc.length (Yc.map (Value.int .i64)), own 3 1 (.slice ((some ⟨gr, 0, none⟩)) Yr.length cr) Yr.length (Yr.map (Value.int .i64)), pt b1 #[.int .i64 Gy.kind, .int .i64 Gy.n, .int .i64 Gy.cap, .slice ay3 Gy.wt.length cy3, .slice ay4 Gy.vl.length cy4, .slice ((some ⟨gb, 0, none⟩)) ss.length cy5] 25, own 3 1 (.slice ay3 Gy.wt.length cy3) Gy.wt.length (Gy.wt.map (Value.int .i64)), own 3 1 (.slice ay4 Gy.vl.length cy4) Gy.vl.length (Gy.vl.map (Value.int .i64)), own 22 1 (.slice ((some ⟨gb, 0, none⟩)) ss.length cy5) ss.length ((ss.map orV))]) (.cons (0, true) (.cons (1, true) (.cons (2, true) (.cons (3, true) (.cons (4, true) (.cons (5, true) (.cons (6, true) (.cons (7, true) (.cons (8, true) (.cons (9, true) (.cons (10, true) (.cons (11, true) (.cons (12, true) (.cons (13, true) (.cons (14, true) (.cons (15, false) .nil)))))))))))))))) 15 mixed (by kernel_rfl) (by kernel_rfl) (by kernel_rfl) (hM.drop 6).drew ?_
            replace hM := hM.drew
            refine D.valF hA rfl (fun _ => R.fieldAddr (q := 5) fi25_5 rfl rfl rfl) rfl ?_; clear hA a; intro a hA
            refine D.val hA rfl (by kernel_rfl) (fun _ hM => R.load sz23 rfl (hM.cell (k := 2) rfl rfl)) rfl ?_; clear hA a; intro a hA
            refine D.valF hA rfl (fun _ => R.move rfl) rfl ?_; clear hA a; intro a hA
            refine D.valF hA rfl (fun _ => R.indexAddr (q := r) sl23 rfl rfl (by omega) (by omega)) rfl ?_; clear hA a; intro a hA
            refine D.val hA rfl (by kernel_rfl) (fun _ hM => R.load sz22 rfl (hM.ownCell (k := 5) rfl (orV_at hxr))) rfl ?_; clear hA a; intro a hA
            refine D.valF hA rfl (fun _ => R.move rfl) rfl ?_; clear hA a; intro a hA
            refine D.valF hA rfl (fun _ => R.fieldAddr (q := 5) fi25_5 rfl rfl rfl) rfl ?_; clear hA a; intro a hA
            refine D.val hA rfl (by kernel_rfl) (fun _ hM => R.load sz23 rfl (hM.cell (k := 2) rfl rfl)) rfl ?_; clear hA a; intro a hA
            refine D.valF hA rfl (fun _ => R.move rfl) rfl ?_; clear hA a; intro a hA
            refine D.valF hA rfl (fun _ => R.indexAddr (q := c_) sl23 rfl rfl (by omega) (by omega)) rfl ?_; clear hA a; intro a hA
            refine D.val hA rfl (by kernel_rfl) (fun _ hM => R.load sz22 rfl (hM.ownCell (k := 5) rfl (orV_at hxc))) rfl ?_; clear hA a; intro a hA
            refine D.valF hA rfl (fun _ => R.move rfl) rfl ?_; clear hA a; intro a hA
            refine D.valF hA rfl (fun _ => R.indexAddr (q := r) sl22 rfl rfl (by omega) (by omega)) rfl ?_; clear hA a; intro a hA
            refine D.val hA rfl (by kernel_rfl) (fun _ hM => R.load sz3 rfl (hM.ownCell (k := 0) rfl (mapi_get _ _ (by omega)))) rfl ?_; clear hA a; intro a hA
            refine D.valF hA rfl (fun _ => R.indexAddr (q := c_) sl22 rfl rfl (by omega) (by omega)) rfl ?_; clear hA a; intro a hA
            refine D.storeO (k := 1) hA hM rfl sz3 rfl rfl rfl rfl (mapi_get Yr c_ (by first | omega | (simp only [List.length_set]; omega) | (simp; done))) ?_; clear hM; intro w7 hM; rw [mapi_set] at hM
            refine ⟨fun _ hne => absurd rfl hne, ?_⟩
            replace hM : Mem _ _ [own 3 1 (.slice ((some ⟨gc, 0, none⟩)) Yc.length cc_) Yc.length (Yc.map (Value.int .i64)), own 3 1 (.slice ((some ⟨gr, 0, none⟩)) Yr.length cr) Yr.length (((Yr.set c_ (Yc.getD r 0))).map (Value.int .i64)), pt b1 #[.int .i64 Gy.kind, .int .i64 Gy.n, .int .i64 Gy.cap, .slice ay3 Gy.wt.length cy3, .slice ay4 Gy.vl.length cy4, .slice ((some ⟨gb, 0, none⟩)) ss.length cy5] 25, own 3 1 (.slice ay3 Gy.wt.length cy3) Gy.wt.length (Gy.wt.map (Value.int .i64)), own 3 1 (.slice ay4 Gy.vl.length cy4) Gy.vl.length (Gy.vl.map (Value.int .i64)), own 22 1 (.slice ((some ⟨gb, 0, none⟩)) ss.length cy5) ss.length ((ss.map orV)), bundle (((ss.eraseIdx r).eraseIdx c_).map (orC 3))] _ := hM
            refine D.done ?_
            replace hM := hM.front (k := 5) rfl
            replace hM := hM.front (k := 5) rfl
            replace hM := hM.front (k := 5) rfl
            replace hM := hM.front (k := 5) rfl
            replace hM := hM.front (k := 5) rfl
            replace hM := hM.front (k := 6) rfl
            replace hM := hM.front (k := 6) rfl
            replace hM := Mem.closeSame (f := orC 3) (x := ⟨Yc, some ⟨gc, 0, none⟩, cc_⟩) hM hxc2
            have hsl : ((Yr.set c_ (Yc.getD r 0))).length = Yr.length := List.length_set
            rw [← hsl] at hM
            replace hM := hM.front (k := 1) rfl
            replace hM := Mem.closeB (f := orC 3) (y := (⟨(Yr.set c_ (Yc.getD r 0)), (some ⟨gr, 0, none⟩), cr⟩ : OwR)) hM hxr
            rw [← set_orV hxr (u := (⟨(Yr.set c_ (Yc.getD r 0)), (some ⟨gr, 0, none⟩), cr⟩ : OwR)) (by show Value.slice _ _ _ = Value.slice _ _ _; rw [hsl]), ← hgb, show ss.length = (ss.set r (⟨(Yr.set c_ (Yc.getD r 0)), (some ⟨gr, 0, none⟩), cr⟩ : OwR)).length from List.length_set.symm] at hM
            replace hM : Mem _ _ [bundle ((ss.set r (⟨(Yr.set c_ (Yc.getD r 0)), (some ⟨gr, 0, none⟩), cr⟩ : OwR)).map (orC 3)), pt b1 #[.int .i64 Gy.kind, .int .i64 Gy.n, .int .i64 Gy.cap, .slice ay3 Gy.wt.length cy3, .slice ay4 Gy.vl.length cy4, .slice ay5 ((ss.set r (⟨(Yr.set c_ (Yc.getD r 0)), (some ⟨gr, 0, none⟩), cr⟩ : OwR)).length) cy5] 25, own 3 1 (.slice ay3 Gy.wt.length cy3) Gy.wt.length (Gy.wt.map (Value.int .i64)), own 3 1 (.slice ay4 Gy.vl.length cy4) Gy.vl.length (Gy.vl.map (Value.int .i64)), own 22 1 (.slice ay5 ((ss.set r (⟨(Yr.set c_ (Yc.getD r 0)), (some ⟨gr, 0, none⟩), cr⟩ : OwR)).length) cy5) ((ss.set r (⟨(Yr.set c_ (Yc.getD r 0)), (some ⟨gr, 0, none⟩), cr⟩ : OwR)).length) (((ss.set r (⟨(Yr.set c_ (Yc.getD r 0)), (some ⟨gr, 0, none⟩), cr⟩ : OwR)).map orV))] _ := hM
            replace hA : St 115 [(2, _), (5, _), (6, _)] a := hA.sub ((.cons rfl (.cons rfl (.cons rfl .nil))))
            refine Ends.inBlock ?_
            refine Ends.region ?_
            refine S.val hA (R.move rfl) rfl ?_; clear hA a; intro a hA
            refine S.val hA (R.addI rfl rfl (r := ((c_ : Int)) + 1) rfl (by omega)) rfl ?_; clear hA a; intro a hA
            refine S.val hA (R.assign rfl) rfl ?_; clear hA a; intro a hA
            refine S.done ?_
            replace hA : St 115 [(2, _), (5, _), (6, _)] a := hA.sub ((.cons rfl (.cons rfl (.cons rfl .nil))))
            replace hM := hM.front (k := 4) rfl
            replace hM := hM.front (k := 4) rfl
            replace hM := hM.front (k := 4) rfl
            replace hM := hM.front (k := 4) rfl
            exact hNext1 ((c_ + 1, (ss.set r (⟨(Yr.set c_ (Yc.getD r 0)), (some ⟨gr, 0, none⟩), cr⟩ : OwR)))) _ _ ((by show (rsy.map (·.Y.length)).getD r 0 - (c_ + 1) < (rsy.map (·.Y.length)).getD r 0 - c_; omega)) ⟨hA.sub ((.cons rfl (.cons rfl (.cons rfl .nil)))), hM, (by rw [set_lens hxr (by exact List.length_set)]; exact hl2)⟩
          ·
            refine Ends.skip ?_
            refine Ends.inBlock ?_
            refine Ends.region ?_
            refine S.val hA (R.move rfl) rfl ?_; clear hA a; intro a hA
            refine S.val hA (R.addI rfl rfl (r := ((c_ : Int)) + 1) rfl (by omega)) rfl ?_; clear hA a; intro a hA
            refine S.val hA (R.assign rfl) rfl ?_; clear hA a; intro a hA
            refine S.done ?_
            replace hA : St 115 [(2, _), (5, _), (6, _)] a := hA.sub ((.cons rfl (.cons rfl (.cons rfl .nil))))
            replace hM := hM.front (k := 4) rfl
            replace hM := hM.front (k := 4) rfl
            replace hM := hM.front (k := 4) rfl
            replace hM := hM.front (k := 4) rfl
            replace hM := hM.front (k := 4) rfl
            exact hNext1 ((c_ + 1, ss)) _ _ ((by show (rsy.map (·.Y.length)).getD r 0 - (c_ + 1) < (rsy.map (·.Y.length)).getD r 0 - c_; omega)) ⟨hA.sub ((.cons rfl (.cons rfl (.cons rfl .nil)))), hM, hl2⟩
        ·
          refine Ends.region ?_
          refine S.val hA (R.move rfl) rfl ?_; clear hA a; intro a hA
          refine S.val hA (R.move rfl) rfl ?_; clear hA a; intro a hA
          refine S.val hA (R.lss rfl rfl) rfl ?_; clear hA a; intro a hA
          refine S.val hA (R.move rfl) rfl ?_; clear hA a; intro a hA
          refine hA.split (d := 33) rfl ?_ ?_
          · clear hA; intro hg11 hA
            refine S.valg (dj := 33) hA (by kernel_rfl) rfl (R.move rfl) rfl ?_; clear hA a; intro a hA
            refine S.valg (dj := 33) hA (by kernel_rfl) rfl (R.fieldAddr (q := 5) fi25_5 rfl rfl rfl) rfl ?_; clear hA a; intro a hA
            refine S.valg (dj := 33) hA (by kernel_rfl) rfl (R.load sz23 rfl (hM.cell (k := 0) rfl rfl)) rfl ?_; clear hA a; intro a hA
            refine S.valg (dj := 33) hA (by kernel_rfl) rfl (R.lenS Tryd.underlying23 rfl rfl) rfl ?_; clear hA a; intro a hA
            refine S.valg (dj := 33) hA (by kernel_rfl) rfl (R.lss rfl rfl) rfl ?_; clear hA a; intro a hA
            refine S.val hA (R.pickT rfl rfl) rfl ?_; clear hA a; intro a hA
            refine S.val hA (R.move rfl) rfl ?_; clear hA a; intro a hA
            refine hA.split (d := 40) rfl ?_ ?_
            · clear hA; intro hg12 hA
              refine S.valg (dj := 40) hA (by kernel_rfl) rfl (R.move rfl) rfl ?_; clear hA a; intro a hA
              refine S.valg (dj := 40) hA (by kernel_rfl) rfl (R.fieldAddr (q := 5) fi25_5 rfl rfl rfl) rfl ?_; clear hA a; intro a hA
              refine S.valg (dj := 40) hA (by kernel_rfl) rfl (R.load sz23 rfl (hM.cell (k := 0) rfl rfl)) rfl ?_; clear hA a; intro a hA
              refine S.valg (dj := 40) hA (by kernel_rfl) rfl (R.move rfl) rfl ?_; clear hA a; intro a hA
              refine S.valg (dj := 40) hA (by kernel_rfl) rfl (R.idxRn (hM.rowsV (k := 3) rfl (k2 := 4) rfl) (j := c_) sl23 rfl rfl (by omega) (rfl)) rfl ?_; clear hA a; intro a hA
              obtain ⟨ra13, rc14, hrow15, hld16⟩ := (hM.rowsV_ (k := 3) rfl (k2 := 4) rfl).atP (i := c_) (by rw [List.length_map]; omega)
              refine S.valg (dj := 40) hA (by kernel_rfl) rfl (hld16 _ _ _ _ _ _ (Mem.start _) sz22 rfl) rfl ?_; clear hA a; intro a hA
              refine S.valg (dj := 40) hA (by kernel_rfl) rfl (R.lenS Tryd.underlying22 rfl rfl) rfl ?_; clear hA a; intro a hA
              refine S.valg (dj := 40) hA (by kernel_rfl) rfl (R.lss rfl rfl) rfl ?_; clear hA a; intro a hA
              refine S.val hA (R.pickT rfl rfl) rfl ?_; clear hA a; intro a hA
              refine S.done ?_
              replace hA : St 115 [(2, _), (5, _), (6, _), (49, _)] a := hA.sub ((.cons rfl (.cons rfl (.cons rfl (.cons rfl .nil)))))
              exact hJ _ _ ⟨hA.sub (.cons rfl (.cons rfl (.cons rfl (.cons (by first | rfl | exact congrArg (fun b => some (Value.bool b)) (by first | exact decide_eq_decide.2 (by omega) | exact or_bool (by omega) | exact and_bool (by omega) | (simp; done) | (simp [hg11, hg12]; done) | (have h80 := hg11; (try simp at h80); have h81 := hg12; (try simp at h81); simp [h80, h81]; done) | exact (decide_eq_false (fun h9 => hg11 h9.1)).symm | exact (decide_eq_false (fun h9 => hg12 h9.1)).symm)) .nil)))), hM⟩
            · clear hA; intro hg12 hA
              refine S.no (dj := 40) hA (by kernel_rfl) rfl rfl rfl ?_; clear hA a; intro a hA
              refine S.no (dj := 40) hA (by kernel_rfl) rfl rfl rfl ?_; clear hA a; intro a hA
              refine S.no (dj := 40) hA (by kernel_rfl) rfl rfl rfl ?_; clear hA a; intro a hA
              refine S.no (dj := 40) hA (by kernel_rfl) rfl rfl rfl ?_; clear hA a; intro a hA
              refine S.no (dj := 40) hA (by kernel_rfl) rfl rfl rfl ?_; clear hA a; intro a hA
              refine S.no (dj := 40) hA (by kernel_rfl) rfl rfl rfl ?_; clear hA a; intro a hA
              refine S.no (dj := 40) hA (by kernel_rfl) rfl rfl rfl ?_; clear hA a; intro a hA
              refine S.no (dj := 40) hA (by kernel_rfl) rfl rfl rfl ?_; clear hA a; intro a hA
              refine S.val hA (R.pickF rfl rfl) rfl ?_; clear hA a; intro a hA
              refine S.done ?_
              replace hA : St 115 [(2, _), (5, _), (6, _), (49, _)] a := hA.sub ((.cons rfl (.cons rfl (.cons rfl (.cons rfl .nil)))))
              exact hJ _ _ ⟨hA.sub (.cons rfl (.cons rfl (.cons rfl (.cons (by first | rfl | exact congrArg (fun b => some (Value.bool b)) (by first | exact decide_eq_decide.2 (by omega) | exact or_bool (by omega) | exact and_bool (by omega) | (simp; done) | (simp [hg11, hg12]; done) | (have h80 := hg11; (try simp at h80); have h81 := hg12; (try simp at h81); simp [h80, h81]; done) | exact (decide_eq_false (fun h9 => hg11 h9.1)).symm | exact (decide_eq_false (fun h9 => hg12 h9.1)).symm)) .nil)))), hM⟩
          · clear hA; intro hg11 hA
            refine S.no (dj := 33) hA (by kernel_rfl) rfl rfl rfl ?_; clear hA a; intro a hA
            refine S.no (dj := 33) hA (by kernel_rfl) rfl rfl rfl ?_; clear hA a; intro a hA
            refine S.no (dj := 33) hA (by kernel_rfl) rfl rfl rfl ?_; clear hA a; intro a hA
            refine S.no (dj := 33) hA (by kernel_rfl) rfl rfl rfl ?_; clear hA a; intro a hA
            refine S.no (dj := 33) hA (by kernel_rfl) rfl rfl rfl ?_; clear hA a; intro a hA
            refine S.val hA (R.pickF rfl rfl) rfl ?_; clear hA a; intro a hA
            refine S.val hA (R.move rfl) rfl ?_; clear hA a; intro a hA
            refine S.no (dj := 40) hA (by kernel_rfl) rfl rfl rfl ?_; clear hA a; intro a hA
            refine S.no (dj := 40) hA (by kernel_rfl) rfl rfl rfl ?_; clear hA a; intro a hA
            refine S.no (dj := 40) hA (by kernel_rfl) rfl rfl rfl ?_; clear hA a; intro a hA
            refine S.no (dj := 40) hA (by kernel_rfl) rfl rfl rfl ?_; clear hA a; intro a hA
            refine S.no (dj := 40) hA (by kernel_rfl) rfl rfl rfl ?_; clear hA a; intro a hA
            refine S.no (dj := 40) hA (by kernel_rfl) rfl rfl rfl ?_; clear hA a; intro a hA
            refine S.no (dj := 40) hA (by kernel_rfl) rfl rfl rfl ?_; clear hA a; intro a hA
            refine S.no (dj := 40) hA (by kernel_rfl) rfl rfl rfl ?_; clear hA a; intro a hA
            refine S.val hA (R.pickF rfl rfl) rfl ?_; clear hA a; intro a hA
            refine S.done ?_
            replace hA : St 115 [(2, _), (5, _), (6, _), (49, _)] a := hA.sub ((.cons rfl (.cons rfl (.cons rfl (.cons rfl .nil)))))
            exact hJ _ _ ⟨hA.sub (.cons rfl (.cons rfl (.cons rfl (.cons (by first | rfl | exact congrArg (fun b => some (Value.bool b)) (by first | exact decide_eq_decide.2 (by omega) | exact or_bool (by omega) | exact and_bool (by omega) | (simp; done) | (simp [hg11]; done) | (have h80 := hg11; (try simp at h80); simp [h80]; done) | exact (decide_eq_false (fun h9 => hg11 h9.1)).symm)) .nil)))), hM⟩
      ·
        refine Ends.exit rfl ?_
        replace hA : St 115 [(2, _), (5, _)] a := hA.sub ((.cons rfl (.cons rfl .nil)))
        refine Ends.inBlock ?_
        refine Ends.region ?_
        refine S.val hA (R.move rfl) rfl ?_; clear hA a; intro a hA
        refine S.val hA (R.addI rfl rfl (r := ((r : Int)) + 1) rfl (by omega)) rfl ?_; clear hA a; intro a hA
        refine S.val hA (R.assign rfl) rfl ?_; clear hA a; intro a hA
        refine S.done ?_
        replace hA : St 115 [(2, _), (5, _)] a := hA.sub ((.cons rfl (.cons rfl .nil)))
        replace hM := hM.front (k := 4) rfl
        replace hM := hM.front (k := 4) rfl
        replace hM := hM.front (k := 4) rfl
        replace hM := hM.front (k := 4) rfl
        replace hM := hM.front (k := 4) rfl
        exact hNext ((r + 1, ss)) _ _ ((by show rsy.length - (r + 1) < rsy.length - r; omega)) ⟨hA.sub ((.cons rfl (.cons rfl .nil))), hM, hl2, (by omega)⟩
    ·
      refine Ends.exit rfl ?_
      replace hA : St 115 [(2, _)] a := hA.sub ((.cons rfl .nil))
      refine Ends.seq ?_
      replace hM := hM.front (k := 4) rfl
      replace hM := hM.front (k := 4) rfl
      replace hM := hM.front (k := 4) rfl
      replace hM := hM.front (k := 4) rfl
      replace hM := hM.front (k := 4) rfl
      replace hM := hM.front (k := 4) rfl
      replace hM := hM.front (k := 4) rfl
      replace hM := hM.front (k := 4) rfl
      replace hM := hM.front (k := 4) rfl
      replace hM := Mem.pack (cs := insL 3 22 (wr Gy (rs.map (·.Y))) ay3 cy3 ay4 cy4 ay5 cy5 rs) (L := [pt b1 #[.int .i64 Gy.kind, .int .i64 Gy.n, .int .i64 Gy.cap, .slice ay3 Gy.wt.length cy3, .slice ay4 Gy.vl.length cy4, .slice ay5 rs.length cy5] 25]) hM
      obtain ⟨-, hy3, hy4, hy5⟩ := insR_of hM (k := 0) rfl rfl
      replace hM := hM.drop 0
      have hlct : rs.length = (wr Gy (rs.map (·.Y))).cost.length := (List.length_map ..).symm
      rw [hlct] at hM
      replace hM : Mem _ _ [pt b1 #[.int .i64 ((wr Gy (rs.map (·.Y))).kind), .int .i64 ((wr Gy (rs.map (·.Y))).n), .int .i64 ((wr Gy (rs.map (·.Y))).cap), .slice ay3 (((wr Gy (rs.map (·.Y))).wt).length) cy3, .slice ay4 (((wr Gy (rs.map (·.Y))).vl).length) cy4, .slice ay5 (((wr Gy (rs.map (·.Y))).cost).length) cy5] 25] _ := hM
      have hsmT := small_wr hsmy hYy hl1
      generalize (wr Gy (rs.map (·.Y))) = T at hM hy3 hy4 hy5 hsmT
      replace hM : Mem _ _ [pt b1 #[.int .i64 T.kind, .int .i64 T.n, .int .i64 T.cap, .slice ay3 T.wt.length cy3, .slice ay4 T.vl.length cy4, .slice ay5 T.cost.length cy5] 25] _ := hM
      have hsT1 := hsmT.1
      have hsT2 := hsmT.2.1
      have hsT3 := hsmT.2.2.1
      have hbx17 := hM.block (k := 0) rfl
      have hbs := hbs.trans (hM.below.mono hbs.size)
      have hx3 := hx3.mem hM
      have hx4 := hx4.mem hM
      have hx5 := hx5.mem hM
      replace hM := Mem.start w4
      refine Ends.cut (fun (a : Act) (wv : World) => St 115 [(2, .pointer (some ⟨b1, 0, none⟩)), (7, .bool (decide ((T.kind = 3 ∧ (chk T) = 0))))] a ∧ Mem w4 nof [] wv) ?_ (fun k2 hJ => ?_)
      · clear hA hM a; rintro a w8 ⟨hA, hM⟩
        refine Ends.seq ?_
        refine Ends.seq ?_
        refine Ends.region ?_
        refine S.val hA (R.assign rfl) rfl ?_; clear hA a; intro a hA
        refine S.done ?_
        replace hA : St 115 [(2, _), (7, _), (8, _)] a := hA.sub ((.cons rfl (.cons rfl (.cons rfl .nil))))
        refine Ends.block ?_
        refine Ends.loop (σ := Nat × Bool) (fun (r, wb) (a : Act) (wv : World) => St 115 [(2, .pointer (some ⟨b1, 0, none⟩)), (7, .bool wb), (8, .int .i64 ((r : Int)))] a ∧ Mem w4 nof [] wv ∧ (wb = true ↔ (T.kind = 3 ∧ chk T = 0) ∧ ∀ x y : Nat, x < r → y < T.n.toNat → cl T x y = cl T y x) ∧ (r ≤ T.n.toNat)) (fun (r, wb) => T.n.toNat - r) ((0, decide (T.kind = 3 ∧ chk T = 0))) ⟨hA.sub ((.cons rfl (.cons rfl (.cons rfl .nil)))), hM, (by rw [decide_eq_true_iff]; exact ⟨fun h => ⟨h, fun x y hx => absurd hx (Nat.not_lt_zero _)⟩, fun h => h.1⟩), (Nat.zero_le _)⟩ ?_
        clear hA hM a
        rintro ⟨r, wb⟩ a w9 ⟨hA, hM, hwb, hr⟩ hNext2
        refine Ends.seq ?_
        refine Ends.seq ?_
        refine Ends.cut (fun (a : Act) (wv : World) => St 115 [(2, .pointer (some ⟨b1, 0, none⟩)), (7, .bool wb), (8, .int .i64 ((r : Int))), (79, .bool (decide ((((r : Int)) < T.n ∧ wb = true))))] a ∧ Mem w4 nof [] wv) ?_ (fun k2 hJ => ?_)
        · clear hA hM a; rintro a w10 ⟨hA, hM⟩
          refine Ends.ite hA rfl (fun hc18 => ?_) (fun hc18 => ?_)
          ·
            have hgo := hc18
            have hw := hwb.1 hgo.2
            have hF := chk_inF hw.1.2
            have f7 := hF.cost
            rw [if_neg (by omega)] at f7
            refine Ends.skip ?_
            refine Ends.seq ?_
            refine Ends.block ?_
            refine Ends.seq ?_
            refine Ends.region ?_
            refine S.val hA (R.assign rfl) rfl ?_; clear hA a; intro a hA
            refine S.done ?_
            replace hA : St 115 [(2, _), (7, _), (8, _), (9, _)] a := hA.sub ((.cons rfl (.cons rfl (.cons rfl (.cons rfl .nil)))))
            refine Ends.block ?_
            refine Ends.loop (σ := Nat × Bool) (fun (c_, vb) (a : Act) (wv : World) => St 115 [(2, .pointer (some ⟨b1, 0, none⟩)), (7, .bool vb), (8, .int .i64 ((r : Int))), (9, .int .i64 ((c_ : Int)))] a ∧ Mem w4 nof [] wv ∧ (vb = true ↔ ∀ y : Nat, y < c_ → cl T r y = cl T y r) ∧ (c_ ≤ T.n.toNat)) (fun (c_, vb) => T.n.toNat - c_) ((0, wb)) ⟨hA.sub ((.cons rfl (.cons rfl (.cons rfl (.cons rfl .nil))))), hM, ⟨fun _ y hy => absurd hy (Nat.not_lt_zero _), fun _ => hgo.2⟩, (Nat.zero_le _)⟩ ?_
            clear hA hM a
            rintro ⟨c_, vb⟩ a w11 ⟨hA, hM, hv, hcn⟩ hNext3
            refine Ends.seq ?_
            refine Ends.seq ?_
            refine Ends.region ?_
            refine S.val hA (R.move rfl) rfl ?_; clear hA a; intro a hA
            refine S.val hA (R.fieldAddr (q := 1) fi25_1 rfl rfl rfl) rfl ?_; clear hA a; intro a hA
            refine S.val hA (R.load sz3 rfl (hM.cellB hbx17 rfl)) rfl ?_; clear hA a; intro a hA
            refine S.val hA (R.lss rfl rfl) rfl ?_; clear hA a; intro a hA
            refine S.done ?_
            replace hA : St 115 [(2, _), (7, _), (8, _), (9, _), (85, _)] a := hA.sub ((.cons rfl (.cons rfl (.cons rfl (.cons rfl (.cons rfl .nil))))))
            refine Ends.ite hA rfl (fun hc19 => ?_) (fun hc19 => ?_)
            ·
              have hrr := hF.row r (by omega)
              have hrc := hF.row c_ (by omega)
              refine Ends.skip ?_
              refine Ends.seq ?_
              refine Ends.block ?_
              refine Ends.cut (fun (a : Act) (wv : World) => St 115 [(2, .pointer (some ⟨b1, 0, none⟩)), (7, .bool (decide ((vb = true ∧ (((T.cost.getD r [])).getD c_ 0) = (((T.cost.getD c_ [])).getD r 0))))), (8, .int .i64 ((r : Int))), (9, .int .i64 ((c_ : Int)))] a ∧ Mem w4 nof [] wv) ?_ (fun k2 hJ => ?_)
              · clear hA hM a; rintro a w12 ⟨hA, hM⟩
                refine Ends.inBlock ?_
                refine Ends.region ?_
                refine S.val hA (R.move rfl) rfl ?_; clear hA a; intro a hA
                refine S.val hA (R.addI rfl rfl (r := ((c_ : Int)) + 1) rfl (by omega)) rfl ?_; clear hA a; intro a hA
                refine S.val hA (R.assign rfl) rfl ?_; clear hA a; intro a hA
                refine S.done ?_
                replace hA : St 115 [(2, _), (7, _), (8, _), (9, _)] a := hA.sub ((.cons rfl (.cons rfl (.cons rfl (.cons rfl .nil)))))
                exact hNext3 ((c_ + 1, decide ((vb = true ∧ (((T.cost.getD r [])).getD c_ 0) = (((T.cost.getD c_ [])).getD r 0))))) _ _ ((by show T.n.toNat - (c_ + 1) < T.n.toNat - c_; omega)) ⟨hA.sub ((.cons rfl (.cons rfl (.cons rfl (.cons rfl .nil))))), hM, (by rw [decide_eq_true_iff]; exact stepP (f := fun y => cl T r y = cl T y r) hv), (by omega)⟩
              ·
                refine Ends.drawn (Mem w4 nof []) (.cons (0, true) (.cons (1, true) (.cons (2, true) (.cons (3, true) (.cons (4, true) (.cons (5, true) (.cons (6, true) (.cons (7, true) (.cons (8, true) (.cons (9, true) (.cons (10, true) (.cons (11, true) (.cons (12, true) (.cons (13, true) (.cons (14, true) (.cons (15, true) (.cons (16, true) (.cons (17, true) (.cons (18, true) (.cons (19, true) (.cons (20, true) .nil))))))))))))))))))))) 21 mixed (by kernel_rfl) (by kernel_rfl) (by kernel_rfl) hM.drew ?_
                replace hM := hM.drew
                refine D.valF hA rfl (fun _ => R.move rfl) rfl ?_; clear hA a; intro a hA
                refine D.valF hA rfl (fun _ => R.move rfl) rfl ?_; clear hA a; intro a hA
                refine hA.splitB (d := 89) rfl ?_ ?_
                · clear hA; intro hg20 hA
                  refine D.valgF (dj := 89) hA rfl (by kernel_rfl) rfl (fun _ => R.fieldAddr (q := 5) fi25_5 rfl rfl rfl) rfl ?_; clear hA a; intro a hA
                  refine D.valg (dj := 89) hA rfl (by kernel_rfl) (by kernel_rfl) rfl (fun _ hM => R.load sz23 rfl (hM.cellB hbx17 rfl)) rfl ?_; clear hA a; intro a hA
                  refine D.valgF (dj := 89) hA rfl (by kernel_rfl) rfl (fun _ => R.move rfl) rfl ?_; clear hA a; intro a hA
                  refine D.valgF (dj := 89) hA rfl (by kernel_rfl) rfl (fun _ => R.idxR hy5 (j := r) sl23 rfl rfl (by omega) (rfl)) rfl ?_; clear hA a; intro a hA
                  obtain ⟨ra21, rc22, hrow23, hld24⟩ := hy5.atP (i := r) (by omega)
                  refine D.valg (dj := 89) hA rfl (by kernel_rfl) (by kernel_rfl) rfl (fun _ hM => hld24 _ _ _ _ _ _ hM sz22 rfl) rfl ?_; clear hA a; intro a hA
                  refine D.valgF (dj := 89) hA rfl (by kernel_rfl) rfl (fun _ => R.move rfl) rfl ?_; clear hA a; intro a hA
                  refine D.valgF (dj := 89) hA rfl (by kernel_rfl) rfl (fun _ => R.idxI hrow23 (j := c_) sl22 rfl rfl (by omega) (rfl)) rfl ?_; clear hA a; intro a hA
                  refine D.valg (dj := 89) hA rfl (by kernel_rfl) (by kernel_rfl) rfl (fun _ hM => R.loadI (hrow23.mem hM) sz3 rfl (by omega)) rfl ?_; clear hA a; intro a hA
                  refine D.valgF (dj := 89) hA rfl (by kernel_rfl) rfl (fun _ => R.fieldAddr (q := 5) fi25_5 rfl rfl rfl) rfl ?_; clear hA a; intro a hA
                  refine D.valg (dj := 89) hA rfl (by kernel_rfl) (by kernel_rfl) rfl (fun _ hM => R.load sz23 rfl (hM.cellB hbx17 rfl)) rfl ?_; clear hA a; intro a hA
                  refine D.valgF (dj := 89) hA rfl (by kernel_rfl) rfl (fun _ => R.move rfl) rfl ?_; clear hA a; intro a hA
                  refine D.valgF (dj := 89) hA rfl (by kernel_rfl) rfl (fun _ => R.idxR hy5 (j := c_) sl23 rfl rfl (by omega) (rfl)) rfl ?_; clear hA a; intro a hA
                  obtain ⟨ra25, rc26, hrow27, hld28⟩ := hy5.atP (i := c_) (by omega)
                  refine D.valg (dj := 89) hA rfl (by kernel_rfl) (by kernel_rfl) rfl (fun _ hM => hld28 _ _ _ _ _ _ hM sz22 rfl) rfl ?_; clear hA a; intro a hA
                  refine D.valgF (dj := 89) hA rfl (by kernel_rfl) rfl (fun _ => R.move rfl) rfl ?_; clear hA a; intro a hA
                  refine D.valgF (dj := 89) hA rfl (by kernel_rfl) rfl (fun _ => R.idxI hrow27 (j := r) sl22 rfl rfl (by omega) (rfl)) rfl ?_; clear hA a; intro a hA
                  refine D.valg (dj := 89) hA rfl (by kernel_rfl) (by kernel_rfl) rfl (fun _ hM => R.loadI (hrow27.mem hM) sz3 rfl (by omega)) rfl ?_; clear hA a; intro a hA
                  refine D.valgF (dj := 89) hA rfl (by kernel_rfl) rfl (fun _ => R.eql rfl rfl) rfl ?_; clear hA a; intro a hA
                  refine D.valF hA rfl (fun _ => R.pickT rfl rfl) rfl ?_; clear hA a; intro a hA
                  refine D.valF hA rfl (fun _ => R.assign rfl) rfl ?_; clear hA a; intro a hA
                  refine D.done ?_
                  replace hA : St 115 [(2, _), (7, _), (8, _), (9, _)] a := hA.sub ((.cons rfl (.cons rfl (.cons rfl (.cons rfl .nil)))))
                  exact hJ _ _ ⟨hA.sub (.cons rfl (.cons (by first | rfl | exact congrArg (fun b => some (Value.bool b)) (by first | exact decide_eq_decide.2 (by omega) | exact or_bool (by omega) | exact and_bool (by omega) | (simp; done) | (simp [hg20]; done) | (have h80 := hg20; (try simp at h80); simp [h80]; done) | exact (decide_eq_false (fun h9 => hg20 h9.1)).symm)) (.cons rfl (.cons rfl .nil)))), hM⟩
                · clear hA; intro hg20 hA
                  refine D.no (dj := 89) hA rfl (by kernel_rfl) rfl rfl rfl ?_; clear hA a; intro a hA
                  refine D.no (dj := 89) hA rfl (by kernel_rfl) rfl rfl rfl ?_; clear hA a; intro a hA
                  refine D.no (dj := 89) hA rfl (by kernel_rfl) rfl rfl rfl ?_; clear hA a; intro a hA
                  refine D.no (dj := 89) hA rfl (by kernel_rfl) rfl rfl rfl ?_; clear hA a; intro a hA
                  refine D.no (dj := 89) hA rfl (by kernel_rfl) rfl rfl rfl ?_; clear hA a; intro a hA
                  refine D.no (dj := 89) hA rfl (by kernel_rfl) rfl rfl rfl ?_; clear hA a; intro a hA
                  refine D.no (dj := 89) hA rfl (by kernel_rfl) rfl rfl rfl ?_; clear hA a; intro a hA
                  refine D.no (dj := 89) hA rfl (by kernel_rfl) rfl rfl rfl ?_; clear hA a; intro a hA
                  refine D.no (dj := 89) hA rfl (by kernel_rfl) rfl rfl rfl ?_; clear hA a; intro a hA
                  refine D.no (dj := 89) hA rfl (by kernel_rfl) rfl rfl rfl ?_; clear hA a; intro a hA
                  refine D.no (dj := 89) hA rfl (by kernel_rfl) rfl rfl rfl ?_; clear hA a; intro a hA
                  refine D.no (dj := 89) hA rfl (by kernel_rfl) rfl rfl rfl ?_; clear hA a; intro a hA
                  refine D.no (dj := 89) hA rfl (by kernel_rfl) rfl rfl rfl ?_; clear hA a; intro a hA
                  refine D.no (dj := 89) hA rfl (by kernel_rfl) rfl rfl rfl ?_; clear hA a; intro a hA
                  refine D.no (dj := 89) hA rfl (by kernel_rfl) rfl rfl rfl ?_; clear hA a; intro a hA
                  refine D.no (dj := 89) hA rfl (by kernel_rfl) rfl rfl rfl ?_; clear hA a; intro a hA
                  refine D.no (dj := 89) hA rfl (by kernel_rfl) rfl rfl rfl ?_; clear hA a; intro a hA
                  refine D.valF hA rfl (fun _ => R.pickF rfl rfl) rfl ?_; clear hA a; intro a hA
                  refine D.valF hA rfl (fun _ => R.assign rfl) rfl ?_; clear hA a; intro a hA
                  refine D.done ?_
                  replace hA : St 115 [(2, _), (7, _), (8, _), (9, _)] a := hA.sub ((.cons rfl (.cons rfl (.cons rfl (.cons rfl .nil)))))
                  exact hJ _ _ ⟨hA.sub (.cons rfl (.cons (by first | rfl | exact congrArg (fun b => some (Value.bool b)) (by first | exact decide_eq_decide.2 (by omega) | exact or_bool (by omega) | exact and_bool (by omega) | (simp; done) | (simp [hg20]; done) | (have h80 := hg20; (try simp at h80); simp [h80]; done) | exact (decide_eq_false (fun h9 => hg20 h9.1)).symm)) (.cons rfl (.cons rfl .nil)))), hM⟩
            ·
              refine Ends.exit rfl ?_
              replace hA : St 115 [(2, _), (7, _), (8, _)] a := hA.sub ((.cons rfl (.cons rfl (.cons rfl .nil))))
              refine Ends.inBlock ?_
              refine Ends.region ?_
              refine S.val hA (R.move rfl) rfl ?_; clear hA a; intro a hA
              refine S.val hA (R.addI rfl rfl (r := ((r : Int)) + 1) rfl (by omega)) rfl ?_; clear hA a; intro a hA
              refine S.val hA (R.assign rfl) rfl ?_; clear hA a; intro a hA
              refine S.done ?_
              replace hA : St 115 [(2, _), (7, _), (8, _)] a := hA.sub ((.cons rfl (.cons rfl (.cons rfl .nil))))
              exact hNext2 ((r + 1, vb)) _ _ ((by show T.n.toNat - (r + 1) < T.n.toNat - r; omega)) ⟨hA.sub ((.cons rfl (.cons rfl (.cons rfl .nil)))), hM, (stepQ (f := fun x y => cl T x y = cl T y x) hw.1 (by omega) hw.2 hv), (by omega)⟩
          ·
            have hfin : wb = true ↔ mirP T := hwb.trans ⟨fun h => ⟨h.1, fun x y hx hy => h.2 x y (by have hwt := hwb.2 h; have h7 : ¬ ((r : Int) < T.n) := fun h6 => hc18 ⟨h6, hwt⟩; omega) hy⟩, fun h => ⟨h.1, fun x y hx hy => h.2 x y (by omega) hy⟩⟩
            refine Ends.exit rfl ?_
            replace hA : St 115 [(2, _), (7, _)] a := hA.sub ((.cons rfl (.cons rfl .nil)))
            refine Ends.seq ?_
            refine Ends.region ?_
            refine S.call hA (R.callF Tryd.func17 rfl rfl rfl) rfl (insts_any _ (tab_below htab (Mem.trans0 hbs hM.nilL))) ?_; clear hA a
            rintro e w13 ⟨rfl, hb⟩
            replace hM := hM.callB hb; clear hb
            refine ⟨.bool true, rfl, fun a hA => ?_⟩
            refine S.val hA (R.move rfl) rfl ?_; clear hA a; intro a hA
            refine S.valg (dj := 109) hA (by kernel_rfl) rfl (R.loadA sz25 rfl (hM.oldRange hbx17) rfl) rfl ?_; clear hA a; intro a hA
            refine S.callg (dj := 109) hA (by kernel_rfl) rfl (R.callF Tryd.func24 rfl rfl rfl) rfl (mirror05 T ay3 cy3 ay4 cy4 ay5 cy5 ⟨by omega, by omega⟩ _ (hy3.mem hM) (hy4.mem hM) (hy5.mem hM)) ?_; clear hA a
            rintro e w14 ⟨m, hm, rfl, hb⟩
            replace hM := hM.callB hb; clear hb
            refine ⟨.bool m, rfl, fun a hA => ?_⟩
            refine S.valg (dj := 109) hA (by kernel_rfl) rfl (R.move rfl) rfl ?_; clear hA a; intro a hA
            refine S.valg (dj := 109) hA (by kernel_rfl) rfl (R.to (v := .bool true) (R.eqlB Tryd.underlying4 rfl rfl) (congrArg Value.bool (beq_iff_eq.2 (Bool.eq_iff_iff.2 (hm.trans hfin.symm))))) rfl ?_; clear hA a; intro a hA
            refine S.val hA (R.pickT rfl rfl) rfl ?_; clear hA a; intro a hA
            refine S.val hA (R.assign rfl) rfl ?_; clear hA a; intro a hA
            refine S.done ?_
            replace hA : St 115 [(4, _)] a := hA.sub ((.cons rfl .nil))
            refine Ends.ret1 Tryd.func6 Tryd.results6 hA rfl ?_
            exact ⟨rfl, Mem.trans0 hbs hM.nilL⟩
        ·
          refine Ends.region ?_
          refine S.val hA (R.move rfl) rfl ?_; clear hA a; intro a hA
          refine S.val hA (R.fieldAddr (q := 1) fi25_1 rfl rfl rfl) rfl ?_; clear hA a; intro a hA
          refine S.val hA (R.load sz3 rfl (hM.cellB hbx17 rfl)) rfl ?_; clear hA a; intro a hA
          refine S.val hA (R.lss rfl rfl) rfl ?_; clear hA a; intro a hA
          refine S.val hA (R.move rfl) rfl ?_; clear hA a; intro a hA
          refine hA.split (d := 77) rfl ?_ ?_
          · clear hA; intro hg29 hA
            refine S.valg (dj := 77) hA (by kernel_rfl) rfl (R.move rfl) rfl ?_; clear hA a; intro a hA
            refine S.val hA (R.pickT rfl rfl) rfl ?_; clear hA a; intro a hA
            refine S.done ?_
            replace hA : St 115 [(2, _), (7, _), (8, _), (79, _)] a := hA.sub ((.cons rfl (.cons rfl (.cons rfl (.cons rfl .nil)))))
            exact hJ _ _ ⟨hA.sub (.cons rfl (.cons rfl (.cons rfl (.cons (by first | rfl | exact congrArg (fun b => some (Value.bool b)) (by first | exact decide_eq_decide.2 (by omega) | exact or_bool (by omega) | exact and_bool (by omega) | (simp; done) | (simp [hg29]; done) | (have h80 := hg29; (try simp at h80); simp [h80]; done) | exact (decide_eq_false (fun h9 => hg29 h9.1)).symm)) .nil)))), hM⟩
          · clear hA; intro hg29 hA
            refine S.no (dj := 77) hA (by kernel_rfl) rfl rfl rfl ?_; clear hA a; intro a hA
            refine S.val hA (R.pickF rfl rfl) rfl ?_; clear hA a; intro a hA
            refine S.done ?_
            replace hA : St 115 [(2, _), (7, _), (8, _), (79, _)] a := hA.sub ((.cons rfl (.cons rfl (.cons rfl (.cons rfl .nil)))))
            exact hJ _ _ ⟨hA.sub (.cons rfl (.cons rfl (.cons rfl (.cons (by first | rfl | exact congrArg (fun b => some (Value.bool b)) (by first | exact decide_eq_decide.2 (by omega) | exact or_bool (by omega) | exact and_bool (by omega) | (simp; done) | (simp [hg29]; done) | (have h80 := hg29; (try simp at h80); simp [h80]; done) | exact (decide_eq_false (fun h9 => hg29 h9.1)).symm)) .nil)))), hM⟩
      ·
        refine Ends.region ?_
        refine S.val hA (R.fieldAddr (q := 0) fi25_0 rfl rfl rfl) rfl ?_; clear hA a; intro a hA
        refine S.val hA (R.load sz3 rfl (hM.cellB hbx17 rfl)) rfl ?_; clear hA a; intro a hA
        refine S.val hA (R.eql rfl rfl) rfl ?_; clear hA a; intro a hA
        refine S.val hA (R.move rfl) rfl ?_; clear hA a; intro a hA
        refine hA.split (d := 68) rfl ?_ ?_
        · clear hA; intro hg30 hA
          refine S.valg (dj := 68) hA (by kernel_rfl) rfl (R.loadA sz25 rfl (hM.oldRange hbx17) rfl) rfl ?_; clear hA a; intro a hA
          refine S.callg (dj := 68) hA (by kernel_rfl) rfl (R.callF Tryd.func19 rfl rfl rfl) rfl (rcheck05 T ay3 cy3 ay4 cy4 ay5 cy5 _ (hy3.mem hM) (hy4.mem hM) (hy5.mem hM)) ?_; clear hA a
          rintro e w15 ⟨rfl, hb⟩
          replace hM := hM.callB hb; clear hb
          refine ⟨.int .i64 (chk T), rfl, fun a hA => ?_⟩
          refine S.valg (dj := 68) hA (by kernel_rfl) rfl (R.eql rfl rfl) rfl ?_; clear hA a; intro a hA
          refine S.val hA (R.pickT rfl rfl) rfl ?_; clear hA a; intro a hA
          refine S.val hA (R.assign rfl) rfl ?_; clear hA a; intro a hA
          refine S.done ?_
          replace hA : St 115 [(2, _), (7, _)] a := hA.sub ((.cons rfl (.cons rfl .nil)))
          exact hJ _ _ ⟨hA.sub (.cons rfl (.cons (by first | rfl | exact congrArg (fun b => some (Value.bool b)) (by first | exact decide_eq_decide.2 (by omega) | exact or_bool (by omega) | exact and_bool (by omega) | (simp; done) | (simp [hg30]; done) | (have h80 := hg30; (try simp at h80); simp [h80]; done) | exact (decide_eq_false (fun h9 => hg30 h9.1)).symm)) .nil)), hM⟩
        · clear hA; intro hg30 hA
          refine S.no (dj := 68) hA (by kernel_rfl) rfl rfl rfl ?_; clear hA a; intro a hA
          refine S.no (dj := 68) hA (by kernel_rfl) rfl rfl rfl ?_; clear hA a; intro a hA
          refine S.no (dj := 68) hA (by kernel_rfl) rfl rfl rfl ?_; clear hA a; intro a hA
          refine S.val hA (R.pickF rfl rfl) rfl ?_; clear hA a; intro a hA
          refine S.val hA (R.assign rfl) rfl ?_; clear hA a; intro a hA
          refine S.done ?_
          replace hA : St 115 [(2, _), (7, _)] a := hA.sub ((.cons rfl (.cons rfl .nil)))
          exact hJ _ _ ⟨hA.sub (.cons rfl (.cons (by first | rfl | exact congrArg (fun b => some (Value.bool b)) (by first | exact decide_eq_decide.2 (by omega) | exact or_bool (by omega) | exact and_bool (by omega) | (simp; done) | (simp [hg30]; done) | (have h80 := hg30; (try simp at h80); simp [h80]; done) | exact (decide_eq_false (fun h9 => hg30 h9.1)).symm)) .nil)), hM⟩
  ·
    refine Ends.skip ?_
    refine Ends.seq ?_
    replace hM := hM.front (k := 4) rfl
    replace hM := hM.front (k := 4) rfl
    replace hM := hM.front (k := 4) rfl
    replace hM := hM.front (k := 4) rfl
    replace hM := hM.front (k := 4) rfl
    replace hM := hM.front (k := 4) rfl
    replace hM := hM.front (k := 4) rfl
    replace hM := hM.front (k := 4) rfl
    replace hM := hM.front (k := 4) rfl
    replace hM := Mem.pack (cs := insL 3 22 (wr Gy (rsy.map (·.Y))) ay3 cy3 ay4 cy4 ay5 cy5 rsy) (L := [pt b1 #[.int .i64 Gy.kind, .int .i64 Gy.n, .int .i64 Gy.cap, .slice ay3 Gy.wt.length cy3, .slice ay4 Gy.vl.length cy4, .slice ay5 rsy.length cy5] 25]) hM
    obtain ⟨-, hy3, hy4, hy5⟩ := insR_of hM (k := 0) rfl rfl
    replace hM := hM.drop 0
    have hlct : rsy.length = (wr Gy (rsy.map (·.Y))).cost.length := (List.length_map ..).symm
    rw [hlct] at hM
    replace hM : Mem _ _ [pt b1 #[.int .i64 ((wr Gy (rsy.map (·.Y))).kind), .int .i64 ((wr Gy (rsy.map (·.Y))).n), .int .i64 ((wr Gy (rsy.map (·.Y))).cap), .slice ay3 (((wr Gy (rsy.map (·.Y))).wt).length) cy3, .slice ay4 (((wr Gy (rsy.map (·.Y))).vl).length) cy4, .slice ay5 (((wr Gy (rsy.map (·.Y))).cost).length) cy5] 25] _ := hM
    have hsmT := small_wr hsmy hYy rfl
    generalize (wr Gy (rsy.map (·.Y))) = T at hM hy3 hy4 hy5 hsmT
    replace hM : Mem _ _ [pt b1 #[.int .i64 T.kind, .int .i64 T.n, .int .i64 T.cap, .slice ay3 T.wt.length cy3, .slice ay4 T.vl.length cy4, .slice ay5 T.cost.length cy5] 25] _ := hM
    have hsT1 := hsmT.1
    have hsT2 := hsmT.2.1
    have hsT3 := hsmT.2.2.1
    have hbx31 := hM.block (k := 0) rfl
    have hbs := hbs.trans (hM.below.mono hbs.size)
    have hx3 := hx3.mem hM
    have hx4 := hx4.mem hM
    have hx5 := hx5.mem hM
    replace hM := Mem.start w3
    refine Ends.cut (fun (a : Act) (wv : World) => St 115 [(2, .pointer (some ⟨b1, 0, none⟩)), (7, .bool (decide ((T.kind = 3 ∧ (chk T) = 0))))] a ∧ Mem w3 nof [] wv) ?_ (fun k2 hJ => ?_)
    · clear hA hM a; rintro a w16 ⟨hA, hM⟩
      refine Ends.seq ?_
      refine Ends.seq ?_
      refine Ends.region ?_
      refine S.val hA (R.assign rfl) rfl ?_; clear hA a; intro a hA
      refine S.done ?_
      replace hA : St 115 [(2, _), (7, _), (8, _)] a := hA.sub ((.cons rfl (.cons rfl (.cons rfl .nil))))
      refine Ends.block ?_
      refine Ends.loop (σ := Nat × Bool) (fun (r, wb) (a : Act) (wv : World) => St 115 [(2, .pointer (some ⟨b1, 0, none⟩)), (7, .bool wb), (8, .int .i64 ((r : Int)))] a ∧ Mem w3 nof [] wv ∧ (wb = true ↔ (T.kind = 3 ∧ chk T = 0) ∧ ∀ x y : Nat, x < r → y < T.n.toNat → cl T x y = cl T y x) ∧ (r ≤ T.n.toNat)) (fun (r, wb) => T.n.toNat - r) ((0, decide (T.kind = 3 ∧ chk T = 0))) ⟨hA.sub ((.cons rfl (.cons rfl (.cons rfl .nil)))), hM, (by rw [decide_eq_true_iff]; exact ⟨fun h => ⟨h, fun x y hx => absurd hx (Nat.not_lt_zero _)⟩, fun h => h.1⟩), (Nat.zero_le _)⟩ ?_
      clear hA hM a
      rintro ⟨r, wb⟩ a w17 ⟨hA, hM, hwb, hr⟩ hNext2
      refine Ends.seq ?_
      refine Ends.seq ?_
      refine Ends.cut (fun (a : Act) (wv : World) => St 115 [(2, .pointer (some ⟨b1, 0, none⟩)), (7, .bool wb), (8, .int .i64 ((r : Int))), (79, .bool (decide ((((r : Int)) < T.n ∧ wb = true))))] a ∧ Mem w3 nof [] wv) ?_ (fun k2 hJ => ?_)
      · clear hA hM a; rintro a w18 ⟨hA, hM⟩
        refine Ends.ite hA rfl (fun hc32 => ?_) (fun hc32 => ?_)
        ·
          have hgo := hc32
          have hw := hwb.1 hgo.2
          have hF := chk_inF hw.1.2
          have f7 := hF.cost
          rw [if_neg (by omega)] at f7
          refine Ends.skip ?_
          refine Ends.seq ?_
          refine Ends.block ?_
          refine Ends.seq ?_
          refine Ends.region ?_
          refine S.val hA (R.assign rfl) rfl ?_; clear hA a; intro a hA
          refine S.done ?_
          replace hA : St 115 [(2, _), (7, _), (8, _), (9, _)] a := hA.sub ((.cons rfl (.cons rfl (.cons rfl (.cons rfl .nil)))))
          refine Ends.block ?_
          refine Ends.loop (σ := Nat × Bool) (fun (c_, vb) (a : Act) (wv : World) => St 115 [(2, .pointer (some ⟨b1, 0, none⟩)), (7, .bool vb), (8, .int .i64 ((r : Int))), (9, .int .i64 ((c_ : Int)))] a ∧ Mem w3 nof [] wv ∧ (vb = true ↔ ∀ y : Nat, y < c_ → cl T r y = cl T y r) ∧ (c_ ≤ T.n.toNat)) (fun (c_, vb) => T.n.toNat - c_) ((0, wb)) ⟨hA.sub ((.cons rfl (.cons rfl (.cons rfl (.cons rfl .nil))))), hM, ⟨fun _ y hy => absurd hy (Nat.not_lt_zero _), fun _ => hgo.2⟩, (Nat.zero_le _)⟩ ?_
          clear hA hM a
          rintro ⟨c_, vb⟩ a w19 ⟨hA, hM, hv, hcn⟩ hNext3
          refine Ends.seq ?_
          refine Ends.seq ?_
          refine Ends.region ?_
          refine S.val hA (R.move rfl) rfl ?_; clear hA a; intro a hA
          refine S.val hA (R.fieldAddr (q := 1) fi25_1 rfl rfl rfl) rfl ?_; clear hA a; intro a hA
          refine S.val hA (R.load sz3 rfl (hM.cellB hbx31 rfl)) rfl ?_; clear hA a; intro a hA
          refine S.val hA (R.lss rfl rfl) rfl ?_; clear hA a; intro a hA
          refine S.done ?_
          replace hA : St 115 [(2, _), (7, _), (8, _), (9, _), (85, _)] a := hA.sub ((.cons rfl (.cons rfl (.cons rfl (.cons rfl (.cons rfl .nil))))))
          refine Ends.ite hA rfl (fun hc33 => ?_) (fun hc33 => ?_)
          ·
            have hrr := hF.row r (by omega)
            have hrc := hF.row c_ (by omega)
            refine Ends.skip ?_
            refine Ends.seq ?_
            refine Ends.block ?_
            refine Ends.cut (fun (a : Act) (wv : World) => St 115 [(2, .pointer (some ⟨b1, 0, none⟩)), (7, .bool (decide ((vb = true ∧ (((T.cost.getD r [])).getD c_ 0) = (((T.cost.getD c_ [])).getD r 0))))), (8, .int .i64 ((r : Int))), (9, .int .i64 ((c_ : Int)))] a ∧ Mem w3 nof [] wv) ?_ (fun k2 hJ => ?_)
            · clear hA hM a; rintro a w20 ⟨hA, hM⟩
              refine Ends.inBlock ?_
              refine Ends.region ?_
              refine S.val hA (R.move rfl) rfl ?_; clear hA a; intro a hA
              refine S.val hA (R.addI rfl rfl (r := ((c_ : Int)) + 1) rfl (by omega)) rfl ?_; clear hA a; intro a hA
              refine S.val hA (R.assign rfl) rfl ?_; clear hA a; intro a hA
              refine S.done ?_
              replace hA : St 115 [(2, _), (7, _), (8, _), (9, _)] a := hA.sub ((.cons rfl (.cons rfl (.cons rfl (.cons rfl .nil)))))
              exact hNext3 ((c_ + 1, decide ((vb = true ∧ (((T.cost.getD r [])).getD c_ 0) = (((T.cost.getD c_ [])).getD r 0))))) _ _ ((by show T.n.toNat - (c_ + 1) < T.n.toNat - c_; omega)) ⟨hA.sub ((.cons rfl (.cons rfl (.cons rfl (.cons rfl .nil))))), hM, (by rw [decide_eq_true_iff]; exact stepP (f := fun y => cl T r y = cl T y r) hv), (by omega)⟩
            ·
              refine Ends.drawn (Mem w3 nof []) (.cons (0, true) (.cons (1, true) (.cons (2, true) (.cons (3, true) (.cons (4, true) (.cons (5, true) (.cons (6, true) (.cons (7, true) (.cons (8, true) (.cons (9, true) (.cons (10, true) (.cons (11, true) (.cons (12, true) (.cons (13, true) (.cons (14, true) (.cons (15, true) (.cons (16, true) (.cons (17, true) (.cons (18, true) (.cons (19, true) (.cons (20, true) .nil))))))))))))))))))))) 21 mixed (by kernel_rfl) (by kernel_rfl) (by kernel_rfl) hM.drew ?_
              replace hM := hM.drew
              refine D.valF hA rfl (fun _ => R.move rfl) rfl ?_; clear hA a; intro a hA
              refine D.valF hA rfl (fun _ => R.move rfl) rfl ?_; clear hA a; intro a hA
              refine hA.splitB (d := 89) rfl ?_ ?_
              · clear hA; intro hg34 hA
                refine D.valgF (dj := 89) hA rfl (by kernel_rfl) rfl (fun _ => R.fieldAddr (q := 5) fi25_5 rfl rfl rfl) rfl ?_; clear hA a; intro a hA
                refine D.valg (dj := 89) hA rfl (by kernel_rfl) (by kernel_rfl) rfl (fun _ hM => R.load sz23 rfl (hM.cellB hbx31 rfl)) rfl ?_; clear hA a; intro a hA
                refine D.valgF (dj := 89) hA rfl (by kernel_rfl) rfl (fun _ => R.move rfl) rfl ?_; clear hA a; intro a hA
                refine D.valgF (dj := 89) hA rfl (by kernel_rfl) rfl (fun _ => R.idxR hy5 (j := r) sl23 rfl rfl (by omega) (rfl)) rfl ?_; clear hA a; intro a hA
                obtain ⟨ra35, rc36, hrow37, hld38⟩ := hy5.atP (i := r) (by omega)
                refine D.valg (dj := 89) hA rfl (by kernel_rfl) (by kernel_rfl) rfl (fun _ hM => hld38 _ _ _ _ _ _ hM sz22 rfl) rfl ?_; clear hA a; intro a hA
                refine D.valgF (dj := 89) hA rfl (by kernel_rfl) rfl (fun _ => R.move rfl) rfl ?_; clear hA a; intro a hA
                refine D.valgF (dj := 89) hA rfl (by kernel_rfl) rfl (fun _ => R.idxI hrow37 (j := c_) sl22 rfl rfl (by omega) (rfl)) rfl ?_; clear hA a; intro a hA
                refine D.valg (dj := 89) hA rfl (by kernel_rfl) (by kernel_rfl) rfl (fun _ hM => R.loadI (hrow37.mem hM) sz3 rfl (by omega)) rfl ?_; clear hA a; intro a hA
                refine D.valgF (dj := 89) hA rfl (by kernel_rfl) rfl (fun _ => R.fieldAddr (q := 5) fi25_5 rfl rfl rfl) rfl ?_; clear hA a; intro a hA
                refine D.valg (dj := 89) hA rfl (by kernel_rfl) (by kernel_rfl) rfl (fun _ hM => R.load sz23 rfl (hM.cellB hbx31 rfl)) rfl ?_; clear hA a; intro a hA
                refine D.valgF (dj := 89) hA rfl (by kernel_rfl) rfl (fun _ => R.move rfl) rfl ?_; clear hA a; intro a hA
                refine D.valgF (dj := 89) hA rfl (by kernel_rfl) rfl (fun _ => R.idxR hy5 (j := c_) sl23 rfl rfl (by omega) (rfl)) rfl ?_; clear hA a; intro a hA
                obtain ⟨ra39, rc40, hrow41, hld42⟩ := hy5.atP (i := c_) (by omega)
                refine D.valg (dj := 89) hA rfl (by kernel_rfl) (by kernel_rfl) rfl (fun _ hM => hld42 _ _ _ _ _ _ hM sz22 rfl) rfl ?_; clear hA a; intro a hA
                refine D.valgF (dj := 89) hA rfl (by kernel_rfl) rfl (fun _ => R.move rfl) rfl ?_; clear hA a; intro a hA
                refine D.valgF (dj := 89) hA rfl (by kernel_rfl) rfl (fun _ => R.idxI hrow41 (j := r) sl22 rfl rfl (by omega) (rfl)) rfl ?_; clear hA a; intro a hA
                refine D.valg (dj := 89) hA rfl (by kernel_rfl) (by kernel_rfl) rfl (fun _ hM => R.loadI (hrow41.mem hM) sz3 rfl (by omega)) rfl ?_; clear hA a; intro a hA
                refine D.valgF (dj := 89) hA rfl (by kernel_rfl) rfl (fun _ => R.eql rfl rfl) rfl ?_; clear hA a; intro a hA
                refine D.valF hA rfl (fun _ => R.pickT rfl rfl) rfl ?_; clear hA a; intro a hA
                refine D.valF hA rfl (fun _ => R.assign rfl) rfl ?_; clear hA a; intro a hA
                refine D.done ?_
                replace hA : St 115 [(2, _), (7, _), (8, _), (9, _)] a := hA.sub ((.cons rfl (.cons rfl (.cons rfl (.cons rfl .nil)))))
                exact hJ _ _ ⟨hA.sub (.cons rfl (.cons (by first | rfl | exact congrArg (fun b => some (Value.bool b)) (by first | exact decide_eq_decide.2 (by omega) | exact or_bool (by omega) | exact and_bool (by omega) | (simp; done) | (simp [hg34]; done) | (have h80 := hg34; (try simp at h80); simp [h80]; done) | exact (decide_eq_false (fun h9 => hg34 h9.1)).symm)) (.cons rfl (.cons rfl .nil)))), hM⟩
              · clear hA; intro hg34 hA
                refine D.no (dj := 89) hA rfl (by kernel_rfl) rfl rfl rfl ?_; clear hA a; intro a hA
                refine D.no (dj := 89) hA rfl (by kernel_rfl) rfl rfl rfl ?_; clear hA a; intro a hA
                refine D.no (dj := 89) hA rfl (by kernel_rfl) rfl rfl rfl ?_; clear hA a; intro a hA
                refine D.no (dj := 89) hA rfl (by kernel_rfl) rfl rfl rfl ?_; clear hA a; intro a hA
                refine D.no (dj := 89) hA rfl (by kernel_rfl) rfl rfl rfl ?_; clear hA a; intro a hA
                refine D.no (dj := 89) hA rfl (by kernel_rfl) rfl rfl rfl ?_; clear hA a; intro a hA
                refine D.no (dj := 89) hA rfl (by kernel_rfl) rfl rfl rfl ?_; clear hA a; intro a hA
                refine D.no (dj := 89) hA rfl (by kernel_rfl) rfl rfl rfl ?_; clear hA a; intro a hA
                refine D.no (dj := 89) hA rfl (by kernel_rfl) rfl rfl rfl ?_; clear hA a; intro a hA
                refine D.no (dj := 89) hA rfl (by kernel_rfl) rfl rfl rfl ?_; clear hA a; intro a hA
                refine D.no (dj := 89) hA rfl (by kernel_rfl) rfl rfl rfl ?_; clear hA a; intro a hA
                refine D.no (dj := 89) hA rfl (by kernel_rfl) rfl rfl rfl ?_; clear hA a; intro a hA
                refine D.no (dj := 89) hA rfl (by kernel_rfl) rfl rfl rfl ?_; clear hA a; intro a hA
                refine D.no (dj := 89) hA rfl (by kernel_rfl) rfl rfl rfl ?_; clear hA a; intro a hA
                refine D.no (dj := 89) hA rfl (by kernel_rfl) rfl rfl rfl ?_; clear hA a; intro a hA
                refine D.no (dj := 89) hA rfl (by kernel_rfl) rfl rfl rfl ?_; clear hA a; intro a hA
                refine D.no (dj := 89) hA rfl (by kernel_rfl) rfl rfl rfl ?_; clear hA a; intro a hA
                refine D.valF hA rfl (fun _ => R.pickF rfl rfl) rfl ?_; clear hA a; intro a hA
                refine D.valF hA rfl (fun _ => R.assign rfl) rfl ?_; clear hA a; intro a hA
                refine D.done ?_
                replace hA : St 115 [(2, _), (7, _), (8, _), (9, _)] a := hA.sub ((.cons rfl (.cons rfl (.cons rfl (.cons rfl .nil)))))
                exact hJ _ _ ⟨hA.sub (.cons rfl (.cons (by first | rfl | exact congrArg (fun b => some (Value.bool b)) (by first | exact decide_eq_decide.2 (by omega) | exact or_bool (by omega) | exact and_bool (by omega) | (simp; done) | (simp [hg34]; done) | (have h80 := hg34; (try simp at h80); simp [h80]; done) | exact (decide_eq_false (fun h9 => hg34 h9.1)).symm)) (.cons rfl (.cons rfl .nil)))), hM⟩
          ·
            refine Ends.exit rfl ?_
            replace hA : St 115 [(2, _), (7, _), (8, _)] a := hA.sub ((.cons rfl (.cons rfl (.cons rfl .nil))))
            refine Ends.inBlock ?_
            refine Ends.region ?_
            refine S.val hA (R.move rfl) rfl ?_; clear hA a; intro a hA
            refine S.val hA (R.addI rfl rfl (r := ((r : Int)) + 1) rfl (by omega)) rfl ?_; clear hA a; intro a hA
            refine S.val hA (R.assign rfl) rfl ?_; clear hA a; intro a hA
            refine S.done ?_
            replace hA : St 115 [(2, _), (7, _), (8, _)] a := hA.sub ((.cons rfl (.cons rfl (.cons rfl .nil))))
            exact hNext2 ((r + 1, vb)) _ _ ((by show T.n.toNat - (r + 1) < T.n.toNat - r; omega)) ⟨hA.sub ((.cons rfl (.cons rfl (.cons rfl .nil)))), hM, (stepQ (f := fun x y => cl T x y = cl T y x) hw.1 (by omega) hw.2 hv), (by omega)⟩
        ·
          have hfin : wb = true ↔ mirP T := hwb.trans ⟨fun h => ⟨h.1, fun x y hx hy => h.2 x y (by have hwt := hwb.2 h; have h7 : ¬ ((r : Int) < T.n) := fun h6 => hc32 ⟨h6, hwt⟩; omega) hy⟩, fun h => ⟨h.1, fun x y hx hy => h.2 x y (by omega) hy⟩⟩
          refine Ends.exit rfl ?_
          replace hA : St 115 [(2, _), (7, _)] a := hA.sub ((.cons rfl (.cons rfl .nil)))
          refine Ends.seq ?_
          refine Ends.region ?_
          refine S.call hA (R.callF Tryd.func17 rfl rfl rfl) rfl (insts_any _ (tab_below htab (Mem.trans0 hbs hM.nilL))) ?_; clear hA a
          rintro e w21 ⟨rfl, hb⟩
          replace hM := hM.callB hb; clear hb
          refine ⟨.bool true, rfl, fun a hA => ?_⟩
          refine S.val hA (R.move rfl) rfl ?_; clear hA a; intro a hA
          refine S.valg (dj := 109) hA (by kernel_rfl) rfl (R.loadA sz25 rfl (hM.oldRange hbx31) rfl) rfl ?_; clear hA a; intro a hA
          refine S.callg (dj := 109) hA (by kernel_rfl) rfl (R.callF Tryd.func24 rfl rfl rfl) rfl (mirror05 T ay3 cy3 ay4 cy4 ay5 cy5 ⟨by omega, by omega⟩ _ (hy3.mem hM) (hy4.mem hM) (hy5.mem hM)) ?_; clear hA a
          rintro e w22 ⟨m, hm, rfl, hb⟩
          replace hM := hM.callB hb; clear hb
          refine ⟨.bool m, rfl, fun a hA => ?_⟩
          refine S.valg (dj := 109) hA (by kernel_rfl) rfl (R.move rfl) rfl ?_; clear hA a; intro a hA
          refine S.valg (dj := 109) hA (by kernel_rfl) rfl (R.to (v := .bool true) (R.eqlB Tryd.underlying4 rfl rfl) (congrArg Value.bool (beq_iff_eq.2 (Bool.eq_iff_iff.2 (hm.trans hfin.symm))))) rfl ?_; clear hA a; intro a hA
          refine S.val hA (R.pickT rfl rfl) rfl ?_; clear hA a; intro a hA
          refine S.val hA (R.assign rfl) rfl ?_; clear hA a; intro a hA
          refine S.done ?_
          replace hA : St 115 [(4, _)] a := hA.sub ((.cons rfl .nil))
          refine Ends.ret1 Tryd.func6 Tryd.results6 hA rfl ?_
          exact ⟨rfl, Mem.trans0 hbs hM.nilL⟩
      ·
        refine Ends.region ?_
        refine S.val hA (R.move rfl) rfl ?_; clear hA a; intro a hA
        refine S.val hA (R.fieldAddr (q := 1) fi25_1 rfl rfl rfl) rfl ?_; clear hA a; intro a hA
        refine S.val hA (R.load sz3 rfl (hM.cellB hbx31 rfl)) rfl ?_; clear hA a; intro a hA
        refine S.val hA (R.lss rfl rfl) rfl ?_; clear hA a; intro a hA
        refine S.val hA (R.move rfl) rfl ?_; clear hA a; intro a hA
        refine hA.split (d := 77) rfl ?_ ?_
        · clear hA; intro hg43 hA
          refine S.valg (dj := 77) hA (by kernel_rfl) rfl (R.move rfl) rfl ?_; clear hA a; intro a hA
          refine S.val hA (R.pickT rfl rfl) rfl ?_; clear hA a; intro a hA
          refine S.done ?_
          replace hA : St 115 [(2, _), (7, _), (8, _), (79, _)] a := hA.sub ((.cons rfl (.cons rfl (.cons rfl (.cons rfl .nil)))))
          exact hJ _ _ ⟨hA.sub (.cons rfl (.cons rfl (.cons rfl (.cons (by first | rfl | exact congrArg (fun b => some (Value.bool b)) (by first | exact decide_eq_decide.2 (by omega) | exact or_bool (by omega) | exact and_bool (by omega) | (simp; done) | (simp [hg43]; done) | (have h80 := hg43; (try simp at h80); simp [h80]; done) | exact (decide_eq_false (fun h9 => hg43 h9.1)).symm)) .nil)))), hM⟩
        · clear hA; intro hg43 hA
          refine S.no (dj := 77) hA (by kernel_rfl) rfl rfl rfl ?_; clear hA a; intro a hA
          refine S.val hA (R.pickF rfl rfl) rfl ?_; clear hA a; intro a hA
          refine S.done ?_
          replace hA : St 115 [(2, _), (7, _), (8, _), (79, _)] a := hA.sub ((.cons rfl (.cons rfl (.cons rfl (.cons rfl .nil)))))
          exact hJ _ _ ⟨hA.sub (.cons rfl (.cons rfl (.cons rfl (.cons (by first | rfl | exact congrArg (fun b => some (Value.bool b)) (by first | exact decide_eq_decide.2 (by omega) | exact or_bool (by omega) | exact and_bool (by omega) | (simp; done) | (simp [hg43]; done) | (have h80 := hg43; (try simp at h80); simp [h80]; done) | exact (decide_eq_false (fun h9 => hg43 h9.1)).symm)) .nil)))), hM⟩
    ·
      refine Ends.region ?_
      refine S.val hA (R.fieldAddr (q := 0) fi25_0 rfl rfl rfl) rfl ?_; clear hA a; intro a hA
      refine S.val hA (R.load sz3 rfl (hM.cellB hbx31 rfl)) rfl ?_; clear hA a; intro a hA
      refine S.val hA (R.eql rfl rfl) rfl ?_; clear hA a; intro a hA
      refine S.val hA (R.move rfl) rfl ?_; clear hA a; intro a hA
      refine hA.split (d := 68) rfl ?_ ?_
      · clear hA; intro hg44 hA
        refine S.valg (dj := 68) hA (by kernel_rfl) rfl (R.loadA sz25 rfl (hM.oldRange hbx31) rfl) rfl ?_; clear hA a; intro a hA
        refine S.callg (dj := 68) hA (by kernel_rfl) rfl (R.callF Tryd.func19 rfl rfl rfl) rfl (rcheck05 T ay3 cy3 ay4 cy4 ay5 cy5 _ (hy3.mem hM) (hy4.mem hM) (hy5.mem hM)) ?_; clear hA a
        rintro e w23 ⟨rfl, hb⟩
        replace hM := hM.callB hb; clear hb
        refine ⟨.int .i64 (chk T), rfl, fun a hA => ?_⟩
        refine S.valg (dj := 68) hA (by kernel_rfl) rfl (R.eql rfl rfl) rfl ?_; clear hA a; intro a hA
        refine S.val hA (R.pickT rfl rfl) rfl ?_; clear hA a; intro a hA
        refine S.val hA (R.assign rfl) rfl ?_; clear hA a; intro a hA
        refine S.done ?_
        replace hA : St 115 [(2, _), (7, _)] a := hA.sub ((.cons rfl (.cons rfl .nil)))
        exact hJ _ _ ⟨hA.sub (.cons rfl (.cons (by first | rfl | exact congrArg (fun b => some (Value.bool b)) (by first | exact decide_eq_decide.2 (by omega) | exact or_bool (by omega) | exact and_bool (by omega) | (simp; done) | (simp [hg44]; done) | (have h80 := hg44; (try simp at h80); simp [h80]; done) | exact (decide_eq_false (fun h9 => hg44 h9.1)).symm)) .nil)), hM⟩
      · clear hA; intro hg44 hA
        refine S.no (dj := 68) hA (by kernel_rfl) rfl rfl rfl ?_; clear hA a; intro a hA
        refine S.no (dj := 68) hA (by kernel_rfl) rfl rfl rfl ?_; clear hA a; intro a hA
        refine S.no (dj := 68) hA (by kernel_rfl) rfl rfl rfl ?_; clear hA a; intro a hA
        refine S.val hA (R.pickF rfl rfl) rfl ?_; clear hA a; intro a hA
        refine S.val hA (R.assign rfl) rfl ?_; clear hA a; intro a hA
        refine S.done ?_
        replace hA : St 115 [(2, _), (7, _)] a := hA.sub ((.cons rfl (.cons rfl .nil)))
        exact hJ _ _ ⟨hA.sub (.cons rfl (.cons (by first | rfl | exact congrArg (fun b => some (Value.bool b)) (by first | exact decide_eq_decide.2 (by omega) | exact or_bool (by omega) | exact and_bool (by omega) | (simp; done) | (simp [hg44]; done) | (have h80 := hg44; (try simp at h80); simp [h80]; done) | exact (decide_eq_false (fun h9 => hg44 h9.1)).symm)) .nil)), hM⟩
theorem instMirrors_any (v : Value) (i : Ins) (turn : Bool) (w : World) (h1 : InsV w v i) (_h2 : wfI i) (htab : Lib.TabIs Tryd.prog w "internal/strconv.uint64pow10" .u64 Lib.pow10Tab) :
    Calls Tryd.prog 6 #[v, .bool turn] w fun e w' => e = .returned (.bool true) ∧ Below w.heap.size w w' := by
  obtain ⟨aw, cw, av, cv, ac, cc, rfl, h3, h4, h5⟩ := h1.parts
  exact instMirrors_w i aw cw av cv ac cc turn w h3 h4 h5 htab
end Go.Proofs.YtakfcekfmdjklaaDoor
