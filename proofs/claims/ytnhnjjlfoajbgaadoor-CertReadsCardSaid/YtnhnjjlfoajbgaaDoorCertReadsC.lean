/-
  CertReads, part 3 of 3: what the code computes, and plain laws; no condition beside those that each theorem tells.
-/
import Derived.Test.YtnhnjjlfoajbgaaDoorCertReadsB
namespace Go.Proofs.YtnhnjjlfoajbgaaDoor
open Go.RowKit
def wrP (c : Crt) (L : List UInt8) (er : Int) : Prop := (frmC c ∧ L = txtC c ∧ er = 0) ∨ (¬ frmC c ∧ L = [] ∧ er = 8)
def svC (n : Int) : Value := .string (bs (Lib.itoa n))
theorem svC_snoc {X : List Int} {k : Nat} (h : k < X.length) : (X.take k).map svC ++ [.string (bs (Lib.itoa (X.getD k 0)))] = (X.take (k + 1)).map svC := by
  rw [take_succ_getD X k h, List.map_append]; rfl
theorem joinC_any {w0 : World} {F : Nat → Prop} {L : List Ck} (oa : Option Addr) (X : List Int) (oc : Nat) (hX : 0 < X.length ∧ X.length ≤ 1000) (hb : ∀ x ∈ X, bd64 x) (w : World) (hM : Mem w0 F (own 9 1 (.slice oa X.length oc) X.length (X.map svC) :: L) w) :
    Calls Tryd.prog 18 #[.slice oa X.length oc, .string (bs [32])] w fun e w' => e = .returned (.string (bs (Lib.join (X.map Lib.itoa) [32]))) ∧ Below w.heap.size w w' := by
  obtain ⟨g, rfl⟩ := hM.ownAt (k := 0) rfl hX.1
  have e1 : (X.map fun n => bs (Lib.itoa n)).length = X.length := by simp
  have e2 : (X.map fun n => bs (Lib.itoa n)).map (fun b : ByteArray => b.data.toList) = X.map Lib.itoa := by rw [List.map_map]; rfl
  have hlen := join_len hb
  have h := Tryd.strings_Join g 0 oc (X.map fun n => bs (Lib.itoa n)) (bs [32]) w (fun j x hj => by
    rw [Nat.zero_add]
    refine hM.ownCell (k := 0) rfl ?_
    rw [List.getElem?_map] at hj ⊢
    cases hq : X[j]? with
    | none => rw [hq] at hj; cases hj
    | some n => rw [hq] at hj; cases hj; rfl) (hM.inb _ (.head _) g rfl).1 (by rw [e1]; omega) (by rw [e1]; exact (hM.ownLe (k := 0) rfl).1) (by rw [e2]; show (Lib.join (X.map Lib.itoa) [32]).length ≤ _; omega)
  rw [e1, e2] at h
  exact h
theorem okX_bd {X : List Int} (h : ∀ k, k < X.length → 0 ≤ X.getD k 0 ∧ X.getD k 0 ≤ 999) : ∀ x ∈ X, bd64 x := fun x hx => by
  obtain ⟨j, hj, rfl⟩ := List.getElem_of_mem hx
  have := h j hj
  rw [show X.getD j 0 = X[j] by simp [List.getD, hj]] at this
  unfold bd64; omega
theorem itoa_l {n : Int} (h : -9223372036854775808 ≤ n ∧ n ≤ 9223372036854775807) : (Lib.itoa n).length ≤ 21 := by rw [← size_mk]; exact itoa_len h
set_option maxRecDepth 100000 in
set_option maxHeartbeats 400000 in
theorem right30 (v : Int) (hv : bd64 v) (ax : Option Addr) (X : List Int) (cx : Nat) (T : List UInt8) (hTl : T.length ≤ 2000000) (w : World) (hx : IntSl w (.slice ax X.length cx) X) :
  Calls Tryd.prog 16 #[.agg #[.int .i64 v, .slice ax X.length cx, .string ((bs T))]] w fun e w' => ∃ b, e = .returned (.bool b) ∧ (b = true ↔ frmC (⟨v, X, bs T⟩ : Crt)) ∧ Below w.heap.size w w' := by
 have hbs := Below.refl (B := w.heap.size) w
 have hv1 := hv.1
 have hv2 := hv.2
 have hlX := hx.lenB
 have hTs : (bs T).size = T.length := bs_size T
 have hM := Mem.start w
 refine Calls.of_ends (vs := [.agg #[.int .i64 v, .slice ax X.length cx, .string ((bs T))]]) Tryd.func16 rfl Tryd.ntmps16 rfl ?_
 intro a hA
 replace hA : St 45 [(0, _)] a := hA
 refine Ends.seq (Ends.region ?_)
 refine S.box hA hM rfl rfl ?_; clear hA hM a; intro b1 w1 hb2 hM a hA
 replace hM : Mem _ _ [pt b1 #[.int .i64 v, .slice ax X.length cx, .string ((bs T))] 26] _ := hM
 refine S.val hA (R.assign rfl) rfl ?_; clear hA a; intro a hA
 refine S.done ?_
 refine Ends.seq (Ends.seq ?_)
 refine Ends.cut (fun (a : Act) (wv : World) => St 45 [(1, .pointer (some ⟨b1, 0, none⟩)), (24, .bool (decide (((¬ (0 ≤ v ∧ v ≤ 1125899906842624) ∨ ¬ (1 ≤ (X.length : Int) ∧ (X.length : Int) ≤ 64)) ∨ ¬ (1 ≤ (((bs T)).size : Int) ∧ (((bs T)).size : Int) ≤ 1048576)))))] a ∧ Mem w nof [pt b1 #[.int .i64 v, .slice ax X.length cx, .string ((bs T))] 26] wv) ?_ (fun k2 hJ => ?_)
 ·
  clear hA hM a; rintro a w2 ⟨hA, hM⟩
  refine Ends.ite hA rfl (fun hc3 => ?_) (fun hc3 => ?_)
  ·
   have hno : ¬ frmC (⟨v, X, bs T⟩ : Crt) := fun h9 => by obtain ⟨g1, g2, g3, g4, g5, g6, -⟩ := h9; replace g1 : 0 ≤ v := g1; replace g2 : v ≤ 1125899906842624 := g2; replace g3 : 1 ≤ X.length := g3; replace g4 : X.length ≤ 64 := g4; replace g5 : 1 ≤ (bs T).size := g5; replace g6 : (bs T).size ≤ 1048576 := g6; omega
   refine Ends.seq (Ends.region ?_)
   refine S.val hA (R.assign rfl) rfl ?_; clear hA a; intro a hA
   refine S.done ?_
   refine Ends.ret1 Tryd.func16 Tryd.results16 hA rfl ?_
   exact ⟨false, rfl, ⟨fun h9 => (by cases h9), fun h9 => absurd h9 hno⟩, Mem.trans0 hbs hM.nilL⟩
  ·
   refine Ends.skip (Ends.seq (Ends.seq (Ends.region ?_)))
   refine S.val hA (R.fieldAddr (q := 1) fi26_1 rfl rfl rfl) rfl ?_; clear hA a; intro a hA
   refine S.val hA (R.load sz22 rfl (hM.cell (k := 0) rfl rfl)) rfl ?_; clear hA a; intro a hA
   refine S.val hA (R.lenS Tryd.underlying22 rfl rfl) rfl ?_; clear hA a; intro a hA
   refine S.val hA (R.move rfl) rfl ?_; clear hA a; intro a hA
   refine S.done ?_
   refine Ends.block ?_
   refine Ends.loop (σ := Nat) (fun k (a : Act) (wv : World) => St 45 [(1, .pointer (some ⟨b1, 0, none⟩)), (26, .slice ax X.length cx), (27, .int .i64 ((X.length : Int))), (28, .int .i64 ((k : Int)))] a ∧ Mem w nof [pt b1 #[.int .i64 v, .slice ax X.length cx, .string ((bs T))] 26] wv ∧ (k ≤ X.length) ∧ (∀ i, i < k → 0 ≤ X.getD i 0 ∧ X.getD i 0 ≤ 999)) (fun k => X.length - k) 0 ⟨hA.sub ((.cons rfl (.cons rfl (.cons rfl (.cons rfl .nil))))), hM, (Nat.zero_le _), (fun i hi => absurd hi (Nat.not_lt_zero i))⟩ ?_
   clear hA hM a
   rintro k a w3 ⟨hA, hM, hk, hin⟩ hNext
   refine Ends.seq (Ends.region ?_)
   refine S.val hA (R.lss rfl rfl) rfl ?_; clear hA a; intro a hA
   refine S.done ?_
   refine Ends.seq ?_
   refine Ends.ite hA rfl (fun hc4 => ?_) (fun hc4 => ?_)
   ·
    refine Ends.skip (Ends.seq (Ends.block (Ends.seq (Ends.region ?_))))
    refine S.val hA (R.idxI hx (j := k) sl22 rfl rfl (by omega) (rfl)) rfl ?_; clear hA a; intro a hA
    refine S.val hA (R.loadI (hx.mem hM) sz3 rfl (by omega)) rfl ?_; clear hA a; intro a hA
    refine S.val hA (R.assign rfl) rfl ?_; clear hA a; intro a hA
    refine S.done ?_
    refine Ends.seq (Ends.region ?_)
    refine S.val hA (R.move rfl) rfl ?_; clear hA a; intro a hA
    refine S.call hA (R.callF Tryd.func26 rfl rfl rfl) rfl (within30 (X.getD k 0) 0 999 _) ?_; clear hA a
    rintro e w4 ⟨rfl, hb⟩
    replace hM := hM.callB hb; clear hb
    refine ⟨.bool (decide (0 ≤ X.getD k 0 ∧ X.getD k 0 ≤ 999)), rfl, fun a hA => ?_⟩
    refine S.val hA (R.notD rfl) rfl ?_; clear hA a; intro a hA
    refine S.done ?_
    replace hA : St 45 [(1, _), (26, _), (27, _), (28, _), (34, _)] a := hA.sub ((.cons rfl (.cons rfl (.cons rfl (.cons rfl (.cons rfl .nil))))))
    refine Ends.ite hA rfl (fun hc5 => ?_) (fun hc5 => ?_)
    ·
     have hno : ¬ frmC (⟨v, X, bs T⟩ : Crt) := fun h9 => hc5 (h9.2.2.2.2.2.2.1 k (by show k < X.length; omega))
     refine Ends.seq (Ends.region ?_)
     refine S.val hA (R.assign rfl) rfl ?_; clear hA a; intro a hA
     refine S.done ?_
     refine Ends.ret1 Tryd.func16 Tryd.results16 hA rfl ?_
     exact ⟨false, rfl, ⟨fun h9 => (by cases h9), fun h9 => absurd h9 hno⟩, Mem.trans0 hbs hM.nilL⟩
    ·
     refine Ends.skip (Ends.inBlock (Ends.region ?_))
     refine S.val hA (R.addI rfl rfl (r := ((k : Int)) + 1) rfl (by omega)) rfl ?_; clear hA a; intro a hA
     refine S.val hA (R.move rfl) rfl ?_; clear hA a; intro a hA
     refine S.done ?_
     exact hNext ((k + 1)) _ _ ((by show X.length - (k + 1) < X.length - k; omega)) ⟨hA.sub ((.cons rfl (.cons rfl (.cons rfl (.cons rfl .nil))))), hM, (by omega), (fun i hi => by rcases Nat.lt_or_ge i k with g | g; exact hin i g; have e : i = k := (by omega); rw [e]; exact Decidable.not_not.1 hc5)⟩
   ·
    have hke : k = X.length := by omega
    refine Ends.exit rfl ?_
    replace hA : St 45 [(1, _)] a := hA.sub ((.cons rfl .nil))
    refine Ends.seq (Ends.seq (Ends.region ?_))
    refine S.val hA (R.fieldAddr (q := 2) fi26_2 rfl rfl rfl) rfl ?_; clear hA a; intro a hA
    refine S.val hA (R.load sz9 rfl (hM.cell (k := 0) rfl rfl)) rfl ?_; clear hA a; intro a hA
    refine S.rangeS hA hM Tryd.underlying9 rfl rfl ?_; clear hA hM a; intro b6 w5 hb7 hM a hA
    replace hM : Mem _ _ [itC b6 ((bs T)) 0, pt b1 #[.int .i64 v, .slice ax X.length cx, .string ((bs T))] 26] _ := hM
    refine S.done ?_
    refine Ends.block ?_
    refine Ends.loop (σ := Nat) (fun j (a : Act) (wv : World) => St 45 [(38, .pointer (some ⟨b6, 0, none⟩))] a ∧ Mem w nof [itC b6 ((bs T)) j, pt b1 #[.int .i64 v, .slice ax X.length cx, .string ((bs T))] 26] wv ∧ (j ≤ (bs T).size) ∧ (∀ i, i < j → isT (byt (bs T) i))) (fun j => (bs T).size - j) 0 ⟨hA.sub ((.cons rfl .nil)), hM, (Nat.zero_le _), (fun i hi => absurd hi (Nat.not_lt_zero i))⟩ ?_
    clear hA hM a
    rintro j a w6 ⟨hA, hM, hj, hit⟩ hNext1
    refine Ends.seq (Ends.region ?_)
    by_cases hp8 : j < ((bs T)).size
    ·
     refine S.nextT (k := 0) hA hM rfl rfl hp8 rfl ?_; clear hA hM a; intro w7 hM a hA
     replace hM : Mem _ _ [itC b6 ((bs T)) ((j + (Utf8.decode ((bs T)) j).2)), pt b1 #[.int .i64 v, .slice ax X.length cx, .string ((bs T))] 26] _ := hM
     refine S.val hA (R.extract (v := .bool true) rfl rfl) rfl ?_; clear hA a; intro a hA
     refine S.done ?_
     refine Ends.seq ?_
     refine Ends.condT hA rfl ?_
     refine Ends.skip (Ends.block (Ends.seq (Ends.region ?_)))
     refine S.val hA (R.extract (v := .int .i32 (((Utf8.decode ((bs T)) j).1 : Int))) rfl rfl) rfl ?_; clear hA a; intro a hA
     refine S.val hA (R.assign rfl) rfl ?_; clear hA a; intro a hA
     refine S.done ?_
     refine Ends.seq (Ends.region ?_)
     refine S.val hA (R.move rfl) rfl ?_; clear hA a; intro a hA
     refine S.call hA (R.callF Tryd.func27 rfl rfl rfl) rfl (letter30 (((Utf8.decode ((bs T)) j).1 : Int)) _) ?_; clear hA a
     rintro e w8 ⟨rfl, hb⟩
     replace hM := hM.callB hb; clear hb
     refine ⟨.bool (decide (isT (((Utf8.decode ((bs T)) j).1 : Int)))), rfl, fun a hA => ?_⟩
     refine S.val hA (R.notD rfl) rfl ?_; clear hA a; intro a hA
     refine S.done ?_
     replace hA : St 45 [(38, _), (44, _)] a := hA.sub ((.cons rfl (.cons rfl .nil)))
     refine Ends.ite hA rfl (fun hc9 => ?_) (fun hc9 => ?_)
     ·
      have hno : ¬ frmC (⟨v, X, bs T⟩ : Crt) := fun h9 => hc9 ((dec_let hp8).1.2 (h9.2.2.2.2.2.2.2 j hp8))
      refine Ends.seq (Ends.region ?_)
      refine S.val hA (R.assign rfl) rfl ?_; clear hA a; intro a hA
      refine S.done ?_
      refine Ends.ret1 Tryd.func16 Tryd.results16 hA rfl ?_
      exact ⟨false, rfl, ⟨fun h9 => (by cases h9), fun h9 => absurd h9 hno⟩, Mem.trans0 hbs hM.nilL⟩
     ·
      refine Ends.skip (Ends.inBlock ?_)
      have hle9 : isT (byt (bs T) j) := (dec_let hp8).1.1 (Decidable.not_not.1 hc9)
      rw [(dec_let hp8).2 hle9] at hM
      exact hNext1 ((j + 1)) _ _ ((by show (bs T).size - (j + 1) < (bs T).size - j; omega)) ⟨hA.sub ((.cons rfl .nil)), hM, (by omega), (fun i hi => by rcases Nat.lt_or_ge i j with g | g; exact hit i g; have e : i = j := (by omega); rw [e]; exact hle9)⟩
    ·
     refine S.val hA (R.nextF (k := 0) hM rfl rfl hp8) rfl ?_; clear hA a; intro a hA
     refine S.val hA (R.extract (v := .bool false) rfl rfl) rfl ?_; clear hA a; intro a hA
     refine S.done ?_
     refine Ends.seq ?_
     refine Ends.condF hA rfl ?_
     refine Ends.exit rfl ?_
     refine Ends.seq (Ends.region ?_)
     refine S.val hA (R.assign rfl) rfl ?_; clear hA a; intro a hA
     refine S.done ?_
     refine Ends.ret1 Tryd.func16 Tryd.results16 hA rfl ?_
     have hje : j = (bs T).size := by have h9 := hp8; omega
     have hyes : frmC (⟨v, X, bs T⟩ : Crt) := ⟨by show 0 ≤ v; omega, by show v ≤ 1125899906842624; omega, by show 1 ≤ X.length; omega, by show X.length ≤ 64; omega, by show 1 ≤ (bs T).size; omega, by show (bs T).size ≤ 1048576; omega, fun i hi => hin i (by rw [hke]; exact hi), fun i hi => hit i (by rw [hje]; exact hi)⟩
     exact ⟨true, rfl, ⟨fun _ => hyes, fun _ => rfl⟩, Mem.trans0 hbs hM.nilL⟩
 ·
  refine Ends.region ?_
  refine S.val hA (R.fieldAddr (q := 0) fi26_0 rfl rfl rfl) rfl ?_; clear hA a; intro a hA
  refine S.val hA (R.load sz3 rfl (hM.cell (k := 0) rfl rfl)) rfl ?_; clear hA a; intro a hA
  refine S.call hA (R.callF Tryd.func26 rfl rfl rfl) rfl (within30 v 0 1125899906842624 _) ?_; clear hA a
  rintro e w9 ⟨rfl, hb⟩
  replace hM := hM.callB hb; clear hb
  refine ⟨.bool (decide (0 ≤ v ∧ v ≤ 1125899906842624)), rfl, fun a hA => ?_⟩
  refine S.val hA (R.notD rfl) rfl ?_; clear hA a; intro a hA
  refine S.val hA (R.move rfl) rfl ?_; clear hA a; intro a hA
  refine hA.split (d := 11) rfl ?_ ?_
  ·
   clear hA; intro hg10 hA
   refine S.no (dj := 11) hA (by kernel_rfl) rfl rfl rfl ?_; clear hA a; intro a hA
   refine S.no (dj := 11) hA (by kernel_rfl) rfl rfl rfl ?_; clear hA a; intro a hA
   refine S.no (dj := 11) hA (by kernel_rfl) rfl rfl rfl ?_; clear hA a; intro a hA
   refine S.no (dj := 11) hA (by kernel_rfl) rfl rfl rfl ?_; clear hA a; intro a hA
   refine S.no (dj := 11) hA (by kernel_rfl) rfl rfl rfl ?_; clear hA a; intro a hA
   refine S.val hA (R.pickT rfl rfl) rfl ?_; clear hA a; intro a hA
   refine S.val hA (R.move rfl) rfl ?_; clear hA a; intro a hA
   refine S.no (dj := 18) hA (by kernel_rfl) rfl rfl rfl ?_; clear hA a; intro a hA
   refine S.no (dj := 18) hA (by kernel_rfl) rfl rfl rfl ?_; clear hA a; intro a hA
   refine S.no (dj := 18) hA (by kernel_rfl) rfl rfl rfl ?_; clear hA a; intro a hA
   refine S.no (dj := 18) hA (by kernel_rfl) rfl rfl rfl ?_; clear hA a; intro a hA
   refine S.no (dj := 18) hA (by kernel_rfl) rfl rfl rfl ?_; clear hA a; intro a hA
   refine S.val hA (R.pickT rfl rfl) rfl ?_; clear hA a; intro a hA
   refine S.done ?_
   replace hA : St 45 [(1, _), (24, _)] a := hA.sub ((.cons rfl (.cons rfl .nil)))
   exact hJ _ _ ⟨hA.sub (.cons rfl (.cons (by first | rfl | exact congrArg (fun b => some (Value.bool b)) (by first | exact decide_eq_decide.2 (by omega) | exact or_bool (by omega) | exact and_bool (by omega) | (simp; done) | (simp [hg10]; done) | (have h80 := hg10; (try simp at h80); simp [h80]; done) | exact (decide_eq_false (fun h9 => hg10 h9.1)).symm)) .nil)), hM⟩
  ·
   clear hA; intro hg10 hA
   refine S.valg (dj := 11) hA (by kernel_rfl) rfl (R.fieldAddr (q := 1) fi26_1 rfl rfl rfl) rfl ?_; clear hA a; intro a hA
   refine S.valg (dj := 11) hA (by kernel_rfl) rfl (R.load sz22 rfl (hM.cell (k := 0) rfl rfl)) rfl ?_; clear hA a; intro a hA
   refine S.valg (dj := 11) hA (by kernel_rfl) rfl (R.lenS Tryd.underlying22 rfl rfl) rfl ?_; clear hA a; intro a hA
   refine S.callg (dj := 11) hA (by kernel_rfl) rfl (R.callF Tryd.func26 rfl rfl rfl) rfl (within30 ((X.length : Int)) 1 64 _) ?_; clear hA a
   rintro e w10 ⟨rfl, hb⟩
   replace hM := hM.callB hb; clear hb
   refine ⟨.bool (decide (1 ≤ (X.length : Int) ∧ (X.length : Int) ≤ 64)), rfl, fun a hA => ?_⟩
   refine S.valg (dj := 11) hA (by kernel_rfl) rfl (R.notD rfl) rfl ?_; clear hA a; intro a hA
   refine S.val hA (R.pickF rfl rfl) rfl ?_; clear hA a; intro a hA
   refine S.val hA (R.move rfl) rfl ?_; clear hA a; intro a hA
   refine hA.split (d := 18) rfl ?_ ?_
   ·
    clear hA; intro hg11 hA
    refine S.no (dj := 18) hA (by kernel_rfl) rfl rfl rfl ?_; clear hA a; intro a hA
    refine S.no (dj := 18) hA (by kernel_rfl) rfl rfl rfl ?_; clear hA a; intro a hA
    refine S.no (dj := 18) hA (by kernel_rfl) rfl rfl rfl ?_; clear hA a; intro a hA
    refine S.no (dj := 18) hA (by kernel_rfl) rfl rfl rfl ?_; clear hA a; intro a hA
    refine S.no (dj := 18) hA (by kernel_rfl) rfl rfl rfl ?_; clear hA a; intro a hA
    refine S.val hA (R.pickT rfl rfl) rfl ?_; clear hA a; intro a hA
    refine S.done ?_
    replace hA : St 45 [(1, _), (24, _)] a := hA.sub ((.cons rfl (.cons rfl .nil)))
    exact hJ _ _ ⟨hA.sub (.cons rfl (.cons (by first | rfl | exact congrArg (fun b => some (Value.bool b)) (by first | exact decide_eq_decide.2 (by omega) | exact or_bool (by omega) | exact and_bool (by omega) | (simp; done) | (simp [hg10, hg11]; done) | (have h80 := hg10; (try simp at h80); have h81 := hg11; (try simp at h81); simp [h80, h81]; done) | exact (decide_eq_false (fun h9 => hg10 h9.1)).symm | exact (decide_eq_false (fun h9 => hg11 h9.1)).symm)) .nil)), hM⟩
   ·
    clear hA; intro hg11 hA
    refine S.valg (dj := 18) hA (by kernel_rfl) rfl (R.fieldAddr (q := 2) fi26_2 rfl rfl rfl) rfl ?_; clear hA a; intro a hA
    refine S.valg (dj := 18) hA (by kernel_rfl) rfl (R.load sz9 rfl (hM.cell (k := 0) rfl rfl)) rfl ?_; clear hA a; intro a hA
    refine S.valg (dj := 18) hA (by kernel_rfl) rfl (R.lenStr Tryd.underlying9 rfl rfl) rfl ?_; clear hA a; intro a hA
    refine S.callg (dj := 18) hA (by kernel_rfl) rfl (R.callF Tryd.func26 rfl rfl rfl) rfl (within30 ((((bs T)).size : Int)) 1 1048576 _) ?_; clear hA a
    rintro e w11 ⟨rfl, hb⟩
    replace hM := hM.callB hb; clear hb
    refine ⟨.bool (decide (1 ≤ (((bs T)).size : Int) ∧ (((bs T)).size : Int) ≤ 1048576)), rfl, fun a hA => ?_⟩
    refine S.valg (dj := 18) hA (by kernel_rfl) rfl (R.notD rfl) rfl ?_; clear hA a; intro a hA
    refine S.val hA (R.pickF rfl rfl) rfl ?_; clear hA a; intro a hA
    refine S.done ?_
    replace hA : St 45 [(1, _), (24, _)] a := hA.sub ((.cons rfl (.cons rfl .nil)))
    exact hJ _ _ ⟨hA.sub (.cons rfl (.cons (by first | rfl | exact congrArg (fun b => some (Value.bool b)) (by first | exact decide_eq_decide.2 (by omega) | exact or_bool (by omega) | exact and_bool (by omega) | (simp; done) | (simp [hg10, hg11]; done) | (have h80 := hg10; (try simp at h80); have h81 := hg11; (try simp at h81); simp [h80, h81]; done) | exact (decide_eq_false (fun h9 => hg10 h9.1)).symm | exact (decide_eq_false (fun h9 => hg11 h9.1)).symm)) .nil)), hM⟩
set_option maxRecDepth 100000 in
set_option maxHeartbeats 400000 in
theorem cwrite30 (v : Int) (hv : bd64 v) (ax : Option Addr) (X : List Int) (cx : Nat) (T : List UInt8) (hTl : T.length ≤ 2000000) (w : World) (hx : IntSl w (.slice ax X.length cx) X) (htab : Lib.TabIs Tryd.prog w "internal/strconv.uint64pow10" .u64 Lib.pow10Tab) :
  Calls Tryd.prog 9 #[.agg #[.int .i64 v, .slice ax X.length cx, .string ((bs T))]] w fun e w' => ∃ L er, e = .returned (.tuple #[.string (bs L), .int .i64 er]) ∧ wrP (⟨v, X, bs T⟩ : Crt) L er ∧ Below w.heap.size w w' := by
 have hbs := Below.refl (B := w.heap.size) w
 have hv1 := hv.1
 have hv2 := hv.2
 have hlX := hx.lenB
 have hTs : (bs T).size = T.length := bs_size T
 have hM := Mem.start w
 refine Calls.of_ends (vs := [.agg #[.int .i64 v, .slice ax X.length cx, .string ((bs T))]]) Tryd.func9 rfl Tryd.ntmps9 rfl ?_
 intro a hA
 replace hA : St 44 [(0, _)] a := hA
 refine Ends.seq (Ends.region ?_)
 refine S.box hA hM rfl rfl ?_; clear hA hM a; intro b1 w1 hb2 hM a hA
 replace hM : Mem _ _ [pt b1 #[.int .i64 v, .slice ax X.length cx, .string ((bs T))] 26] _ := hM
 refine S.val hA (R.assign rfl) rfl ?_; clear hA a; intro a hA
 refine S.val hA (R.assign rfl) rfl ?_; clear hA a; intro a hA
 refine S.done ?_
 refine Ends.seq (Ends.seq (Ends.region ?_))
 refine S.val hA (R.loadA sz26 rfl (hM.range (k := 0) rfl) rfl) rfl ?_; clear hA a; intro a hA
 refine S.call hA (R.callF Tryd.func16 rfl rfl rfl) rfl (right30 v hv ax X cx T hTl _ (hx.mem hM)) ?_; clear hA a
 rintro e w2 ⟨b9, rfl, hb9, hb⟩
 replace hM := hM.callB hb; clear hb
 refine ⟨.bool b9, rfl, fun a hA => ?_⟩
 refine S.val hA (R.not rfl) rfl ?_; clear hA a; intro a hA
 refine S.done ?_
 replace hA : St 44 [(1, _), (10, _)] a := hA.sub ((.cons rfl (.cons rfl .nil)))
 refine Ends.iteB hA rfl (fun hc3 => ?_) (fun hc3 => ?_)
 ·
  have hno : ¬ frmC (⟨v, X, bs T⟩ : Crt) := fun h9 => by have h8 := hb9.2 h9; rw [h8] at hc3; exact absurd hc3 (by decide)
  refine Ends.seq (Ends.region ?_)
  refine S.val hA (R.assign rfl) rfl ?_; clear hA a; intro a hA
  refine S.val hA (R.assign rfl) rfl ?_; clear hA a; intro a hA
  refine S.done ?_
  refine Ends.ret2 Tryd.func9 Tryd.results9 hA rfl rfl ?_
  exact ⟨[], 8, rfl, .inr ⟨hno, rfl, rfl⟩, Mem.trans0 hbs hM.nilL⟩
 ·
  have hyes : frmC (⟨v, X, bs T⟩ : Crt) := hb9.1 (by revert hc3; cases b9 <;> decide)
  have hbx := okX_bd hyes.2.2.2.2.2.2.1
  have k1 : 0 ≤ v := hyes.1
  have k2 : v ≤ 1125899906842624 := hyes.2.1
  have k3 : 1 ≤ X.length := hyes.2.2.1
  have k4 : X.length ≤ 64 := hyes.2.2.2.1
  have hjl : (Lib.join (X.map Lib.itoa) [32]).length ≤ 22 * X.length := join_len hbx
  refine Ends.skip (Ends.seq (Ends.region ?_))
  refine S.val hA (R.assign rfl) rfl ?_; clear hA a; intro a hA
  refine S.done ?_
  refine Ends.seq (Ends.seq (Ends.region ?_))
  refine S.val hA (R.fieldAddr (q := 1) fi26_1 rfl rfl rfl) rfl ?_; clear hA a; intro a hA
  refine S.val hA (R.load sz22 rfl (hM.cell (k := 0) rfl rfl)) rfl ?_; clear hA a; intro a hA
  refine S.val hA (R.lenS Tryd.underlying22 rfl rfl) rfl ?_; clear hA a; intro a hA
  refine S.val hA (R.move rfl) rfl ?_; clear hA a; intro a hA
  refine S.done ?_
  refine Ends.block ?_
  replace hM := hM.ownNil 9 1
  replace hM : Mem _ _ [own 9 1 (.slice none 0 0) 0 (((X.take 0).map svC)), pt b1 #[.int .i64 v, .slice ax X.length cx, .string ((bs T))] 26] _ := hM
  refine Ends.loop (σ := Nat × Option Addr × Nat) (fun (k, ao, co) (a : Act) (wv : World) => St 44 [(1, .pointer (some ⟨b1, 0, none⟩)), (4, .slice ao k co), (12, .slice ax X.length cx), (13, .int .i64 ((X.length : Int))), (14, .int .i64 ((k : Int)))] a ∧ Mem w nof [own 9 1 (.slice ao k co) k (((X.take k).map svC)), pt b1 #[.int .i64 v, .slice ax X.length cx, .string ((bs T))] 26] wv ∧ (k ≤ X.length)) (fun (k, ao, co) => X.length - k) ((0, none, 0)) ⟨hA.sub ((.cons rfl (.cons rfl (.cons rfl (.cons rfl (.cons rfl .nil)))))), hM, (Nat.zero_le _)⟩ ?_
  clear hA hM a
  rintro ⟨k, ao, co⟩ a w3 ⟨hA, hM, hk⟩ hNext
  refine Ends.seq (Ends.region ?_)
  refine S.val hA (R.lss rfl rfl) rfl ?_; clear hA a; intro a hA
  refine S.done ?_
  refine Ends.seq ?_
  refine Ends.ite hA rfl (fun hc4 => ?_) (fun hc4 => ?_)
  ·
   have hxk := hyes.2.2.2.2.2.2.1 k (by show k < X.length; omega)
   replace hxk : 0 ≤ X.getD k 0 ∧ X.getD k 0 ≤ 999 := hxk
   refine Ends.skip (Ends.seq (Ends.block (Ends.seq (Ends.region ?_))))
   refine S.val hA (R.idxI hx (j := k) sl22 rfl rfl (by omega) (rfl)) rfl ?_; clear hA a; intro a hA
   refine S.val hA (R.loadI (hx.mem hM) sz3 rfl (by omega)) rfl ?_; clear hA a; intro a hA
   refine S.val hA (R.assign rfl) rfl ?_; clear hA a; intro a hA
   refine S.done ?_
   refine Ends.region ?_
   refine S.val hA (R.move rfl) rfl ?_; clear hA a; intro a hA
   refine S.val hA (R.move rfl) rfl ?_; clear hA a; intro a hA
   have hil2 := itoa_l (n := X.getD k 0) (by omega)
   refine S.call hA (R.callF Tryd.func17 rfl rfl rfl) rfl (write_any (X.getD k 0) (by omega) _ (tab_below htab (Mem.trans0 hbs hM.nilL))) ?_; clear hA a
   rintro e w4 ⟨rfl, hb⟩
   replace hM := hM.callB hb; clear hb
   refine ⟨.string ((bs (Lib.itoa (X.getD k 0)))), rfl, fun a hA => ?_⟩
   refine S.buildSl (cells := #[.string ((bs (Lib.itoa (X.getD k 0))))]) hA hM Tryd.underlying45 info9 rfl rfl rfl rfl (by kernel_rfl) rfl ?_; clear hA hM a; intro b5 w5 hb6 hM a hA
   replace hM : Mem _ _ [pt b5 #[.string ((bs (Lib.itoa (X.getD k 0))))] 9, own 9 1 (.slice ao k co) k (((X.take k).map svC)), pt b1 #[.int .i64 v, .slice ax X.length cx, .string ((bs T))] 26] _ := hM
   refine S.append (k := 1) (k2 := 0) hA hM rfl rfl Tryd.underlying45 info9 rfl rfl rfl rfl rfl rfl rfl rfl rfl (by first | omega | (unfold maxLen; omega) | (show (_ + 1) * 16 ≤ (140737488355328 : Nat); omega)) (by first | omega | (unfold maxLen; omega) | (show (_ + 1) * 16 ≤ (140737488355328 : Nat); omega)) rfl ?_; clear hA hM a; intro a7 c8 w6 hM a hA
   replace hM : Mem _ _ [pt b5 #[.string ((bs (Lib.itoa (X.getD k 0))))] 9, own 9 1 (.slice a7 (k + 1) c8) (k + 1) ((((X.take k).map svC) ++ [.string ((bs (Lib.itoa (X.getD k 0))))])), pt b1 #[.int .i64 v, .slice ax X.length cx, .string ((bs T))] 26] _ := hM
   replace hM := hM.drop 0
   replace hM : Mem _ _ [own 9 1 (.slice a7 (k + 1) c8) (k + 1) ((((X.take k).map svC) ++ [.string ((bs (Lib.itoa (X.getD k 0))))])), pt b1 #[.int .i64 v, .slice ax X.length cx, .string ((bs T))] 26] _ := hM
   refine S.val hA (R.assign rfl) rfl ?_; clear hA a; intro a hA
   refine S.done ?_
   replace hA : St 44 [(1, _), (4, _), (12, _), (13, _), (14, _)] a := hA.sub ((.cons rfl (.cons rfl (.cons rfl (.cons rfl (.cons rfl .nil))))))
   refine Ends.inBlock (Ends.region ?_)
   refine S.val hA (R.addI rfl rfl (r := ((k : Int)) + 1) rfl (by omega)) rfl ?_; clear hA a; intro a hA
   refine S.val hA (R.move rfl) rfl ?_; clear hA a; intro a hA
   refine S.done ?_
   replace hM := hM.front (k := 1) rfl
   replace hM := hM.front (k := 1) rfl
   replace hM := hM.firstN 2
   rw [svC_snoc (by omega)] at hM
   exact hNext ((k + 1, a7, c8)) _ _ ((by show X.length - (k + 1) < X.length - k; omega)) ⟨hA.sub ((.cons rfl (.cons rfl (.cons rfl (.cons rfl (.cons rfl .nil)))))), hM, (by omega)⟩
  ·
   obtain rfl : k = X.length := by omega
   rw [List.take_length] at hM
   refine Ends.exit rfl ?_
   refine Ends.seq ?_
   refine Ends.drawn (Mem w nof [own 9 1 (.slice ao X.length co) X.length ((X.map svC)), pt b1 #[.int .i64 v, .slice ax X.length cx, .string ((bs T))] 26]) (.cons (0, true) (.cons (1, true) (.cons (5, true) (.cons (6, true) (.cons (7, true) (.cons (2, false) (.cons (3, true) (.cons (4, true) (.cons (8, false) (.cons (9, true) (.cons (10, true) (.cons (11, true) .nil)))))))))))) 12 mixed (by kernel_rfl) (by kernel_rfl) (by kernel_rfl) hM.drew ?_
   replace hM := hM.drew
   refine D.valF hA rfl (fun _ => R.fieldAddr (q := 0) fi26_0 rfl rfl rfl) rfl ?_; clear hA a; intro a hA
   refine D.val hA rfl (by kernel_rfl) (fun _ hM => R.load sz3 rfl (hM.cell (k := 1) rfl rfl)) rfl ?_; clear hA a; intro a hA
   refine D.valF hA rfl (fun _ => R.fieldAddr (q := 1) fi26_1 rfl rfl rfl) rfl ?_; clear hA a; intro a hA
   refine D.val hA rfl (by kernel_rfl) (fun _ hM => R.load sz22 rfl (hM.cell (k := 1) rfl rfl)) rfl ?_; clear hA a; intro a hA
   refine D.valF hA rfl (fun _ => R.lenS Tryd.underlying22 rfl rfl) rfl ?_; clear hA a; intro a hA
   have hil2 := itoa_l (n := v) (by omega)
   refine D.call hA rfl (R.callF Tryd.func17 rfl rfl rfl) rfl (write_any v (by omega) _ (tab_below htab (Mem.trans0 hbs hM.nilL))) ?_; clear hA a
   rintro e w7 ⟨rfl, hb⟩
   replace hM := hM.callB hb; clear hb
   refine ⟨.string ((bs (Lib.itoa v))), rfl, hM, fun a hA => ?_⟩
   refine D.valF hA rfl (fun _ => R.to (v := .string (bs (([67, 69, 82, 84, 32] : List UInt8) ++ Lib.itoa v))) (R.addS rfl rfl (by show (bs (([67, 69, 82, 84, 32] : List UInt8))).size + (bs (Lib.itoa v)).size ≤ _; simp only [bs_size, List.length_append, List.length_cons, List.length_nil]; omega)) (congrArg Value.string (bs_app (([67, 69, 82, 84, 32] : List UInt8)) (Lib.itoa v)))) rfl ?_; clear hA a; intro a hA
   refine D.valF hA rfl (fun _ => R.to (v := .string (bs ((([67, 69, 82, 84, 32] : List UInt8) ++ Lib.itoa v) ++ ([32] : List UInt8)))) (R.addS rfl rfl (by show (bs ((([67, 69, 82, 84, 32] : List UInt8) ++ Lib.itoa v))).size + (bs (([32] : List UInt8))).size ≤ _; simp only [bs_size, List.length_append, List.length_cons, List.length_nil]; omega)) (congrArg Value.string (bs_app ((([67, 69, 82, 84, 32] : List UInt8) ++ Lib.itoa v)) (([32] : List UInt8))))) rfl ?_; clear hA a; intro a hA
   have hil8 := itoa_l (n := (X.length : Int)) (by omega)
   refine D.call hA rfl (R.callF Tryd.func17 rfl rfl rfl) rfl (write_any ((X.length : Int)) (by omega) _ (tab_below htab (Mem.trans0 hbs hM.nilL))) ?_; clear hA a
   rintro e w8 ⟨rfl, hb⟩
   replace hM := hM.callB hb; clear hb
   refine ⟨.string ((bs (Lib.itoa ((X.length : Int))))), rfl, hM, fun a hA => ?_⟩
   refine D.valF hA rfl (fun _ => R.to (v := .string (bs (((([67, 69, 82, 84, 32] : List UInt8) ++ Lib.itoa v) ++ ([32] : List UInt8)) ++ Lib.itoa ((X.length : Int))))) (R.addS rfl rfl (by show (bs (((([67, 69, 82, 84, 32] : List UInt8) ++ Lib.itoa v) ++ ([32] : List UInt8)))).size + (bs (Lib.itoa ((X.length : Int)))).size ≤ _; simp only [bs_size, List.length_append, List.length_cons, List.length_nil]; omega)) (congrArg Value.string (bs_app (((([67, 69, 82, 84, 32] : List UInt8) ++ Lib.itoa v) ++ ([32] : List UInt8))) (Lib.itoa ((X.length : Int)))))) rfl ?_; clear hA a; intro a hA
   refine D.valF hA rfl (fun _ => R.to (v := .string (bs ((((([67, 69, 82, 84, 32] : List UInt8) ++ Lib.itoa v) ++ ([32] : List UInt8)) ++ Lib.itoa ((X.length : Int))) ++ ([10] : List UInt8)))) (R.addS rfl rfl (by show (bs ((((([67, 69, 82, 84, 32] : List UInt8) ++ Lib.itoa v) ++ ([32] : List UInt8)) ++ Lib.itoa ((X.length : Int))))).size + (bs (([10] : List UInt8))).size ≤ _; simp only [bs_size, List.length_append, List.length_cons, List.length_nil]; omega)) (congrArg Value.string (bs_app ((((([67, 69, 82, 84, 32] : List UInt8) ++ Lib.itoa v) ++ ([32] : List UInt8)) ++ Lib.itoa ((X.length : Int)))) (([10] : List UInt8))))) rfl ?_; clear hA a; intro a hA
   refine D.valF hA rfl (fun _ => R.assign rfl) rfl ?_; clear hA a; intro a hA
   refine D.done ?_
   replace hA : St 44 [(1, _), (4, _), (7, _)] a := hA.sub ((.cons rfl (.cons rfl (.cons rfl .nil))))
   refine Ends.seq ?_
   refine Ends.drawn (Mem w nof [own 9 1 (.slice ao X.length co) X.length ((X.map svC)), pt b1 #[.int .i64 v, .slice ax X.length cx, .string ((bs T))] 26]) (.cons (0, true) (.cons (1, true) (.cons (5, true) (.cons (6, true) (.cons (2, false) (.cons (3, true) (.cons (4, true) (.cons (7, true) (.cons (8, true) (.cons (9, true) (.cons (10, true) .nil))))))))))) 11 mixed (by kernel_rfl) (by kernel_rfl) (by kernel_rfl) hM.drew ?_
   replace hM := hM.drew
   refine D.valF hA rfl (fun _ => R.move rfl) rfl ?_; clear hA a; intro a hA
   refine D.valF hA rfl (fun _ => R.move rfl) rfl ?_; clear hA a; intro a hA
   refine D.valF hA rfl (fun _ => R.fieldAddr (q := 2) fi26_2 rfl rfl rfl) rfl ?_; clear hA a; intro a hA
   refine D.val hA rfl (by kernel_rfl) (fun _ hM => R.load sz9 rfl (hM.cell (k := 1) rfl rfl)) rfl ?_; clear hA a; intro a hA
   refine D.call hA rfl (R.callF Tryd.func18 rfl rfl rfl) rfl (joinC_any ao X co (by omega) hbx _ hM) ?_; clear hA a
   rintro e w9 ⟨rfl, hb⟩
   replace hM := hM.callB hb; clear hb
   refine ⟨.string ((bs ((Lib.join (X.map Lib.itoa) [32])))), rfl, hM, fun a hA => ?_⟩
   refine D.valF hA rfl (fun _ => R.to (v := .string (bs (((((([67, 69, 82, 84, 32] : List UInt8) ++ Lib.itoa v) ++ ([32] : List UInt8)) ++ Lib.itoa ((X.length : Int))) ++ ([10] : List UInt8)) ++ (Lib.join (X.map Lib.itoa) [32])))) (R.addS rfl rfl (by show (bs (((((([67, 69, 82, 84, 32] : List UInt8) ++ Lib.itoa v) ++ ([32] : List UInt8)) ++ Lib.itoa ((X.length : Int))) ++ ([10] : List UInt8)))).size + (bs ((Lib.join (X.map Lib.itoa) [32]))).size ≤ _; simp only [bs_size, List.length_append, List.length_cons, List.length_nil]; omega)) (congrArg Value.string (bs_app (((((([67, 69, 82, 84, 32] : List UInt8) ++ Lib.itoa v) ++ ([32] : List UInt8)) ++ Lib.itoa ((X.length : Int))) ++ ([10] : List UInt8))) ((Lib.join (X.map Lib.itoa) [32]))))) rfl ?_; clear hA a; intro a hA
   refine D.valF hA rfl (fun _ => R.to (v := .string (bs ((((((([67, 69, 82, 84, 32] : List UInt8) ++ Lib.itoa v) ++ ([32] : List UInt8)) ++ Lib.itoa ((X.length : Int))) ++ ([10] : List UInt8)) ++ (Lib.join (X.map Lib.itoa) [32])) ++ ([10] : List UInt8)))) (R.addS rfl rfl (by show (bs ((((((([67, 69, 82, 84, 32] : List UInt8) ++ Lib.itoa v) ++ ([32] : List UInt8)) ++ Lib.itoa ((X.length : Int))) ++ ([10] : List UInt8)) ++ (Lib.join (X.map Lib.itoa) [32])))).size + (bs (([10] : List UInt8))).size ≤ _; simp only [bs_size, List.length_append, List.length_cons, List.length_nil]; omega)) (congrArg Value.string (bs_app ((((((([67, 69, 82, 84, 32] : List UInt8) ++ Lib.itoa v) ++ ([32] : List UInt8)) ++ Lib.itoa ((X.length : Int))) ++ ([10] : List UInt8)) ++ (Lib.join (X.map Lib.itoa) [32]))) (([10] : List UInt8))))) rfl ?_; clear hA a; intro a hA
   refine D.valF hA rfl (fun _ => R.to (v := .string (bs (((((((([67, 69, 82, 84, 32] : List UInt8) ++ Lib.itoa v) ++ ([32] : List UInt8)) ++ Lib.itoa ((X.length : Int))) ++ ([10] : List UInt8)) ++ (Lib.join (X.map Lib.itoa) [32])) ++ ([10] : List UInt8)) ++ T))) (R.addS rfl rfl (by show (bs (((((((([67, 69, 82, 84, 32] : List UInt8) ++ Lib.itoa v) ++ ([32] : List UInt8)) ++ Lib.itoa ((X.length : Int))) ++ ([10] : List UInt8)) ++ (Lib.join (X.map Lib.itoa) [32])) ++ ([10] : List UInt8)))).size + (bs T).size ≤ _; simp only [bs_size, List.length_append, List.length_cons, List.length_nil]; omega)) (congrArg Value.string (bs_app (((((((([67, 69, 82, 84, 32] : List UInt8) ++ Lib.itoa v) ++ ([32] : List UInt8)) ++ Lib.itoa ((X.length : Int))) ++ ([10] : List UInt8)) ++ (Lib.join (X.map Lib.itoa) [32])) ++ ([10] : List UInt8))) T))) rfl ?_; clear hA a; intro a hA
   refine D.valF hA rfl (fun _ => R.to (v := .string (bs ((((((((([67, 69, 82, 84, 32] : List UInt8) ++ Lib.itoa v) ++ ([32] : List UInt8)) ++ Lib.itoa ((X.length : Int))) ++ ([10] : List UInt8)) ++ (Lib.join (X.map Lib.itoa) [32])) ++ ([10] : List UInt8)) ++ T) ++ ([10] : List UInt8)))) (R.addS rfl rfl (by show (bs ((((((((([67, 69, 82, 84, 32] : List UInt8) ++ Lib.itoa v) ++ ([32] : List UInt8)) ++ Lib.itoa ((X.length : Int))) ++ ([10] : List UInt8)) ++ (Lib.join (X.map Lib.itoa) [32])) ++ ([10] : List UInt8)) ++ T))).size + (bs (([10] : List UInt8))).size ≤ _; simp only [bs_size, List.length_append, List.length_cons, List.length_nil]; omega)) (congrArg Value.string (bs_app ((((((((([67, 69, 82, 84, 32] : List UInt8) ++ Lib.itoa v) ++ ([32] : List UInt8)) ++ Lib.itoa ((X.length : Int))) ++ ([10] : List UInt8)) ++ (Lib.join (X.map Lib.itoa) [32])) ++ ([10] : List UInt8)) ++ T)) (([10] : List UInt8))))) rfl ?_; clear hA a; intro a hA
   refine D.valF hA rfl (fun _ => R.assign rfl) rfl ?_; clear hA a; intro a hA
   refine D.valF hA rfl (fun _ => R.assign rfl) rfl ?_; clear hA a; intro a hA
   refine D.done ?_
   replace hA : St 44 [(2, _), (3, _)] a := hA.sub ((.cons rfl (.cons rfl .nil)))
   refine Ends.ret2 Tryd.func9 Tryd.results9 hA rfl rfl ?_
   have hfin : ((((((((([67, 69, 82, 84, 32] : List UInt8) ++ Lib.itoa v) ++ ([32] : List UInt8)) ++ Lib.itoa ((X.length : Int))) ++ ([10] : List UInt8)) ++ (Lib.join (X.map Lib.itoa) [32])) ++ ([10] : List UInt8)) ++ T) ++ ([10] : List UInt8)) = txtC (⟨v, X, bs T⟩ : Crt) := by unfold txtC headC; simp [bs]
   rw [hfin]
   exact ⟨_, _, rfl, .inl ⟨hyes, rfl, rfl⟩, Mem.trans0 hbs hM.nilL⟩
end Go.Proofs.YtnhnjjlfoajbgaaDoor
namespace Go.Proofs.YtnhnjjlfoajbgaaDoor
open Go.RowKit
def frs (B : Nat) (a : Option Addr) : Prop := ∀ p, a = some p → B ≤ p.block
theorem frs.mono {B C : Nat} {a : Option Addr} (h : frs C a) (hb : B ≤ C) : frs B a := fun p hp => Nat.le_trans hb (h p hp)
end Go.Proofs.YtnhnjjlfoajbgaaDoor
namespace Go.Proofs.YtnhnjjlfoajbgaaDoor
open Go.RowKit
def crtG : Crt := ⟨5, [1, 0], bs [98, 112, 108]⟩
theorem frm_g : frmC crtG := by unfold frmC crtG; decide +kernel
theorem txt_g : txtC crtG = [67, 69, 82, 84, 32, 53, 32, 50, 10, 49, 32, 48, 10, 98, 112, 108, 10] := by decide +kernel
theorem cread_at {s : ByteArray} (hs : s.size ≤ 4611686018427387904) {x y : Int} (h : (rdC s).2 = (x, y)) (w : World) : Calls Tryd.prog 14 #[.string s] w fun e w' => ∃ (g1 : Int) (oa9 : Option Addr) (g2 oc9 : Nat) (g3 : ByteArray), e = .returned (.tuple #[.agg #[.int .i64 g1, .slice oa9 g2 oc9, .string g3], .int .i64 x, .int .i64 y]) ∧ Below w.heap.size w w' := by
  refine (cread30 s hs w).mono fun e w' ⟨oa, oc, he, hM9⟩ => ⟨(rdC s).1.v, oa, (rdC s).1.X.length, oc, (rdC s).1.t, ?_, hM9.below⟩
  have h1 : (rdC s).2.1 = x := congrArg Prod.fst h
  have h2 : (rdC s).2.2 = y := congrArg Prod.snd h
  rw [h1, h2] at he
  exact he
theorem rd_g : (rdC (bs [67, 69, 82, 84, 32, 120])).2 = (5, 4) := by decide +kernel
theorem wr_g {L : List UInt8} {e : Int} (h : wrP crtG L e) : L = [67, 69, 82, 84, 32, 53, 32, 50, 10, 49, 32, 48, 10, 98, 112, 108, 10] ∧ e = 0 := by
  rcases h with ⟨-, h2, h3⟩ | ⟨h1, -, -⟩
  · exact ⟨h2.trans txt_g, h3⟩
  · exact absurd frm_g h1
set_option maxRecDepth 100000 in
set_option maxHeartbeats 400000 in
theorem same30e (v : Int) (t : ByteArray) (ax : Option Addr) (X : List Int) (cx : Nat) (ay : Option Addr) (cy : Nat) (w : World) (hx : IntSl w (.slice ax X.length cx) X) (hy : IntSl w (.slice ay X.length cy) X) :
  Calls Tryd.prog 12 #[.agg #[.int .i64 v, .slice ax X.length cx, .string t], .agg #[.int .i64 v, .slice ay X.length cy, .string t]] w fun e w' => e = .returned (.bool true) ∧ Below w.heap.size w w' := by
 have hbs := Below.refl (B := w.heap.size) w
 have hlX := hx.lenB
 have hM := Mem.start w
 refine Calls.of_ends (vs := [.agg #[.int .i64 v, .slice ax X.length cx, .string t], .agg #[.int .i64 v, .slice ay X.length cy, .string t]]) Tryd.func12 rfl Tryd.ntmps12 rfl ?_
 intro a hA
 replace hA : St 45 [(0, _), (1, _)] a := hA
 refine Ends.seq (Ends.region ?_)
 refine S.box hA hM rfl rfl ?_; clear hA hM a; intro b1 w1 hb2 hM a hA
 replace hM : Mem _ _ [pt b1 #[.int .i64 v, .slice ax X.length cx, .string t] 24] _ := hM
 refine S.box hA hM rfl rfl ?_; clear hA hM a; intro b3 w2 hb4 hM a hA
 replace hM : Mem _ _ [pt b3 #[.int .i64 v, .slice ay X.length cy, .string t] 24, pt b1 #[.int .i64 v, .slice ax X.length cx, .string t] 24] _ := hM
 refine S.val hA (R.assign rfl) rfl ?_; clear hA a; intro a hA
 refine S.done ?_
 refine Ends.seq (Ends.seq (Ends.region ?_))
 refine S.val hA (R.fieldAddr (q := 0) fi24_0 rfl rfl rfl) rfl ?_; clear hA a; intro a hA
 refine S.val hA (R.load sz3 rfl (hM.cell (k := 1) rfl rfl)) rfl ?_; clear hA a; intro a hA
 refine S.val hA (R.fieldAddr (q := 0) fi24_0 rfl rfl rfl) rfl ?_; clear hA a; intro a hA
 refine S.val hA (R.load sz3 rfl (hM.cell (k := 0) rfl rfl)) rfl ?_; clear hA a; intro a hA
 refine S.val hA (R.ff (R.neq rfl rfl) (by first | decide | simp | omega)) rfl ?_; clear hA a; intro a hA
 refine S.val hA (R.move rfl) rfl ?_; clear hA a; intro a hA
 refine S.valg (dj := 11) hA (by kernel_rfl) rfl (R.fieldAddr (q := 2) fi24_2 rfl rfl rfl) rfl ?_; clear hA a; intro a hA
 refine S.valg (dj := 11) hA (by kernel_rfl) rfl (R.load sz9 rfl (hM.cell (k := 1) rfl rfl)) rfl ?_; clear hA a; intro a hA
 refine S.valg (dj := 11) hA (by kernel_rfl) rfl (R.fieldAddr (q := 2) fi24_2 rfl rfl rfl) rfl ?_; clear hA a; intro a hA
 refine S.valg (dj := 11) hA (by kernel_rfl) rfl (R.load sz9 rfl (hM.cell (k := 0) rfl rfl)) rfl ?_; clear hA a; intro a hA
 refine S.valg (dj := 11) hA (by kernel_rfl) rfl (R.ff (R.neqStr rfl rfl) (not_not_intro rfl)) rfl ?_; clear hA a; intro a hA
 refine S.val hA (R.pickF rfl rfl) rfl ?_; clear hA a; intro a hA
 refine S.val hA (R.move rfl) rfl ?_; clear hA a; intro a hA
 refine S.valg (dj := 18) hA (by kernel_rfl) rfl (R.fieldAddr (q := 1) fi24_1 rfl rfl rfl) rfl ?_; clear hA a; intro a hA
 refine S.valg (dj := 18) hA (by kernel_rfl) rfl (R.load sz22 rfl (hM.cell (k := 1) rfl rfl)) rfl ?_; clear hA a; intro a hA
 refine S.valg (dj := 18) hA (by kernel_rfl) rfl (R.lenS Tryd.underlying22 rfl rfl) rfl ?_; clear hA a; intro a hA
 refine S.valg (dj := 18) hA (by kernel_rfl) rfl (R.fieldAddr (q := 1) fi24_1 rfl rfl rfl) rfl ?_; clear hA a; intro a hA
 refine S.valg (dj := 18) hA (by kernel_rfl) rfl (R.load sz22 rfl (hM.cell (k := 0) rfl rfl)) rfl ?_; clear hA a; intro a hA
 refine S.valg (dj := 18) hA (by kernel_rfl) rfl (R.lenS Tryd.underlying22 rfl rfl) rfl ?_; clear hA a; intro a hA
 refine S.valg (dj := 18) hA (by kernel_rfl) rfl (R.ff (R.neq rfl rfl) (by first | decide | simp | omega)) rfl ?_; clear hA a; intro a hA
 refine S.val hA (R.pickF rfl rfl) rfl ?_; clear hA a; intro a hA
 refine S.done ?_
 replace hA : St 45 [(2, _), (3, _), (26, _)] a := hA.sub ((.cons rfl (.cons rfl (.cons rfl .nil))))
 refine Ends.condF hA rfl ?_
 refine Ends.skip (Ends.seq (Ends.seq (Ends.region ?_)))
 refine S.val hA (R.assign rfl) rfl ?_; clear hA a; intro a hA
 refine S.done ?_
 refine Ends.block ?_
 refine Ends.loop (σ := Nat) (fun k (a : Act) (wv : World) => St 45 [(2, .pointer (some ⟨b1, 0, none⟩)), (3, .pointer (some ⟨b3, 0, none⟩)), (5, .int .i64 ((k : Int)))] a ∧ Mem w nof [pt b3 #[.int .i64 v, .slice ay X.length cy, .string t] 24, pt b1 #[.int .i64 v, .slice ax X.length cx, .string t] 24] wv ∧ (k ≤ X.length)) (fun k => X.length - k) 0 ⟨hA.sub ((.cons rfl (.cons rfl (.cons rfl .nil)))), hM, (Nat.zero_le _)⟩ ?_
 clear hA hM a
 rintro k a w3 ⟨hA, hM, hk⟩ hNext
 refine Ends.seq (Ends.seq (Ends.region ?_))
 refine S.val hA (R.move rfl) rfl ?_; clear hA a; intro a hA
 refine S.val hA (R.fieldAddr (q := 1) fi24_1 rfl rfl rfl) rfl ?_; clear hA a; intro a hA
 refine S.val hA (R.load sz22 rfl (hM.cell (k := 1) rfl rfl)) rfl ?_; clear hA a; intro a hA
 refine S.val hA (R.lenS Tryd.underlying22 rfl rfl) rfl ?_; clear hA a; intro a hA
 refine S.val hA (R.lss rfl rfl) rfl ?_; clear hA a; intro a hA
 refine S.done ?_
 replace hA : St 45 [(2, _), (3, _), (5, _), (31, _)] a := hA.sub ((.cons rfl (.cons rfl (.cons rfl (.cons rfl .nil)))))
 refine Ends.ite hA rfl (fun hc5 => ?_) (fun hc5 => ?_)
 ·
  refine Ends.skip (Ends.seq (Ends.block (Ends.seq ?_)))
  refine Ends.drawn (Mem w nof [pt b3 #[.int .i64 v, .slice ay X.length cy, .string t] 24, pt b1 #[.int .i64 v, .slice ax X.length cx, .string t] 24]) (.cons (0, true) (.cons (1, true) (.cons (2, true) (.cons (3, true) (.cons (4, true) (.cons (5, true) (.cons (6, true) (.cons (7, true) (.cons (8, true) (.cons (9, true) (.cons (10, true) .nil))))))))))) 11 mixed (by kernel_rfl) (by kernel_rfl) (by kernel_rfl) hM.drew ?_
  replace hM := hM.drew
  refine D.valF hA rfl (fun _ => R.fieldAddr (q := 1) fi24_1 rfl rfl rfl) rfl ?_; clear hA a; intro a hA
  refine D.val hA rfl (by kernel_rfl) (fun _ hM => R.load sz22 rfl (hM.cell (k := 1) rfl rfl)) rfl ?_; clear hA a; intro a hA
  refine D.valF hA rfl (fun _ => R.move rfl) rfl ?_; clear hA a; intro a hA
  refine D.valF hA rfl (fun _ => R.idxI hx (j := k) sl22 rfl rfl (by omega) (rfl)) rfl ?_; clear hA a; intro a hA
  refine D.val hA rfl (by kernel_rfl) (fun _ hM => R.loadI (hx.mem hM) sz3 rfl (by omega)) rfl ?_; clear hA a; intro a hA
  refine D.valF hA rfl (fun _ => R.fieldAddr (q := 1) fi24_1 rfl rfl rfl) rfl ?_; clear hA a; intro a hA
  refine D.val hA rfl (by kernel_rfl) (fun _ hM => R.load sz22 rfl (hM.cell (k := 0) rfl rfl)) rfl ?_; clear hA a; intro a hA
  refine D.valF hA rfl (fun _ => R.move rfl) rfl ?_; clear hA a; intro a hA
  refine D.valF hA rfl (fun _ => R.idxI hy (j := k) sl22 rfl rfl (by omega) (rfl)) rfl ?_; clear hA a; intro a hA
  refine D.val hA rfl (by kernel_rfl) (fun _ hM => R.loadI (hy.mem hM) sz3 rfl (by omega)) rfl ?_; clear hA a; intro a hA
  refine D.valF hA rfl (fun _ => R.ff (R.neq rfl rfl) (by first | decide | simp | omega)) rfl ?_; clear hA a; intro a hA
  refine D.done ?_
  replace hA : St 45 [(2, _), (3, _), (5, _), (44, _)] a := hA.sub ((.cons rfl (.cons rfl (.cons rfl (.cons rfl .nil)))))
  refine Ends.condF hA rfl ?_
  refine Ends.skip (Ends.inBlock (Ends.region ?_))
  refine S.val hA (R.move rfl) rfl ?_; clear hA a; intro a hA
  refine S.val hA (R.addI rfl rfl (r := ((k : Int)) + 1) rfl (by omega)) rfl ?_; clear hA a; intro a hA
  refine S.val hA (R.assign rfl) rfl ?_; clear hA a; intro a hA
  refine S.done ?_
  exact hNext ((k + 1)) _ _ ((by show X.length - (k + 1) < X.length - k; omega)) ⟨hA.sub ((.cons rfl (.cons rfl (.cons rfl .nil)))), hM, (by omega)⟩
 ·
  refine Ends.exit rfl ?_
  replace hA : St 45 [] a := hA.sub (.nil)
  refine Ends.seq (Ends.region ?_)
  refine S.val hA (R.assign rfl) rfl ?_; clear hA a; intro a hA
  refine S.done ?_
  refine Ends.ret1 Tryd.func12 Tryd.results12 hA rfl ?_
  exact ⟨rfl, Mem.trans0 hbs hM.nilL⟩
set_option maxRecDepth 100000 in
set_option maxHeartbeats 400000 in
theorem from30 (v : Int) (ax : Option Addr) (n cx : Nat) (t : ByteArray) (w : World) :
    Calls Tryd.prog 13 #[.agg #[.int .i64 v, .slice ax n cx, .string t]] w fun e w' => e = .returned (.agg #[.int .i64 v, .slice ax n cx, .string t]) ∧ Below w.heap.size w w' := by
  have hbs := Below.refl (B := w.heap.size) w
  have hM := Mem.start w
  refine Calls.of_ends (vs := [.agg #[.int .i64 v, .slice ax n cx, .string t]]) Tryd.func13 rfl Tryd.ntmps13 rfl ?_
  intro a hA
  replace hA : St 10 [(0, _)] a := hA
  refine Ends.seq (Ends.region ?_)
  refine S.box hA hM rfl rfl ?_; clear hA hM a; intro b1 w1 hb2 hM a hA
  replace hM : Mem _ _ [pt b1 #[.int .i64 v, .slice ax n cx, .string t] 26] _ := hM
  refine S.alloc hA hM info24 rfl rfl ?_; clear hA hM a; intro b3 w2 hb4 hM a hA
  replace hM : Mem _ _ [pt b3 #[.int .i64 0, .slice none 0 0, .string (⟨#[]⟩)] 24, pt b1 #[.int .i64 v, .slice ax n cx, .string t] 26] _ := hM
  refine S.done ?_
  refine Ends.seq (Ends.region ?_)
  refine S.val hA (R.fieldAddr (q := 0) fi26_0 rfl rfl rfl) rfl ?_; clear hA a; intro a hA
  refine S.val hA (R.load sz3 rfl (hM.cell (k := 1) rfl rfl)) rfl ?_; clear hA a; intro a hA
  refine S.val hA (R.fieldAddr (q := 1) fi26_1 rfl rfl rfl) rfl ?_; clear hA a; intro a hA
  refine S.val hA (R.load sz22 rfl (hM.cell (k := 1) rfl rfl)) rfl ?_; clear hA a; intro a hA
  refine S.val hA (R.fieldAddr (q := 2) fi26_2 rfl rfl rfl) rfl ?_; clear hA a; intro a hA
  refine S.val hA (R.load sz9 rfl (hM.cell (k := 1) rfl rfl)) rfl ?_; clear hA a; intro a hA
  refine S.val hA (R.build (cells := #[.int .i64 v, .slice ax n cx, .string t]) rfl (by kernel_rfl)) rfl ?_; clear hA a; intro a hA
  refine S.storeA (k := 0) hA hM sz24 rfl rfl rfl rfl rfl rfl ?_; clear hM
  intro w3 hM
  replace hM : Mem _ _ [pt b3 #[.int .i64 v, .slice ax n cx, .string t] 24, pt b1 #[.int .i64 v, .slice ax n cx, .string t] 26] _ := hM
  refine S.done ?_
  replace hA : St 10 [(2, _)] a := hA.sub ((.cons rfl .nil))
  refine Ends.retC (k := 0) Tryd.func13 Tryd.results13 hA hM rfl rfl sz24 rfl ?_
  exact ⟨rfl, Mem.trans0 hbs hM.nilL⟩
set_option maxRecDepth 100000 in
set_option maxHeartbeats 400000 in
theorem certs_any  (w : World) (htab : Lib.TabIs Tryd.prog w "internal/strconv.uint64pow10" .u64 Lib.pow10Tab) :
  Calls Tryd.prog 11 #[] w fun e w' => e = .returned (.bool true) ∧ Below w.heap.size w w' := by
 have hbs := Below.refl (B := w.heap.size) w
 have hM := Mem.start w
 refine Calls.of_ends (vs := []) Tryd.func11 rfl Tryd.ntmps11 rfl ?_
 intro a hA
 replace hA : St 31 [] a := hA
 refine Ends.seq (Ends.region ?_)
 refine S.val hA (R.assign rfl) rfl ?_; clear hA a; intro a hA
 refine S.done ?_
 refine Ends.seq (Ends.region ?_)
 refine S.buildSl (cells := #[.int .i64 1, .int .i64 0]) hA hM Tryd.underlying22 info3 rfl rfl rfl rfl (by kernel_rfl) rfl ?_; clear hA hM a; intro b1 w1 hb2 hM a hA
 replace hM : Mem _ _ [pt b1 #[.int .i64 1, .int .i64 0] 3] _ := hM
 refine S.val hA (R.build (cells := #[.int .i64 5, .slice (some ⟨b1, 0, none⟩) 2 2, .string (⟨#[98, 112, 108]⟩)]) rfl (by kernel_rfl)) rfl ?_; clear hA a; intro a hA
 have hq9 := hM.ptRs (k := 0) (X := ([1, 0] : List Int)) rfl (by decide)
 refine S.call hA (R.callF Tryd.func9 rfl rfl rfl) rfl (cwrite30 5 (by unfold bd64; decide) (some ⟨b1, 0, none⟩) [1, 0] 2 [98, 112, 108] (by decide) _ hq9 (tab_below htab (Mem.trans0 hbs hM.nilL))) ?_; clear hA a
 rintro e w2 ⟨L9, e9, rfl, hw9, hb⟩
 replace hM := hM.callB hb; clear hb
 obtain ⟨hL9, he9⟩ := wr_g hw9
 subst hL9
 subst he9
 refine ⟨.tuple #[.string ((bs ([67, 69, 82, 84, 32, 53, 32, 50, 10, 49, 32, 48, 10, 98, 112, 108, 10]))), .int .i64 0], rfl, fun a hA => ?_⟩
 refine S.val hA (R.move rfl) rfl ?_; clear hA a; intro a hA
 refine S.val hA (R.extract (v := .string ((bs ([67, 69, 82, 84, 32, 53, 32, 50, 10, 49, 32, 48, 10, 98, 112, 108, 10])))) rfl rfl) rfl ?_; clear hA a; intro a hA
 refine S.val hA (R.extract (v := .int .i64 0) rfl rfl) rfl ?_; clear hA a; intro a hA
 refine S.val hA (R.assign rfl) rfl ?_; clear hA a; intro a hA
 refine S.val hA (R.assign rfl) rfl ?_; clear hA a; intro a hA
 refine S.done ?_
 replace hA : St 31 [(1, _), (2, _)] a := hA.sub ((.cons rfl (.cons rfl .nil)))
 refine Ends.seq (Ends.region ?_)
 refine S.call hA (R.callF Tryd.func14 rfl rfl rfl) rfl (cread_at (s := bs [67, 69, 82, 84, 32, 120]) (by decide) rd_g _) ?_; clear hA a
 rintro e w3 ⟨g1, oa9, g2, oc9, g3, rfl, hb⟩
 replace hM := hM.callB hb; clear hb
 refine ⟨.tuple #[.agg #[.int .i64 g1, .slice oa9 g2 oc9, .string g3], .int .i64 5, .int .i64 4], rfl, fun a hA => ?_⟩
 refine S.val hA (R.move rfl) rfl ?_; clear hA a; intro a hA
 refine S.val hA (R.extract (v := .agg #[.int .i64 g1, .slice oa9 g2 oc9, .string g3]) rfl rfl) rfl ?_; clear hA a; intro a hA
 refine S.val hA (R.extract (v := .int .i64 5) rfl rfl) rfl ?_; clear hA a; intro a hA
 refine S.val hA (R.extract (v := .int .i64 4) rfl rfl) rfl ?_; clear hA a; intro a hA
 refine S.alloc hA hM info26 rfl rfl ?_; clear hA hM a; intro b3 w4 hb4 hM a hA
 replace hM : Mem _ _ [pt b3 #[.int .i64 0, .slice none 0 0, .string (⟨#[]⟩)] 26, pt b1 #[.int .i64 1, .int .i64 0] 3] _ := hM
 refine S.storeA (k := 0) hA hM sz26 rfl rfl rfl rfl rfl rfl ?_; clear hM
 intro w5 hM
 replace hM : Mem _ _ [pt b3 #[.int .i64 g1, .slice oa9 g2 oc9, .string g3] 26, pt b1 #[.int .i64 1, .int .i64 0] 3] _ := hM
 refine S.val hA (R.assign rfl) rfl ?_; clear hA a; intro a hA
 refine S.val hA (R.assign rfl) rfl ?_; clear hA a; intro a hA
 refine S.done ?_
 replace hA : St 31 [(1, _), (2, _), (4, _), (5, _)] a := hA.sub ((.cons rfl (.cons rfl (.cons rfl (.cons rfl .nil)))))
 refine Ends.seq (Ends.region ?_)
 refine S.val hA (R.move rfl) rfl ?_; clear hA a; intro a hA
 refine S.val hA (R.tt (R.eql rfl rfl) (by first | decide | simp | omega)) rfl ?_; clear hA a; intro a hA
 refine S.val hA (R.move rfl) rfl ?_; clear hA a; intro a hA
 refine S.valg (dj := 19) hA (by kernel_rfl) rfl (R.move rfl) rfl ?_; clear hA a; intro a hA
 refine S.valg (dj := 19) hA (by kernel_rfl) rfl (R.tt (R.eqlStr rfl rfl) (by rfl)) rfl ?_; clear hA a; intro a hA
 refine S.val hA (R.pickT rfl rfl) rfl ?_; clear hA a; intro a hA
 refine S.val hA (R.move rfl) rfl ?_; clear hA a; intro a hA
 refine S.valg (dj := 23) hA (by kernel_rfl) rfl (R.move rfl) rfl ?_; clear hA a; intro a hA
 refine S.valg (dj := 23) hA (by kernel_rfl) rfl (R.tt (R.eql rfl rfl) (by first | decide | simp | omega)) rfl ?_; clear hA a; intro a hA
 refine S.val hA (R.pickT rfl rfl) rfl ?_; clear hA a; intro a hA
 refine S.val hA (R.move rfl) rfl ?_; clear hA a; intro a hA
 refine S.valg (dj := 27) hA (by kernel_rfl) rfl (R.move rfl) rfl ?_; clear hA a; intro a hA
 refine S.valg (dj := 27) hA (by kernel_rfl) rfl (R.tt (R.eql rfl rfl) (by first | decide | simp | omega)) rfl ?_; clear hA a; intro a hA
 refine S.val hA (R.pickT rfl rfl) rfl ?_; clear hA a; intro a hA
 refine S.val hA (R.assign rfl) rfl ?_; clear hA a; intro a hA
 refine S.done ?_
 replace hA : St 31 [(0, _)] a := hA.sub ((.cons rfl .nil))
 refine Ends.ret1 Tryd.func11 Tryd.results11 hA rfl ?_
 exact ⟨rfl, Mem.trans0 hbs hM.nilL⟩
set_option maxRecDepth 100000 in
set_option maxHeartbeats 400000 in
theorem certReads_w (s : ByteArray) (hs0 : s.size ≤ 9223372036854775807) (w : World) (htab : Lib.TabIs Tryd.prog w "internal/strconv.uint64pow10" .u64 Lib.pow10Tab) :
  Calls Tryd.prog 4 #[.string s] w fun e w' => e = .returned (.bool true) ∧ Below w.heap.size w w' := by
 have hbs := Below.refl (B := w.heap.size) w
 have hM := Mem.start w
 refine Calls.of_ends (vs := [.string s]) Tryd.func4 rfl Tryd.ntmps4 rfl ?_
 intro a hA
 replace hA : St 60 [(0, _)] a := hA
 refine Ends.seq (Ends.region ?_)
 refine S.val hA (R.assign rfl) rfl ?_; clear hA a; intro a hA
 refine S.done ?_
 refine Ends.seq (Ends.seq (Ends.region ?_))
 refine S.val hA (R.move rfl) rfl ?_; clear hA a; intro a hA
 refine S.val hA (R.lenStr Tryd.underlying9 rfl rfl) rfl ?_; clear hA a; intro a hA
 refine S.val hA (R.gtr rfl rfl) rfl ?_; clear hA a; intro a hA
 refine S.done ?_
 refine Ends.ite hA rfl (fun hc1 => ?_) (fun hc1 => ?_)
 ·
  refine Ends.seq (Ends.region ?_)
  refine S.call hA (R.callF Tryd.func11 rfl rfl rfl) rfl (certs_any _ (tab_below htab (Mem.trans0 hbs hM.nilL))) ?_; clear hA a
  rintro e w1 ⟨rfl, hb⟩
  replace hM := hM.callB hb; clear hb
  refine ⟨.bool true, rfl, fun a hA => ?_⟩
  refine S.val hA (R.assign rfl) rfl ?_; clear hA a; intro a hA
  refine S.done ?_
  replace hA : St 60 [(0, _), (2, _)] a := hA.sub ((.cons rfl (.cons rfl .nil)))
  refine Ends.ret1 Tryd.func4 Tryd.results4 hA rfl ?_
  exact ⟨rfl, Mem.trans0 hbs hM.nilL⟩
 ·
  refine Ends.skip (Ends.seq (Ends.region ?_))
  refine S.val hA (R.move rfl) rfl ?_; clear hA a; intro a hA
  refine S.call hA (R.callF Tryd.func14 rfl rfl rfl) rfl (cread30 s (by omega) _) ?_; clear hA a
  rintro e w2 ⟨oa2, oc3, rfl, hn⟩
  replace hM : Mem _ _ [own 3 1 (.slice oa2 (((rdC s).1.X).length) oc3) (((rdC s).1.X).length) (((rdC s).1.X).map (Value.int .i64))] _ := hM.call hn; clear hn
  refine ⟨.tuple #[.agg #[.int .i64 ((rdC s).1.v), .slice oa2 ((rdC s).1.X.length) oc3, .string ((rdC s).1.t)], .int .i64 ((rdC s).2.1), .int .i64 ((rdC s).2.2)], rfl, fun a hA => ?_⟩
  refine S.val hA (R.move rfl) rfl ?_; clear hA a; intro a hA
  refine S.val hA (R.extract (v := .agg #[.int .i64 ((rdC s).1.v), .slice oa2 ((rdC s).1.X.length) oc3, .string ((rdC s).1.t)]) rfl rfl) rfl ?_; clear hA a; intro a hA
  refine S.val hA (R.extract (v := .int .i64 ((rdC s).2.1)) rfl rfl) rfl ?_; clear hA a; intro a hA
  refine S.val hA (R.extract (v := .int .i64 ((rdC s).2.2)) rfl rfl) rfl ?_; clear hA a; intro a hA
  refine S.alloc hA hM info26 rfl rfl ?_; clear hA hM a; intro b4 w3 hb5 hM a hA
  replace hM : Mem _ _ [pt b4 #[.int .i64 0, .slice none 0 0, .string (⟨#[]⟩)] 26, own 3 1 (.slice oa2 (((rdC s).1.X).length) oc3) (((rdC s).1.X).length) (((rdC s).1.X).map (Value.int .i64))] _ := hM
  refine S.storeA (k := 0) hA hM sz26 rfl rfl rfl rfl rfl rfl ?_; clear hM
  intro w4 hM
  replace hM : Mem _ _ [pt b4 #[.int .i64 ((rdC s).1.v), .slice oa2 ((rdC s).1.X.length) oc3, .string ((rdC s).1.t)] 26, own 3 1 (.slice oa2 (((rdC s).1.X).length) oc3) (((rdC s).1.X).length) (((rdC s).1.X).map (Value.int .i64))] _ := hM
  refine S.val hA (R.assign rfl) rfl ?_; clear hA a; intro a hA
  refine S.val hA (R.assign rfl) rfl ?_; clear hA a; intro a hA
  refine S.done ?_
  replace hA : St 60 [(0, _), (3, _), (4, _), (5, _)] a := hA.sub ((.cons rfl (.cons rfl (.cons rfl (.cons rfl .nil)))))
  refine Ends.seq (Ends.region ?_)
  refine S.val hA (R.move rfl) rfl ?_; clear hA a; intro a hA
  refine S.call hA (R.callF Tryd.func15 rfl rfl rfl) rfl (rread30 s (by omega) _) ?_; clear hA a
  rintro e w5 ⟨oa6, oc7, rfl, hn⟩
  replace hM : Mem _ _ [own 3 1 (.slice oa6 (((rdC s).1.X).length) oc7) (((rdC s).1.X).length) (((rdC s).1.X).map (Value.int .i64)), pt b4 #[.int .i64 ((rdC s).1.v), .slice oa2 ((rdC s).1.X.length) oc3, .string ((rdC s).1.t)] 26, own 3 1 (.slice oa2 (((rdC s).1.X).length) oc3) (((rdC s).1.X).length) (((rdC s).1.X).map (Value.int .i64))] _ := hM.call hn; clear hn
  refine ⟨.tuple #[.agg #[.int .i64 ((rdC s).1.v), .slice oa6 ((rdC s).1.X.length) oc7, .string ((rdC s).1.t)], .int .i64 ((rdC s).2.1), .int .i64 ((rdC s).2.2)], rfl, fun a hA => ?_⟩
  refine S.val hA (R.move rfl) rfl ?_; clear hA a; intro a hA
  refine S.val hA (R.extract (v := .agg #[.int .i64 ((rdC s).1.v), .slice oa6 ((rdC s).1.X.length) oc7, .string ((rdC s).1.t)]) rfl rfl) rfl ?_; clear hA a; intro a hA
  refine S.val hA (R.extract (v := .int .i64 ((rdC s).2.1)) rfl rfl) rfl ?_; clear hA a; intro a hA
  refine S.val hA (R.extract (v := .int .i64 ((rdC s).2.2)) rfl rfl) rfl ?_; clear hA a; intro a hA
  refine S.alloc hA hM info24 rfl rfl ?_; clear hA hM a; intro b8 w6 hb9 hM a hA
  replace hM : Mem _ _ [pt b8 #[.int .i64 0, .slice none 0 0, .string (⟨#[]⟩)] 24, own 3 1 (.slice oa6 (((rdC s).1.X).length) oc7) (((rdC s).1.X).length) (((rdC s).1.X).map (Value.int .i64)), pt b4 #[.int .i64 ((rdC s).1.v), .slice oa2 ((rdC s).1.X.length) oc3, .string ((rdC s).1.t)] 26, own 3 1 (.slice oa2 (((rdC s).1.X).length) oc3) (((rdC s).1.X).length) (((rdC s).1.X).map (Value.int .i64))] _ := hM
  refine S.storeA (k := 0) hA hM sz24 rfl rfl rfl rfl rfl rfl ?_; clear hM
  intro w7 hM
  replace hM : Mem _ _ [pt b8 #[.int .i64 ((rdC s).1.v), .slice oa6 ((rdC s).1.X.length) oc7, .string ((rdC s).1.t)] 24, own 3 1 (.slice oa6 (((rdC s).1.X).length) oc7) (((rdC s).1.X).length) (((rdC s).1.X).map (Value.int .i64)), pt b4 #[.int .i64 ((rdC s).1.v), .slice oa2 ((rdC s).1.X.length) oc3, .string ((rdC s).1.t)] 26, own 3 1 (.slice oa2 (((rdC s).1.X).length) oc3) (((rdC s).1.X).length) (((rdC s).1.X).map (Value.int .i64))] _ := hM
  refine S.val hA (R.assign rfl) rfl ?_; clear hA a; intro a hA
  refine S.val hA (R.assign rfl) rfl ?_; clear hA a; intro a hA
  refine S.done ?_
  replace hA : St 60 [(0, _), (3, _), (4, _), (5, _), (6, _), (7, _), (8, _)] a := hA.sub ((.cons rfl (.cons rfl (.cons rfl (.cons rfl (.cons rfl (.cons rfl (.cons rfl .nil))))))))
  refine Ends.seq (Ends.seq ?_)
  refine Ends.drawn (Mem w nof [pt b8 #[.int .i64 ((rdC s).1.v), .slice oa6 ((rdC s).1.X.length) oc7, .string ((rdC s).1.t)] 24, own 3 1 (.slice oa6 (((rdC s).1.X).length) oc7) (((rdC s).1.X).length) (((rdC s).1.X).map (Value.int .i64)), pt b4 #[.int .i64 ((rdC s).1.v), .slice oa2 ((rdC s).1.X.length) oc3, .string ((rdC s).1.t)] 26, own 3 1 (.slice oa2 (((rdC s).1.X).length) oc3) (((rdC s).1.X).length) (((rdC s).1.X).map (Value.int .i64))]) (.cons (0, false) (.cons (1, true) (.cons (2, true) (.cons (3, true) (.cons (5, true) (.cons (4, false) (.cons (6, false) (.cons (7, true) (.cons (8, true) (.cons (9, true) (.cons (10, true) (.cons (11, true) (.cons (12, true) (.cons (13, true) (.cons (14, true) (.cons (15, true) (.cons (16, true) (.cons (17, true) (.cons (18, true) .nil))))))))))))))))))) 19 mixed (by kernel_rfl) (by kernel_rfl) (by kernel_rfl) hM.drew ?_
  replace hM := hM.drew
  refine D.call hA rfl (R.callF Tryd.func11 rfl rfl rfl) rfl (certs_any _ (tab_below htab (Mem.trans0 hbs hM.nilL))) ?_; clear hA a
  rintro e w8 ⟨rfl, hb⟩
  replace hM := hM.callB hb; clear hb
  refine ⟨.bool true, rfl, hM, fun a hA => ?_⟩
  refine D.valF hA rfl (fun _ => R.not rfl) rfl ?_; clear hA a; intro a hA
  refine D.valF hA rfl (fun _ => R.move rfl) rfl ?_; clear hA a; intro a hA
  refine D.valg (dj := 29) hA rfl (by kernel_rfl) (by kernel_rfl) rfl (fun _ hM => R.loadA sz26 rfl (hM.range (k := 2) rfl) rfl) rfl ?_; clear hA a; intro a hA
  refine D.valg (dj := 29) hA rfl (by kernel_rfl) (by kernel_rfl) rfl (fun _ hM => R.loadA sz24 rfl (hM.range (k := 0) rfl) rfl) rfl ?_; clear hA a; intro a hA
  refine D.callg (dj := 29) hA rfl (by kernel_rfl) rfl (R.callF Tryd.func13 rfl rfl rfl) rfl (from30 ((rdC s).1.v) oa2 ((rdC s).1.X.length) oc3 ((rdC s).1.t) _) ?_; clear hA a
  rintro e w9 ⟨rfl, hb⟩
  replace hM := hM.callB hb; clear hb
  refine ⟨.agg #[.int .i64 ((rdC s).1.v), .slice oa2 ((rdC s).1.X.length) oc3, .string ((rdC s).1.t)], rfl, hM, fun a hA => ?_⟩
  refine D.callg (dj := 29) hA rfl (by kernel_rfl) rfl (R.callF Tryd.func12 rfl rfl rfl) rfl (same30e ((rdC s).1.v) ((rdC s).1.t) oa2 ((rdC s).1.X) oc3 oa6 oc7 _ (hM.rsl (k := 3) rfl) (hM.rsl (k := 1) rfl)) ?_; clear hA a
  rintro e w10 ⟨rfl, hb⟩
  replace hM := hM.callB hb; clear hb
  refine ⟨.bool true, rfl, hM, fun a hA => ?_⟩
  refine D.valgF (dj := 29) hA rfl (by kernel_rfl) rfl (fun _ => R.not rfl) rfl ?_; clear hA a; intro a hA
  refine D.valF hA rfl (fun _ => R.pickF rfl rfl) rfl ?_; clear hA a; intro a hA
  refine D.valF hA rfl (fun _ => R.move rfl) rfl ?_; clear hA a; intro a hA
  refine D.valgF (dj := 36) hA rfl (by kernel_rfl) rfl (fun _ => R.move rfl) rfl ?_; clear hA a; intro a hA
  refine D.valgF (dj := 36) hA rfl (by kernel_rfl) rfl (fun _ => R.move rfl) rfl ?_; clear hA a; intro a hA
  refine D.valgF (dj := 36) hA rfl (by kernel_rfl) rfl (fun _ => R.ff (R.neq rfl rfl) (by first | decide | simp | omega)) rfl ?_; clear hA a; intro a hA
  refine D.valF hA rfl (fun _ => R.pickF rfl rfl) rfl ?_; clear hA a; intro a hA
  refine D.valF hA rfl (fun _ => R.move rfl) rfl ?_; clear hA a; intro a hA
  refine D.valgF (dj := 41) hA rfl (by kernel_rfl) rfl (fun _ => R.move rfl) rfl ?_; clear hA a; intro a hA
  refine D.valgF (dj := 41) hA rfl (by kernel_rfl) rfl (fun _ => R.move rfl) rfl ?_; clear hA a; intro a hA
  refine D.valgF (dj := 41) hA rfl (by kernel_rfl) rfl (fun _ => R.ff (R.neq rfl rfl) (by first | decide | simp | omega)) rfl ?_; clear hA a; intro a hA
  refine D.valF hA rfl (fun _ => R.pickF rfl rfl) rfl ?_; clear hA a; intro a hA
  refine D.done ?_
  replace hA : St 60 [(0, _), (3, _), (5, _), (45, _)] a := hA.sub ((.cons rfl (.cons rfl (.cons rfl (.cons rfl .nil)))))
  refine Ends.condF hA rfl ?_
  refine Ends.skip (Ends.seq (Ends.seq (Ends.region ?_)))
  refine S.val hA (R.move rfl) rfl ?_; clear hA a; intro a hA
  refine S.val hA (R.neq rfl rfl) rfl ?_; clear hA a; intro a hA
  refine S.done ?_
  refine Ends.ite hA rfl (fun hc10 => ?_) (fun hc10 => ?_)
  ·
   refine Ends.seq (Ends.region ?_)
   refine S.val hA (R.assign rfl) rfl ?_; clear hA a; intro a hA
   refine S.done ?_
   replace hA : St 60 [(0, _), (2, _), (3, _)] a := hA.sub ((.cons rfl (.cons rfl (.cons rfl .nil))))
   refine Ends.ret1 Tryd.func4 Tryd.results4 hA rfl ?_
   exact ⟨rfl, Mem.trans0 hbs hM.nilL⟩
  ·
   have hz : (rdC s).2.2 = 0 := Decidable.not_not.1 hc10
   have hI := rdC_inv (L := s.data.toList) (by rw [data_bs]; exact hz)
   rw [data_bs] at hI
   obtain ⟨hfr, hLt, -⟩ := hI
   have htd : bs (rdC s).1.t.data.toList = (rdC s).1.t := data_bs _
   have htl := frm_tl (rdC s).1
   have hv9 : bd64 (rdC s).1.v := by have g1 := hfr.1; have g2 := hfr.2.1; unfold bd64; omega
   have ht6 := hfr.2.2.2.2.2.1
   refine Ends.skip (Ends.seq (Ends.region ?_))
   refine S.val hA (R.loadA sz26 rfl (hM.range (k := 2) rfl) rfl) rfl ?_; clear hA a; intro a hA
   refine S.call hA (R.callF Tryd.func9 rfl rfl rfl) rfl ((by have h9 := cwrite30 (rdC s).1.v hv9 oa2 (rdC s).1.X oc3 (rdC s).1.t.data.toList (by omega) _ (hM.rsl (k := 3) rfl) (tab_below htab (Mem.trans0 hbs hM.nilL)); rw [htd] at h9; exact h9)) ?_; clear hA a
   rintro e w11 ⟨L9, e9, rfl, hw9, hb⟩
   replace hM := hM.callB hb; clear hb
   obtain ⟨hL9, he9⟩ : bs L9 = s ∧ e9 = 0 := by
    rcases hw9 with ⟨-, g2, g3⟩ | ⟨g1, -, -⟩
    · exact ⟨by rw [g2, ← hLt, data_bs], g3⟩
    · exact absurd hfr g1
   refine ⟨.tuple #[.string ((bs L9)), .int .i64 e9], rfl, fun a hA => ?_⟩
   refine S.val hA (R.move rfl) rfl ?_; clear hA a; intro a hA
   refine S.val hA (R.extract (v := .string ((bs L9))) rfl rfl) rfl ?_; clear hA a; intro a hA
   refine S.val hA (R.extract (v := .int .i64 e9) rfl rfl) rfl ?_; clear hA a; intro a hA
   refine S.val hA (R.assign rfl) rfl ?_; clear hA a; intro a hA
   refine S.val hA (R.assign rfl) rfl ?_; clear hA a; intro a hA
   refine S.done ?_
   replace hA : St 60 [(0, _), (9, _), (10, _)] a := hA.sub ((.cons rfl (.cons rfl (.cons rfl .nil))))
   refine Ends.seq (Ends.region ?_)
   refine S.val hA (R.move rfl) rfl ?_; clear hA a; intro a hA
   refine S.val hA (R.tt (R.eql rfl rfl) (he9)) rfl ?_; clear hA a; intro a hA
   refine S.val hA (R.move rfl) rfl ?_; clear hA a; intro a hA
   refine S.valg (dj := 55) hA (by kernel_rfl) rfl (R.move rfl) rfl ?_; clear hA a; intro a hA
   refine S.valg (dj := 55) hA (by kernel_rfl) rfl (R.move rfl) rfl ?_; clear hA a; intro a hA
   refine S.valg (dj := 55) hA (by kernel_rfl) rfl (R.tt (R.eqlStr rfl rfl) (hL9)) rfl ?_; clear hA a; intro a hA
   refine S.val hA (R.pickT rfl rfl) rfl ?_; clear hA a; intro a hA
   refine S.val hA (R.assign rfl) rfl ?_; clear hA a; intro a hA
   refine S.done ?_
   replace hA : St 60 [(2, _)] a := hA.sub ((.cons rfl .nil))
   refine Ends.ret1 Tryd.func4 Tryd.results4 hA rfl ?_
   exact ⟨rfl, Mem.trans0 hbs hM.nilL⟩
theorem certReads_any (s : ByteArray) (hs : s.size ≤ maxLen) (w : World) (htab : Lib.TabIs Tryd.prog w "internal/strconv.uint64pow10" .u64 Lib.pow10Tab) : Calls Tryd.prog 4 #[.string s] w fun e w' => e = .returned (.bool true) ∧ Below w.heap.size w w' := certReads_w s (by unfold maxLen at hs; omega) w htab
end Go.Proofs.YtnhnjjlfoajbgaaDoor
