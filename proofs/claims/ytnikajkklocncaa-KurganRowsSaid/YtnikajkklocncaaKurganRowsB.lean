/-
  KurganRows, part 2 of 2: what the code computes, and plain laws; no condition beside those that each theorem tells.
-/
import Derived.Test.YtnikajkklocncaaKurganRowsA
import Derived.ChangeKeysEq
import Derived.Shelf.Bits.Mul64
import Derived.Shelf.Slices.Reverse
import Derived.Ground.Names2Prog
import Derived.Shelf.Slices.Clone
import Derived.Shelf.Slices.Delete
import Derived.Shelf.Slices.Cells
import Derived.Shelf.Slices.Empties
import Derived.Test.YtnikajkklocncaaProg
import Derived.Test.YtnikajkklocncaaRows
import Derived.Deep.RegionHeld
import Derived.KernelRfl
import Derived.Deep.DrawnRows
import Derived.Deep.RegionWith
import Derived.Deep.DeepCutAuto
import Derived.OpenShut
import Derived.ProofKit
import Derived.Deep.Slices
import Derived.SizedLaws
namespace Go.Proofs.Ytnikajkklocncaa
open Go.RowKit
theorem Mem.eqM {w0 w : World} {F : Nat → Prop} {L L2 : List Ck} (h : Mem w0 F L w) (he : L = L2) : Mem w0 F L2 w := he ▸ h
theorem lo_nil (x : List Int) : loW (memF (x.take 0)) = 0 := by unfold loW; rw [wdB_none (fun b _ => by simp [memF])]; rfl
theorem hi_nil (x : List Int) : hiW (memF (x.take 0)) = 0 := by unfold hiW; rw [wdB_none (f := fun b => memF (x.take 0) (64 + b)) (fun b _ => by simp [memF])]; rfl
theorem full_w {n : Nat} (h : n < 64) : IntKind.u64.wrap (IntKind.u64.wrap (1 * 2 ^ min n IntKind.u64.bits) - 1) = loW (lessF n) := by
  rw [u64_pow h, full_lo h, IntKind.wrap_u64]
  have h2 : 2 ^ n < 2 ^ 64 := Nat.pow_lt_pow_right (by decide) h
  have h3 : 0 < 2 ^ n := Nat.pow_pos (by decide)
  generalize 2 ^ n = p at h2 h3
  omega
theorem eq_set (a b c d : Int) (w : World) : (Op.equalIn 10000 63 (.agg #[.int .u64 a, .int .u64 b]) (.agg #[.int .u64 c, .int .u64 d])).run Try.prog w = .ok (decide (a = c ∧ b = d)) w := by
  have u3 := Try.underlying45
  have q3 := Try.isAgg45
  have z3 := Try.sizeOf45
  rw [show (10000 : Nat) = 9999 + 1 from rfl, run_equalIn_array (P := Try.prog) w 9999 _ _ Try.underlying63 info45]
  rw [show List.range 2 = [0, 1] from rfl, show Try.prog.cellsOf 45 = 1 by kernel_rfl]
  simp only [Op.eqItems]
  by_cases h1 : a = c
  · by_cases h2 : b = d
    · subst h1; subst h2; go_simp
    · subst h1; go_simp
  · go_simp
def costI (i : Ins) (x : List Int) : Int × Int := if chk i ≠ 0 then (0, chk i) else if i.kind = 1 then knpI i x else if ¬ ordP i x then (0, 1) else (sumF (stp i x) i.n.toNat, 0)
theorem inF_len {i : Ins} (h : InF i) : i.wt.length ≤ 64 ∧ i.vl.length ≤ 64 ∧ i.cost.length ≤ 64 := by
  have h1 := h.wt
  have h2 := h.vl
  have h3 := h.cost
  have h4 := h.n64
  refine ⟨?_, ?_, ?_⟩
  · rw [h1]; split <;> omega
  · rw [h2]; split <;> omega
  · rw [h3]; split <;> omega
theorem wtF_bd {i : Ins} (h : InF i) (x : List Int) (k : Nat) (hk : k ≤ 64) : 0 ≤ sumF (wtF i x) k ∧ sumF (wtF i x) k ≤ 64 * 2147483647 := by
  have h1 := sumF_bd (f := wtF i x) (B := 2147483647) (by decide) (k := k) (fun q _ => by unfold wtF; have := h.wtr q; split <;> omega)
  omega
theorem vlF_bd {i : Ins} (h : InF i) (x : List Int) (k : Nat) (hk : k ≤ 64) : 0 ≤ sumF (vlF i x) k ∧ sumF (vlF i x) k ≤ 64 * 2147483647 := by
  have h1 := sumF_bd (f := vlF i x) (B := 2147483647) (by decide) (k := k) (fun q _ => by unfold vlF; have := h.vlr q; split <;> omega)
  omega
theorem cl2_bd {i : Ins} (h : InF i) (r c : Int) : 0 ≤ cl2 i r c ∧ cl2 i r c ≤ 2147483647 := h.cell _ _
theorem stp_bd {i : Ins} (h : InF i) (x : List Int) (k : Nat) (hk : k ≤ 64) : 0 ≤ sumF (stp i x) k ∧ sumF (stp i x) k ≤ 64 * 2147483647 := by
  have h1 := sumF_bd (f := stp i x) (B := 2147483647) (by decide) (k := k) (fun q _ => by unfold stp; split <;> exact cl2_bd h _ _)
  omega
theorem take_all {X : List Int} {k : Nat} (h : k = X.length) : X.take k = X := by subst h; exact List.take_length
set_option maxRecDepth 100000 in
set_option maxHeartbeats 400000 in
theorem within02 (i : Int) (w : World) :
  Calls Try.prog 75 #[.int .i64 i] w fun e w' => e = .returned (.bool (decide (0 ≤ i ∧ i < 128))) ∧ Below w.heap.size w w' := by
 have hbs := Below.refl (B := w.heap.size) w
 have hM := Mem.start w
 refine Calls.of_ends (vs := [.int .i64 i]) Try.func75 rfl Try.ntmps75 rfl ?_
 intro a hA
 replace hA : St 9 [(0, _)] a := hA
 refine Ends.seq (Ends.region ?_)
 refine S.val hA (R.assign rfl) rfl ?_; clear hA a; intro a hA
 refine S.done ?_
 refine Ends.seq ?_
 refine Ends.cut (fun (a : Act) (wv : World) => St 9 [(2, .bool (decide ((0 ≤ i ∧ i < 128))))] a ∧ Mem w nof [] wv) ?_ (fun k2 hJ => ?_)
 ·
  clear hA hM a; rintro a w1 ⟨hA, hM⟩
  refine Ends.ret1 Try.func75 Try.results75 hA rfl ?_
  exact ⟨congrArg (fun b => Ending.returned (.bool b)) (decide_eq_decide.2 (by omega)), Mem.trans0 hbs hM.nilL⟩
 ·
  refine Ends.region ?_
  refine S.val hA (R.move rfl) rfl ?_; clear hA a; intro a hA
  refine S.val hA (R.geq rfl rfl) rfl ?_; clear hA a; intro a hA
  refine S.val hA (R.move rfl) rfl ?_; clear hA a; intro a hA
  refine hA.split (d := 5) rfl ?_ ?_
  ·
   clear hA; intro hg1 hA
   refine S.valg (dj := 5) hA (by kernel_rfl) rfl (R.move rfl) rfl ?_; clear hA a; intro a hA
   refine S.valg (dj := 5) hA (by kernel_rfl) rfl (R.lss rfl rfl) rfl ?_; clear hA a; intro a hA
   refine S.val hA (R.pickT rfl rfl) rfl ?_; clear hA a; intro a hA
   refine S.val hA (R.assign rfl) rfl ?_; clear hA a; intro a hA
   refine S.done ?_
   replace hA : St 9 [(2, _)] a := hA.sub ((.cons rfl .nil))
   exact hJ _ _ ⟨hA.sub (.cons (by first | rfl | exact congrArg (fun b => some (Value.bool b)) (by first | exact decide_eq_decide.2 (by omega) | exact or_bool (by omega) | exact and_bool (by omega) | (simp; done) | (simp [hg1]; done) | (have h80 := hg1; (try simp at h80); simp [h80]; done) | exact (decide_eq_false (fun h9 => hg1 h9.1)).symm)) .nil), hM⟩
  ·
   clear hA; intro hg1 hA
   refine S.no (dj := 5) hA (by kernel_rfl) rfl rfl rfl ?_; clear hA a; intro a hA
   refine S.no (dj := 5) hA (by kernel_rfl) rfl rfl rfl ?_; clear hA a; intro a hA
   refine S.val hA (R.pickF rfl rfl) rfl ?_; clear hA a; intro a hA
   refine S.val hA (R.assign rfl) rfl ?_; clear hA a; intro a hA
   refine S.done ?_
   replace hA : St 9 [(2, _)] a := hA.sub ((.cons rfl .nil))
   exact hJ _ _ ⟨hA.sub (.cons (by first | rfl | exact congrArg (fun b => some (Value.bool b)) (by first | exact decide_eq_decide.2 (by omega) | exact or_bool (by omega) | exact and_bool (by omega) | (simp; done) | (simp [hg1]; done) | (have h80 := hg1; (try simp at h80); simp [h80]; done) | exact (decide_eq_false (fun h9 => hg1 h9.1)).symm)) .nil), hM⟩
set_option maxRecDepth 100000 in
set_option maxHeartbeats 400000 in
theorem with02 (f : Nat → Bool) (i : Int) (w : World) :
  Calls Try.prog 70 #[.agg #[.int .u64 (loW f), .int .u64 (hiW f)], .int .i64 i] w fun e w' => e = .returned (.agg #[.int .u64 (loW (adF1 f i)), .int .u64 (hiW (adF1 f i))]) ∧ Below w.heap.size w w' := by
 have hbs := Below.refl (B := w.heap.size) w
 have hM := Mem.start w
 refine Calls.of_ends (vs := [.agg #[.int .u64 (loW f), .int .u64 (hiW f)], .int .i64 i]) Try.func70 rfl Try.ntmps70 rfl ?_
 intro a hA
 replace hA : St 17 [(0, _), (1, _)] a := hA
 refine Ends.seq (Ends.region ?_)
 refine S.box hA hM rfl rfl ?_; clear hA hM a; intro b1 w1 hb2 hM a hA
 replace hM : Mem _ _ [pt b1 #[.int .u64 (loW f), .int .u64 (hiW f)] 63] _ := hM
 refine S.alloc hA hM info63 rfl rfl ?_; clear hA hM a; intro b3 w2 hb4 hM a hA
 replace hM : Mem _ _ [pt b3 #[.int .u64 0, .int .u64 0] 63, pt b1 #[.int .u64 (loW f), .int .u64 (hiW f)] 63] _ := hM
 refine S.done ?_
 refine Ends.seq (Ends.seq (Ends.region ?_))
 refine S.val hA (R.move rfl) rfl ?_; clear hA a; intro a hA
 refine S.call hA (R.callF Try.func75 rfl rfl rfl) rfl (within02 i _) ?_; clear hA a
 rintro e w3 ⟨rfl, hb⟩
 replace hM := hM.callB hb; clear hb
 refine ⟨.bool (decide (0 ≤ i ∧ i < 128)), rfl, fun a hA => ?_⟩
 refine S.done ?_
 refine Ends.ite hA rfl (fun hc5 => ?_) (fun hc5 => ?_)
 ·
  have hin := hc5
  by_cases hs6 : i < 64
  ·
   obtain ⟨m, hm, hmi⟩ : ∃ m : Nat, m < 64 ∧ i = (m : Int) := ⟨i.toNat, by omega, by omega⟩
   have e9 : (i % 64).toNat = m := by omega
   refine Ends.drawn (Mem w nof [pt b3 #[.int .u64 0, .int .u64 0] 63, pt b1 #[.int .u64 (loW f), .int .u64 (hiW f)] 63]) (.cons (0, true) (.cons (1, true) (.cons (2, true) (.cons (3, true) (.cons (4, true) (.cons (5, true) (.cons (6, true) (.cons (7, true) (.cons (8, true) (.cons (9, false) .nil)))))))))) 9 mixed (by kernel_rfl) (by kernel_rfl) (by kernel_rfl) hM.drew ?_
   replace hM := hM.drew
   refine D.valF hA rfl (fun _ => R.move rfl) rfl ?_; clear hA a; intro a hA
   refine D.valF hA rfl (fun _ => R.quoI rfl rfl rfl (by omega)) rfl ?_; clear hA a; intro a hA
   refine D.valF hA rfl (fun _ => R.indexAddrA (q := 0) ar63 rfl rfl (by omega) (by omega)) rfl ?_; clear hA a; intro a hA
   refine D.val hA rfl (by kernel_rfl) (fun _ hM => R.load sz45 rfl (hM.cell (k := 1) rfl rfl)) rfl ?_; clear hA a; intro a hA
   refine D.valF hA rfl (fun _ => R.move rfl) rfl ?_; clear hA a; intro a hA
   refine D.valF hA rfl (fun _ => R.remI rfl rfl rfl (by omega)) rfl ?_; clear hA a; intro a hA
   refine D.valF hA rfl (fun _ => R.shl rfl rfl (by omega)) rfl ?_; clear hA a; intro a hA
   refine D.valF hA rfl (fun _ => R.bits (by simp) rfl rfl) rfl ?_; clear hA a; intro a hA
   refine D.valF hA rfl (fun _ => R.indexAddrA (q := 0) ar63 rfl rfl (by omega) (by omega)) rfl ?_; clear hA a; intro a hA
   refine D.store (k := 1) hA hM rfl sz45 rfl rfl rfl rfl rfl ?_; clear hM
   intro w4 hM; refine ⟨fun _ hne => absurd rfl hne, ?_⟩
   replace hM : Mem _ _ [pt b3 #[.int .u64 0, .int .u64 0] 63, pt b1 #[.int .u64 (bits .or .u64 (loW f) (IntKind.u64.wrap (1 * 2 ^ min (i % 64).toNat (IntKind.u64).bits))), .int .u64 (hiW f)] 63] _ := hM
   refine D.done ?_
   obtain ⟨g1, g2⟩ := add_lo (f := f) hm
   rw [← hmi] at g1 g2
   rw [e9, g1, ← g2] at hM
   replace hM : Mem _ _ [pt b3 #[.int .u64 0, .int .u64 0] 63, pt b1 #[.int .u64 (loW (adF1 f i)), .int .u64 (hiW (adF1 f i))] 63] _ := hM
   replace hA : St 17 [(2, _), (4, _)] a := hA.sub ((.cons rfl (.cons rfl .nil)))
   refine Ends.seq (Ends.region ?_)
   refine S.val hA (R.loadA sz63 rfl (hM.range (k := 1) rfl) rfl) rfl ?_; clear hA a; intro a hA
   refine S.storeA (k := 0) hA hM sz63 rfl rfl rfl rfl rfl rfl ?_; clear hM
   intro w5 hM
   replace hM : Mem _ _ [pt b3 #[.int .u64 (loW (adF1 f i)), .int .u64 (hiW (adF1 f i))] 63, pt b1 #[.int .u64 (loW (adF1 f i)), .int .u64 (hiW (adF1 f i))] 63] _ := hM
   refine S.done ?_
   refine Ends.retC (k := 0) Try.func70 Try.results70 hA hM rfl rfl sz63 rfl ?_
   exact ⟨rfl, Mem.trans0 hbs hM.nilL⟩
  ·
   obtain ⟨m, hm, hmi⟩ : ∃ m : Nat, m < 64 ∧ i = ((64 + m : Nat) : Int) := ⟨(i - 64).toNat, by omega, by omega⟩
   have e9 : (i % 64).toNat = m := by omega
   refine Ends.drawn (Mem w nof [pt b3 #[.int .u64 0, .int .u64 0] 63, pt b1 #[.int .u64 (loW f), .int .u64 (hiW f)] 63]) (.cons (0, true) (.cons (1, true) (.cons (2, true) (.cons (3, true) (.cons (4, true) (.cons (5, true) (.cons (6, true) (.cons (7, true) (.cons (8, true) (.cons (9, false) .nil)))))))))) 9 mixed (by kernel_rfl) (by kernel_rfl) (by kernel_rfl) hM.drew ?_
   replace hM := hM.drew
   refine D.valF hA rfl (fun _ => R.move rfl) rfl ?_; clear hA a; intro a hA
   refine D.valF hA rfl (fun _ => R.quoI rfl rfl rfl (by omega)) rfl ?_; clear hA a; intro a hA
   refine D.valF hA rfl (fun _ => R.indexAddrA (q := 1) ar63 rfl rfl (by omega) (by omega)) rfl ?_; clear hA a; intro a hA
   refine D.val hA rfl (by kernel_rfl) (fun _ hM => R.load sz45 rfl (hM.cell (k := 1) rfl rfl)) rfl ?_; clear hA a; intro a hA
   refine D.valF hA rfl (fun _ => R.move rfl) rfl ?_; clear hA a; intro a hA
   refine D.valF hA rfl (fun _ => R.remI rfl rfl rfl (by omega)) rfl ?_; clear hA a; intro a hA
   refine D.valF hA rfl (fun _ => R.shl rfl rfl (by omega)) rfl ?_; clear hA a; intro a hA
   refine D.valF hA rfl (fun _ => R.bits (by simp) rfl rfl) rfl ?_; clear hA a; intro a hA
   refine D.valF hA rfl (fun _ => R.indexAddrA (q := 1) ar63 rfl rfl (by omega) (by omega)) rfl ?_; clear hA a; intro a hA
   refine D.store (k := 1) hA hM rfl sz45 rfl rfl rfl rfl rfl ?_; clear hM
   intro w6 hM; refine ⟨fun _ hne => absurd rfl hne, ?_⟩
   replace hM : Mem _ _ [pt b3 #[.int .u64 0, .int .u64 0] 63, pt b1 #[.int .u64 (loW f), .int .u64 (bits .or .u64 (hiW f) (IntKind.u64.wrap (1 * 2 ^ min (i % 64).toNat (IntKind.u64).bits)))] 63] _ := hM
   refine D.done ?_
   obtain ⟨g1, g2⟩ := add_hi (f := f) hm
   rw [← hmi] at g1 g2
   rw [e9, g1, ← g2] at hM
   replace hM : Mem _ _ [pt b3 #[.int .u64 0, .int .u64 0] 63, pt b1 #[.int .u64 (loW (adF1 f i)), .int .u64 (hiW (adF1 f i))] 63] _ := hM
   replace hA : St 17 [(2, _), (4, _)] a := hA.sub ((.cons rfl (.cons rfl .nil)))
   refine Ends.seq (Ends.region ?_)
   refine S.val hA (R.loadA sz63 rfl (hM.range (k := 1) rfl) rfl) rfl ?_; clear hA a; intro a hA
   refine S.storeA (k := 0) hA hM sz63 rfl rfl rfl rfl rfl rfl ?_; clear hM
   intro w7 hM
   replace hM : Mem _ _ [pt b3 #[.int .u64 (loW (adF1 f i)), .int .u64 (hiW (adF1 f i))] 63, pt b1 #[.int .u64 (loW (adF1 f i)), .int .u64 (hiW (adF1 f i))] 63] _ := hM
   refine S.done ?_
   refine Ends.retC (k := 0) Try.func70 Try.results70 hA hM rfl rfl sz63 rfl ?_
   exact ⟨rfl, Mem.trans0 hbs hM.nilL⟩
 ·
  refine Ends.skip (Ends.seq (Ends.region ?_))
  refine S.val hA (R.loadA sz63 rfl (hM.range (k := 1) rfl) rfl) rfl ?_; clear hA a; intro a hA
  refine S.storeA (k := 0) hA hM sz63 rfl rfl rfl rfl rfl rfl ?_; clear hM
  intro w8 hM
  replace hM : Mem _ _ [pt b3 #[.int .u64 (loW f), .int .u64 (hiW f)] 63, pt b1 #[.int .u64 (loW f), .int .u64 (hiW f)] 63] _ := hM
  refine S.done ?_
  replace hA : St 17 [(4, _)] a := hA.sub ((.cons rfl .nil))
  refine Ends.retC (k := 0) Try.func70 Try.results70 hA hM rfl rfl sz63 rfl ?_
  obtain ⟨g1, g2⟩ := add_out (f := f) hc5
  exact ⟨by rw [g1, g2], Mem.trans0 hbs hM.nilL⟩
set_option maxRecDepth 100000 in
set_option maxHeartbeats 400000 in
theorem of02 (ay : Option Addr) (x : List Int) (cy : Nat) (w : World) (hy : IntSl w (.slice ay x.length cy) x) :
  Calls Try.prog 60 #[.slice ay x.length cy] w fun e w' => e = .returned (.agg #[.int .u64 (loW (memF x)), .int .u64 (hiW (memF x))]) ∧ Below w.heap.size w w' := by
 have hbs := Below.refl (B := w.heap.size) w
 have hlx := hy.lenB
 have hM := Mem.start w
 refine Calls.of_ends (vs := [.slice ay x.length cy]) Try.func60 rfl Try.ntmps60 rfl ?_
 intro a hA
 replace hA : St 17 [(0, _)] a := hA
 refine Ends.seq (Ends.region ?_)
 refine S.alloc hA hM info63 rfl rfl ?_; clear hA hM a; intro b1 w1 hb2 hM a hA
 replace hM : Mem _ _ [pt b1 #[.int .u64 0, .int .u64 0] 63] _ := hM
 refine S.done ?_
 refine Ends.seq (Ends.region ?_)
 refine S.alloc hA hM info63 rfl rfl ?_; clear hA hM a; intro b3 w2 hb4 hM a hA
 replace hM : Mem _ _ [pt b3 #[.int .u64 0, .int .u64 0] 63, pt b1 #[.int .u64 0, .int .u64 0] 63] _ := hM
 refine S.done ?_
 refine Ends.seq (Ends.seq (Ends.region ?_))
 refine S.val hA (R.move rfl) rfl ?_; clear hA a; intro a hA
 refine S.val hA (R.lenS Try.underlying22 rfl rfl) rfl ?_; clear hA a; intro a hA
 refine S.val hA (R.move rfl) rfl ?_; clear hA a; intro a hA
 refine S.done ?_
 refine Ends.block ?_
 replace hM := Mem.eqM (L2 := [pt b3 #[.int .u64 (loW (memF (x.take 0))), .int .u64 (hiW (memF (x.take 0)))] 63, pt b1 #[.int .u64 0, .int .u64 0] 63]) hM (by rw [lo_nil, hi_nil])
 refine Ends.loop (σ := Nat) (fun k (a : Act) (wv : World) => St 17 [(2, .pointer (some ⟨b1, 0, none⟩)), (3, .pointer (some ⟨b3, 0, none⟩)), (6, .slice ay x.length cy), (7, .int .i64 ((x.length : Int))), (8, .int .i64 ((k : Int)))] a ∧ Mem w nof [pt b3 #[.int .u64 (loW (memF (x.take k))), .int .u64 (hiW (memF (x.take k)))] 63, pt b1 #[.int .u64 0, .int .u64 0] 63] wv ∧ (k ≤ x.length)) (fun k => x.length - k) 0 ⟨hA.sub ((.cons rfl (.cons rfl (.cons rfl (.cons rfl (.cons rfl .nil)))))), hM, (Nat.zero_le _)⟩ ?_
 clear hA hM a
 rintro k a w3 ⟨hA, hM, hk⟩ hNext
 refine Ends.seq (Ends.region ?_)
 refine S.val hA (R.lss rfl rfl) rfl ?_; clear hA a; intro a hA
 refine S.done ?_
 refine Ends.seq ?_
 refine Ends.ite hA rfl (fun hc5 => ?_) (fun hc5 => ?_)
 ·
  refine Ends.skip (Ends.seq (Ends.block (Ends.seq (Ends.region ?_))))
  refine S.val hA (R.idxI hy (j := k) sl22 rfl rfl (by omega) (rfl)) rfl ?_; clear hA a; intro a hA
  refine S.val hA (R.loadI (hy.mem hM) sz3 rfl (by omega)) rfl ?_; clear hA a; intro a hA
  refine S.val hA (R.assign rfl) rfl ?_; clear hA a; intro a hA
  refine S.done ?_
  refine Ends.region ?_
  refine S.val hA (R.loadA sz63 rfl (hM.range (k := 0) rfl) rfl) rfl ?_; clear hA a; intro a hA
  refine S.val hA (R.move rfl) rfl ?_; clear hA a; intro a hA
  refine S.call hA (R.callF Try.func70 rfl rfl rfl) rfl (with02 (memF (x.take k)) (x.getD k 0) _) ?_; clear hA a
  rintro e w4 ⟨rfl, hb⟩
  replace hM := hM.callB hb; clear hb
  refine ⟨.agg #[.int .u64 (loW (adF1 (memF (x.take k)) (x.getD k 0))), .int .u64 (hiW (adF1 (memF (x.take k)) (x.getD k 0)))], rfl, fun a hA => ?_⟩
  refine S.storeA (k := 0) hA hM sz63 rfl rfl rfl rfl rfl rfl ?_; clear hM
  intro w5 hM
  replace hM : Mem _ _ [pt b3 #[.int .u64 (loW (adF1 (memF (x.take k)) (x.getD k 0))), .int .u64 (hiW (adF1 (memF (x.take k)) (x.getD k 0)))] 63, pt b1 #[.int .u64 0, .int .u64 0] 63] _ := hM
  refine S.done ?_
  replace hA : St 17 [(2, _), (3, _), (6, _), (7, _), (8, _)] a := hA.sub ((.cons rfl (.cons rfl (.cons rfl (.cons rfl (.cons rfl .nil))))))
  refine Ends.inBlock (Ends.region ?_)
  refine S.val hA (R.addI rfl rfl (r := ((k : Int)) + 1) rfl (by omega)) rfl ?_; clear hA a; intro a hA
  refine S.val hA (R.move rfl) rfl ?_; clear hA a; intro a hA
  refine S.done ?_
  rw [← memF_snoc, ← take_succ_getD x k (by omega)] at hM
  exact hNext ((k + 1)) _ _ ((by show x.length - (k + 1) < x.length - k; omega)) ⟨hA.sub ((.cons rfl (.cons rfl (.cons rfl (.cons rfl (.cons rfl .nil)))))), hM, (by omega)⟩
 ·
  refine Ends.exit rfl ?_
  replace hA : St 17 [(2, _), (3, _)] a := hA.sub ((.cons rfl (.cons rfl .nil)))
  refine Ends.seq (Ends.region ?_)
  refine S.val hA (R.loadA sz63 rfl (hM.range (k := 0) rfl) rfl) rfl ?_; clear hA a; intro a hA
  refine S.storeA (k := 1) hA hM sz63 rfl rfl rfl rfl rfl rfl ?_; clear hM
  intro w6 hM
  replace hM : Mem _ _ [pt b3 #[.int .u64 (loW (memF (x.take k))), .int .u64 (hiW (memF (x.take k)))] 63, pt b1 #[.int .u64 (loW (memF (x.take k))), .int .u64 (hiW (memF (x.take k)))] 63] _ := hM
  refine S.done ?_
  refine Ends.retC (k := 1) Try.func60 Try.results60 hA hM rfl rfl sz63 rfl ?_
  exact ⟨by rw [take_all (X := x) (k := k) (by omega)], Mem.trans0 hbs hM.nilL⟩
set_option maxRecDepth 100000 in
set_option maxHeartbeats 400000 in
theorem full02 (n : Nat) (h1 : 1 ≤ n) (h24 : n ≤ 24) (w : World) :
  Calls Try.prog 61 #[.int .i64 ((n : Int))] w fun e w' => e = .returned (.agg #[.int .u64 (loW (lessF n)), .int .u64 (hiW (lessF n))]) ∧ Below w.heap.size w w' := by
 have hbs := Below.refl (B := w.heap.size) w
 have hM := Mem.start w
 refine Calls.of_ends (vs := [.int .i64 ((n : Int))]) Try.func61 rfl Try.ntmps61 rfl ?_
 intro a hA
 replace hA : St 29 [(0, _)] a := hA
 refine Ends.seq (Ends.region ?_)
 refine S.alloc hA hM info63 rfl rfl ?_; clear hA hM a; intro b1 w1 hb2 hM a hA
 replace hM : Mem _ _ [pt b1 #[.int .u64 0, .int .u64 0] 63] _ := hM
 refine S.done ?_
 refine Ends.seq (Ends.region ?_)
 refine S.alloc hA hM info63 rfl rfl ?_; clear hA hM a; intro b3 w2 hb4 hM a hA
 replace hM : Mem _ _ [pt b3 #[.int .u64 0, .int .u64 0] 63, pt b1 #[.int .u64 0, .int .u64 0] 63] _ := hM
 refine S.done ?_
 refine Ends.seq (Ends.seq (Ends.region ?_))
 refine S.val hA (R.move rfl) rfl ?_; clear hA a; intro a hA
 refine S.done ?_
 refine Ends.block ?_
 refine Ends.unroll ?_
 refine Ends.seq (Ends.region ?_)
 refine S.val hA (R.tt (R.lss rfl rfl) (by first | decide | simp | omega)) rfl ?_; clear hA a; intro a hA
 refine S.done ?_
 refine Ends.seq ?_
 refine Ends.condT hA rfl ?_
 refine Ends.skip (Ends.seq (Ends.block (Ends.seq (Ends.region ?_))))
 refine S.val hA (R.move rfl) rfl ?_; clear hA a; intro a hA
 refine S.val hA (R.assign rfl) rfl ?_; clear hA a; intro a hA
 refine S.done ?_
 refine Ends.seq (Ends.region ?_)
 refine S.val hA (R.move rfl) rfl ?_; clear hA a; intro a hA
 refine S.val hA (R.max rfl rfl) rfl ?_; clear hA a; intro a hA
 refine S.val hA (R.move rfl) rfl ?_; clear hA a; intro a hA
 refine S.val hA (R.mulI rfl rfl (r := 0) rfl (by omega)) rfl ?_; clear hA a; intro a hA
 refine S.val hA (R.subI rfl rfl (r := (max ((n : Int)) 0) - 0) rfl (by omega)) rfl ?_; clear hA a; intro a hA
 refine S.val hA (R.assign rfl) rfl ?_; clear hA a; intro a hA
 refine S.done ?_
 replace hA : St 29 [(0, _), (2, _), (3, _), (4, _), (5, _), (6, _)] a := hA.sub ((.cons rfl (.cons rfl (.cons rfl (.cons rfl (.cons rfl (.cons rfl .nil)))))))
 refine Ends.block (Ends.seq (Ends.region ?_))
 refine S.val hA (R.move rfl) rfl ?_; clear hA a; intro a hA
 refine S.val hA (R.ff (R.geq rfl rfl) (by omega)) rfl ?_; clear hA a; intro a hA
 refine S.val hA (R.assign rfl) rfl ?_; clear hA a; intro a hA
 refine S.done ?_
 refine Ends.condF hA rfl ?_
 refine Ends.seq (Ends.region ?_)
 refine S.val hA (R.move rfl) rfl ?_; clear hA a; intro a hA
 refine S.val hA (R.tt (R.gtr rfl rfl) (by omega)) rfl ?_; clear hA a; intro a hA
 refine S.val hA (R.assign rfl) rfl ?_; clear hA a; intro a hA
 refine S.done ?_
 replace hA : St 29 [(0, _), (2, _), (3, _), (4, _), (5, _), (6, _), (19, _)] a := hA.sub ((.cons rfl (.cons rfl (.cons rfl (.cons rfl (.cons rfl (.cons rfl (.cons rfl .nil))))))))
 refine Ends.condT hA rfl ?_
 refine Ends.region ?_
 refine S.val hA (R.move rfl) rfl ?_; clear hA a; intro a hA
 refine S.val hA (R.move rfl) rfl ?_; clear hA a; intro a hA
 refine S.val hA (R.shl rfl rfl (by omega)) rfl ?_; clear hA a; intro a hA
 refine S.val hA (R.sub rfl rfl) rfl ?_; clear hA a; intro a hA
 refine S.val hA (R.indexAddrA (q := 0) ar63 rfl rfl (by omega) (rfl)) rfl ?_; clear hA a; intro a hA
 refine S.store (k := 0) hA hM sz45 rfl rfl rfl rfl rfl ?_; clear hM
 intro w3 hM
 replace hM : Mem _ _ [pt b3 #[.int .u64 (IntKind.u64.wrap ((IntKind.u64.wrap (1 * 2 ^ min ((max ((n : Int)) 0) - 0).toNat (IntKind.u64).bits)) - 1)), .int .u64 0] 63, pt b1 #[.int .u64 0, .int .u64 0] 63] _ := hM
 refine S.done ?_
 replace hA : St 29 [(0, _), (2, _), (3, _), (6, _)] a := hA.sub ((.cons rfl (.cons rfl (.cons rfl (.cons rfl .nil)))))
 refine Ends.inBlock (Ends.inBlock (Ends.region ?_))
 refine S.val hA (R.addI rfl rfl (r := 1) rfl (by omega)) rfl ?_; clear hA a; intro a hA
 refine S.val hA (R.move rfl) rfl ?_; clear hA a; intro a hA
 refine S.done ?_
 refine Ends.inLoop ?_
 refine Ends.seq (Ends.region ?_)
 refine S.val hA (R.tt (R.lss rfl rfl) (by first | decide | simp | omega)) rfl ?_; clear hA a; intro a hA
 refine S.done ?_
 refine Ends.seq ?_
 refine Ends.condT hA rfl ?_
 refine Ends.skip (Ends.seq (Ends.block (Ends.seq (Ends.region ?_))))
 refine S.val hA (R.move rfl) rfl ?_; clear hA a; intro a hA
 refine S.val hA (R.assign rfl) rfl ?_; clear hA a; intro a hA
 refine S.done ?_
 refine Ends.seq (Ends.region ?_)
 refine S.val hA (R.move rfl) rfl ?_; clear hA a; intro a hA
 refine S.val hA (R.max rfl rfl) rfl ?_; clear hA a; intro a hA
 refine S.val hA (R.move rfl) rfl ?_; clear hA a; intro a hA
 refine S.val hA (R.mulI rfl rfl (r := 64) rfl (by omega)) rfl ?_; clear hA a; intro a hA
 refine S.val hA (R.subI rfl rfl (r := (max ((n : Int)) 0) - 64) rfl (by omega)) rfl ?_; clear hA a; intro a hA
 refine S.val hA (R.assign rfl) rfl ?_; clear hA a; intro a hA
 refine S.done ?_
 replace hA : St 29 [(0, _), (2, _), (3, _), (4, _), (5, _), (6, _)] a := hA.sub ((.cons rfl (.cons rfl (.cons rfl (.cons rfl (.cons rfl (.cons rfl .nil)))))))
 refine Ends.block (Ends.seq (Ends.region ?_))
 refine S.val hA (R.move rfl) rfl ?_; clear hA a; intro a hA
 refine S.val hA (R.ff (R.geq rfl rfl) (by omega)) rfl ?_; clear hA a; intro a hA
 refine S.val hA (R.assign rfl) rfl ?_; clear hA a; intro a hA
 refine S.done ?_
 refine Ends.condF hA rfl ?_
 refine Ends.seq (Ends.region ?_)
 refine S.val hA (R.move rfl) rfl ?_; clear hA a; intro a hA
 refine S.val hA (R.ff (R.gtr rfl rfl) (by omega)) rfl ?_; clear hA a; intro a hA
 refine S.val hA (R.assign rfl) rfl ?_; clear hA a; intro a hA
 refine S.done ?_
 replace hA : St 29 [(0, _), (2, _), (3, _), (4, _), (5, _), (6, _), (19, _)] a := hA.sub ((.cons rfl (.cons rfl (.cons rfl (.cons rfl (.cons rfl (.cons rfl (.cons rfl .nil))))))))
 refine Ends.condF hA rfl ?_
 refine Ends.skip (Ends.inBlock (Ends.inBlock (Ends.region ?_)))
 refine S.val hA (R.addI rfl rfl (r := 2) rfl (by omega)) rfl ?_; clear hA a; intro a hA
 refine S.val hA (R.move rfl) rfl ?_; clear hA a; intro a hA
 refine S.done ?_
 replace hA : St 29 [(0, _), (2, _), (3, _), (6, _)] a := hA.sub ((.cons rfl (.cons rfl (.cons rfl (.cons rfl .nil)))))
 refine Ends.inLoop ?_
 refine Ends.seq (Ends.region ?_)
 refine S.val hA (R.ff (R.lss rfl rfl) (by first | decide | simp | omega)) rfl ?_; clear hA a; intro a hA
 refine S.done ?_
 refine Ends.seq ?_
 refine Ends.condF hA rfl ?_
 refine Ends.exit rfl ?_
 refine Ends.seq (Ends.region ?_)
 refine S.val hA (R.loadA sz63 rfl (hM.range (k := 0) rfl) rfl) rfl ?_; clear hA a; intro a hA
 refine S.storeA (k := 1) hA hM sz63 rfl rfl rfl rfl rfl rfl ?_; clear hM
 intro w4 hM
 replace hM : Mem _ _ [pt b3 #[.int .u64 (IntKind.u64.wrap ((IntKind.u64.wrap (1 * 2 ^ min ((max ((n : Int)) 0) - 0).toNat (IntKind.u64).bits)) - 1)), .int .u64 0] 63, pt b1 #[.int .u64 (IntKind.u64.wrap ((IntKind.u64.wrap (1 * 2 ^ min ((max ((n : Int)) 0) - 0).toNat (IntKind.u64).bits)) - 1)), .int .u64 0] 63] _ := hM
 refine S.done ?_
 replace hA : St 29 [(2, _)] a := hA.sub ((.cons rfl .nil))
 refine Ends.retC (k := 1) Try.func61 Try.results61 hA hM rfl rfl sz63 rfl ?_
 have e1 : (max (n : Int) 0 - 0).toNat = n := by omega
 rw [e1, full_w (n := n) (by omega)]
 exact ⟨by rw [full_hi (n := n) (by omega)], Mem.trans0 hbs hM.nilL⟩
set_option maxRecDepth 100000 in
set_option maxHeartbeats 400000 in
theorem order08 (ay : Option Addr) (x : List Int) (cy : Nat) (n : Nat) (h1 : 1 ≤ n) (h24 : n ≤ 24) (w : World) (hy : IntSl w (.slice ay x.length cy) x) :
  Calls Try.prog 42 #[.slice ay x.length cy, .int .i64 ((n : Int))] w fun e w' => e = .returned (.bool (decide (permP x n))) ∧ Below w.heap.size w w' := by
 have hbs := Below.refl (B := w.heap.size) w
 have hM := Mem.start w
 refine Calls.of_ends (vs := [.slice ay x.length cy, .int .i64 ((n : Int))]) Try.func42 rfl Try.ntmps42 rfl ?_
 intro a hA
 replace hA : St 16 [(0, _), (1, _)] a := hA
 refine Ends.seq (Ends.region ?_)
 refine S.val hA (R.assign rfl) rfl ?_; clear hA a; intro a hA
 refine S.done ?_
 refine Ends.seq ?_
 refine Ends.cut (fun (a : Act) (wv : World) => St 16 [(4, .bool (decide ((((x.length : Int)) = ((n : Int)) ∧ loW (memF x) = loW (lessF n) ∧ hiW (memF x) = hiW (lessF n)))))] a ∧ Mem w nof [] wv) ?_ (fun k2 hJ => ?_)
 ·
  clear hA hM a; rintro a w1 ⟨hA, hM⟩
  refine Ends.ret1 Try.func42 Try.results42 hA rfl ?_
  have he : ((((x.length : Int)) = ((n : Int)) ∧ loW (memF x) = loW (lessF n) ∧ hiW (memF x) = hiW (lessF n))) ↔ permP x n := by rw [← perm_set (x := x) (n := n) (by omega), set_eq]; exact ⟨fun h => ⟨by omega, h.2⟩, fun h => ⟨by omega, h.2⟩⟩
  exact ⟨congrArg (fun b => Ending.returned (.bool b)) (decide_eq_decide.2 he), Mem.trans0 hbs hM.nilL⟩
 ·
  refine Ends.region ?_
  refine S.val hA (R.move rfl) rfl ?_; clear hA a; intro a hA
  refine S.val hA (R.lenS Try.underlying22 rfl rfl) rfl ?_; clear hA a; intro a hA
  refine S.val hA (R.move rfl) rfl ?_; clear hA a; intro a hA
  refine S.val hA (R.eql rfl rfl) rfl ?_; clear hA a; intro a hA
  refine S.val hA (R.move rfl) rfl ?_; clear hA a; intro a hA
  refine hA.split (d := 9) rfl ?_ ?_
  ·
   clear hA; intro hg1 hA
   refine S.valg (dj := 9) hA (by kernel_rfl) rfl (R.move rfl) rfl ?_; clear hA a; intro a hA
   refine S.callg (dj := 9) hA (by kernel_rfl) rfl (R.callF Try.func60 rfl rfl rfl) rfl (of02 ay x cy _ (hy.mem hM)) ?_; clear hA a
   rintro e w2 ⟨rfl, hb⟩
   replace hM := hM.callB hb; clear hb
   refine ⟨.agg #[.int .u64 (loW (memF x)), .int .u64 (hiW (memF x))], rfl, fun a hA => ?_⟩
   refine S.valg (dj := 9) hA (by kernel_rfl) rfl (R.move rfl) rfl ?_; clear hA a; intro a hA
   refine S.callg (dj := 9) hA (by kernel_rfl) rfl (R.callF Try.func61 rfl rfl rfl) rfl (full02 n (by omega) (by omega) _) ?_; clear hA a
   rintro e w3 ⟨rfl, hb⟩
   replace hM := hM.callB hb; clear hb
   refine ⟨.agg #[.int .u64 (loW (lessF n)), .int .u64 (hiW (lessF n))], rfl, fun a hA => ?_⟩
   refine S.valg (dj := 9) hA (by kernel_rfl) rfl (R.eqlS (b := decide (loW (memF x) = loW (lessF n) ∧ hiW (memF x) = hiW (lessF n))) Try.eqGuardType63 (fun w => eq_set _ _ _ _ w) rfl rfl) rfl ?_; clear hA a; intro a hA
   refine S.val hA (R.pickT rfl rfl) rfl ?_; clear hA a; intro a hA
   refine S.val hA (R.assign rfl) rfl ?_; clear hA a; intro a hA
   refine S.done ?_
   replace hA : St 16 [(4, _)] a := hA.sub ((.cons rfl .nil))
   exact hJ _ _ ⟨hA.sub (.cons (by first | rfl | exact congrArg (fun b => some (Value.bool b)) (by first | exact decide_eq_decide.2 (by omega) | exact or_bool (by omega) | exact and_bool (by omega) | (simp; done) | (simp [hg1]; done) | (have h80 := hg1; (try simp at h80); simp [h80]; done) | exact (decide_eq_false (fun h9 => hg1 h9.1)).symm)) .nil), hM⟩
  ·
   clear hA; intro hg1 hA
   refine S.no (dj := 9) hA (by kernel_rfl) rfl rfl rfl ?_; clear hA a; intro a hA
   refine S.no (dj := 9) hA (by kernel_rfl) rfl rfl rfl ?_; clear hA a; intro a hA
   refine S.no (dj := 9) hA (by kernel_rfl) rfl rfl rfl ?_; clear hA a; intro a hA
   refine S.no (dj := 9) hA (by kernel_rfl) rfl rfl rfl ?_; clear hA a; intro a hA
   refine S.no (dj := 9) hA (by kernel_rfl) rfl rfl rfl ?_; clear hA a; intro a hA
   refine S.val hA (R.pickF rfl rfl) rfl ?_; clear hA a; intro a hA
   refine S.val hA (R.assign rfl) rfl ?_; clear hA a; intro a hA
   refine S.done ?_
   replace hA : St 16 [(4, _)] a := hA.sub ((.cons rfl .nil))
   exact hJ _ _ ⟨hA.sub (.cons (by first | rfl | exact congrArg (fun b => some (Value.bool b)) (by first | exact decide_eq_decide.2 (by omega) | exact or_bool (by omega) | exact and_bool (by omega) | (simp; done) | (simp [hg1]; done) | (have h80 := hg1; (try simp at h80); simp [h80]; done) | exact (decide_eq_false (fun h9 => hg1 h9.1)).symm)) .nil), hM⟩
set_option maxRecDepth 100000 in
set_option maxHeartbeats 400000 in
theorem knap08 (i : Ins) (ax3 : Option Addr) (cx3 : Nat) (ax4 : Option Addr) (cx4 : Nat) (ax5 : Option Addr) (cx5 : Nat) (ay : Option Addr) (x : List Int) (cy : Nat) (hF : InF i) (hk1 : i.kind = 1) (w : World) (hx3 : IntSl w (.slice ax3 i.wt.length cx3) i.wt) (hx4 : IntSl w (.slice ax4 i.vl.length cx4) i.vl) (hx5 : RowsV w (.slice ax5 i.cost.length cx5) i.cost) (hy : IntSl w (.slice ay x.length cy) x) :
  Calls Try.prog 41 #[.agg #[.int .i64 i.kind, .int .i64 i.n, .int .i64 i.cap, .slice ax3 i.wt.length cx3, .slice ax4 i.vl.length cx4, .slice ax5 i.cost.length cx5], .slice ay x.length cy] w fun e w' => e = .returned (.tuple #[.int .i64 (knpI i x).1, .int .i64 (knpI i x).2]) ∧ Below w.heap.size w w' := by
 have hbs := Below.refl (B := w.heap.size) w
 have f2 := hF.n1
 have f3 := hF.n64
 have f5 := hF.wt
 have f6 := hF.vl
 rw [if_pos hk1] at f5 f6
 have hlx := hy.lenB
 have hM := Mem.start w
 refine Calls.of_ends (vs := [.agg #[.int .i64 i.kind, .int .i64 i.n, .int .i64 i.cap, .slice ax3 i.wt.length cx3, .slice ax4 i.vl.length cx4, .slice ax5 i.cost.length cx5], .slice ay x.length cy]) Try.func41 rfl Try.ntmps41 rfl ?_
 intro a hA
 replace hA : St 47 [(0, _), (1, _)] a := hA
 refine Ends.seq (Ends.region ?_)
 refine S.box hA hM rfl rfl ?_; clear hA hM a; intro b1 w1 hb2 hM a hA
 replace hM : Mem _ _ [pt b1 #[.int .i64 i.kind, .int .i64 i.n, .int .i64 i.cap, .slice ax3 i.wt.length cx3, .slice ax4 i.vl.length cx4, .slice ax5 i.cost.length cx5] 25] _ := hM
 refine S.val hA (R.assign rfl) rfl ?_; clear hA a; intro a hA
 refine S.val hA (R.assign rfl) rfl ?_; clear hA a; intro a hA
 refine S.done ?_
 refine Ends.seq (Ends.seq (Ends.region ?_))
 refine S.val hA (R.move rfl) rfl ?_; clear hA a; intro a hA
 refine S.val hA (R.lenS Try.underlying22 rfl rfl) rfl ?_; clear hA a; intro a hA
 refine S.val hA (R.fieldAddr (q := 1) fi25_1 rfl rfl rfl) rfl ?_; clear hA a; intro a hA
 refine S.val hA (R.load sz3 rfl (hM.cell (k := 0) rfl rfl)) rfl ?_; clear hA a; intro a hA
 refine S.val hA (R.neq rfl rfl) rfl ?_; clear hA a; intro a hA
 refine S.done ?_
 replace hA : St 47 [(1, _), (2, _), (14, _)] a := hA.sub ((.cons rfl (.cons rfl (.cons rfl .nil))))
 refine Ends.ite hA rfl (fun hc3 => ?_) (fun hc3 => ?_)
 ·
  refine Ends.seq (Ends.region ?_)
  refine S.val hA (R.assign rfl) rfl ?_; clear hA a; intro a hA
  refine S.val hA (R.assign rfl) rfl ?_; clear hA a; intro a hA
  refine S.done ?_
  refine Ends.ret2 Try.func41 Try.results41 hA rfl rfl ?_
  have he : knpI i x = (0, 1) := if_pos hc3
  exact ⟨by rw [he], Mem.trans0 hbs hM.nilL⟩
 ·
  have hln : (x.length : Int) = i.n := Decidable.not_not.1 hc3
  refine Ends.skip (Ends.seq (Ends.region ?_))
  refine S.val hA (R.assign rfl) rfl ?_; clear hA a; intro a hA
  refine S.val hA (R.assign rfl) rfl ?_; clear hA a; intro a hA
  refine S.done ?_
  refine Ends.seq (Ends.seq (Ends.region ?_))
  refine S.val hA (R.move rfl) rfl ?_; clear hA a; intro a hA
  refine S.val hA (R.lenS Try.underlying22 rfl rfl) rfl ?_; clear hA a; intro a hA
  refine S.val hA (R.move rfl) rfl ?_; clear hA a; intro a hA
  refine S.done ?_
  refine Ends.block ?_
  refine Ends.loop (σ := Nat) (fun k (a : Act) (wv : World) => St 47 [(2, .pointer (some ⟨b1, 0, none⟩)), (6, .int .i64 (sumF (wtF i x) k)), (7, .int .i64 (sumF (vlF i x) k)), (15, .slice ay x.length cy), (16, .int .i64 ((x.length : Int))), (17, .int .i64 ((k : Int)))] a ∧ Mem w nof [pt b1 #[.int .i64 i.kind, .int .i64 i.n, .int .i64 i.cap, .slice ax3 i.wt.length cx3, .slice ax4 i.vl.length cx4, .slice ax5 i.cost.length cx5] 25] wv ∧ (k ≤ x.length) ∧ (∀ q, q < k → x.getD q 0 = 0 ∨ x.getD q 0 = 1)) (fun k => x.length - k) 0 ⟨hA.sub ((.cons rfl (.cons rfl (.cons rfl (.cons rfl (.cons rfl (.cons rfl .nil))))))), hM, (Nat.zero_le _), (fun q h => absurd h (Nat.not_lt_zero q))⟩ ?_
  clear hA hM a
  rintro k a w2 ⟨hA, hM, hk, hbit⟩ hNext
  refine Ends.seq (Ends.region ?_)
  refine S.val hA (R.lss rfl rfl) rfl ?_; clear hA a; intro a hA
  refine S.done ?_
  refine Ends.seq ?_
  refine Ends.ite hA rfl (fun hc4 => ?_) (fun hc4 => ?_)
  ·
   have g1 := hF.wtr k
   have g2 := hF.vlr k
   have s1 := wtF_bd hF x k (by omega)
   have s2 := vlF_bd hF x k (by omega)
   refine Ends.skip (Ends.seq (Ends.block (Ends.seq (Ends.region ?_))))
   refine S.val hA (R.move rfl) rfl ?_; clear hA a; intro a hA
   refine S.val hA (R.idxI hy (j := k) sl22 rfl rfl (by omega) (rfl)) rfl ?_; clear hA a; intro a hA
   refine S.val hA (R.loadI (hy.mem hM) sz3 rfl (by omega)) rfl ?_; clear hA a; intro a hA
   refine S.val hA (R.assign rfl) rfl ?_; clear hA a; intro a hA
   refine S.val hA (R.assign rfl) rfl ?_; clear hA a; intro a hA
   refine S.done ?_
   replace hA : St 47 [(2, _), (6, _), (7, _), (8, _), (9, _), (15, _), (16, _), (17, _)] a := hA.sub ((.cons rfl (.cons rfl (.cons rfl (.cons rfl (.cons rfl (.cons rfl (.cons rfl (.cons rfl .nil)))))))))
   refine Ends.seq (Ends.region ?_)
   refine S.val hA (R.move rfl) rfl ?_; clear hA a; intro a hA
   refine S.done ?_
   refine Ends.block (Ends.seq (Ends.region ?_))
   refine S.val hA (R.eql rfl rfl) rfl ?_; clear hA a; intro a hA
   refine S.val hA (R.assign rfl) rfl ?_; clear hA a; intro a hA
   refine S.done ?_
   refine Ends.ite hA rfl (fun hc5 => ?_) (fun hc5 => ?_)
   ·
    refine Ends.region ?_
    refine S.val hA (R.move rfl) rfl ?_; clear hA a; intro a hA
    refine S.val hA (R.fieldAddr (q := 3) fi25_3 rfl rfl rfl) rfl ?_; clear hA a; intro a hA
    refine S.val hA (R.load sz22 rfl (hM.cell (k := 0) rfl rfl)) rfl ?_; clear hA a; intro a hA
    refine S.val hA (R.move rfl) rfl ?_; clear hA a; intro a hA
    refine S.val hA (R.idxI hx3 (j := k) sl22 rfl rfl (by omega) (rfl)) rfl ?_; clear hA a; intro a hA
    refine S.val hA (R.loadI (hx3.mem hM) sz3 rfl (by omega)) rfl ?_; clear hA a; intro a hA
    refine S.val hA (R.addI rfl rfl (r := (sumF (wtF i x) k) + (i.wt.getD k 0)) rfl (by omega)) rfl ?_; clear hA a; intro a hA
    refine S.val hA (R.assign rfl) rfl ?_; clear hA a; intro a hA
    refine S.done ?_
    replace hA : St 47 [(2, _), (6, _), (7, _), (15, _), (16, _), (17, _)] a := hA.sub ((.cons rfl (.cons rfl (.cons rfl (.cons rfl (.cons rfl (.cons rfl .nil)))))))
    refine Ends.inBlock (Ends.inBlock (Ends.region ?_))
    refine S.val hA (R.addI rfl rfl (r := ((k : Int)) + 1) rfl (by omega)) rfl ?_; clear hA a; intro a hA
    refine S.val hA (R.move rfl) rfl ?_; clear hA a; intro a hA
    refine S.done ?_
    have hw9 : sumF (wtF i x) (k + 1) = (sumF (wtF i x) k) + (i.wt.getD k 0) := by simp only [sumF, wtF]; rw [if_pos hc5]
    have hv9 : sumF (vlF i x) (k + 1) = sumF (vlF i x) k := by simp only [sumF, vlF]; rw [if_pos hc5]; omega
    rw [← hw9, ← hv9] at hA
    exact hNext ((k + 1)) _ _ ((by show x.length - (k + 1) < x.length - k; omega)) ⟨hA.sub ((.cons rfl (.cons rfl (.cons rfl (.cons rfl (.cons rfl (.cons rfl .nil))))))), hM, (by omega), (fun q hq => by rcases Nat.lt_succ_iff_lt_or_eq.1 hq with g | g; exact hbit q g; rw [g]; exact .inr hc5)⟩
   ·
    refine Ends.seq (Ends.region ?_)
    refine S.val hA (R.eql rfl rfl) rfl ?_; clear hA a; intro a hA
    refine S.val hA (R.assign rfl) rfl ?_; clear hA a; intro a hA
    refine S.done ?_
    replace hA : St 47 [(2, _), (6, _), (7, _), (8, _), (15, _), (16, _), (17, _), (32, _)] a := hA.sub ((.cons rfl (.cons rfl (.cons rfl (.cons rfl (.cons rfl (.cons rfl (.cons rfl (.cons rfl .nil)))))))))
    refine Ends.ite hA rfl (fun hc6 => ?_) (fun hc6 => ?_)
    ·
     refine Ends.region ?_
     refine S.val hA (R.move rfl) rfl ?_; clear hA a; intro a hA
     refine S.val hA (R.fieldAddr (q := 4) fi25_4 rfl rfl rfl) rfl ?_; clear hA a; intro a hA
     refine S.val hA (R.load sz22 rfl (hM.cell (k := 0) rfl rfl)) rfl ?_; clear hA a; intro a hA
     refine S.val hA (R.move rfl) rfl ?_; clear hA a; intro a hA
     refine S.val hA (R.idxI hx4 (j := k) sl22 rfl rfl (by omega) (rfl)) rfl ?_; clear hA a; intro a hA
     refine S.val hA (R.loadI (hx4.mem hM) sz3 rfl (by omega)) rfl ?_; clear hA a; intro a hA
     refine S.val hA (R.addI rfl rfl (r := (sumF (vlF i x) k) + (i.vl.getD k 0)) rfl (by omega)) rfl ?_; clear hA a; intro a hA
     refine S.val hA (R.assign rfl) rfl ?_; clear hA a; intro a hA
     refine S.done ?_
     replace hA : St 47 [(2, _), (6, _), (7, _), (15, _), (16, _), (17, _)] a := hA.sub ((.cons rfl (.cons rfl (.cons rfl (.cons rfl (.cons rfl (.cons rfl .nil)))))))
     refine Ends.inBlock (Ends.inBlock (Ends.region ?_))
     refine S.val hA (R.addI rfl rfl (r := ((k : Int)) + 1) rfl (by omega)) rfl ?_; clear hA a; intro a hA
     refine S.val hA (R.move rfl) rfl ?_; clear hA a; intro a hA
     refine S.done ?_
     have hw9 : sumF (wtF i x) (k + 1) = sumF (wtF i x) k := by simp only [sumF, wtF]; rw [if_neg hc5]; omega
     have hv9 : sumF (vlF i x) (k + 1) = (sumF (vlF i x) k) + (i.vl.getD k 0) := by simp only [sumF, vlF]; rw [if_neg hc5]
     rw [← hw9, ← hv9] at hA
     exact hNext ((k + 1)) _ _ ((by show x.length - (k + 1) < x.length - k; omega)) ⟨hA.sub ((.cons rfl (.cons rfl (.cons rfl (.cons rfl (.cons rfl (.cons rfl .nil))))))), hM, (by omega), (fun q hq => by rcases Nat.lt_succ_iff_lt_or_eq.1 hq with g | g; exact hbit q g; rw [g]; exact .inl hc6)⟩
    ·
     refine Ends.seq (Ends.region ?_)
     refine S.val hA (R.assign rfl) rfl ?_; clear hA a; intro a hA
     refine S.val hA (R.assign rfl) rfl ?_; clear hA a; intro a hA
     refine S.done ?_
     refine Ends.ret2 Try.func41 Try.results41 hA rfl rfl ?_
     have he : knpI i x = (0, 1) := by unfold knpI; rw [if_neg (not_not_intro hln), if_pos (fun hb9 => by have h9 := hb9 k (by omega); rcases h9 with h9 | h9; exact hc6 h9; exact hc5 h9)]
     exact ⟨by rw [he], Mem.trans0 hbs hM.nilL⟩
  ·
   have hke : k = x.length := by omega
   refine Ends.exit rfl ?_
   replace hA : St 47 [(2, _), (6, _), (7, _)] a := hA.sub ((.cons rfl (.cons rfl (.cons rfl .nil))))
   refine Ends.seq (Ends.seq (Ends.region ?_))
   refine S.val hA (R.move rfl) rfl ?_; clear hA a; intro a hA
   refine S.val hA (R.fieldAddr (q := 2) fi25_2 rfl rfl rfl) rfl ?_; clear hA a; intro a hA
   refine S.val hA (R.load sz3 rfl (hM.cell (k := 0) rfl rfl)) rfl ?_; clear hA a; intro a hA
   refine S.val hA (R.gtr rfl rfl) rfl ?_; clear hA a; intro a hA
   refine S.done ?_
   replace hA : St 47 [(7, _), (45, _)] a := hA.sub ((.cons rfl (.cons rfl .nil)))
   refine Ends.ite hA rfl (fun hc7 => ?_) (fun hc7 => ?_)
   ·
    refine Ends.seq (Ends.region ?_)
    refine S.val hA (R.assign rfl) rfl ?_; clear hA a; intro a hA
    refine S.val hA (R.assign rfl) rfl ?_; clear hA a; intro a hA
    refine S.done ?_
    refine Ends.ret2 Try.func41 Try.results41 hA rfl rfl ?_
    rw [hke] at hbit
    replace hbit : bitP x x.length := hbit
    have hf9 := hc7
    rw [hke] at hf9
    have he : knpI i x = (0, 9) := by unfold knpI; rw [if_neg (not_not_intro hln), if_neg (not_not_intro hbit), if_pos hf9]
    exact ⟨by rw [he], Mem.trans0 hbs hM.nilL⟩
   ·
    refine Ends.skip (Ends.seq (Ends.region ?_))
    refine S.val hA (R.move rfl) rfl ?_; clear hA a; intro a hA
    refine S.val hA (R.assign rfl) rfl ?_; clear hA a; intro a hA
    refine S.val hA (R.assign rfl) rfl ?_; clear hA a; intro a hA
    refine S.done ?_
    refine Ends.ret2 Try.func41 Try.results41 hA rfl rfl ?_
    rw [hke] at hbit
    replace hbit : bitP x x.length := hbit
    have hf9 := hc7
    rw [hke] at hf9
    have he : knpI i x = (sumF (vlF i x) x.length, 0) := by unfold knpI; rw [if_neg (not_not_intro hln), if_neg (not_not_intro hbit), if_neg hf9]
    exact ⟨by rw [he, hke], Mem.trans0 hbs hM.nilL⟩
set_option maxRecDepth 100000 in
set_option maxHeartbeats 400000 in
theorem cost08 (i : Ins) (ax3 : Option Addr) (cx3 : Nat) (ax4 : Option Addr) (cx4 : Nat) (ax5 : Option Addr) (cx5 : Nat) (ay : Option Addr) (x : List Int) (cy : Nat) (hsm : i.wt.length ≤ 1000000 ∧ i.vl.length ≤ 1000000) (w : World) (hx3 : IntSl w (.slice ax3 i.wt.length cx3) i.wt) (hx4 : IntSl w (.slice ax4 i.vl.length cx4) i.vl) (hx5 : RowsV w (.slice ax5 i.cost.length cx5) i.cost) (hy : IntSl w (.slice ay x.length cy) x) :
  Calls Try.prog 17 #[.agg #[.int .i64 i.kind, .int .i64 i.n, .int .i64 i.cap, .slice ax3 i.wt.length cx3, .slice ax4 i.vl.length cx4, .slice ax5 i.cost.length cx5], .slice ay x.length cy] w fun e w' => e = .returned (.tuple #[.int .i64 (costI i x).1, .int .i64 (costI i x).2]) ∧ Below w.heap.size w w' := by
 have hbs := Below.refl (B := w.heap.size) w
 have hM := Mem.start w
 refine Calls.of_ends (vs := [.agg #[.int .i64 i.kind, .int .i64 i.n, .int .i64 i.cap, .slice ax3 i.wt.length cx3, .slice ax4 i.vl.length cx4, .slice ax5 i.cost.length cx5], .slice ay x.length cy]) Try.func17 rfl Try.ntmps17 rfl ?_
 intro a hA
 replace hA : St 81 [(0, _), (1, _)] a := hA
 refine Ends.seq (Ends.region ?_)
 refine S.box hA hM rfl rfl ?_; clear hA hM a; intro b1 w1 hb2 hM a hA
 replace hM : Mem _ _ [pt b1 #[.int .i64 i.kind, .int .i64 i.n, .int .i64 i.cap, .slice ax3 i.wt.length cx3, .slice ax4 i.vl.length cx4, .slice ax5 i.cost.length cx5] 25] _ := hM
 refine S.val hA (R.assign rfl) rfl ?_; clear hA a; intro a hA
 refine S.val hA (R.assign rfl) rfl ?_; clear hA a; intro a hA
 refine S.done ?_
 refine Ends.seq (Ends.region ?_)
 refine S.val hA (R.loadA sz25 rfl (hM.range (k := 0) rfl) rfl) rfl ?_; clear hA a; intro a hA
 refine S.call hA (R.callF Try.func35 rfl rfl rfl) rfl (check05 i ax3 cx3 ax4 cx4 ax5 cx5 hsm _ (hx3.mem hM) (hx4.mem hM) (hx5.mem hM)) ?_; clear hA a
 rintro e w2 ⟨rfl, hb⟩
 replace hM := hM.callB hb; clear hb
 refine ⟨.int .i64 (chk i), rfl, fun a hA => ?_⟩
 refine S.val hA (R.assign rfl) rfl ?_; clear hA a; intro a hA
 refine S.done ?_
 replace hA : St 81 [(1, _), (2, _), (6, _)] a := hA.sub ((.cons rfl (.cons rfl (.cons rfl .nil))))
 refine Ends.seq (Ends.block (Ends.seq (Ends.region ?_)))
 refine S.val hA (R.move rfl) rfl ?_; clear hA a; intro a hA
 refine S.val hA (R.neq rfl rfl) rfl ?_; clear hA a; intro a hA
 refine S.val hA (R.assign rfl) rfl ?_; clear hA a; intro a hA
 refine S.done ?_
 refine Ends.ite hA rfl (fun hc3 => ?_) (fun hc3 => ?_)
 ·
  refine Ends.seq (Ends.region ?_)
  refine S.val hA (R.move rfl) rfl ?_; clear hA a; intro a hA
  refine S.val hA (R.assign rfl) rfl ?_; clear hA a; intro a hA
  refine S.val hA (R.assign rfl) rfl ?_; clear hA a; intro a hA
  refine S.done ?_
  replace hA : St 81 [(1, _), (2, _), (4, _), (5, _)] a := hA.sub ((.cons rfl (.cons rfl (.cons rfl (.cons rfl .nil)))))
  refine Ends.ret2 Try.func17 Try.results17 hA rfl rfl ?_
  have he : costI i x = (0, chk i) := if_pos hc3
  exact ⟨by rw [he], Mem.trans0 hbs hM.nilL⟩
 ·
  have hz : chk i = 0 := Decidable.not_not.1 hc3
  have hF := chk_inF hz
  have f2 := hF.n1
  have f3 := hF.n64
  have hlx := hy.lenB
  refine Ends.seq (Ends.region ?_)
  refine S.val hA (R.fieldAddr (q := 0) fi25_0 rfl rfl rfl) rfl ?_; clear hA a; intro a hA
  refine S.val hA (R.load sz3 rfl (hM.cell (k := 0) rfl rfl)) rfl ?_; clear hA a; intro a hA
  refine S.val hA (R.eql rfl rfl) rfl ?_; clear hA a; intro a hA
  refine S.val hA (R.assign rfl) rfl ?_; clear hA a; intro a hA
  refine S.done ?_
  replace hA : St 81 [(1, _), (2, _), (16, _)] a := hA.sub ((.cons rfl (.cons rfl (.cons rfl .nil))))
  refine Ends.ite hA rfl (fun hc4 => ?_) (fun hc4 => ?_)
  ·
   have hkn := hc4
   refine Ends.seq (Ends.region ?_)
   refine S.val hA (R.loadA sz25 rfl (hM.range (k := 0) rfl) rfl) rfl ?_; clear hA a; intro a hA
   refine S.val hA (R.move rfl) rfl ?_; clear hA a; intro a hA
   refine S.call hA (R.callF Try.func41 rfl rfl rfl) rfl (knap08 i ax3 cx3 ax4 cx4 ax5 cx5 ay x cy hF hkn _ (hx3.mem hM) (hx4.mem hM) (hx5.mem hM) (hy.mem hM)) ?_; clear hA a
   rintro e w3 ⟨rfl, hb⟩
   replace hM := hM.callB hb; clear hb
   refine ⟨.tuple #[.int .i64 ((knpI i x).1), .int .i64 ((knpI i x).2)], rfl, fun a hA => ?_⟩
   refine S.val hA (R.extract (v := .int .i64 ((knpI i x).1)) rfl rfl) rfl ?_; clear hA a; intro a hA
   refine S.val hA (R.extract (v := .int .i64 ((knpI i x).2)) rfl rfl) rfl ?_; clear hA a; intro a hA
   refine S.val hA (R.assign rfl) rfl ?_; clear hA a; intro a hA
   refine S.val hA (R.assign rfl) rfl ?_; clear hA a; intro a hA
   refine S.done ?_
   replace hA : St 81 [(1, _), (2, _), (4, _), (5, _)] a := hA.sub ((.cons rfl (.cons rfl (.cons rfl (.cons rfl .nil)))))
   refine Ends.ret2 Try.func17 Try.results17 hA rfl rfl ?_
   have he : costI i x = knpI i x := by unfold costI; rw [if_neg (not_not_intro hz), if_pos hkn]
   exact ⟨by rw [he], Mem.trans0 hbs hM.nilL⟩
  ·
   have hkn := hc4
   have f4 := hF.n24 hkn
   have f7 := hF.cost
   rw [if_neg hkn] at f7
   obtain ⟨n, hn⟩ : ∃ n : Nat, i.n = (n : Int) := ⟨i.n.toNat, by omega⟩
   have hnt : i.n.toNat = n := by omega
   rw [hn] at hM
   replace hM : Mem _ _ [pt b1 #[.int .i64 i.kind, .int .i64 ((n : Int)), .int .i64 i.cap, .slice ax3 i.wt.length cx3, .slice ax4 i.vl.length cx4, .slice ax5 i.cost.length cx5] 25] _ := hM
   refine Ends.seq ?_
   refine Ends.cut (fun (a : Act) (wv : World) => St 81 [(1, .slice ay x.length cy), (2, .pointer (some ⟨b1, 0, none⟩)), (25, .bool (decide ((¬ (permP x n) ∨ (i.kind = 3 ∧ (x.getD 0 0) ≠ 0)))))] a ∧ Mem w nof [pt b1 #[.int .i64 i.kind, .int .i64 ((n : Int)), .int .i64 i.cap, .slice ax3 i.wt.length cx3, .slice ax4 i.vl.length cx4, .slice ax5 i.cost.length cx5] 25] wv) ?_ (fun k2 hJ => ?_)
   ·
    clear hA hM a; rintro a w4 ⟨hA, hM⟩
    refine Ends.ite hA rfl (fun hc5 => ?_) (fun hc5 => ?_)
    ·
     refine Ends.seq (Ends.region ?_)
     refine S.val hA (R.assign rfl) rfl ?_; clear hA a; intro a hA
     refine S.val hA (R.assign rfl) rfl ?_; clear hA a; intro a hA
     refine S.done ?_
     refine Ends.ret2 Try.func17 Try.results17 hA rfl rfl ?_
     have hno : ¬ ordP i x := fun h9 => by have h8 := h9.1; rw [hnt] at h8; rcases hc5 with g | g; exact g h8; exact g.2 (h9.2 g.1)
     have he : costI i x = (0, 1) := by unfold costI; rw [if_neg (not_not_intro hz), if_neg hkn, if_pos hno]
     exact ⟨by rw [he], Mem.trans0 hbs hM.nilL⟩
    ·
     have hp : permP x n := Classical.byContradiction fun h9 => hc5 (.inl h9)
     have ho : ordP i x := ⟨by rw [hnt]; exact hp, fun h3 => Classical.byContradiction fun h9 => hc5 (.inr ⟨h3, h9⟩)⟩
     have hlp := hp.1
     refine Ends.skip (Ends.inBlock (Ends.seq (Ends.region ?_)))
     refine S.val hA (R.assign rfl) rfl ?_; clear hA a; intro a hA
     refine S.done ?_
     refine Ends.seq (Ends.seq (Ends.region ?_))
     refine S.val hA (R.move rfl) rfl ?_; clear hA a; intro a hA
     refine S.val hA (R.lenS Try.underlying22 rfl rfl) rfl ?_; clear hA a; intro a hA
     refine S.val hA (R.move rfl) rfl ?_; clear hA a; intro a hA
     refine S.done ?_
     refine Ends.block ?_
     refine Ends.loop (σ := Nat) (fun k (a : Act) (wv : World) => St 81 [(1, .slice ay x.length cy), (2, .pointer (some ⟨b1, 0, none⟩)), (7, .int .i64 (sumF (stp i x) k)), (42, .slice ay x.length cy), (43, .int .i64 ((x.length : Int))), (44, .int .i64 ((k : Int)))] a ∧ Mem w nof [pt b1 #[.int .i64 i.kind, .int .i64 ((n : Int)), .int .i64 i.cap, .slice ax3 i.wt.length cx3, .slice ax4 i.vl.length cx4, .slice ax5 i.cost.length cx5] 25] wv ∧ (k ≤ x.length)) (fun k => x.length - k) 0 ⟨hA.sub ((.cons rfl (.cons rfl (.cons rfl (.cons rfl (.cons rfl (.cons rfl .nil))))))), hM, (Nat.zero_le _)⟩ ?_
     clear hA hM a
     rintro k a w5 ⟨hA, hM, hk⟩ hNext
     refine Ends.seq (Ends.region ?_)
     refine S.val hA (R.lss rfl rfl) rfl ?_; clear hA a; intro a hA
     refine S.done ?_
     refine Ends.seq ?_
     refine Ends.ite hA rfl (fun hc6 => ?_) (fun hc6 => ?_)
     ·
      have hkl : k < n := by omega
      have s1 := stp_bd hF x k (by omega)
      have p1 := hp.at_ hkl
      have hrw := hF.row
      have g1 := hF.row k (by omega)
      have g2 := hF.row (x.getD k 0).toNat (by omega)
      have hml := Nat.mod_lt (k + 1) (show 0 < n by omega)
      have p2 := hp.at_ hml
      have hmod : ((k : Int) + 1) % (n : Int) = (((k + 1) % n : Nat) : Int) := by push_cast; rfl
      have d1 := cl2_bd hF k (x.getD k 0)
      have d2 := cl2_bd hF (x.getD k 0) (x.getD ((k + 1) % n) 0)
      have e1 : cl2 i k (x.getD k 0) = (i.cost.getD k []).getD (x.getD k 0).toNat 0 := rfl
      have e2 : cl2 i (x.getD k 0) (x.getD ((k + 1) % n) 0) = (i.cost.getD (x.getD k 0).toNat []).getD (x.getD ((k + 1) % n) 0).toNat 0 := rfl
      refine Ends.skip (Ends.seq (Ends.block (Ends.seq (Ends.region ?_))))
      refine S.val hA (R.move rfl) rfl ?_; clear hA a; intro a hA
      refine S.val hA (R.idxI hy (j := k) sl22 rfl rfl (by first | omega | exact hmod | (rw [hmod]; omega) | (have h9 := Decidable.not_not.1 ‹¬ ¬ permP x n›; have h8 := h9.1; omega)) (rfl)) rfl ?_; clear hA a; intro a hA
      refine S.val hA (R.loadI (hy.mem hM) sz3 rfl (by first | omega | exact hmod | (rw [hmod]; omega) | (have h9 := Decidable.not_not.1 ‹¬ ¬ permP x n›; have h8 := h9.1; omega))) rfl ?_; clear hA a; intro a hA
      refine S.val hA (R.assign rfl) rfl ?_; clear hA a; intro a hA
      refine S.val hA (R.assign rfl) rfl ?_; clear hA a; intro a hA
      refine S.done ?_
      replace hA : St 81 [(1, _), (2, _), (7, _), (8, _), (9, _), (42, _), (43, _), (44, _)] a := hA.sub ((.cons rfl (.cons rfl (.cons rfl (.cons rfl (.cons rfl (.cons rfl (.cons rfl (.cons rfl .nil)))))))))
      refine Ends.seq (Ends.seq (Ends.region ?_))
      refine S.val hA (R.fieldAddr (q := 0) fi25_0 rfl rfl rfl) rfl ?_; clear hA a; intro a hA
      refine S.val hA (R.load sz3 rfl (hM.cell (k := 0) rfl rfl)) rfl ?_; clear hA a; intro a hA
      refine S.val hA (R.eql rfl rfl) rfl ?_; clear hA a; intro a hA
      refine S.done ?_
      refine Ends.ite hA rfl (fun hc7 => ?_) (fun hc7 => ?_)
      ·
       refine Ends.seq (Ends.region ?_)
       refine S.val hA (R.move rfl) rfl ?_; clear hA a; intro a hA
       refine S.val hA (R.fieldAddr (q := 5) fi25_5 rfl rfl rfl) rfl ?_; clear hA a; intro a hA
       refine S.val hA (R.load sz23 rfl (hM.cell (k := 0) rfl rfl)) rfl ?_; clear hA a; intro a hA
       refine S.val hA (R.move rfl) rfl ?_; clear hA a; intro a hA
       refine S.val hA (R.idxR hx5 (j := k) sl23 rfl rfl (by first | omega | exact hmod | (rw [hmod]; omega) | (have h9 := Decidable.not_not.1 ‹¬ ¬ permP x n›; have h8 := h9.1; omega)) (by first | omega | exact hmod | (rw [hmod]; omega) | (have h9 := Decidable.not_not.1 ‹¬ ¬ permP x n›; have h8 := h9.1; omega))) rfl ?_; clear hA a; intro a hA
       obtain ⟨ra8, rc9, hrow10, hld11⟩ := hx5.atP (i := k) (by first | omega | exact hmod | (rw [hmod]; omega) | (have h9 := Decidable.not_not.1 ‹¬ ¬ permP x n›; have h8 := h9.1; omega))
       refine S.val hA (hld11 _ _ _ _ _ _ hM sz22 rfl) rfl ?_; clear hA a; intro a hA
       refine S.val hA (R.move rfl) rfl ?_; clear hA a; intro a hA
       refine S.val hA (R.idxI hrow10 (j := (x.getD k 0).toNat) sl22 rfl rfl (by first | omega | exact hmod | (rw [hmod]; omega) | (have h9 := Decidable.not_not.1 ‹¬ ¬ permP x n›; have h8 := h9.1; omega)) (rfl)) rfl ?_; clear hA a; intro a hA
       refine S.val hA (R.loadI (hrow10.mem hM) sz3 rfl (by first | omega | exact hmod | (rw [hmod]; omega) | (have h9 := Decidable.not_not.1 ‹¬ ¬ permP x n›; have h8 := h9.1; omega))) rfl ?_; clear hA a; intro a hA
       refine S.val hA (R.addI rfl rfl (r := (sumF (stp i x) k) + (((i.cost.getD k [])).getD ((x.getD k 0).toNat) 0)) rfl (by first | omega | exact hmod | (rw [hmod]; omega) | (have h9 := Decidable.not_not.1 ‹¬ ¬ permP x n›; have h8 := h9.1; omega))) rfl ?_; clear hA a; intro a hA
       refine S.val hA (R.assign rfl) rfl ?_; clear hA a; intro a hA
       refine S.done ?_
       replace hA : St 81 [(1, _), (2, _), (7, _), (8, _), (9, _), (42, _), (43, _), (44, _)] a := hA.sub ((.cons rfl (.cons rfl (.cons rfl (.cons rfl (.cons rfl (.cons rfl (.cons rfl (.cons rfl .nil)))))))))
       refine Ends.exit rfl ?_
       refine Ends.region ?_
       refine S.val hA (R.addI rfl rfl (r := ((k : Int)) + 1) rfl (by first | omega | exact hmod | (rw [hmod]; omega) | (have h9 := Decidable.not_not.1 ‹¬ ¬ permP x n›; have h8 := h9.1; omega))) rfl ?_; clear hA a; intro a hA
       refine S.val hA (R.move rfl) rfl ?_; clear hA a; intro a hA
       refine S.done ?_
       have hs9 : sumF (stp i x) (k + 1) = (sumF (stp i x) k) + (((i.cost.getD k [])).getD ((x.getD k 0).toNat) 0) := by simp only [sumF, stp]; rw [if_pos hc7]; rfl
       rw [← hs9] at hA
       exact hNext ((k + 1)) _ _ ((by show x.length - (k + 1) < x.length - k; omega)) ⟨hA.sub ((.cons rfl (.cons rfl (.cons rfl (.cons rfl (.cons rfl (.cons rfl .nil))))))), hM, (by omega)⟩
      ·
       refine Ends.skip ?_
       refine Ends.drawn (Mem w nof [pt b1 #[.int .i64 i.kind, .int .i64 ((n : Int)), .int .i64 i.cap, .slice ax3 i.wt.length cx3, .slice ax4 i.vl.length cx4, .slice ax5 i.cost.length cx5] 25]) (.cons (0, true) (.cons (1, true) (.cons (2, true) (.cons (3, true) (.cons (4, true) (.cons (5, true) (.cons (6, true) (.cons (7, true) (.cons (8, true) (.cons (9, true) (.cons (10, true) (.cons (11, true) (.cons (12, true) (.cons (13, true) (.cons (14, true) (.cons (15, true) (.cons (16, true) (.cons (17, true) .nil)))))))))))))))))) 18 mixed (by kernel_rfl) (by kernel_rfl) (by kernel_rfl) hM.drew ?_
       replace hM := hM.drew
       refine D.valF hA rfl (fun _ => R.move rfl) rfl ?_; clear hA a; intro a hA
       refine D.valF hA rfl (fun _ => R.fieldAddr (q := 5) fi25_5 rfl rfl rfl) rfl ?_; clear hA a; intro a hA
       refine D.val hA rfl (by kernel_rfl) (fun _ hM => R.load sz23 rfl (hM.cell (k := 0) rfl rfl)) rfl ?_; clear hA a; intro a hA
       refine D.valF hA rfl (fun _ => R.move rfl) rfl ?_; clear hA a; intro a hA
       refine D.valF hA rfl (fun _ => R.idxR hx5 (j := (x.getD k 0).toNat) sl23 rfl rfl (by first | omega | exact hmod | (rw [hmod]; omega) | (have h9 := Decidable.not_not.1 ‹¬ ¬ permP x n›; have h8 := h9.1; omega)) (rfl)) rfl ?_; clear hA a; intro a hA
       obtain ⟨ra12, rc13, hrow14, hld15⟩ := hx5.atP (i := (x.getD k 0).toNat) (by first | omega | exact hmod | (rw [hmod]; omega) | (have h9 := Decidable.not_not.1 ‹¬ ¬ permP x n›; have h8 := h9.1; omega))
       refine D.val hA rfl (by kernel_rfl) (fun _ hM => hld15 _ _ _ _ _ _ hM sz22 rfl) rfl ?_; clear hA a; intro a hA
       refine D.valF hA rfl (fun _ => R.move rfl) rfl ?_; clear hA a; intro a hA
       refine D.valF hA rfl (fun _ => R.move rfl) rfl ?_; clear hA a; intro a hA
       refine D.valF hA rfl (fun _ => R.addI rfl rfl (r := ((k : Int)) + 1) rfl (by first | omega | exact hmod | (rw [hmod]; omega) | (have h9 := Decidable.not_not.1 ‹¬ ¬ permP x n›; have h8 := h9.1; omega))) rfl ?_; clear hA a; intro a hA
       refine D.valF hA rfl (fun _ => R.fieldAddr (q := 1) fi25_1 rfl rfl rfl) rfl ?_; clear hA a; intro a hA
       refine D.val hA rfl (by kernel_rfl) (fun _ hM => R.load sz3 rfl (hM.cell (k := 0) rfl rfl)) rfl ?_; clear hA a; intro a hA
       refine D.valF hA rfl (fun _ => R.remI rfl rfl (r := (((k + 1) % n : Nat) : Int)) (by first | omega | exact hmod | (rw [hmod]; omega) | (have h9 := Decidable.not_not.1 ‹¬ ¬ permP x n›; have h8 := h9.1; omega)) (by first | omega | exact hmod | (rw [hmod]; omega) | (have h9 := Decidable.not_not.1 ‹¬ ¬ permP x n›; have h8 := h9.1; omega))) rfl ?_; clear hA a; intro a hA
       refine D.valF hA rfl (fun _ => R.idxI hy (j := ((k + 1) % n)) sl22 rfl rfl (by first | omega | exact hmod | (rw [hmod]; omega) | (have h9 := Decidable.not_not.1 ‹¬ ¬ permP x n›; have h8 := h9.1; omega)) (by first | omega | exact hmod | (rw [hmod]; omega) | (have h9 := Decidable.not_not.1 ‹¬ ¬ permP x n›; have h8 := h9.1; omega))) rfl ?_; clear hA a; intro a hA
       refine D.val hA rfl (by kernel_rfl) (fun _ hM => R.loadI (hy.mem hM) sz3 rfl (by first | omega | exact hmod | (rw [hmod]; omega) | (have h9 := Decidable.not_not.1 ‹¬ ¬ permP x n›; have h8 := h9.1; omega))) rfl ?_; clear hA a; intro a hA
       refine D.valF hA rfl (fun _ => R.idxI hrow14 (j := (x.getD (((k + 1) % n)) 0).toNat) sl22 rfl rfl (by first | omega | exact hmod | (rw [hmod]; omega) | (have h9 := Decidable.not_not.1 ‹¬ ¬ permP x n›; have h8 := h9.1; omega)) (rfl)) rfl ?_; clear hA a; intro a hA
       refine D.val hA rfl (by kernel_rfl) (fun _ hM => R.loadI (hrow14.mem hM) sz3 rfl (by first | omega | exact hmod | (rw [hmod]; omega) | (have h9 := Decidable.not_not.1 ‹¬ ¬ permP x n›; have h8 := h9.1; omega))) rfl ?_; clear hA a; intro a hA
       refine D.valF hA rfl (fun _ => R.addI rfl rfl (r := (sumF (stp i x) k) + (((i.cost.getD ((x.getD k 0).toNat) [])).getD ((x.getD (((k + 1) % n)) 0).toNat) 0)) rfl (by first | omega | exact hmod | (rw [hmod]; omega) | (have h9 := Decidable.not_not.1 ‹¬ ¬ permP x n›; have h8 := h9.1; omega))) rfl ?_; clear hA a; intro a hA
       refine D.valF hA rfl (fun _ => R.assign rfl) rfl ?_; clear hA a; intro a hA
       refine D.done ?_
       replace hA : St 81 [(1, _), (2, _), (7, _), (42, _), (43, _), (44, _)] a := hA.sub ((.cons rfl (.cons rfl (.cons rfl (.cons rfl (.cons rfl (.cons rfl .nil)))))))
       refine Ends.inBlock (Ends.region ?_)
       refine S.val hA (R.addI rfl rfl (r := ((k : Int)) + 1) rfl (by first | omega | exact hmod | (rw [hmod]; omega) | (have h9 := Decidable.not_not.1 ‹¬ ¬ permP x n›; have h8 := h9.1; omega))) rfl ?_; clear hA a; intro a hA
       refine S.val hA (R.move rfl) rfl ?_; clear hA a; intro a hA
       refine S.done ?_
       have hs9 : sumF (stp i x) (k + 1) = (sumF (stp i x) k) + (((i.cost.getD ((x.getD k 0).toNat) [])).getD ((x.getD (((k + 1) % n)) 0).toNat) 0) := by simp only [sumF, stp]; rw [if_neg hc7]; rw [hnt]; rfl
       rw [← hs9] at hA
       exact hNext ((k + 1)) _ _ ((by show x.length - (k + 1) < x.length - k; omega)) ⟨hA.sub ((.cons rfl (.cons rfl (.cons rfl (.cons rfl (.cons rfl (.cons rfl .nil))))))), hM, (by omega)⟩
     ·
      have hke : k = i.n.toNat := by omega
      refine Ends.exit rfl ?_
      replace hA : St 81 [(7, _)] a := hA.sub ((.cons rfl .nil))
      refine Ends.seq (Ends.region ?_)
      refine S.val hA (R.move rfl) rfl ?_; clear hA a; intro a hA
      refine S.val hA (R.assign rfl) rfl ?_; clear hA a; intro a hA
      refine S.val hA (R.assign rfl) rfl ?_; clear hA a; intro a hA
      refine S.done ?_
      refine Ends.ret2 Try.func17 Try.results17 hA rfl rfl ?_
      have he : costI i x = (sumF (stp i x) i.n.toNat, 0) := by unfold costI; rw [if_neg (not_not_intro hz), if_neg hkn, if_neg (not_not_intro ho)]
      exact ⟨by rw [he, hke], Mem.trans0 hbs hM.nilL⟩
   ·
    refine Ends.region ?_
    refine S.val hA (R.move rfl) rfl ?_; clear hA a; intro a hA
    refine S.val hA (R.fieldAddr (q := 1) fi25_1 rfl rfl rfl) rfl ?_; clear hA a; intro a hA
    refine S.val hA (R.load sz3 rfl (hM.cell (k := 0) rfl rfl)) rfl ?_; clear hA a; intro a hA
    refine S.call hA (R.callF Try.func42 rfl rfl rfl) rfl (order08 ay x cy n (by omega) (by omega) _ (hy.mem hM)) ?_; clear hA a
    rintro e w6 ⟨rfl, hb⟩
    replace hM := hM.callB hb; clear hb
    refine ⟨.bool (decide (permP x n)), rfl, fun a hA => ?_⟩
    refine S.val hA (R.notD rfl) rfl ?_; clear hA a; intro a hA
    refine S.val hA (R.move rfl) rfl ?_; clear hA a; intro a hA
    refine hA.split (d := 31) rfl ?_ ?_
    ·
     clear hA; intro hg16 hA
     refine S.no (dj := 31) hA (by kernel_rfl) rfl rfl rfl ?_; clear hA a; intro a hA
     refine S.no (dj := 31) hA (by kernel_rfl) rfl rfl rfl ?_; clear hA a; intro a hA
     refine S.no (dj := 31) hA (by kernel_rfl) rfl rfl rfl ?_; clear hA a; intro a hA
     refine S.no (dj := 31) hA (by kernel_rfl) rfl rfl rfl ?_; clear hA a; intro a hA
     refine S.noU (dj := 35) hA (by kernel_rfl) rfl rfl ?_; clear hA a; intro a hA
     refine S.noU (dj := 35) hA (by kernel_rfl) rfl rfl ?_; clear hA a; intro a hA
     refine S.noU (dj := 35) hA (by kernel_rfl) rfl rfl ?_; clear hA a; intro a hA
     refine S.noU (dj := 35) hA (by kernel_rfl) rfl rfl ?_; clear hA a; intro a hA
     refine S.no (dj := 31) hA (by kernel_rfl) rfl rfl rfl ?_; clear hA a; intro a hA
     refine S.val hA (R.pickT rfl rfl) rfl ?_; clear hA a; intro a hA
     refine S.val hA (R.assign rfl) rfl ?_; clear hA a; intro a hA
     refine S.done ?_
     replace hA : St 81 [(1, _), (2, _), (25, _)] a := hA.sub ((.cons rfl (.cons rfl (.cons rfl .nil))))
     exact hJ _ _ ⟨hA.sub (.cons rfl (.cons rfl (.cons (by first | rfl | exact congrArg (fun b => some (Value.bool b)) (by first | exact decide_eq_decide.2 (by omega) | exact or_bool (by omega) | exact and_bool (by omega) | (simp; done) | (simp [hg16]; done) | (have h80 := hg16; (try simp at h80); simp [h80]; done) | exact (decide_eq_false (fun h9 => hg16 h9.1)).symm)) .nil))), hM⟩
    ·
     clear hA; intro hg16 hA
     refine S.valg (dj := 31) hA (by kernel_rfl) rfl (R.fieldAddr (q := 0) fi25_0 rfl rfl rfl) rfl ?_; clear hA a; intro a hA
     refine S.valg (dj := 31) hA (by kernel_rfl) rfl (R.load sz3 rfl (hM.cell (k := 0) rfl rfl)) rfl ?_; clear hA a; intro a hA
     refine S.valg (dj := 31) hA (by kernel_rfl) rfl (R.eql rfl rfl) rfl ?_; clear hA a; intro a hA
     refine S.valg (dj := 31) hA (by kernel_rfl) rfl (R.move rfl) rfl ?_; clear hA a; intro a hA
     refine hA.split (d := 35) rfl ?_ ?_
     ·
      clear hA; intro hg17 hA
      refine S.valg (dj := 35) hA (by kernel_rfl) rfl (R.move rfl) rfl ?_; clear hA a; intro a hA
      refine S.valg (dj := 35) hA (by kernel_rfl) rfl (R.idxI hy (j := 0) sl22 rfl rfl (by first | omega | exact hmod | (rw [hmod]; omega) | (have h9 := Decidable.not_not.1 ‹¬ ¬ permP x n›; have h8 := h9.1; omega)) (rfl)) rfl ?_; clear hA a; intro a hA
      refine S.valg (dj := 35) hA (by kernel_rfl) rfl (R.loadI (hy.mem hM) sz3 rfl (by first | omega | exact hmod | (rw [hmod]; omega) | (have h9 := Decidable.not_not.1 ‹¬ ¬ permP x n›; have h8 := h9.1; omega))) rfl ?_; clear hA a; intro a hA
      refine S.valg (dj := 35) hA (by kernel_rfl) rfl (R.neq rfl rfl) rfl ?_; clear hA a; intro a hA
      refine S.valg (dj := 31) hA (by kernel_rfl) rfl (R.pickT rfl rfl) rfl ?_; clear hA a; intro a hA
      refine S.val hA (R.pickF rfl rfl) rfl ?_; clear hA a; intro a hA
      refine S.val hA (R.assign rfl) rfl ?_; clear hA a; intro a hA
      refine S.done ?_
      replace hA : St 81 [(1, _), (2, _), (25, _)] a := hA.sub ((.cons rfl (.cons rfl (.cons rfl .nil))))
      exact hJ _ _ ⟨hA.sub (.cons rfl (.cons rfl (.cons (by first | rfl | exact congrArg (fun b => some (Value.bool b)) (by first | exact decide_eq_decide.2 (by omega) | exact or_bool (by omega) | exact and_bool (by omega) | (simp; done) | (simp [hg16, hg17]; done) | (have h80 := hg16; (try simp at h80); have h81 := hg17; (try simp at h81); simp [h80, h81]; done) | exact (decide_eq_false (fun h9 => hg16 h9.1)).symm | exact (decide_eq_false (fun h9 => hg17 h9.1)).symm)) .nil))), hM⟩
     ·
      clear hA; intro hg17 hA
      refine S.no (dj := 35) hA (by kernel_rfl) rfl rfl rfl ?_; clear hA a; intro a hA
      refine S.no (dj := 35) hA (by kernel_rfl) rfl rfl rfl ?_; clear hA a; intro a hA
      refine S.no (dj := 35) hA (by kernel_rfl) rfl rfl rfl ?_; clear hA a; intro a hA
      refine S.no (dj := 35) hA (by kernel_rfl) rfl rfl rfl ?_; clear hA a; intro a hA
      refine S.valg (dj := 31) hA (by kernel_rfl) rfl (R.pickF rfl rfl) rfl ?_; clear hA a; intro a hA
      refine S.val hA (R.pickF rfl rfl) rfl ?_; clear hA a; intro a hA
      refine S.val hA (R.assign rfl) rfl ?_; clear hA a; intro a hA
      refine S.done ?_
      replace hA : St 81 [(1, _), (2, _), (25, _)] a := hA.sub ((.cons rfl (.cons rfl (.cons rfl .nil))))
      exact hJ _ _ ⟨hA.sub (.cons rfl (.cons rfl (.cons (by first | rfl | exact congrArg (fun b => some (Value.bool b)) (by first | exact decide_eq_decide.2 (by omega) | exact or_bool (by omega) | exact and_bool (by omega) | (simp; done) | (simp [hg16, hg17]; done) | (have h80 := hg16; (try simp at h80); have h81 := hg17; (try simp at h81); simp [h80, h81]; done) | exact (decide_eq_false (fun h9 => hg16 h9.1)).symm | exact (decide_eq_false (fun h9 => hg17 h9.1)).symm)) .nil))), hM⟩
end Go.Proofs.Ytnikajkklocncaa
namespace Go.Proofs.Ytnikajkklocncaa
theorem perm_isum {l l' : List Int} (h : l.Perm l') : l.sum = l'.sum := by
  induction h with
  | nil => rfl
  | cons a _ ih => rw [List.sum_cons, List.sum_cons, ih]
  | swap a b l => simp only [List.sum_cons]; omega
  | trans _ _ a b => exact a.trans b
theorem sumF_map (x : List Int) (f : Int → Int) : sumF (fun q => f (x.getD q 0)) x.length = (x.map f).sum := by
  rw [← sumF_list (x.map f), List.length_map]
  exact sumF_congr (fun q hq => by simp [List.getD, hq])
theorem permP.perm {x y : List Int} {n : Nat} (h : permP x n) (h' : permP y n) : x.Perm y := by
  refine List.perm_iff_count.2 (fun a => ?_)
  by_cases ha : 0 ≤ a ∧ a < n
  · obtain ⟨k, rfl⟩ : ∃ k : Nat, a = k := ⟨a.toNat, by omega⟩
    rw [h.2 k (by omega), h'.2 k (by omega)]
  · rw [List.count_eq_zero.2 (fun q => ha (h.mem q)), List.count_eq_zero.2 (fun q => ha (h'.mem q))]
def rng (n : Nat) : List Int := (List.range n).map Int.ofNat
theorem rng_len (n : Nat) : (rng n).length = n := by simp [rng]
theorem rng_get {n q : Nat} (h : q < n) : (rng n).getD q 0 = q := by simp [rng, List.getD, h]
theorem rng_perm {n : Nat} (hn : n ≤ 128) : permP (rng n) n := by
  refine (perm_set hn).1 ⟨rng_len n, fun b _ => ?_⟩
  unfold memF lessF
  refine decide_eq_decide.2 ⟨fun h => ?_, fun h => ?_⟩
  · obtain ⟨c, hc, e⟩ := List.mem_map.1 h
    have h1 := List.mem_range.1 hc
    have h2 : (c : Int) = (b : Int) := e
    omega
  · exact List.mem_map.2 ⟨b, List.mem_range.2 h, rfl⟩
theorem perm_sum {x : List Int} {n : Nat} (hn : n ≤ 128) (h : permP x n) (g : Nat → Int) : sumF (fun q => g (x.getD q 0).toNat) n = sumF g n := by
  have h1 := sumF_map x (fun v => g v.toNat)
  have h2 := sumF_map (rng n) (fun v => g v.toNat)
  have h3 := perm_isum ((h.perm (rng_perm hn)).map (fun v => g v.toNat))
  rw [h.1] at h1
  rw [rng_len] at h2
  rw [h1, h3, ← h2]
  exact sumF_congr (fun q hq => by rw [rng_get hq]; rfl)
theorem mat_cell' {n r c : Nat} {g : Nat → Nat → Int} (hr : r < n) (hc : c < n) : ((mat n g).getD r []).getD c 0 = g r c := by
  rw [mat_row hr]; simp [List.getD, hc]
def cel (i : Ins) (r c : Nat) : Int := (i.cost.getD r []).getD c 0
theorem cost_mat {i : Ins} (hF : InF i) (hk : i.kind ≠ 1) : i.cost = mat i.n.toNat (cel i) := by
  have hl := hF.cost
  rw [if_neg hk] at hl
  refine List.ext_getElem (by rw [hl, mat_len]) (fun r h1 h2 => ?_)
  have e1 : i.cost[r] = i.cost.getD r [] := by simp [List.getD, h1]
  have e2 : (mat i.n.toNat (cel i))[r] = (mat i.n.toNat (cel i)).getD r [] := by simp [List.getD, h2]
  rw [e1, e2, mat_row (by omega)]
  have hr := hF.row r h1
  refine List.ext_getElem (by rw [hr]; simp) (fun c g1 g2 => ?_)
  simp only [List.getElem_map, List.getElem_range]
  unfold cel
  rw [List.getD_eq_getElem?_getD (l := i.cost.getD r []), List.getElem?_eq_getElem g1]; rfl
theorem perm_of {x y : List Int} {n : Nat} (h : permP x n) (p : y.Perm x) : permP y n := ⟨by rw [p.length_eq, h.1], fun k hk => by rw [p.count_eq, h.2 k hk]⟩
end Go.Proofs.Ytnikajkklocncaa
namespace Go.Proofs.Ytnikajkklocncaa
open Go.RowKit
theorem costI_chk {i : Ins} {x : List Int} (h : (costI i x).2 = 0) : chk i = 0 := by
  refine Decidable.byContradiction fun g => ?_
  unfold costI at h
  rw [if_pos g] at h
  exact g h
theorem costI_or {i : Ins} {x : List Int} (h : chk i = 0) (hk : ¬ i.kind = 1) : costI i x = if ¬ ordP i x then (0, 1) else (sumF (stp i x) i.n.toNat, 0) := by unfold costI; rw [if_neg (not_not_intro h), if_neg hk]
end Go.Proofs.Ytnikajkklocncaa
namespace Go.Proofs.Ytnikajkklocncaa
def pl (n : Nat) : List Int := (List.range n).map fun (i : Nat) => (i : Int)
theorem pl_len (n : Nat) : (pl n).length = n := by simp [pl]
theorem pl_succ (n : Nat) : pl (n + 1) = pl n ++ [(n : Int)] := by simp [pl, List.range_succ]
theorem mem_pl {n : Nat} {x : Int} : x ∈ pl n ↔ 0 ≤ x ∧ x < n := by
  simp only [pl, List.mem_map, List.mem_range]
  constructor
  · rintro ⟨a, h, rfl⟩; omega
  · intro h; exact ⟨x.toNat, by omega, by omega⟩
theorem pl_pw (n : Nat) : (pl n).Pairwise (· < ·) := by
  rw [pl, List.pairwise_map]
  exact List.pairwise_lt_range.imp fun h => by omega
theorem pl_nodup (n : Nat) : (pl n).Nodup := (pl_pw n).imp fun h => by omega
theorem pl_set (n k : Nat) (h : k < n) : (pl k ++ List.replicate (n - k) 0).set k (k : Int) = pl (k + 1) ++ List.replicate (n - (k + 1)) 0 := by
  rw [List.set_append_right _ _ (by rw [pl_len]; exact Nat.le_refl _), pl_len, Nat.sub_self, show n - k = (n - (k + 1)) + 1 by omega, List.replicate_succ, List.set_cons_zero, pl_succ, List.append_assoc]
  rfl
section
variable (lt : Int → Int → Bool)
def rbo (a b : Int) : Bool := lt a b || (!lt b a && decide (a < b))
end
section
variable {lt : Int → Int → Bool}
variable {A : Int → Prop} (htr : ∀ a b c, A a → A b → A c → rbo lt a b = true → rbo lt b c = true → rbo lt a c = true)
include htr
end
section
variable {rb : Int → Int → Bool}
end
theorem perm_of_nodup : ∀ {l m : List Int}, l.Nodup → l ⊆ m → m.length ≤ l.length → l.Perm m
  | [], m, _, _, h => by rw [List.length_eq_zero_iff.1 (Nat.le_zero.1 h)]
  | x :: l, m, hn, hs, hl => by
    obtain ⟨h1, h2⟩ := List.nodup_cons.1 hn
    have hx : x ∈ m := hs (.head _)
    have hp := List.perm_cons_erase hx
    refine List.Perm.trans (List.Perm.cons x (perm_of_nodup h2 (fun y hy => ?_) ?_)) hp.symm
    · have hy' := hs (.tail _ hy)
      exact (List.mem_erase_of_ne (by rintro rfl; exact h1 hy)).2 hy'
    · rw [List.length_erase_of_mem hx]; simp only [List.length_cons] at hl; omega
def okP (p : List Int) : Bool := decide (p.Nodup ∧ ∀ x ∈ p, 0 ≤ x ∧ x < p.length)
theorem okP_perm {p : List Int} : okP p = true ↔ p.Perm (pl p.length) := by
  rw [okP, decide_eq_true_iff]
  constructor
  · rintro ⟨h1, h2⟩
    have hsub : p ⊆ pl p.length := fun x hx => mem_pl.2 (h2 x hx)
    exact perm_of_nodup h1 hsub (by rw [pl_len]; exact Nat.le_refl _)
  · intro h
    exact ⟨h.nodup_iff.2 (pl_nodup _), fun x hx => mem_pl.1 (h.mem_iff.1 hx)⟩
end Go.Proofs.Ytnikajkklocncaa
namespace Go.Proofs.Ytnikajkklocncaa
def fac : Nat → Nat
  | 0 => 1
  | n + 1 => (n + 1) * fac n
theorem fac_pos : ∀ n, 0 < fac n
  | 0 => Nat.one_pos
  | n + 1 => Nat.mul_pos (Nat.succ_pos n) (fac_pos n)
theorem fac_mono {m n : Nat} (h : m ≤ n) : fac m ≤ fac n := by
  induction h with
  | refl => exact Nat.le_refl _
  | step h ih => exact Nat.le_trans ih (Nat.le_mul_of_pos_left _ (Nat.succ_pos _))
theorem fac_le {n : Nat} (h : n ≤ 20) : fac n ≤ 2432902008176640000 := fac_mono h
theorem fac_dvd {m n : Nat} (h : m ≤ n) : fac m ∣ fac n := by
  induction h with
  | refl => exact Nat.dvd_refl _
  | step h ih => exact Nat.dvd_trans ih (Nat.dvd_mul_left _ _)
def nthL : Nat → List Int → Nat → List Int
  | 0, _, _ => []
  | m + 1, left, r => left.getD (r / fac m) 0 :: nthL m (left.eraseIdx (r / fac m)) (r % fac m)
theorem div_lt {m r : Nat} (h : r < fac (m + 1)) : r / fac m < m + 1 := Nat.div_lt_of_lt_mul (by rw [Nat.mul_comm]; exact h)
theorem nthL_len : ∀ (n : Nat) (left : List Int) (r : Nat), (nthL n left r).length = n
  | 0, _, _ => rfl
  | m + 1, left, r => by rw [nthL, List.length_cons, nthL_len m]
theorem cons_eraseIdx {l : List Int} {d : Nat} (h : d < l.length) : l.Perm (l.getD d 0 :: l.eraseIdx d) := by
  have e : l = l.take d ++ l.getD d 0 :: l.drop (d + 1) := by
    have : l.getD d 0 = l[d] := by simp [List.getD, h]
    rw [this, List.getElem_cons_drop, List.take_append_drop]
  rw [List.eraseIdx_eq_take_drop_succ]
  exact (List.Perm.of_eq e).trans List.perm_middle
theorem nthL_perm : ∀ (n : Nat) (left : List Int) (r : Nat), left.length = n → r < fac n → (nthL n left r).Perm left
  | 0, left, r, h, _ => by rw [List.length_eq_zero_iff.1 h]; exact .nil
  | m + 1, left, r, h, hr => by
    have hd := div_lt hr
    exact (List.Perm.cons _ (nthL_perm m _ _ (by rw [List.length_eraseIdx_of_lt (by omega)]; omega) (Nat.mod_lt _ (fac_pos m)))).trans (cons_eraseIdx (by omega)).symm
end Go.Proofs.Ytnikajkklocncaa
namespace Go.Proofs.Ytnikajkklocncaa
open Go.RowKit
set_option maxRecDepth 100000 in
set_option maxHeartbeats 400000 in
theorem plain_own (n : Int) (hn : 0 ≤ n ∧ n ≤ 1000) (w : World) :
  Calls Try.prog 57 #[.int .i64 n] w fun e w' => ∃ g c, e = .returned (.slice (some ⟨g, 0, none⟩) (pl n.toNat).length c) ∧ Mem w nof [own 3 1 (.slice ((some ⟨g, 0, none⟩)) (((pl n.toNat)).length) c) (((pl n.toNat)).length) (((pl n.toNat)).map (Value.int .i64))] w' := by
 have hbs := Below.refl (B := w.heap.size) w
 have hM := Mem.start w
 refine Calls.of_ends (vs := [.int .i64 n]) Try.func57 rfl Try.ntmps57 rfl ?_
 intro a hA
 replace hA : St 18 [(0, _)] a := hA
 refine Ends.seq (Ends.region ?_)
 refine S.val hA (R.assign rfl) rfl ?_; clear hA a; intro a hA
 refine S.done ?_
 replace hA : St 18 [(0, _)] a := hA.sub ((.cons rfl .nil))
 refine Ends.seq (Ends.region ?_)
 refine S.val hA (R.move rfl) rfl ?_; clear hA a; intro a hA
 refine S.make hA hM Try.underlying22 info3 rfl rfl rfl (by first | omega | (rw [hpl]; omega)) (by show (8 : Int) * _ ≤ _; omega) (by first | omega | (rw [hpl]; omega)) rfl ?_; clear hA hM a; intro b1 w1 hb2 hM a hA
 replace hM : Mem _ _ [pt b1 (madeCells #[.int .i64 0] (n.toNat * 1)) 3] _ := hM
 rw [Nat.mul_one, made_ints] at hM
 replace hM : Mem _ _ [pt b1 ((ints (List.replicate n.toNat 0))) 3] _ := hM
 refine S.val hA (R.assign rfl) rfl ?_; clear hA a; intro a hA
 refine S.done ?_
 replace hA : St 18 [(3, _)] a := hA.sub ((.cons rfl .nil))
 refine Ends.seq (Ends.seq (Ends.region ?_))
 refine S.val hA (R.move rfl) rfl ?_; clear hA a; intro a hA
 refine S.val hA (R.lenS Try.underlying22 rfl rfl) rfl ?_; clear hA a; intro a hA
 refine S.val hA (R.move rfl) rfl ?_; clear hA a; intro a hA
 refine S.done ?_
 replace hA : St 18 [(3, _), (8, _), (9, _)] a := hA.sub ((.cons rfl (.cons rfl (.cons rfl .nil))))
 refine Ends.block ?_
 rw [show List.replicate n.toNat 0 = (pl 0 ++ List.replicate (n.toNat - 0) 0) from rfl] at hM
 refine Ends.loop (σ := Nat) (fun k (a : Act) (wv : World) => St 18 [(3, .slice (some ⟨b1, 0, none⟩) n.toNat n.toNat), (8, .int .i64 ((n.toNat : Int))), (9, .int .i64 ((k : Int)))] a ∧ Mem w nof [pt b1 ((ints (pl k ++ List.replicate (n.toNat - k) 0))) 3] wv ∧ (k ≤ n.toNat)) (fun k => n.toNat - k) 0 ⟨hA.sub ((.cons rfl (.cons rfl (.cons rfl .nil)))), hM, (Nat.zero_le _)⟩ ?_
 clear hA hM a
 rintro k a w2 ⟨hA, hM, hk⟩ hNext
 refine Ends.seq (Ends.region ?_)
 refine S.val hA (R.lss rfl rfl) rfl ?_; clear hA a; intro a hA
 refine S.done ?_
 replace hA : St 18 [(3, _), (8, _), (9, _), (10, _)] a := hA.sub ((.cons rfl (.cons rfl (.cons rfl (.cons rfl .nil)))))
 refine Ends.seq ?_
 refine Ends.ite hA rfl (fun hc3 => ?_) (fun hc3 => ?_)
 ·
  have hpl : (pl k ++ List.replicate (n.toNat - k) 0).length = n.toNat := by rw [List.length_append, pl_len, List.length_replicate]; omega
  refine Ends.skip (Ends.seq (Ends.block (Ends.seq (Ends.region ?_))))
  refine S.val hA (R.move rfl) rfl ?_; clear hA a; intro a hA
  refine S.val hA (R.assign rfl) rfl ?_; clear hA a; intro a hA
  refine S.done ?_
  replace hA : St 18 [(3, _), (4, _), (8, _), (9, _)] a := hA.sub ((.cons rfl (.cons rfl (.cons rfl (.cons rfl .nil)))))
  refine Ends.region ?_
  refine S.val hA (R.move rfl) rfl ?_; clear hA a; intro a hA
  refine S.val hA (R.move rfl) rfl ?_; clear hA a; intro a hA
  refine S.val hA (R.move rfl) rfl ?_; clear hA a; intro a hA
  refine S.val hA (R.indexAddr (q := k) sl22 rfl rfl (by first | omega | (rw [hpl]; omega)) (by first | omega | (rw [hpl]; omega))) rfl ?_; clear hA a; intro a hA
  refine S.store (k := 0) hA hM sz3 rfl rfl rfl rfl (ints_getD ((pl k ++ List.replicate (n.toNat - k) 0)) _ (by first | omega | (rw [hpl]; omega))) ?_; clear hM
  intro w3 hM
  rw [ints_set] at hM
  replace hM : Mem _ _ [pt b1 ((ints (((pl k ++ List.replicate (n.toNat - k) 0)).set k ((k : Int))))) 3] _ := hM
  refine S.done ?_
  rw [pl_set _ _ (by omega)] at hM
  replace hA : St 18 [(3, _), (8, _), (9, _)] a := hA.sub ((.cons rfl (.cons rfl (.cons rfl .nil))))
  refine Ends.inBlock (Ends.region ?_)
  refine S.val hA (R.addI rfl rfl (r := ((k : Int)) + 1) rfl (by first | omega | (rw [hpl]; omega))) rfl ?_; clear hA a; intro a hA
  refine S.val hA (R.move rfl) rfl ?_; clear hA a; intro a hA
  refine S.done ?_
  replace hA : St 18 [(3, _), (8, _), (9, _)] a := hA.sub ((.cons rfl (.cons rfl (.cons rfl .nil))))
  exact hNext ((k + 1)) _ _ ((by show n.toNat - (k + 1) < n.toNat - k; omega)) ⟨hA.sub ((.cons rfl (.cons rfl (.cons rfl .nil)))), hM, (by omega)⟩
 ·
  obtain rfl : k = n.toNat := by omega
  rw [Nat.sub_self, List.replicate_zero, List.append_nil] at hM
  refine Ends.exit rfl ?_
  replace hA : St 18 [(3, _)] a := hA.sub ((.cons rfl .nil))
  refine Ends.seq (Ends.region ?_)
  refine S.val hA (R.move rfl) rfl ?_; clear hA a; intro a hA
  refine S.val hA (R.assign rfl) rfl ?_; clear hA a; intro a hA
  refine S.done ?_
  replace hA : St 18 [(2, _)] a := hA.sub ((.cons rfl .nil))
  refine Ends.ret1 Try.func57 Try.results57 hA rfl ?_
  replace hM := hM.ptOwn (n := n.toNat) (pl_len _) (by omega)
  have hl := pl_len n.toNat
  exact ⟨_, _, by rw [pl_len], hM⟩
def AheadAt (A : Int → Prop) (lt : Int → Int → Bool) (cf : FuncId) (cs : Array Value) (w : World) : Prop :=
  ∀ w', Below w.heap.size w w' → ∀ x y, A x → A y → Calls Try.prog cf (#[.int .i64 x, .int .i64 y] ++ cs) w' fun e w2 => e = .returned (.bool (lt x y)) ∧ Below w'.heap.size w' w2
theorem AheadAt.mem {A : Int → Prop} {lt : Int → Int → Bool} {cf : FuncId} {cs : Array Value} {w0 w : World} {L : List Ck} (h : AheadAt A lt cf cs w0) (hM : Mem w0 nof L w) : AheadAt A lt cf cs w :=
  fun w' hb x y hx hy => h w' (Mem.trans0 hM.nilL.below (Mem.of_below hb)) x y hx hy
end Go.Proofs.Ytnikajkklocncaa
namespace Go.Proofs.Ytnikajkklocncaa
def hasNeg (X : List Int) : Bool := X.any fun x => decide (x < 0)
def seenOK (X : List Int) (k : Nat) (sn : List Bool) : Prop :=
  sn.length = X.length ∧ (X.take k).Nodup ∧ (∀ x ∈ X.take k, 0 ≤ x ∧ x < X.length) ∧ ∀ j, j < X.length → (sn.getD j false = true ↔ (j : Int) ∈ X.take k)
theorem seen_zero (X : List Int) : seenOK X 0 (List.replicate X.length false) :=
  ⟨by simp, by simp, by simp, fun j hj => by simp [List.getD, hj]⟩
theorem take_snoc {X : List Int} {k : Nat} (h : k < X.length) : X.take (k + 1) = X.take k ++ [X.getD k 0] := by
  rw [List.take_succ_eq_append_getElem h, List.getD_eq_getElem?_getD, List.getElem?_eq_getElem h]; rfl
theorem seen_succ {X : List Int} {k : Nat} {sn : List Bool} (h : seenOK X k sn) (hk : k < X.length) (h0 : 0 ≤ X.getD k 0 ∧ X.getD k 0 < X.length) (hs : sn.getD (X.getD k 0).toNat false = false) :
    seenOK X (k + 1) (sn.set (X.getD k 0).toNat true) := by
  obtain ⟨h1, h2, h3, h4⟩ := h
  generalize hx : X.getD k 0 = x at *
  have hnm : x ∉ X.take k := fun hm => by
    have := (h4 x.toNat (by omega)).2 (by rw [Int.toNat_of_nonneg h0.1]; exact hm)
    rw [hs] at this; cases this
  refine ⟨by rw [List.length_set, h1], ?_, ?_, ?_⟩
  · rw [take_snoc hk, hx]
    refine List.nodup_append.2 ⟨h2, List.nodup_cons.2 ⟨by simp, List.nodup_nil⟩, fun a ha b hb e => ?_⟩
    have : b = x := by simpa using hb
    subst this e; exact hnm ha
  · rw [take_snoc hk, hx]
    intro y hy
    rcases List.mem_append.1 hy with g | g
    · exact h3 y g
    · have : y = x := by simpa using g
      subst this; exact h0
  · intro j hj
    rw [take_snoc hk, hx, List.mem_append, List.getD_eq_getElem?_getD, List.getElem?_set]
    by_cases e : x.toNat = j
    · have : (j : Int) = x := by omega
      simp [e, this, h1, hj]
    · have hne : ¬ (j : Int) = x := by omega
      rw [if_neg e, ← List.getD_eq_getElem?_getD]
      simp only [List.mem_singleton, hne, or_false]
      exact h4 j hj
theorem seen_bad {X : List Int} {k : Nat} {sn : List Bool} (h : seenOK X k sn) (hk : k < X.length) (hb : (X.getD k 0 < 0 ∨ (X.length : Int) ≤ X.getD k 0) ∨ sn.getD (X.getD k 0).toNat false = true) : okP X = false := by
  rw [← Bool.not_eq_true]
  intro ho
  obtain ⟨n1, n2⟩ := of_decide_eq_true ho
  have hmem : X.getD k 0 ∈ X := by rw [List.getD_eq_getElem?_getD, List.getElem?_eq_getElem hk]; exact List.getElem_mem hk
  have hr := n2 _ hmem
  rcases hb with (g | g) | g
  · omega
  · omega
  · have hm := (h.2.2.2 (X.getD k 0).toNat (by omega)).1 g
    rw [Int.toNat_of_nonneg hr.1] at hm
    have hn : (X.take (k + 1)).Nodup := n1.sublist (List.take_sublist _ _)
    rw [take_snoc hk] at hn
    exact (List.nodup_append.1 hn).2.2 _ hm _ (.head _) rfl
theorem seen_end {X : List Int} {sn : List Bool} (h : seenOK X X.length sn) : okP X = true := by
  obtain ⟨-, h2, h3, -⟩ := h
  rw [List.take_length] at h2 h3
  exact decide_eq_true ⟨h2, h3⟩
end Go.Proofs.Ytnikajkklocncaa
namespace Go.Proofs
open Go.Shelf
def Try.laysNm223_ren : Go.Shelf.Ren := ⟨fun | 23 => 58 | n => n, fun | 22 => 22 | 3 => 3 | 4 => 4 | 0 => 0 | n => n, fun | n => n⟩
theorem Try.laysNm223 : Go.Proofs.Lays2.n23 Try.prog Try.laysNm223_ren := {
  mixed := by kernel_rfl
  f23 := Try.func58.trans (congrArg some (by kernel_rfl))
  t0 := Try.underlying0
  a0 := Try.isAgg0
  z0 := Try.sizeOf0
  v0 := Try.zeroValue0
  t3 := Try.underlying3
  a3 := Try.isAgg3
  z3 := Try.sizeOf3
  v3 := Try.zeroValue3
  t4 := Try.underlying4
  a4 := Try.isAgg4
  z4 := Try.sizeOf4
  v4 := Try.zeroValue4
  t22 := Try.underlying22
  a22 := Try.isAgg22
  z22 := Try.sizeOf22
  v22 := Try.zeroValue22
  i3 := by kernel_rfl }
open Go.RowKit Go.Lib Go.Sort in
theorem Try.slices_Delete_int (blk off cap i j : Nat) (zs : List Int) (w : World) (hH : Holds (Value.int .i64) w blk off zs.toArray) (hcap : zs.length ≤ cap) (hm : cap ≤ 9223372036854775807) (hij : i ≤ j) (hj : j ≤ zs.length) :
    Calls Try.prog 58 #[.slice (some ⟨blk, off, none⟩) zs.length cap, .int .i64 i, .int .i64 j] w fun e w' => e = .returned (.slice (some ⟨blk, off, none⟩) (zs.length - (j - i)) cap) ∧ ∃ q, w' = putRow (Value.int .i64) (Sort.ahead w q) blk off (zs.take i ++ zs.drop j ++ List.replicate (j - i) 0).toArray := Any.slices_Delete_int Try.laysNm223 blk off cap i j zs w hH hcap hm hij hj
end Go.Proofs
namespace Go.Proofs.Ytnikajkklocncaa
open Go.RowKit
theorem sum_wrap (a b : Int) : wrap64 (IntKind.u64.wrap (IntKind.u64.wrap a + IntKind.u64.wrap b)) = (a + b + 9223372036854775808) % 18446744073709551616 - 9223372036854775808 := by
  rw [← IntWalk.i64_left, IntKind.wrap_i64, IntKind.wrap_u64, IntKind.wrap_u64, IntKind.wrap_u64]; omega
theorem over_sum {a b S : Int} (a0 : -9223372036854775808 ≤ a) (a1 : a ≤ 9223372036854775807) (b0 : -9223372036854775808 ≤ b) (b1 : b ≤ 9223372036854775807)
    (hS : S = (a + b + 9223372036854775808) % 18446744073709551616 - 9223372036854775808) (h1 : a < 0 ↔ b < 0) (h2 : ¬ (S < 0 ↔ b < 0)) : intN (a + b) = 0 ∧ intB (a + b) = false :=
  int_no (by omega)
theorem fine_sum {a b S : Int} (a0 : -9223372036854775808 ≤ a) (a1 : a ≤ 9223372036854775807) (b0 : -9223372036854775808 ≤ b) (b1 : b ≤ 9223372036854775807)
    (hS : S = (a + b + 9223372036854775808) % 18446744073709551616 - 9223372036854775808) (h : ¬ (a < 0 ↔ b < 0) ∨ (S < 0 ↔ b < 0)) : intN (a + b) = S ∧ intB (a + b) = true := by
  have := int_yes (v := a + b) (by omega)
  exact ⟨by rw [this.1]; omega, this.2⟩
set_option maxHeartbeats 400000 in
theorem a_add (a b : Int) (a0 : -9223372036854775808 ≤ a) (a1 : a ≤ 9223372036854775807) (b0 : -9223372036854775808 ≤ b) (b1 : b ≤ 9223372036854775807) (w : World) :
    Calls Try.prog 52 #[.int .i64 a, .int .i64 b] w fun e w' => e = .returned (.tuple #[.int .i64 (intN (a + b)), .bool (intB (a + b))]) ∧ w = w' := by
  have HS := hid (sum_wrap a b)
  go_enter Try.func52, Try.ntmps52
  go_wp2
  · rename_i h1 h2
    have := over_sum a0 a1 b0 b1 HS.out h1 (by intro h; simp [h] at h2)
    go_ret2
    exact ⟨ret_ib this.1.symm this.2.symm, rfl⟩
  · rename_i h1 h2
    have := fine_sum a0 a1 b0 b1 HS.out (by right; simpa using h2)
    go_ret2
    exact ⟨ret_ib this.1.symm this.2.symm, rfl⟩
  · rename_i h1
    have := fine_sum a0 a1 b0 b1 HS.out (.inl h1)
    go_ret2
    exact ⟨ret_ib this.1.symm this.2.symm, rfl⟩
end Go.Proofs.Ytnikajkklocncaa
namespace Go.Proofs.Ytnikajkklocncaa
open Go.RowKit
def dg (n i : Nat) : Nat := n / 2^(31*i) % 2147483648
end Go.Proofs.Ytnikajkklocncaa
namespace Go.Proofs.Ytnikajkklocncaa
open Go.RowKit
theorem gs {α : Type} {o x : α} {l : List α} {n : Nat} (h : l.toArray[n]? = some x) : (o :: l).toArray[n + 1]? = some x := by
  simpa using h
end Go.Proofs.Ytnikajkklocncaa
namespace Go.Proofs.Ytnikajkklocncaa
open Go.RowKit
attribute [local go_sem ↓] Go.wp_at_zero Go.wp_at_succ
def sgA (s : Bool) (n : Nat) : Array Value := #[.bool s, .int .i64 (dg n 0), .int .i64 (dg n 1), .int .i64 (dg n 2), .int .i64 (dg n 3), .int .i64 (dg n 4), .int .i64 (dg n 5), .int .i64 (dg n 6), .int .i64 (dg n 7), .int .i64 (dg n 8)]
end Go.Proofs.Ytnikajkklocncaa
namespace Go.Proofs.Ytnikajkklocncaa
open Go.RowKit
def val (s : Bool) (m : Nat) : Int := if s then -(m : Int) else m
end Go.Proofs.Ytnikajkklocncaa
namespace Go.Proofs.Ytnikajkklocncaa
open Go.RowKit
def Sg (v : Int) (x : Array Value) : Prop := ∃ s m, x = sgA s m ∧ val s m = v
theorem Sg.size {v : Int} {x : Array Value} (h : Sg v x) : x.size = 10 := by obtain ⟨s, m, rfl, -⟩ := h; rfl
theorem Sg.one {v : Int} {x : Array Value} (h : Sg v x) : allOne x.toList = true := by obtain ⟨s, m, rfl, -⟩ := h; rfl
def Lt (k : Nat) (v : Int) : Prop := v.natAbs < 2 ^ k
theorem Lt.int {a : Int} (a0 : -9223372036854775808 ≤ a) (a1 : a ≤ 9223372036854775807) : Lt 64 a := by
  unfold Lt
  have : (2:Nat)^64 = 18446744073709551616 := by decide
  omega
theorem Lt.mul {k j : Nat} {u v : Int} (hu : Lt k u) (hv : Lt j v) : Lt (k + j) (u * v) := by
  unfold Lt at *
  rw [Int.natAbs_mul, Nat.pow_add]
  exact Nat.mul_lt_mul'' hu hv
theorem Lt.add {k : Nat} {u v : Int} (hu : Lt k u) (hv : Lt k v) : Lt (k + 1) (u + v) := by
  unfold Lt at *
  rw [Nat.pow_succ]
  have := Int.natAbs_add_le u v
  omega
end Go.Proofs.Ytnikajkklocncaa
namespace Go.Proofs.Ytnikajkklocncaa
open Go.RowKit
def badQ (v w : List Int) : Prop := ((v.length ≠ w.length ∨ 64 < v.length) ∨ hasNeg v = true) ∨ hasNeg w = true
instance (v w : List Int) : Decidable (badQ v w) := by unfold badQ; infer_instance
set_option maxRecDepth 100000 in
set_option maxHeartbeats 400000 in
theorem is09 (ax : Option Addr) (X : List Int) (cx : Nat) (hX : X.length ≤ 1000) (w : World) (hx : IntSl w (.slice ax X.length cx) X) :
  Calls Try.prog 59 #[.slice ax X.length cx] w fun e w' => e = .returned (.bool (okP X)) ∧ Below w.heap.size w w' := by
 have hbs := Below.refl (B := w.heap.size) w
 have hM := Mem.start w
 refine Calls.of_ends (vs := [.slice ax X.length cx]) Try.func59 rfl Try.ntmps59 rfl ?_
 intro a hA
 replace hA : St 33 [(0, _)] a := hA
 refine Ends.seq (Ends.region ?_)
 refine S.val hA (R.assign rfl) rfl ?_; clear hA a; intro a hA
 refine S.done ?_
 replace hA : St 33 [(0, _)] a := hA.sub ((.cons rfl .nil))
 refine Ends.seq (Ends.region ?_)
 refine S.val hA (R.move rfl) rfl ?_; clear hA a; intro a hA
 refine S.val hA (R.lenS Try.underlying22 rfl rfl) rfl ?_; clear hA a; intro a hA
 refine S.make hA hM Try.underlying68 info4 rfl rfl rfl (by omega) (by show (1 : Int) * _ ≤ _; omega) (by omega) rfl ?_; clear hA hM a; intro b1 w1 hb2 hM a hA
 replace hM : Mem _ _ [pt b1 (madeCells #[.bool false] (X.length * 1)) 4] _ := hM
 rw [Nat.mul_one, made_boo] at hM
 replace hM : Mem _ _ [pt b1 ((boo (List.replicate X.length false))) 4] _ := hM
 refine S.val hA (R.assign rfl) rfl ?_; clear hA a; intro a hA
 refine S.done ?_
 replace hA : St 33 [(0, _), (3, _)] a := hA.sub ((.cons rfl (.cons rfl .nil)))
 refine Ends.seq (Ends.seq (Ends.region ?_))
 refine S.val hA (R.move rfl) rfl ?_; clear hA a; intro a hA
 refine S.val hA (R.lenS Try.underlying22 rfl rfl) rfl ?_; clear hA a; intro a hA
 refine S.val hA (R.move rfl) rfl ?_; clear hA a; intro a hA
 refine S.done ?_
 replace hA : St 33 [(0, _), (3, _), (9, _), (10, _), (11, _)] a := hA.sub ((.cons rfl (.cons rfl (.cons rfl (.cons rfl (.cons rfl .nil))))))
 refine Ends.block ?_
 refine Ends.loop (σ := Nat × List Bool) (fun (k, sn) (a : Act) (wv : World) => St 33 [(0, .slice ax X.length cx), (3, .slice (some ⟨b1, 0, none⟩) X.length X.length), (9, .slice ax X.length cx), (10, .int .i64 ((X.length : Int))), (11, .int .i64 ((k : Int)))] a ∧ Mem w nof [pt b1 ((boo sn)) 4] wv ∧ (k ≤ X.length) ∧ (seenOK X k sn)) (fun (k, sn) => X.length - k) ((0, List.replicate X.length false)) ⟨hA.sub ((.cons rfl (.cons rfl (.cons rfl (.cons rfl (.cons rfl .nil)))))), hM, (Nat.zero_le _), (seen_zero X)⟩ ?_
 clear hA hM a
 rintro ⟨k, sn⟩ a w2 ⟨hA, hM, hk, hso⟩ hNext
 refine Ends.seq (Ends.region ?_)
 refine S.val hA (R.lss rfl rfl) rfl ?_; clear hA a; intro a hA
 refine S.done ?_
 replace hA : St 33 [(0, _), (3, _), (9, _), (10, _), (11, _), (12, _)] a := hA.sub ((.cons rfl (.cons rfl (.cons rfl (.cons rfl (.cons rfl (.cons rfl .nil)))))))
 refine Ends.seq ?_
 refine Ends.ite hA rfl (fun hc3 => ?_) (fun hc3 => ?_)
 ·
  have hsl := hso.1
  refine Ends.skip (Ends.seq (Ends.block (Ends.seq (Ends.region ?_))))
  refine S.val hA (R.idxI hx (j := k) sl22 rfl rfl (by omega) (rfl)) rfl ?_; clear hA a; intro a hA
  refine S.val hA (R.loadI (hx.mem hM) sz3 rfl (by omega)) rfl ?_; clear hA a; intro a hA
  refine S.val hA (R.assign rfl) rfl ?_; clear hA a; intro a hA
  refine S.done ?_
  replace hA : St 33 [(0, _), (3, _), (5, _), (9, _), (10, _), (11, _)] a := hA.sub ((.cons rfl (.cons rfl (.cons rfl (.cons rfl (.cons rfl (.cons rfl .nil)))))))
  refine Ends.seq (Ends.seq ?_)
  refine Ends.cut (fun (a : Act) (wv : World) => St 33 [(0, .slice ax X.length cx), (3, .slice (some ⟨b1, 0, none⟩) X.length X.length), (5, .int .i64 (X.getD k 0)), (9, .slice ax X.length cx), (10, .int .i64 ((X.length : Int))), (11, .int .i64 ((k : Int))), (28, .bool (decide ((((X.getD k 0) < 0 ∨ ((X.length : Int)) ≤ (X.getD k 0)) ∨ ((sn.getD ((X.getD k 0).toNat) false)) = true))))] a ∧ Mem w nof [pt b1 ((boo sn)) 4] wv) ?_ (fun k2 hJ => ?_)
  ·
   clear hA hM a; rintro a w3 ⟨hA, hM⟩
   refine Ends.ite hA rfl (fun hc4 => ?_) (fun hc4 => ?_)
   ·
    refine Ends.seq (Ends.region ?_)
    refine S.val hA (R.assign rfl) rfl ?_; clear hA a; intro a hA
    refine S.done ?_
    replace hA : St 33 [(0, _), (2, _), (3, _), (5, _), (9, _), (10, _), (11, _)] a := hA.sub ((.cons rfl (.cons rfl (.cons rfl (.cons rfl (.cons rfl (.cons rfl (.cons rfl .nil))))))))
    refine Ends.ret1 Try.func59 Try.results59 hA rfl ?_
    exact ⟨by rw [seen_bad hso (by omega) hc4], Mem.trans0 hbs hM.nilL⟩
   ·
    refine Ends.skip (Ends.region ?_)
    refine S.val hA (R.move rfl) rfl ?_; clear hA a; intro a hA
    refine S.val hA (R.move rfl) rfl ?_; clear hA a; intro a hA
    refine S.val hA (R.indexAddr (q := (X.getD k 0).toNat) sl68 rfl rfl (by omega) (by omega)) rfl ?_; clear hA a; intro a hA
    refine S.store (k := 0) hA hM sz4 rfl rfl rfl rfl (boo_get _ _ (by omega)) ?_; clear hM
    intro w4 hM
    rw [boo_set] at hM
    replace hM : Mem _ _ [pt b1 ((boo (sn.set ((X.getD k 0).toNat) true))) 4] _ := hM
    refine S.done ?_
    replace hA : St 33 [(0, _), (3, _), (9, _), (10, _), (11, _)] a := hA.sub ((.cons rfl (.cons rfl (.cons rfl (.cons rfl (.cons rfl .nil))))))
    refine Ends.inBlock (Ends.region ?_)
    refine S.val hA (R.addI rfl rfl (r := ((k : Int)) + 1) rfl (by omega)) rfl ?_; clear hA a; intro a hA
    refine S.val hA (R.move rfl) rfl ?_; clear hA a; intro a hA
    refine S.done ?_
    replace hA : St 33 [(0, _), (3, _), (9, _), (10, _), (11, _)] a := hA.sub ((.cons rfl (.cons rfl (.cons rfl (.cons rfl (.cons rfl .nil))))))
    exact hNext ((k + 1, (sn.set ((X.getD k 0).toNat) true))) _ _ ((by show X.length - (k + 1) < X.length - k; omega)) ⟨hA.sub ((.cons rfl (.cons rfl (.cons rfl (.cons rfl (.cons rfl .nil)))))), hM, (by omega), (seen_succ hso (by omega) (by omega) (by cases hq : sn.getD (X.getD k 0).toNat false with | false => rfl | true => exact absurd (.inr hq) hc4))⟩
  ·
   refine Ends.region ?_
   refine S.val hA (R.move rfl) rfl ?_; clear hA a; intro a hA
   refine S.val hA (R.lss rfl rfl) rfl ?_; clear hA a; intro a hA
   refine S.val hA (R.move rfl) rfl ?_; clear hA a; intro a hA
   refine hA.split (d := 17) rfl ?_ ?_
   ·
    clear hA; intro hg5 hA
    refine S.no (dj := 17) hA (by kernel_rfl) rfl rfl rfl ?_; clear hA a; intro a hA
    refine S.no (dj := 17) hA (by kernel_rfl) rfl rfl rfl ?_; clear hA a; intro a hA
    refine S.no (dj := 17) hA (by kernel_rfl) rfl rfl rfl ?_; clear hA a; intro a hA
    refine S.no (dj := 17) hA (by kernel_rfl) rfl rfl rfl ?_; clear hA a; intro a hA
    refine S.val hA (R.pickT rfl rfl) rfl ?_; clear hA a; intro a hA
    refine S.val hA (R.move rfl) rfl ?_; clear hA a; intro a hA
    refine S.no (dj := 23) hA (by kernel_rfl) rfl rfl rfl ?_; clear hA a; intro a hA
    refine S.no (dj := 23) hA (by kernel_rfl) rfl rfl rfl ?_; clear hA a; intro a hA
    refine S.no (dj := 23) hA (by kernel_rfl) rfl rfl rfl ?_; clear hA a; intro a hA
    refine S.no (dj := 23) hA (by kernel_rfl) rfl rfl rfl ?_; clear hA a; intro a hA
    refine S.val hA (R.pickT rfl rfl) rfl ?_; clear hA a; intro a hA
    refine S.done ?_
    replace hA : St 33 [(0, _), (3, _), (5, _), (9, _), (10, _), (11, _), (28, _)] a := hA.sub ((.cons rfl (.cons rfl (.cons rfl (.cons rfl (.cons rfl (.cons rfl (.cons rfl .nil))))))))
    exact hJ _ _ ⟨hA.sub (.cons rfl (.cons rfl (.cons rfl (.cons rfl (.cons rfl (.cons rfl (.cons (by first | rfl | exact congrArg (fun b => some (Value.bool b)) (by first | exact decide_eq_decide.2 (by omega) | exact or_bool (by omega) | exact and_bool (by omega) | (simp; done) | (simp [hg5]; done) | (have h80 := hg5; (try simp at h80); simp [h80]; done) | exact (decide_eq_false (fun h9 => hg5 h9.1)).symm)) .nil))))))), hM⟩
   ·
    clear hA; intro hg5 hA
    refine S.valg (dj := 17) hA (by kernel_rfl) rfl (R.move rfl) rfl ?_; clear hA a; intro a hA
    refine S.valg (dj := 17) hA (by kernel_rfl) rfl (R.move rfl) rfl ?_; clear hA a; intro a hA
    refine S.valg (dj := 17) hA (by kernel_rfl) rfl (R.lenS Try.underlying22 rfl rfl) rfl ?_; clear hA a; intro a hA
    refine S.valg (dj := 17) hA (by kernel_rfl) rfl (R.geq rfl rfl) rfl ?_; clear hA a; intro a hA
    refine S.val hA (R.pickF rfl rfl) rfl ?_; clear hA a; intro a hA
    refine S.val hA (R.move rfl) rfl ?_; clear hA a; intro a hA
    refine hA.split (d := 23) rfl ?_ ?_
    ·
     clear hA; intro hg6 hA
     refine S.no (dj := 23) hA (by kernel_rfl) rfl rfl rfl ?_; clear hA a; intro a hA
     refine S.no (dj := 23) hA (by kernel_rfl) rfl rfl rfl ?_; clear hA a; intro a hA
     refine S.no (dj := 23) hA (by kernel_rfl) rfl rfl rfl ?_; clear hA a; intro a hA
     refine S.no (dj := 23) hA (by kernel_rfl) rfl rfl rfl ?_; clear hA a; intro a hA
     refine S.val hA (R.pickT rfl rfl) rfl ?_; clear hA a; intro a hA
     refine S.done ?_
     replace hA : St 33 [(0, _), (3, _), (5, _), (9, _), (10, _), (11, _), (28, _)] a := hA.sub ((.cons rfl (.cons rfl (.cons rfl (.cons rfl (.cons rfl (.cons rfl (.cons rfl .nil))))))))
     exact hJ _ _ ⟨hA.sub (.cons rfl (.cons rfl (.cons rfl (.cons rfl (.cons rfl (.cons rfl (.cons (by first | rfl | exact congrArg (fun b => some (Value.bool b)) (by first | exact decide_eq_decide.2 (by omega) | exact or_bool (by omega) | exact and_bool (by omega) | (simp; done) | (simp [hg5, hg6]; done) | (have h80 := hg5; (try simp at h80); have h81 := hg6; (try simp at h81); simp [h80, h81]; done) | exact (decide_eq_false (fun h9 => hg5 h9.1)).symm | exact (decide_eq_false (fun h9 => hg6 h9.1)).symm)) .nil))))))), hM⟩
    ·
     clear hA; intro hg6 hA
     refine S.valg (dj := 23) hA (by kernel_rfl) rfl (R.move rfl) rfl ?_; clear hA a; intro a hA
     refine S.valg (dj := 23) hA (by kernel_rfl) rfl (R.move rfl) rfl ?_; clear hA a; intro a hA
     refine S.valg (dj := 23) hA (by kernel_rfl) rfl (R.indexAddr (q := (X.getD k 0).toNat) sl68 rfl rfl (by omega) (by omega)) rfl ?_; clear hA a; intro a hA
     refine S.valg (dj := 23) hA (by kernel_rfl) rfl (R.load sz4 rfl (hM.cell (k := 0) rfl (boo_get sn _ (by omega)))) rfl ?_; clear hA a; intro a hA
     refine S.val hA (R.pickF rfl rfl) rfl ?_; clear hA a; intro a hA
     refine S.done ?_
     replace hA : St 33 [(0, _), (3, _), (5, _), (9, _), (10, _), (11, _), (28, _)] a := hA.sub ((.cons rfl (.cons rfl (.cons rfl (.cons rfl (.cons rfl (.cons rfl (.cons rfl .nil))))))))
     exact hJ _ _ ⟨hA.sub (.cons rfl (.cons rfl (.cons rfl (.cons rfl (.cons rfl (.cons rfl (.cons (by first | rfl | exact congrArg (fun b => some (Value.bool b)) (by first | exact decide_eq_decide.2 (by omega) | exact or_bool (by omega) | exact and_bool (by omega) | (simp; done) | (simp [hg5, hg6]; done) | (have h80 := hg5; (try simp at h80); have h81 := hg6; (try simp at h81); simp [h80, h81]; done) | exact (decide_eq_false (fun h9 => hg5 h9.1)).symm | exact (decide_eq_false (fun h9 => hg6 h9.1)).symm)) .nil))))))), hM⟩
 ·
  obtain rfl : k = X.length := by omega
  refine Ends.exit rfl ?_
  replace hA : St 33 [] a := hA.sub (.nil)
  refine Ends.seq (Ends.region ?_)
  refine S.val hA (R.assign rfl) rfl ?_; clear hA a; intro a hA
  refine S.done ?_
  replace hA : St 33 [(2, _)] a := hA.sub ((.cons rfl .nil))
  refine Ends.ret1 Try.func59 Try.results59 hA rfl ?_
  exact ⟨by rw [seen_end hso], Mem.trans0 hbs hM.nilL⟩
end Go.Proofs.Ytnikajkklocncaa
namespace Go.Proofs.Ytnikajkklocncaa
open Go.RowKit
def frs (B : Nat) (a : Option Addr) : Prop := ∀ p, a = some p → B ≤ p.block
theorem frs.mono {B C : Nat} {a : Option Addr} (h : frs C a) (hb : B ≤ C) : frs B a := fun p hp => Nat.le_trans hb (h p hp)
def rd (a : Option Addr) (c : Nat) (X : List Int) : Ck :=
  ⟨fun b => X ≠ [] ∧ ∃ p, a = some p ∧ p.block = b, fun w => IntSl w (.slice a X.length c) X, fun w w' h hw => by
    obtain ⟨a', c', he, h1, h2, h3, h4⟩ := hw
    refine ⟨a', c', he, h1, h2, h3, fun hne => ?_⟩
    obtain ⟨b, off, hb, hlt, hc⟩ := h4 hne
    cases he
    have hh := h b ⟨hne, _, hb, rfl⟩
    refine ⟨b, off, hb, ?_, fun i hi => ?_⟩
    · have h5 := Array.getElem?_eq_some_iff.1 (hh.trans (Array.getElem?_eq_getElem hlt))
      exact h5.1
    · rw [← hc i hi]; simp only [World.cell?, hh]⟩
theorem Mem.rd {w0 w : World} {F : Nat → Prop} {L : List Ck} {k c : Nat} {a : Option Addr} {X : List Int} (hM : Mem w0 F L w) (hk : ith L k = some (rd a c X)) : IntSl w (.slice a X.length c) X := hM.mem hk
theorem Mem.callRd {w0 w w' : World} {F : Nat → Prop} {L : List Ck} {c : Nat} {a : Option Addr} {X : List Int} (hM : Mem w0 F L w) (hb : Below w.heap.size w w') (h : IntSl w' (.slice a X.length c) X) (hf : frs w.heap.size a) : Mem w0 F (Go.Proofs.Ytnikajkklocncaa.rd a c X :: L) w' := by
  have h1 := hM.callB hb
  refine ⟨h1.os, h1.tape, h1.output, h1.size, h1.old, fun d hd => ?_, fun d hd b hdb => ?_, List.pairwise_cons.2 ⟨fun d hd b hab hdb => ?_, h1.apart⟩⟩
  · rcases List.mem_cons.1 hd with rfl | hd
    · exact h
    · exact h1.holds d hd
  · rcases List.mem_cons.1 hd with rfl | hd
    · obtain ⟨hne, p, hp, rfl⟩ := hdb
      obtain ⟨a', c', he, -, -, -, h4⟩ := h
      obtain ⟨b, off, hb', hlt, -⟩ := h4 hne
      cases he
      rw [hp] at hb'
      cases hb'
      have := hf _ hp
      have := hM.size
      exact ⟨hlt, fun g => absurd g (by simp only at *; omega)⟩
    · exact h1.inb d hd b hdb
  · obtain ⟨hne, p, hp, rfl⟩ := hab
    have h2 := hf _ hp
    have h3 := (hM.inb d hd _ hdb).1
    omega
theorem Mem.ownFresh {w0 w : World} {L : List Ck} {k n m sz : Nat} {c : Nat} {e : TypeId} {a : Option Addr} {xs : List Value} (hM : Mem w0 nof L w) (hk : ith L k = some (own e sz (.slice a n c) m xs)) : frs w0.heap.size a := fun p hp => by
  subst hp
  rw [ith_eq] at hk
  have hm := List.mem_of_getElem? hk
  exact Nat.le_of_not_lt fun h => (hM.inb _ hm p.block rfl).2 h
end Go.Proofs.Ytnikajkklocncaa
namespace Go.Proofs.Ytnikajkklocncaa
def ScB (l : List UInt8) (T : List Tok) : Prop := ∀ r : List UInt8, Going (bs (l ++ r)) 0 [] l.length T
def okN (r : List UInt8) : Prop := kb (bs r) 0 ≠ 2 ∧ kb (bs r) 0 ≠ 3
def ScN (l : List UInt8) (T : List Tok) : Prop := ∀ r : List UInt8, okN r → Going (bs (l ++ r)) 0 [] l.length T
theorem ScB.nil : ScB [] [] := fun _ => Going.refl _ _ _
theorem kb_mid (l r : List UInt8) (j : Nat) : kb (bs (l ++ r)) (l.length + j) = kb (bs r) j := by
  rw [← bs_app, show l.length = (bs l).size from (bs_size l).symm, kb_r]
theorem kb_cons (c : UInt8) (r : List UInt8) : kb (bs (c :: r)) 0 = kindI (c.toNat : Int) := by
  rw [kb_in (by rw [bs_size]; simp), show bs (c :: r) = ⟨(c :: r).toArray⟩ from rfl, byt_mk (by simp)]; rfl
def blk1 (c : UInt8) : Prop := kindI (c.toNat : Int) = 1
theorem blk1_k {c : UInt8} (h : blk1 c) : kindI (c.toNat : Int) = 1 := h
theorem okN_blk {c : UInt8} (h : blk1 c) (r : List UInt8) : okN (c :: r) := by unfold okN; rw [kb_cons, blk1_k h]; decide
theorem ScN.blank {l : List UInt8} {T : List Tok} {c : UInt8} (h : ScN l T) (hc : blk1 c) : ScB (l ++ [c]) T := fun r => by
  have h1 := h (c :: r) (okN_blk hc r)
  have e : (l ++ [c]) ++ r = l ++ (c :: r) := by simp
  rw [e, List.length_append]
  refine h1.trans (Going.blank (by rw [bs_size]; simp) ?_)
  have := kb_mid l (c :: r) 0
  rw [Nat.add_zero] at this
  rw [this, kb_cons, blk1_k hc]
structure Pc where
  b : List UInt8
  k : Int
  x : ByteArray
  n : Int
  s : UInt8
def pz : Pc := ⟨[], 0, ⟨#[]⟩, 0, 0⟩
def wdP (b : List UInt8) (s : UInt8) : Pc := ⟨b, 1, bs b, 0, s⟩
def nuP (n : Int) (s : UInt8) : Pc := ⟨Lib.itoa n, 2, ⟨#[]⟩, n, s⟩
end Go.Proofs.Ytnikajkklocncaa
namespace Go.Proofs.Ytnikajkklocncaa
theorem mat_setRow {n a : Nat} {g : Nat → Nat → Int} {h : Nat → Int} : (mat n g).set a ((List.range n).map h) = mat n fun r c => if r = a then h c else g r c := by
  refine List.ext_getElem (by simp [mat]) (fun i h1 h2 => ?_)
  simp only [mat, List.getElem_set, List.getElem_map, List.getElem_range]
  by_cases e : a = i
  · subst e; rw [if_pos rfl]
    exact List.map_congr_left fun c _ => (if_pos rfl).symm
  · rw [if_neg e]
    exact List.map_congr_left fun c _ => (if_neg fun q => e q.symm).symm
theorem row_of {rs : List OwR} {n a : Nat} {g : Nat → Nat → Int} (hY : rs.map (·.Y) = mat n g) (ha : a < n) : ∃ Y b c, rs[a]? = some ⟨Y, b, c⟩ ∧ Y = (List.range n).map (g a) ∧ Y.length = n := by
  have hl : rs.length = n := by have := congrArg List.length hY; simpa [mat] using this
  have e1 : (rs.map (·.Y))[a]? = some ((List.range n).map (g a)) := by rw [hY]; simp [mat, ha]
  rw [List.getElem?_map, List.getElem?_eq_getElem (by omega)] at e1
  have e2 : rs[a].Y = (List.range n).map (g a) := by simpa using e1
  exact ⟨rs[a].Y, rs[a].a, rs[a].c, List.getElem?_eq_getElem (by omega), e2, by rw [e2]; simp⟩
theorem rows_len {rs : List OwR} {n : Nat} {g : Nat → Nat → Int} (hY : rs.map (·.Y) = mat n g) : rs.length = n := by have := congrArg List.length hY; simpa [mat] using this
theorem rows_setRow {rs : List OwR} {n a : Nat} {g : Nat → Nat → Int} {u : OwR} {h : Nat → Int} (hY : rs.map (·.Y) = mat n g) (hu : u.Y = (List.range n).map h) : (rs.set a u).map (·.Y) = mat n fun r c => if r = a then h c else g r c := by
  rw [List.map_set, hY, hu, mat_setRow]
theorem orV_of {rs : List OwR} {i : Nat} {Y : List Int} {a : Option Addr} {c : Nat} (h : rs[i]? = some ⟨Y, a, c⟩) : (rs.map orV)[i]? = some (.slice a Y.length c) := by rw [List.getElem?_map, h]; rfl
section
variable {w0 w : World} {F : Nat → Prop} {L : List Ck} {e : TypeId} {b n : Nat} {l : List Value}
end
open Go.RowKit
section
variable {w0 w : World} {F : Nat → Prop} {c1 c2 : Ck} {ib : Nat} {t eI eR : TypeId} {G0 G : Ins} {aw av ac : Option Addr} {cw cv cc : Nat} {rs : List OwR}
end
end Go.Proofs.Ytnikajkklocncaa
namespace Go.Proofs.Ytnikajkklocncaa
def wKN : ByteArray := ⟨#[75, 78, 65, 80, 83, 65, 67, 75]⟩
def wAS : ByteArray := ⟨#[65, 83, 83, 73, 71, 78, 77, 69, 78, 84]⟩
def wTS : ByteArray := ⟨#[84, 83, 80]⟩
def wFU : ByteArray := ⟨#[70, 85, 76, 76]⟩
theorem Toks.one {X : List Tok} (h : Toks X) {j : Nat} (hj : j < X.length) (k3 : ¬ (X.getD j tz).k = 3) {y : ByteArray} (hx : (X.getD j tz).x = y) (hy : y ≠ ⟨#[]⟩) : (X.getD j tz).k = 1 := by
  rcases h.kinds j hj with g | g | g
  · exact g
  · exact absurd (hx ▸ h.two j g) hy
  · exact absurd g k3
end Go.Proofs.Ytnikajkklocncaa
namespace Go.Proofs.Ytnikajkklocncaa
def rowP : List Int → List Pc
  | [] => []
  | [x] => [nuP x 10]
  | x :: y :: l => nuP x 32 :: rowP (y :: l)
theorem rowP_len : ∀ l, (rowP l).length = l.length
  | [] => rfl
  | [_] => rfl
  | x :: y :: l => by rw [rowP, List.length_cons, rowP_len]; rfl
theorem rowP_get : ∀ (l : List Int) (c : Nat), c < l.length → ((rowP l).getD c pz).k = 2 ∧ ((rowP l).getD c pz).n = l.getD c 0
  | [], _, h => absurd h (Nat.not_lt_zero _)
  | [x], 0, _ => ⟨rfl, rfl⟩
  | [x], c + 1, h => absurd h (by simp)
  | x :: y :: l, 0, _ => ⟨rfl, rfl⟩
  | x :: y :: l, c + 1, h => by
    rw [rowP, List.getD_cons_succ, List.getD_cons_succ]
    exact rowP_get (y :: l) c (by simp at h ⊢; omega)
def itmP (i : Ins) (k : Nat) : List Pc := rowP [i.wt.getD k 0, i.vl.getD k 0]
def rwsP (i : Ins) (r : Nat) : List Pc := rowP (i.cost.getD r [])
theorem flat_len {f : Nat → List Pc} {L : Nat} : ∀ {R : Nat}, (∀ r, r < R → (f r).length = L) → ((List.range R).flatMap f).length = R * L
  | 0, _ => by simp
  | R + 1, h => by
    rw [List.range_succ, List.flatMap_append, List.length_append, flat_len (R := R) (fun r hr => h r (by omega)), Nat.add_mul, Nat.one_mul]
    simp [h R (by omega)]
theorem flat_get {f : Nat → List Pc} {L r c : Nat} (hc : c < L) : ∀ {R : Nat}, (∀ r, r < R → (f r).length = L) → r < R → ((List.range R).flatMap f).getD (r * L + c) pz = (f r).getD c pz
  | 0, _, h => absurd h (Nat.not_lt_zero _)
  | R + 1, h, hr => by
    have hl := flat_len (f := f) (L := L) (R := R) (fun r hr => h r (by omega))
    rw [List.range_succ, List.flatMap_append]
    have e1 : [R].flatMap f = f R := by simp
    rw [e1]
    simp only [List.getD_eq_getElem?_getD]
    rcases Nat.lt_succ_iff_lt_or_eq.1 hr with g | g
    · have h1 : r * L + c < R * L := by
        have : (r + 1) * L ≤ R * L := Nat.mul_le_mul_right L g
        rw [Nat.add_mul, Nat.one_mul] at this; omega
      rw [List.getElem?_append_left (by omega)]
      have := flat_get (f := f) hc (R := R) (fun r hr => h r (by omega)) g
      simpa only [List.getD_eq_getElem?_getD] using this
    · subst g
      rw [List.getElem?_append_right (by omega), hl, Nat.add_sub_cancel_left]
def hdP (i : Ins) : List Pc :=
  if i.kind = 1 then [wdP [75, 78, 65, 80, 83, 65, 67, 75] 32, nuP i.n 32, nuP i.cap 10]
  else if i.kind = 2 then [wdP [65, 83, 83, 73, 71, 78, 77, 69, 78, 84] 32, nuP i.n 10] else [wdP [84, 83, 80] 32, nuP i.n 32, wdP [70, 85, 76, 76] 10]
def pcs (i : Ins) : List Pc := hdP i ++ if i.kind = 1 then (List.range i.n.toNat).flatMap (itmP i) else (List.range i.n.toNat).flatMap (rwsP i)
def j0I (i : Ins) : Nat := if i.kind = 3 then 3 else 2
def mI (i : Ins) : Nat := if i.kind = 1 then 1 + 2 * i.n.toNat else i.n.toNat * i.n.toNat
def vN (i : Ins) (q : Nat) : Int := if i.kind = 1 then (if q = 0 then i.cap else if q % 2 = 1 then i.wt.getD (q / 2) 0 else i.vl.getD (q / 2 - 1) 0) else (i.cost.getD (q / i.n.toNat) []).getD (q % i.n.toNat) 0
theorem getD_app2P {a b : List Pc} {j : Nat} : (a ++ b).getD (a.length + j) pz = b.getD j pz := by
  rw [List.getD_eq_getElem?_getD, List.getD_eq_getElem?_getD, List.getElem?_append_right (by omega), Nat.add_sub_cancel_left]
theorem pcs_num {i : Ins} (h : InF i) {q : Nat} (hq : q < mI i) : ((pcs i).getD (j0I i + q) pz).k = 2 ∧ ((pcs i).getD (j0I i + q) pz).n = vN i q := by
  have hk := h.kind
  have hc := h.cost
  have hn := h.n1
  unfold mI at hq
  by_cases h1 : i.kind = 1
  · rw [if_pos h1] at hq
    unfold pcs hdP j0I vN
    rw [if_pos h1, if_pos h1, if_neg (by omega), if_pos h1]
    by_cases h0 : q = 0
    · subst h0; exact ⟨rfl, rfl⟩
    · rw [if_neg h0]
      have e0 : 2 + q = [wdP [75, 78, 65, 80, 83, 65, 67, 75] 32, nuP i.n 32, nuP i.cap 10].length + (q - 1) := by show _ = 3 + (q - 1); omega
      rw [e0, getD_app2P]
      have hL : ∀ r, r < i.n.toNat → (itmP i r).length = 2 := fun r _ => by rw [itmP, rowP_len]; rfl
      by_cases h2 : q % 2 = 1
      · rw [if_pos h2, show q - 1 = (q / 2) * 2 + 0 by omega, flat_get (by decide) hL (by omega)]
        exact rowP_get _ 0 (by simp)
      · rw [if_neg h2, show q - 1 = (q / 2 - 1) * 2 + 1 by omega, flat_get (by decide) hL (by omega)]
        exact rowP_get _ 1 (by simp)
  · rw [if_neg h1] at hq hc
    have hn0 : 0 < i.n.toNat := by omega
    have hdm := Nat.div_add_mod' q i.n.toNat
    have hdl : q / i.n.toNat < i.n.toNat := Nat.div_lt_of_lt_mul hq
    have hml := Nat.mod_lt q hn0
    have hL : ∀ r, r < i.n.toNat → (rwsP i r).length = i.n.toNat := fun r hr => by rw [rwsP, rowP_len]; exact h.row r (by omega)
    have key : ∀ hd : List Pc, ((hd ++ (List.range i.n.toNat).flatMap (rwsP i)).getD (hd.length + q) pz).k = 2 ∧ ((hd ++ (List.range i.n.toNat).flatMap (rwsP i)).getD (hd.length + q) pz).n = vN i q := fun hd => by
      rw [getD_app2P]
      have e1 : ((List.range i.n.toNat).flatMap (rwsP i)).getD q pz = (rwsP i (q / i.n.toNat)).getD (q % i.n.toNat) pz := by
        have := flat_get (f := rwsP i) (r := q / i.n.toNat) hml hL hdl
        rwa [hdm] at this
      rw [e1]
      unfold vN; rw [if_neg h1]
      exact rowP_get _ _ (by rw [h.row _ (by omega)]; exact hml)
    unfold pcs hdP j0I
    rw [if_neg h1, if_neg h1]
    by_cases h2 : i.kind = 2
    · rw [if_pos h2, if_neg (by omega)]; exact key _
    · rw [if_neg h2, if_pos (by omega)]; exact key _
theorem vN_bd {i : Ins} (h : InF i) (q : Nat) : 0 ≤ vN i q ∧ vN i q ≤ 2147483647 := by
  unfold vN
  split
  · split
    · exact h.cap
    · split
      · exact h.wtr _
      · exact h.vlr _
  · exact h.cell _ _
def Hd (X : List Tok) (i : Ins) (m : Nat) : Prop := ∀ j, j < j0I i + m → (X.getD j tz).k = ((pcs i).getD j pz).k ∧ (X.getD j tz).x = ((pcs i).getD j pz).x ∧ (X.getD j tz).n = ((pcs i).getD j pz).n
theorem Hd.num {X : List Tok} {i : Ins} {m : Nat} (hH : Hd X i m) (h : InF i) (hm : m ≤ mI i) {q : Nat} (hq : q < m) : (X.getD (j0I i + q) tz).k = 2 ∧ (X.getD (j0I i + q) tz).n = vN i q := by
  obtain ⟨h1, -, h3⟩ := hH (j0I i + q) (by omega)
  obtain ⟨g1, g2⟩ := pcs_num h (q := q) (by omega)
  exact ⟨h1.trans g1, h3.trans g2⟩
theorem Hd.ok {X : List Tok} {i : Ins} {m : Nat} (hH : Hd X i m) (h : InF i) (hm : m ≤ mI i) {f : Nat → Bool} (hf : ∀ q, f q = true → q < mI i → vN i q = 0) : ∀ q, q < m → nuE (f q) (X.getD (j0I i + q) tz) = 0 := fun q hq => by
  obtain ⟨h1, h2⟩ := hH.num h hm hq
  have hb := vN_bd h q
  obtain ⟨g1, g2⟩ := numR_ok (t := X.getD (j0I i + q) tz) (m := 2147483647) (by omega) (by omega) (by omega)
  exact nuE_ok g1 (fun g => g.2 (by rw [g2, h2]; exact hf q g.1 (by omega)))
theorem Hd.head {X : List Tok} {i : Ins} {m : Nat} (hH : Hd X i m) (hj : j0I i ≤ j0I i + m) : (X.getD 0 tz).k = 1 ∧ (X.getD 1 tz).k = 2 ∧ (X.getD 1 tz).n = i.n ∧ (i.kind = 1 → (X.getD 0 tz).x = wKN) ∧ (i.kind = 2 → (X.getD 0 tz).x = wAS) ∧ (¬ i.kind = 1 → ¬ i.kind = 2 → (X.getD 0 tz).x = wTS) ∧ (i.kind = 3 → (X.getD 2 tz).k = 1 ∧ (X.getD 2 tz).x = wFU) := by
  have hj2 : 2 ≤ j0I i := by unfold j0I; split <;> omega
  obtain ⟨a1, a2, a3⟩ := hH 0 (by omega)
  obtain ⟨b1, b2, b3⟩ := hH 1 (by omega)
  rw [a1, a2, b1, b3]
  unfold pcs hdP
  by_cases h1 : i.kind = 1
  · rw [if_pos h1]; exact ⟨rfl, rfl, rfl, fun _ => rfl, fun h => absurd h (by omega), fun h => absurd h1 h, fun h => absurd h (by omega)⟩
  · rw [if_neg h1]
    by_cases h2 : i.kind = 2
    · rw [if_pos h2]; exact ⟨rfl, rfl, rfl, fun h => absurd h h1, fun _ => rfl, fun _ h => absurd h2 h, fun h => absurd h (by omega)⟩
    · rw [if_neg h2]
      refine ⟨rfl, rfl, rfl, fun h => absurd h h1, fun h => absurd h h2, fun _ _ => rfl, fun h3 => ?_⟩
      obtain ⟨c1, c2, -⟩ := hH 2 (by unfold j0I; rw [if_pos h3]; omega)
      rw [c1, c2]
      unfold pcs hdP
      rw [if_neg h1, if_neg h2]
      exact ⟨rfl, rfl⟩
end Go.Proofs.Ytnikajkklocncaa
namespace Go.Proofs.Ytnikajkklocncaa
theorem numE_ok {x : Int} (h : 0 ≤ x ∧ x ≤ 2147483647) : numE x = 0 := by unfold numE; rw [if_neg (by omega), if_neg (by omega)]
theorem mat_cell {n r c : Nat} {g : Nat → Nat → Int} (hr : r < n) (hc : c < n) : ((mat n g).getD r []).getD c 0 = g r c := by
  rw [mat_row hr]; simp [List.getD, hc]
theorem form_mat {kd : Int} {n : Nat} {g : Nat → Nat → Int} (hk : kd = 2 ∨ kd = 3) (h1 : 1 ≤ n) (h24 : n ≤ 24) (hg : ∀ r c, r < n → c < n → 0 ≤ g r c ∧ g r c ≤ 2147483647) (hd : kd = 3 → ∀ r, r < n → g r r = 0) :
    sizeE ⟨kd, n, 0, [], [], mat n g⟩ = 0 ∧ shapeOK ⟨kd, n, 0, [], [], mat n g⟩ ∧ numsE ⟨kd, n, 0, [], [], mat n g⟩ = 0 := by
  refine ⟨?_, .inr ⟨by show kd ≠ 1; omega, by show ((mat n g).length : Int) = n; rw [mat_len], rfl, rfl, rfl, fun r hr => ?_⟩, ?_⟩
  · unfold sizeE; rw [if_neg (by simp only; omega), if_neg (by simp only; omega), if_neg (by simp only; omega)]
  · have hr' : r < n := by have : r < (mat n g).length := hr; rwa [mat_len] at this
    show (((mat n g).getD r []).length : Int) = n
    rw [mat_row hr']; simp
  · unfold numsE
    rw [if_neg (by show ¬ kd = 1; omega)]
    show pfx _ ((n : Int)).toNat = 0
    rw [Int.toNat_natCast]
    refine pfx_all n (fun r hr => pfx_all n (fun c hc => ?_))
    unfold cellF
    have e : (((⟨kd, (n : Int), 0, [], [], mat n g⟩ : Ins).cost).getD r []).getD c 0 = g r c := mat_cell hr hc
    rw [e, numE_ok (hg r c hr hc), if_neg (by simp), if_neg (fun q => ?_)]
    obtain ⟨⟨q1, q2⟩, q3⟩ := q
    subst q2
    exact q3 (hd q1 r hr)
end Go.Proofs.Ytnikajkklocncaa
namespace Go.Proofs.Ytnikajkklocncaa
open Go.RowKit
theorem D.appendI {P : Program} {a : Act} {w w0 : World} {nn : Nat} {l : List (Nat × Value)} {Q : Exit → Act → World → Prop} {F : Nat → Prop} {L : List Ck} {S : World → Prop} {os : List Oper} {is : Ordt} {i last : Nat} {b0 : Bool} {d : Nat} {t e ty : TypeId} {x y : Operand} {pos : String} {aft : Array Edge}
    {k n bytes cap : Nat} {v z : Value} {xs : List Value} {X : List Int} {ad : Option Addr} {j : TypeInfo} (hA : St nn l a) (hM : Mem w0 F L w) (ho : ith os i = some { dst := some d, op := .call { callee := .builtin .append, args := #[x, y], argTypes := #[t, t] }, type := ty, pos, after := aft, guard := none })
    (hk : ith L k = some (own e 1 v n xs)) (hX : IntSl w (.slice ad X.length cap) X) (hpos : 0 < X.length) (ht : P.underlying t = some (.slice e)) (hi : P.info? e = some j) (hz : j.zero = some z) (hsz : j.size = 1) (hby : j.bytes = bytes) (hzs : z.cells.size = 1)
    (hx : opv l x = some v) (hy : opv l y = some (.slice ad X.length cap)) (hmax : n + X.length ≤ maxLen) (hbs : (n + X.length) * bytes ≤ 140737488355328) (hd : Nat.blt d nn = true)
    (h : ∀ a' cap' w', Mem w0 F (setAt L k (own e 1 (.slice a' (n + X.length) cap') (n + X.length) (xs ++ X.map (Value.int .i64)))) w' → S w' ∧ ∀ a, St nn ((d, .slice a' (n + X.length) cap') :: l) a → wpOrd P last os Q S b0 is a w') : wpOrd P last os Q S b0 (.cons (i, false) is) a w := by
  obtain ⟨ad', cap', he, hle, hmx, hnn, hc⟩ := hX
  injection he with he1 he2 he3
  subst he1 he3
  cases ad with
  | none => exact absurd (hnn rfl) (by omega)
  | some p =>
    refine D.appendG hA hM ho hk ht hi hz hsz hby hzs (by decide) hx hy (by simp) (fun j u hu => ?_) (allOne_ints X) hmax hbs hd h
    obtain ⟨hj, rfl⟩ := mapi_take X j u hu
    obtain ⟨b, off, hb, hlt, hcell⟩ := hc (by intro e0; rw [e0] at hj; simp at hj)
    cases hb
    rw [Addr.add_lit]; exact hcell j hj
end Go.Proofs.Ytnikajkklocncaa
namespace Go.Proofs.Ytnikajkklocncaa
theorem getD_set (X : List Int) (i t : Nat) (v : Int) (hi : i < X.length) : (X.set i v).getD t 0 = if t = i then v else X.getD t 0 := by
  rw [List.getD_eq_getElem?_getD, List.getElem?_set]
  by_cases e : i = t
  · subst e; simp [hi]
  · rw [if_neg e, if_neg (fun h => e h.symm), List.getD_eq_getElem?_getD]
end Go.Proofs.Ytnikajkklocncaa
namespace Go.Proofs.Ytnikajkklocncaa
open Go.RowKit
set_option maxRecDepth 100000 in
set_option maxHeartbeats 400000 in
theorem clone09 (ax : Option Addr) (X : List Int) (cx : Nat) (hX : X.length ≤ 1000) (w : World) (hx : IntSl w (.slice ax X.length cx) X) :
  Calls Try.prog 49 #[.slice ax X.length cx] w fun e w' => ∃ a c, e = .returned (.slice a X.length c) ∧ Mem w nof [own 3 1 (.slice a X.length c) X.length (X.map (Value.int .i64))] w' := by
 have hbs := Below.refl (B := w.heap.size) w
 have hM := Mem.start w
 refine Calls.of_ends (vs := [.slice ax X.length cx]) Try.func49 rfl Try.ntmps49 rfl ?_
 intro a hA
 replace hA : St 8 [(0, _)] a := hA
 refine Ends.seq (Ends.region ?_)
 refine S.val hA (R.assign rfl) rfl ?_; clear hA a; intro a hA
 refine S.done ?_
 replace hA : St 8 [(0, _)] a := hA.sub ((.cons rfl .nil))
 refine Ends.seq (Ends.seq (Ends.region ?_))
 refine S.val hA (R.move rfl) rfl ?_; clear hA a; intro a hA
 refine S.val hA (R.eqlNilS Try.underlying22 rfl rfl) rfl ?_; clear hA a; intro a hA
 refine S.done ?_
 replace hA : St 8 [(0, _), (4, _)] a := hA.sub ((.cons rfl (.cons rfl .nil)))
 refine Ends.iteB hA rfl (fun hc1 => ?_) (fun hc1 => ?_)
 ·
  refine Ends.seq (Ends.region ?_)
  refine S.val hA (R.assign rfl) rfl ?_; clear hA a; intro a hA
  refine S.done ?_
  replace hA : St 8 [(0, _), (2, _)] a := hA.sub ((.cons rfl (.cons rfl .nil)))
  refine Ends.ret1 Try.func49 Try.results49 hA rfl ?_
  have hX0 : X = [] := by obtain ⟨a9, c9, he9, h91, h92, h93, h94⟩ := hx; have hc0 := hc1; cases ax with | some p => cases hc0 | none => (cases he9; exact List.length_eq_zero_iff.1 (by have := h93 rfl; omega))
  subst hX0
  exact ⟨none, 0, rfl, hM.ownNil 3 1⟩
 ·
  refine Ends.skip (Ends.seq (Ends.region ?_))
  refine S.buildSl0 hA hM Try.underlying22 info3 rfl ?_; clear hA hM a; intro b2 w1 hb3 hM a hA
  replace hM := hM.ownPt (cap := 0) (n := 0) (sz := 1) (xs := []) rfl (Nat.zero_le _) (Nat.le_refl _) rfl
  replace hM : Mem _ _ [own 3 1 (.slice ((some ⟨b2, 0, none⟩)) 0 0) 0 ((([] : List Int)).map (Value.int .i64))] _ := hM
  refine S.val hA (R.move rfl) rfl ?_; clear hA a; intro a hA
  refine S.appendI (k := 0) hA hM rfl (hx.mem hM) Try.underlying22 info3 rfl rfl rfl rfl rfl rfl (by first | (unfold maxLen; omega) | (show (0 + _) * 8 ≤ (140737488355328 : Nat); omega)) (by first | (unfold maxLen; omega) | (show (0 + _) * 8 ≤ (140737488355328 : Nat); omega)) rfl ?_; clear hA hM a; intro a4 c5 w2 hM a hA
  have hl6 : 0 + X.length = X.length := by first | (simp; done) | simp only [List.length_append]
  rw [hl6, show (([] : List Int)).map (Value.int .i64) ++ X.map (Value.int .i64) = X.map (Value.int .i64) by simp] at hM; rw [hl6] at hA; clear hl6
  replace hM : Mem _ _ [own 3 1 (.slice a4 X.length c5) X.length (X.map (Value.int .i64))] _ := hM
  refine S.val hA (R.assign rfl) rfl ?_; clear hA a; intro a hA
  refine S.done ?_
  replace hA : St 8 [(2, _)] a := hA.sub ((.cons rfl .nil))
  refine Ends.ret1 Try.func49 Try.results49 hA rfl ?_
  exact ⟨_, _, rfl, hM⟩
end Go.Proofs.Ytnikajkklocncaa
namespace Go.Proofs.Ytnikajkklocncaa
open Go.RowKit Go.WideShapes Go.ChangeShapes Go.Deep
section
variable {H : Type} {enc : TypeId × Value → H} {P : Program} {w : World}
theorem trod_ints {t e : TypeId} {fuel : Nat} {cs : List Value} {x : DataW H × List MemPlace} {held : Bool} (ht : P.underlying t = some (.slice e)) (he : P.underlying e = some (.int .i64)) (hce : P.cellsOf e = 1)
    (h : DataW.trod enc P w 0 (fun _ => true) held fuel t cs = some x) : ∃ (u : Value) (l : List Int), cs = [u] ∧ IntSl w u l ∧ ∀ y ∈ l, (Lit.int .i64 y).wf = true := by
  rcases open_ints ht he hce h with ⟨hcs, _⟩ | ⟨x, len, cap, zs, hcs, _, hl, hm, hz, _, hcell, hwz⟩
  · exact ⟨_, [], hcs, IntSl.nil w, fun x hx => by cases hx⟩
  · simp only [if_true] at hz
    refine ⟨_, zs.take len, hcs, ⟨some x, cap, by rw [List.length_take, Nat.min_eq_left (by omega)], by rw [List.length_take]; omega, hm, (fun h => nomatch h), fun hne => ?_⟩, fun y hy => hwz y (List.mem_of_mem_take hy)⟩
    have h0 : 0 < zs.length ∧ 0 < len := by
      rcases Nat.eq_zero_or_pos len with e | e
      · subst e; simp at hne
      · exact ⟨by omega, e⟩
    obtain ⟨b, off, spot⟩ := x
    have hs : spot = none := by
      have h1 := hcell 0 h0.1
      unfold Addr.add at h1
      simp only [if_true] at h1
      cases spot with
      | none => rfl
      | some s =>
        unfold World.cell? at h1
        split at h1 <;> simp at h1
    subst hs
    refine ⟨b, off, rfl, ?_, fun i hi => ?_⟩
    · have h1 := hcell 0 h0.1
      exact World.block_lt_of_cell? w _ h1
    · rw [List.length_take] at hi
      have h1 := hcell i (by omega)
      rw [Addr.add_lit] at h1
      rw [h1]
      congr 2
      simp only [List.getD_eq_getElem?_getD, List.getElem?_take]
      rw [if_pos (by omega)]
theorem trod_rows {t e f : TypeId} {fuel : Nat} {cs : List Value} {x : DataW H × List MemPlace} {held : Bool} (ht : P.underlying t = some (.slice e)) (hu : P.underlying e = some (.slice f)) (hc1 : P.cellsOf e = 1) (he : P.underlying f = some (.int .i64)) (hce : P.cellsOf f = 1)
  (h : DataW.trod enc P w 0 (fun _ => true) held fuel t cs = some x) : ∃ (u : Value) (R : List (List Int)), cs = [u] ∧ RowsV w u R ∧ ∀ r ∈ R, ∀ y ∈ r, (Lit.int .i64 y).wf = true := by
 rcases open_slice ht h with ⟨hcs, _⟩ | ⟨x, len, cap, m, nn, D, Pl, hcs, hb, hl, hm, hmm, -, hx⟩
 · exact ⟨_, [], hcs, RowsV.nil w, fun x hx => by cases hx⟩
 ·
  simp only [if_true] at hmm
  subst hmm
  have each : ∀ i, i < len → ∃ (u : Value) (l : List Int), w.cell? (x.add i) = some u ∧ IntSl w u l ∧ ∀ y ∈ l, (Lit.int .i64 y).wf = true := by
   intro i hi
   obtain ⟨cs', h1, h2⟩ := hx i (by omega)
   obtain ⟨u, l, rfl, h3, h4⟩ := trod_ints hu he hce h2
   rw [hc1, Nat.mul_one] at h1
   obtain ⟨-, hlen, hcell⟩ := World.cells?_some h1
   have h5 := hcell 0 (by omega)
   refine ⟨u, l, ?_, h3, h4⟩
   have e0 : (x.add i).add 0 = x.add i := by simp [Addr.add]
   rw [e0] at h5
   rw [h5]; rfl
  rcases Nat.eq_zero_or_pos len with e0 | e0
  ·
   subst e0
   exact ⟨_, [], hcs, ⟨some x, _, rfl, hl, hm, (fun h => nomatch h), fun h => absurd rfl h⟩, fun x hx => by cases hx⟩
  let f : Nat → List Int := fun i => if hi : i < len then Classical.choose (Classical.choose_spec (each i hi)) else []
  have hf : ∀ i, i < len → ∃ u, w.cell? (x.add i) = some u ∧ IntSl w u (f i) ∧ ∀ y ∈ f i, (Lit.int .i64 y).wf = true := fun i hi => by
   refine ⟨Classical.choose (each i hi), ?_⟩
   have := Classical.choose_spec (Classical.choose_spec (each i hi))
   simp only [f, hi, dif_pos]
   exact this
  have hlen : ((List.range len).map f).length = len := by simp
  obtain ⟨b, off, spot⟩ := x
  have hs : spot = none := by
   obtain ⟨u, h1, -⟩ := hf 0 e0
   unfold Addr.add at h1
   cases spot with
   | none => rfl
   | some s =>
    unfold World.cell? at h1
    split at h1 <;> simp at h1
  subst hs
  refine ⟨_, (List.range len).map f, hcs, ⟨some ⟨b, off, none⟩, _, by rw [hlen], by rw [hlen]; exact hl, hm, (fun h => nomatch h), fun _ => ⟨b, off, rfl, ?_, fun i hi => ?_⟩⟩, fun r hr => ?_⟩
  ·
   obtain ⟨u, h1, -⟩ := hf 0 e0
   exact World.block_lt_of_cell? w _ h1
  ·
   rw [hlen] at hi
   obtain ⟨u, h1, h2, -⟩ := hf i hi
   rw [Addr.add_lit] at h1
   refine ⟨u, h1, ?_⟩
   rw [show ((List.range len).map f).getD i [] = f i by simp [List.getD, hi]]
   exact h2
  ·
   obtain ⟨i, hi, rfl⟩ := List.mem_map.1 hr
   obtain ⟨u, -, -, h3⟩ := hf i (List.mem_range.1 hi)
   exact h3
def wfI (i : Ins) : Prop := (Lit.int .i64 i.kind).wf = true ∧ (Lit.int .i64 i.n).wf = true ∧ (Lit.int .i64 i.cap).wf = true ∧ (∀ y ∈ i.wt, (Lit.int .i64 y).wf = true) ∧ (∀ y ∈ i.vl, (Lit.int .i64 y).wf = true) ∧ ∀ r ∈ i.cost, ∀ y ∈ r, (Lit.int .i64 y).wf = true
theorem open_ins {r : Reach} {b0 : Nat} {t tI tS tR : TypeId} {fs : Array Field} {v : Value} {d : DataW H} {p : List MemPlace} {held : Bool} (ht : P.underlying t = some (.struct fs)) (hcells : P.cellsOf t = 6) (hI : P.underlying tI = some (.int .i64)) (hcI : P.cellsOf tI = 1) (hS : P.underlying tS = some (.slice tI)) (hcS : P.cellsOf tS = 1) (hR : P.underlying tR = some (.slice tS)) (hcR : P.cellsOf tR = 1)
  (hf : ∃ f0 f1 f2 f3 f4 f5 : Field, fs = #[f0, f1, f2, f3, f4, f5] ∧ (f0.type = tI ∧ f1.type = tI ∧ f2.type = tI ∧ f3.type = tS ∧ f4.type = tS ∧ f5.type = tR) ∧ f0.offset = 0 ∧ f1.offset = 1 ∧ f2.offset = 2 ∧ f3.offset = 3 ∧ f4.offset = 4 ∧ f5.offset = 5)
  (hv : Value.okWide P w r b0 t v) (h : DataW.Trod enc P w 0 (fun _ => true) held t v d p) : ∃ i : Ins, InsV w v i ∧ wfI i := by
 simp only [Value.okWide, ht] at hv
 obtain ⟨cs, rfl, hsz, -⟩ := hv
 obtain ⟨fuel, hfu⟩ := h
 obtain ⟨f0, f1, f2, f3, f4, f5, rfl, ⟨t0, t1, t2, t3, t4, t5⟩, o0, o1, o2, o3, o4, o5⟩ := hf
 obtain ⟨xs, k, -, -, hlen, hxl, hfd⟩ := DataW.trod_struct ht hfu
 rw [hcells] at hlen hsz
 obtain ⟨c0, c1, c2, c3, c4, c5, rfl⟩ : ∃ c0 c1 c2 c3 c4 c5, cs = #[c0, c1, c2, c3, c4, c5] := by
  match cs, hsz with
  | ⟨[c0, c1, c2, c3, c4, c5]⟩, _ => exact ⟨c0, c1, c2, c3, c4, c5, rfl⟩
 have hx : ∀ j, j < 6 → ∃ y, xs[j]? = some y := fun j hj => ⟨xs[j]'(by rw [hxl]; exact hj), List.getElem?_eq_getElem _⟩
 have g : ∀ (j : Nat) (f : Field) (tt : TypeId) (c : Value), (#[f0, f1, f2, f3, f4, f5] : Array Field)[j]? = some f → j < 6 → f.type = tt → f.offset = j → P.cellsOf tt = 1 → (([c0, c1, c2, c3, c4, c5] : List Value).drop j).take 1 = [c] → ∃ y, DataW.trod enc P w 0 (fun _ => true) held k tt [c] = some y := by
  intro j f tt c h1 hj h2 h3 h4 h5
  have := hfd j f h1
  rw [h2, h3, h4] at this
  obtain ⟨y, hy⟩ := hx j hj
  refine ⟨y, ?_⟩
  rw [← hy, ← this, ← h5]
  rfl
 obtain ⟨y0, g0⟩ := g 0 f0 tI c0 rfl (by omega) t0 o0 hcI rfl
 obtain ⟨y1, g1⟩ := g 1 f1 tI c1 rfl (by omega) t1 o1 hcI rfl
 obtain ⟨y2, g2⟩ := g 2 f2 tI c2 rfl (by omega) t2 o2 hcI rfl
 obtain ⟨y3, g3⟩ := g 3 f3 tS c3 rfl (by omega) t3 o3 hcS rfl
 obtain ⟨y4, g4⟩ := g 4 f4 tS c4 rfl (by omega) t4 o4 hcS rfl
 obtain ⟨y5, g5⟩ := g 5 f5 tR c5 rfl (by omega) t5 o5 hcR rfl
 obtain ⟨n0, e0, -, w0⟩ := DataW.trod_int hI g0
 obtain ⟨n1, e1, -, w1⟩ := DataW.trod_int hI g1
 obtain ⟨n2, e2, -, w2⟩ := DataW.trod_int hI g2
 obtain ⟨u3, l3, e3, s3, w3⟩ := trod_ints hS hI hcI g3
 obtain ⟨u4, l4, e4, s4, w4⟩ := trod_ints hS hI hcI g4
 obtain ⟨u5, R, e5, s5, w5⟩ := trod_rows hR hS hcS hI hcI g5
 cases e0
 cases e1
 cases e2
 cases e3
 cases e4
 cases e5
 exact ⟨⟨n0, n1, n2, l3, l4, R⟩, ⟨_, _, _, rfl, s3, s4, s5⟩, w0, w1, w2, w3, w4, w5⟩
end
end Go.Proofs.Ytnikajkklocncaa
namespace Go.Proofs.Ytnikajkklocncaa
open Go.RowKit
def smlP (i : Ins) : Prop := chk i = 0 ∧ (i.kind = 1 ∧ i.n ≤ 9 ∨ i.n ≤ 6)
instance (i : Ins) : Decidable (smlP i) := by unfold smlP; infer_instance
end Go.Proofs.Ytnikajkklocncaa
namespace Go.Proofs.Ytnikajkklocncaa
open Go.RowKit
theorem add_ok (a b : Int) (a0 : -9223372036854775808 ≤ a) (a1 : a ≤ 9223372036854775807) (b0 : -9223372036854775808 ≤ b) (b1 : b ≤ 9223372036854775807) (h : -9223372036854775808 ≤ a + b ∧ a + b ≤ 9223372036854775807) (w : World) :
    Calls Try.prog 52 #[.int .i64 a, .int .i64 b] w fun e w' => e = .returned (.tuple #[.int .i64 (a + b), .bool true]) ∧ w = w' := by
  have := a_add a b a0 a1 b0 b1 w
  rwa [(int_yes h).1, (int_yes h).2] at this
end Go.Proofs.Ytnikajkklocncaa
namespace Go.Proofs.Ytnikajkklocncaa
open Go.RowKit Go.WideShapes Go.ChangeShapes Go.Deep
section
variable {H : Type} {enc : TypeId × Value → H} {P : Program} {w : World}
theorem trod_ints_len {t e : TypeId} {fuel : Nat} {a : Option Addr} {n c : Nat} {x : DataW H × List MemPlace} {held : Bool} (ht : P.underlying t = some (.slice e)) (he : P.underlying e = some (.int .i64)) (hce : P.cellsOf e = 1) (hbe : P.bytesOf e = 8)
    (h : DataW.trod enc P w 0 (fun _ => true) held fuel t [.slice a n c] = some x) (hw : ∀ m ∈ x.1.weights P t, m ≤ reachBytes) : n ≤ 17592186044416 := by
  rcases open_ints ht he hce h with ⟨hcs, _⟩ | ⟨a', len, cap, zs, hcs, -, hl, hm, hz, hx, -, -⟩
  · cases hcs; exact Nat.zero_le _
  · cases hcs
    simp only [if_true] at hz
    subst hx
    have h1 := hw (((lits IntKind.i64 (zs.take n)).length + (lits (H := H) IntKind.i64 (zs.drop n)).length) * P.bytesOf e) (by simp only [DataW.weights, ht]; exact List.mem_cons_self)
    rw [hbe] at h1
    have h2 : (lits (H := H) IntKind.i64 (zs.take n)).length = n := by simp [lits]; omega
    rw [h2] at h1
    unfold reachBytes at h1
    omega
theorem ins_len {t tI tS tR : TypeId} {fs : Array Field} {v : Value} {d : DataW H} {p : List MemPlace} {held : Bool} {i : Ins} (ht : P.underlying t = some (.struct fs)) (hI : P.underlying tI = some (.int .i64)) (hcI : P.cellsOf tI = 1) (hbI : P.bytesOf tI = 8) (hS : P.underlying tS = some (.slice tI)) (hcS : P.cellsOf tS = 1)
    (hf : ∃ f0 f1 f2 f3 f4 f5 : Field, fs = #[f0, f1, f2, f3, f4, f5] ∧ (f0.type = tI ∧ f1.type = tI ∧ f2.type = tI ∧ f3.type = tS ∧ f4.type = tS ∧ f5.type = tR) ∧ f0.offset = 0 ∧ f1.offset = 1 ∧ f2.offset = 2 ∧ f3.offset = 3 ∧ f4.offset = 4 ∧ f5.offset = 5)
    (hiv : InsV w v i) (h : DataW.Trod enc P w 0 (fun _ => true) held t v d p) (hw : ∀ m ∈ d.weights P t, m ≤ reachBytes) : i.wt.length ≤ 17592186044416 ∧ i.vl.length ≤ 17592186044416 := by
  obtain ⟨aw, cw, av, cv, ac, cc, rfl, -, -, -⟩ := hiv.parts
  obtain ⟨fuel, hfu⟩ := h
  obtain ⟨f0, f1, f2, f3, f4, f5, rfl, ⟨t0, t1, t2, t3, t4, t5⟩, o0, o1, o2, o3, o4, o5⟩ := hf
  obtain ⟨xs, k, -, hx, hlen, hxl, hfd⟩ := DataW.trod_struct ht hfu
  cases hx
  have g : ∀ (j : Nat) (f : Field) (a : Option Addr) (n c : Nat), (#[f0, f1, f2, f3, f4, f5] : Array Field)[j]? = some f → j < 6 → f.type = tS → f.offset = j →
      (([.int .i64 i.kind, .int .i64 i.n, .int .i64 i.cap, .slice aw i.wt.length cw, .slice av i.vl.length cv, .slice ac i.cost.length cc] : List Value).drop j).take 1 = [.slice a n c] → n ≤ 17592186044416 := by
    intro j f a n c h1 hj h2 h3 h5
    have h6 := hfd j f h1
    rw [h2, h3, hcS] at h6
    have hlt : j < xs.length := by rw [hxl]; exact hj
    rw [List.getElem?_eq_getElem hlt] at h6
    refine trod_ints_len (x := xs[j]) hS hI hcI hbI (h5 ▸ h6) fun m hm => hw m ?_
    simp only [DataW.weights, ht]
    exact DataW.weights_mem_each (j := j) (t := tS) (d := xs[j].1) (by rw [List.getElem?_map, Array.getElem?_toList, h1]; exact congrArg some h2) (by simp [hlt]) m hm
  exact ⟨g 3 f3 aw _ cw rfl (by omega) t3 o3 rfl, g 4 f4 av _ cv rfl (by omega) t4 o4 rfl⟩
end
end Go.Proofs.Ytnikajkklocncaa
namespace Go.Proofs.Ytnikajkklocncaa
open Go.RowKit
set_option maxRecDepth 100000 in
set_option maxHeartbeats 400000 in
theorem shapeL5 (i : Ins) (ax3 : Option Addr) (cx3 : Nat) (ax4 : Option Addr) (cx4 : Nat) (ax5 : Option Addr) (cx5 : Nat) (hbg : i.wt.length ≤ 17592186044416 ∧ i.vl.length ≤ 17592186044416) (w : World) (hx3 : IntSl w (.slice ax3 i.wt.length cx3) i.wt) (hx4 : IntSl w (.slice ax4 i.vl.length cx4) i.vl) (hx5 : RowsV w (.slice ax5 i.cost.length cx5) i.cost) :
  Calls Try.prog 54 #[.agg #[.int .i64 i.kind, .int .i64 i.n, .int .i64 i.cap, .slice ax3 i.wt.length cx3, .slice ax4 i.vl.length cx4, .slice ax5 i.cost.length cx5]] w fun e w' => ∃ b, e = .returned (.bool b) ∧ (b = true ↔ shapeOK i) ∧ Below w.heap.size w w' := by
 have hbs := Below.refl (B := w.heap.size) w
 have hl3 := hx3.lenB
 have hl4 := hx4.lenB
 have hl5 := hx5.lenB
 have hb1 := hbg.1
 have hb2 := hbg.2
 have hM := Mem.start w
 refine Calls.of_ends (vs := [.agg #[.int .i64 i.kind, .int .i64 i.n, .int .i64 i.cap, .slice ax3 i.wt.length cx3, .slice ax4 i.vl.length cx4, .slice ax5 i.cost.length cx5]]) Try.func54 rfl Try.ntmps54 rfl ?_
 intro a hA
 replace hA : St 52 [(0, _)] a := hA
 refine Ends.seq (Ends.region ?_)
 refine S.box hA hM rfl rfl ?_; clear hA hM a; intro b1 w1 hb2 hM a hA
 replace hM : Mem _ _ [pt b1 #[.int .i64 i.kind, .int .i64 i.n, .int .i64 i.cap, .slice ax3 i.wt.length cx3, .slice ax4 i.vl.length cx4, .slice ax5 i.cost.length cx5] 25] _ := hM
 refine S.val hA (R.assign rfl) rfl ?_; clear hA a; intro a hA
 refine S.done ?_
 refine Ends.seq (Ends.seq (Ends.region ?_))
 refine S.val hA (R.fieldAddr (q := 0) fi25_0 rfl rfl rfl) rfl ?_; clear hA a; intro a hA
 refine S.val hA (R.load sz3 rfl (hM.cell (k := 0) rfl rfl)) rfl ?_; clear hA a; intro a hA
 refine S.val hA (R.eql rfl rfl) rfl ?_; clear hA a; intro a hA
 refine S.done ?_
 replace hA : St 52 [(1, _), (5, _)] a := hA.sub ((.cons rfl (.cons rfl .nil)))
 refine Ends.ite hA rfl (fun hc3 => ?_) (fun hc3 => ?_)
 ·
  refine Ends.seq ?_
  refine Ends.cut (fun (a : Act) (wv : World) => St 52 [(1, .pointer (some ⟨b1, 0, none⟩)), (2, .bool (decide (((((i.wt.length : Int)) = i.n ∧ ((i.vl.length : Int)) = i.n) ∧ ((i.cost.length : Int)) = 0))))] a ∧ Mem w nof [pt b1 #[.int .i64 i.kind, .int .i64 i.n, .int .i64 i.cap, .slice ax3 i.wt.length cx3, .slice ax4 i.vl.length cx4, .slice ax5 i.cost.length cx5] 25] wv) ?_ (fun k2 hJ => ?_)
  ·
   clear hA hM a; rintro a w2 ⟨hA, hM⟩
   refine Ends.ret1 Try.func54 Try.results54 hA rfl ?_
   exact ⟨_, rfl, by rw [decide_eq_true_iff]; unfold shapeOK; omega, Mem.trans0 hbs hM.nilL⟩
  ·
   refine Ends.region ?_
   refine S.val hA (R.fieldAddr (q := 3) fi25_3 rfl rfl rfl) rfl ?_; clear hA a; intro a hA
   refine S.val hA (R.load sz22 rfl (hM.cell (k := 0) rfl rfl)) rfl ?_; clear hA a; intro a hA
   refine S.val hA (R.lenS Try.underlying22 rfl rfl) rfl ?_; clear hA a; intro a hA
   refine S.val hA (R.fieldAddr (q := 1) fi25_1 rfl rfl rfl) rfl ?_; clear hA a; intro a hA
   refine S.val hA (R.load sz3 rfl (hM.cell (k := 0) rfl rfl)) rfl ?_; clear hA a; intro a hA
   refine S.val hA (R.eql rfl rfl) rfl ?_; clear hA a; intro a hA
   refine S.val hA (R.move rfl) rfl ?_; clear hA a; intro a hA
   refine hA.split (d := 12) rfl ?_ ?_
   ·
    clear hA; intro hg4 hA
    refine S.valg (dj := 12) hA (by kernel_rfl) rfl (R.fieldAddr (q := 4) fi25_4 rfl rfl rfl) rfl ?_; clear hA a; intro a hA
    refine S.valg (dj := 12) hA (by kernel_rfl) rfl (R.load sz22 rfl (hM.cell (k := 0) rfl rfl)) rfl ?_; clear hA a; intro a hA
    refine S.valg (dj := 12) hA (by kernel_rfl) rfl (R.lenS Try.underlying22 rfl rfl) rfl ?_; clear hA a; intro a hA
    refine S.valg (dj := 12) hA (by kernel_rfl) rfl (R.fieldAddr (q := 1) fi25_1 rfl rfl rfl) rfl ?_; clear hA a; intro a hA
    refine S.valg (dj := 12) hA (by kernel_rfl) rfl (R.load sz3 rfl (hM.cell (k := 0) rfl rfl)) rfl ?_; clear hA a; intro a hA
    refine S.valg (dj := 12) hA (by kernel_rfl) rfl (R.eql rfl rfl) rfl ?_; clear hA a; intro a hA
    refine S.val hA (R.pickT rfl rfl) rfl ?_; clear hA a; intro a hA
    refine S.val hA (R.move rfl) rfl ?_; clear hA a; intro a hA
    refine hA.split (d := 20) rfl ?_ ?_
    ·
     clear hA; intro hg5 hA
     refine S.valg (dj := 20) hA (by kernel_rfl) rfl (R.fieldAddr (q := 5) fi25_5 rfl rfl rfl) rfl ?_; clear hA a; intro a hA
     refine S.valg (dj := 20) hA (by kernel_rfl) rfl (R.load sz23 rfl (hM.cell (k := 0) rfl rfl)) rfl ?_; clear hA a; intro a hA
     refine S.valg (dj := 20) hA (by kernel_rfl) rfl (R.lenS Try.underlying23 rfl rfl) rfl ?_; clear hA a; intro a hA
     refine S.valg (dj := 20) hA (by kernel_rfl) rfl (R.eql rfl rfl) rfl ?_; clear hA a; intro a hA
     refine S.val hA (R.pickT rfl rfl) rfl ?_; clear hA a; intro a hA
     refine S.val hA (R.assign rfl) rfl ?_; clear hA a; intro a hA
     refine S.done ?_
     replace hA : St 52 [(1, _), (2, _)] a := hA.sub ((.cons rfl (.cons rfl .nil)))
     exact hJ _ _ ⟨hA.sub (.cons rfl (.cons (by first | rfl | exact congrArg (fun b => some (Value.bool b)) (by first | exact decide_eq_decide.2 (by omega) | exact or_bool (by omega) | exact and_bool (by omega) | (simp; done) | (simp [hg4, hg5]; done) | (have h80 := hg4; (try simp at h80); have h81 := hg5; (try simp at h81); simp [h80, h81]; done) | exact (decide_eq_false (fun h9 => hg4 h9.1)).symm | exact (decide_eq_false (fun h9 => hg5 h9.1)).symm)) .nil)), hM⟩
    ·
     clear hA; intro hg5 hA
     refine S.no (dj := 20) hA (by kernel_rfl) rfl rfl rfl ?_; clear hA a; intro a hA
     refine S.no (dj := 20) hA (by kernel_rfl) rfl rfl rfl ?_; clear hA a; intro a hA
     refine S.no (dj := 20) hA (by kernel_rfl) rfl rfl rfl ?_; clear hA a; intro a hA
     refine S.no (dj := 20) hA (by kernel_rfl) rfl rfl rfl ?_; clear hA a; intro a hA
     refine S.val hA (R.pickF rfl rfl) rfl ?_; clear hA a; intro a hA
     refine S.val hA (R.assign rfl) rfl ?_; clear hA a; intro a hA
     refine S.done ?_
     replace hA : St 52 [(1, _), (2, _)] a := hA.sub ((.cons rfl (.cons rfl .nil)))
     exact hJ _ _ ⟨hA.sub (.cons rfl (.cons (by first | rfl | exact congrArg (fun b => some (Value.bool b)) (by first | exact decide_eq_decide.2 (by omega) | exact or_bool (by omega) | exact and_bool (by omega) | (simp; done) | (simp [hg4, hg5]; done) | (have h80 := hg4; (try simp at h80); have h81 := hg5; (try simp at h81); simp [h80, h81]; done) | exact (decide_eq_false (fun h9 => hg4 h9.1)).symm | exact (decide_eq_false (fun h9 => hg5 h9.1)).symm)) .nil)), hM⟩
   ·
    clear hA; intro hg4 hA
    refine S.no (dj := 12) hA (by kernel_rfl) rfl rfl rfl ?_; clear hA a; intro a hA
    refine S.no (dj := 12) hA (by kernel_rfl) rfl rfl rfl ?_; clear hA a; intro a hA
    refine S.no (dj := 12) hA (by kernel_rfl) rfl rfl rfl ?_; clear hA a; intro a hA
    refine S.no (dj := 12) hA (by kernel_rfl) rfl rfl rfl ?_; clear hA a; intro a hA
    refine S.no (dj := 12) hA (by kernel_rfl) rfl rfl rfl ?_; clear hA a; intro a hA
    refine S.no (dj := 12) hA (by kernel_rfl) rfl rfl rfl ?_; clear hA a; intro a hA
    refine S.val hA (R.pickF rfl rfl) rfl ?_; clear hA a; intro a hA
    refine S.val hA (R.move rfl) rfl ?_; clear hA a; intro a hA
    refine S.no (dj := 20) hA (by kernel_rfl) rfl rfl rfl ?_; clear hA a; intro a hA
    refine S.no (dj := 20) hA (by kernel_rfl) rfl rfl rfl ?_; clear hA a; intro a hA
    refine S.no (dj := 20) hA (by kernel_rfl) rfl rfl rfl ?_; clear hA a; intro a hA
    refine S.no (dj := 20) hA (by kernel_rfl) rfl rfl rfl ?_; clear hA a; intro a hA
    refine S.val hA (R.pickF rfl rfl) rfl ?_; clear hA a; intro a hA
    refine S.val hA (R.assign rfl) rfl ?_; clear hA a; intro a hA
    refine S.done ?_
    replace hA : St 52 [(1, _), (2, _)] a := hA.sub ((.cons rfl (.cons rfl .nil)))
    exact hJ _ _ ⟨hA.sub (.cons rfl (.cons (by first | rfl | exact congrArg (fun b => some (Value.bool b)) (by first | exact decide_eq_decide.2 (by omega) | exact or_bool (by omega) | exact and_bool (by omega) | (simp; done) | (simp [hg4]; done) | (have h80 := hg4; (try simp at h80); simp [h80]; done) | exact (decide_eq_false (fun h9 => hg4 h9.1)).symm)) .nil)), hM⟩
 ·
  refine Ends.skip (Ends.seq (Ends.seq ?_))
  refine Ends.cut (fun (a : Act) (wv : World) => St 52 [(1, .pointer (some ⟨b1, 0, none⟩)), (46, .bool (decide (((((i.cost.length : Int)) ≠ i.n ∨ i.cap ≠ 0) ∨ 0 < (((i.wt.length : Int)) + ((i.vl.length : Int)))))))] a ∧ Mem w nof [pt b1 #[.int .i64 i.kind, .int .i64 i.n, .int .i64 i.cap, .slice ax3 i.wt.length cx3, .slice ax4 i.vl.length cx4, .slice ax5 i.cost.length cx5] 25] wv) ?_ (fun k2 hJ => ?_)
  ·
   clear hA hM a; rintro a w3 ⟨hA, hM⟩
   refine Ends.ite hA rfl (fun hc6 => ?_) (fun hc6 => ?_)
   ·
    refine Ends.seq (Ends.region ?_)
    refine S.val hA (R.assign rfl) rfl ?_; clear hA a; intro a hA
    refine S.done ?_
    refine Ends.ret1 Try.func54 Try.results54 hA rfl ?_
    refine ⟨false, rfl, ⟨fun h => (by cases h), fun h => ?_⟩, Mem.trans0 hbs hM.nilL⟩
    unfold shapeOK at h
    rcases h with h | ⟨q1, q2, q3, q4, q5, -⟩
    · omega
    · omega
   ·
    refine Ends.skip (Ends.seq (Ends.region ?_))
    refine S.val hA (R.fieldAddr (q := 5) fi25_5 rfl rfl rfl) rfl ?_; clear hA a; intro a hA
    refine S.val hA (R.load sz23 rfl (hM.cell (k := 0) rfl rfl)) rfl ?_; clear hA a; intro a hA
    refine S.val hA (R.to (v := .func (.func 68) #[] #[.pointer (some ⟨b1, 0, none⟩)]) (R.makeFunc rfl) rfl) rfl ?_; clear hA a; intro a hA
    refine S.call hA (R.callF Try.func67 rfl rfl rfl) rfl (containsR b1 i ax3 cx3 ax4 cx4 ax5 cx5 _ (hM.block (k := 0) rfl) (hx3.mem hM) (hx4.mem hM) (hx5.mem hM)) ?_; clear hA a
    rintro e w4 ⟨bi7, rfl, hbi8, hb⟩
    replace hM := hM.callB hb; clear hb
    refine ⟨.bool bi7, rfl, fun a hA => ?_⟩
    refine S.val hA (R.not rfl) rfl ?_; clear hA a; intro a hA
    refine S.val hA (R.assign rfl) rfl ?_; clear hA a; intro a hA
    refine S.done ?_
    replace hA : St 52 [(2, _)] a := hA.sub ((.cons rfl .nil))
    refine Ends.ret1 Try.func54 Try.results54 hA rfl ?_
    refine ⟨_, rfl, ?_, Mem.trans0 hbs hM.nilL⟩
    have hbi := hbi8
    constructor
    ·
     intro h
     have hf : bi7 = false := by simpa using h
     have hall := Decidable.not_not.1 (fun h9 => by rw [hbi.2 h9] at hf; cases hf)
     exact .inr ⟨by omega, by omega, by omega, by omega, by omega, hall⟩
    ·
     intro h
     rcases h with h | h
     · omega
     ·
      cases hc : bi7 with
      | false => rfl
      | true => exact absurd h.2.2.2.2.2 (hbi.1 hc)
  ·
   refine Ends.region ?_
   refine S.val hA (R.fieldAddr (q := 5) fi25_5 rfl rfl rfl) rfl ?_; clear hA a; intro a hA
   refine S.val hA (R.load sz23 rfl (hM.cell (k := 0) rfl rfl)) rfl ?_; clear hA a; intro a hA
   refine S.val hA (R.lenS Try.underlying23 rfl rfl) rfl ?_; clear hA a; intro a hA
   refine S.val hA (R.fieldAddr (q := 1) fi25_1 rfl rfl rfl) rfl ?_; clear hA a; intro a hA
   refine S.val hA (R.load sz3 rfl (hM.cell (k := 0) rfl rfl)) rfl ?_; clear hA a; intro a hA
   refine S.val hA (R.neq rfl rfl) rfl ?_; clear hA a; intro a hA
   refine S.val hA (R.move rfl) rfl ?_; clear hA a; intro a hA
   refine hA.split (d := 32) rfl ?_ ?_
   ·
    clear hA; intro hg9 hA
    refine S.no (dj := 32) hA (by kernel_rfl) rfl rfl rfl ?_; clear hA a; intro a hA
    refine S.no (dj := 32) hA (by kernel_rfl) rfl rfl rfl ?_; clear hA a; intro a hA
    refine S.no (dj := 32) hA (by kernel_rfl) rfl rfl rfl ?_; clear hA a; intro a hA
    refine S.val hA (R.pickT rfl rfl) rfl ?_; clear hA a; intro a hA
    refine S.val hA (R.move rfl) rfl ?_; clear hA a; intro a hA
    refine S.no (dj := 37) hA (by kernel_rfl) rfl rfl rfl ?_; clear hA a; intro a hA
    refine S.no (dj := 37) hA (by kernel_rfl) rfl rfl rfl ?_; clear hA a; intro a hA
    refine S.no (dj := 37) hA (by kernel_rfl) rfl rfl rfl ?_; clear hA a; intro a hA
    refine S.no (dj := 37) hA (by kernel_rfl) rfl rfl rfl ?_; clear hA a; intro a hA
    refine S.no (dj := 37) hA (by kernel_rfl) rfl rfl rfl ?_; clear hA a; intro a hA
    refine S.no (dj := 37) hA (by kernel_rfl) rfl rfl rfl ?_; clear hA a; intro a hA
    refine S.no (dj := 37) hA (by kernel_rfl) rfl rfl rfl ?_; clear hA a; intro a hA
    refine S.no (dj := 37) hA (by kernel_rfl) rfl rfl rfl ?_; clear hA a; intro a hA
    refine S.val hA (R.pickT rfl rfl) rfl ?_; clear hA a; intro a hA
    refine S.done ?_
    replace hA : St 52 [(1, _), (46, _)] a := hA.sub ((.cons rfl (.cons rfl .nil)))
    exact hJ _ _ ⟨hA.sub (.cons rfl (.cons (by first | rfl | exact congrArg (fun b => some (Value.bool b)) (by first | exact decide_eq_decide.2 (by omega) | exact or_bool (by omega) | exact and_bool (by omega) | (simp; done) | (simp [hg9]; done) | (have h80 := hg9; (try simp at h80); simp [h80]; done) | exact (decide_eq_false (fun h9 => hg9 h9.1)).symm)) .nil)), hM⟩
   ·
    clear hA; intro hg9 hA
    refine S.valg (dj := 32) hA (by kernel_rfl) rfl (R.fieldAddr (q := 2) fi25_2 rfl rfl rfl) rfl ?_; clear hA a; intro a hA
    refine S.valg (dj := 32) hA (by kernel_rfl) rfl (R.load sz3 rfl (hM.cell (k := 0) rfl rfl)) rfl ?_; clear hA a; intro a hA
    refine S.valg (dj := 32) hA (by kernel_rfl) rfl (R.neq rfl rfl) rfl ?_; clear hA a; intro a hA
    refine S.val hA (R.pickF rfl rfl) rfl ?_; clear hA a; intro a hA
    refine S.val hA (R.move rfl) rfl ?_; clear hA a; intro a hA
    refine hA.split (d := 37) rfl ?_ ?_
    ·
     clear hA; intro hg10 hA
     refine S.no (dj := 37) hA (by kernel_rfl) rfl rfl rfl ?_; clear hA a; intro a hA
     refine S.no (dj := 37) hA (by kernel_rfl) rfl rfl rfl ?_; clear hA a; intro a hA
     refine S.no (dj := 37) hA (by kernel_rfl) rfl rfl rfl ?_; clear hA a; intro a hA
     refine S.no (dj := 37) hA (by kernel_rfl) rfl rfl rfl ?_; clear hA a; intro a hA
     refine S.no (dj := 37) hA (by kernel_rfl) rfl rfl rfl ?_; clear hA a; intro a hA
     refine S.no (dj := 37) hA (by kernel_rfl) rfl rfl rfl ?_; clear hA a; intro a hA
     refine S.no (dj := 37) hA (by kernel_rfl) rfl rfl rfl ?_; clear hA a; intro a hA
     refine S.no (dj := 37) hA (by kernel_rfl) rfl rfl rfl ?_; clear hA a; intro a hA
     refine S.val hA (R.pickT rfl rfl) rfl ?_; clear hA a; intro a hA
     refine S.done ?_
     replace hA : St 52 [(1, _), (46, _)] a := hA.sub ((.cons rfl (.cons rfl .nil)))
     exact hJ _ _ ⟨hA.sub (.cons rfl (.cons (by first | rfl | exact congrArg (fun b => some (Value.bool b)) (by first | exact decide_eq_decide.2 (by omega) | exact or_bool (by omega) | exact and_bool (by omega) | (simp; done) | (simp [hg9, hg10]; done) | (have h80 := hg9; (try simp at h80); have h81 := hg10; (try simp at h81); simp [h80, h81]; done) | exact (decide_eq_false (fun h9 => hg9 h9.1)).symm | exact (decide_eq_false (fun h9 => hg10 h9.1)).symm)) .nil)), hM⟩
    ·
     clear hA; intro hg10 hA
     refine S.valg (dj := 37) hA (by kernel_rfl) rfl (R.fieldAddr (q := 3) fi25_3 rfl rfl rfl) rfl ?_; clear hA a; intro a hA
     refine S.valg (dj := 37) hA (by kernel_rfl) rfl (R.load sz22 rfl (hM.cell (k := 0) rfl rfl)) rfl ?_; clear hA a; intro a hA
     refine S.valg (dj := 37) hA (by kernel_rfl) rfl (R.lenS Try.underlying22 rfl rfl) rfl ?_; clear hA a; intro a hA
     refine S.valg (dj := 37) hA (by kernel_rfl) rfl (R.fieldAddr (q := 4) fi25_4 rfl rfl rfl) rfl ?_; clear hA a; intro a hA
     refine S.valg (dj := 37) hA (by kernel_rfl) rfl (R.load sz22 rfl (hM.cell (k := 0) rfl rfl)) rfl ?_; clear hA a; intro a hA
     refine S.valg (dj := 37) hA (by kernel_rfl) rfl (R.lenS Try.underlying22 rfl rfl) rfl ?_; clear hA a; intro a hA
     refine S.valg (dj := 37) hA (by kernel_rfl) rfl (R.addI rfl rfl (r := ((i.wt.length : Int)) + ((i.vl.length : Int))) rfl (by omega)) rfl ?_; clear hA a; intro a hA
     refine S.valg (dj := 37) hA (by kernel_rfl) rfl (R.gtr rfl rfl) rfl ?_; clear hA a; intro a hA
     refine S.val hA (R.pickF rfl rfl) rfl ?_; clear hA a; intro a hA
     refine S.done ?_
     replace hA : St 52 [(1, _), (46, _)] a := hA.sub ((.cons rfl (.cons rfl .nil)))
     exact hJ _ _ ⟨hA.sub (.cons rfl (.cons (by first | rfl | exact congrArg (fun b => some (Value.bool b)) (by first | exact decide_eq_decide.2 (by omega) | exact or_bool (by omega) | exact and_bool (by omega) | (simp; done) | (simp [hg9, hg10]; done) | (have h80 := hg9; (try simp at h80); have h81 := hg10; (try simp at h81); simp [h80, h81]; done) | exact (decide_eq_false (fun h9 => hg9 h9.1)).symm | exact (decide_eq_false (fun h9 => hg10 h9.1)).symm)) .nil)), hM⟩
set_option maxRecDepth 100000 in
set_option maxHeartbeats 400000 in
theorem checkL5 (i : Ins) (ax3 : Option Addr) (cx3 : Nat) (ax4 : Option Addr) (cx4 : Nat) (ax5 : Option Addr) (cx5 : Nat) (hbg : i.wt.length ≤ 17592186044416 ∧ i.vl.length ≤ 17592186044416) (w : World) (hx3 : IntSl w (.slice ax3 i.wt.length cx3) i.wt) (hx4 : IntSl w (.slice ax4 i.vl.length cx4) i.vl) (hx5 : RowsV w (.slice ax5 i.cost.length cx5) i.cost) :
  Calls Try.prog 35 #[.agg #[.int .i64 i.kind, .int .i64 i.n, .int .i64 i.cap, .slice ax3 i.wt.length cx3, .slice ax4 i.vl.length cx4, .slice ax5 i.cost.length cx5]] w fun e w' => e = .returned (.int .i64 (chk i)) ∧ Below w.heap.size w w' := by
 have hbs := Below.refl (B := w.heap.size) w
 have hM := Mem.start w
 refine Calls.of_ends (vs := [.agg #[.int .i64 i.kind, .int .i64 i.n, .int .i64 i.cap, .slice ax3 i.wt.length cx3, .slice ax4 i.vl.length cx4, .slice ax5 i.cost.length cx5]]) Try.func35 rfl Try.ntmps35 rfl ?_
 intro a hA
 replace hA : St 21 [(0, _)] a := hA
 refine Ends.seq (Ends.region ?_)
 refine S.box hA hM rfl rfl ?_; clear hA hM a; intro b1 w1 hb2 hM a hA
 replace hM : Mem _ _ [pt b1 #[.int .i64 i.kind, .int .i64 i.n, .int .i64 i.cap, .slice ax3 i.wt.length cx3, .slice ax4 i.vl.length cx4, .slice ax5 i.cost.length cx5] 25] _ := hM
 refine S.val hA (R.assign rfl) rfl ?_; clear hA a; intro a hA
 refine S.done ?_
 refine Ends.seq (Ends.seq (Ends.region ?_))
 refine S.val hA (R.loadA sz25 rfl (hM.range (k := 0) rfl) rfl) rfl ?_; clear hA a; intro a hA
 refine S.call hA (R.callF Try.func53 rfl rfl rfl) rfl (size05 i ax3 cx3 ax4 cx4 ax5 cx5 _ (hx3.mem hM) (hx4.mem hM) (hx5.mem hM)) ?_; clear hA a
 rintro e w2 ⟨rfl, hb⟩
 replace hM := hM.callB hb; clear hb
 refine ⟨.int .i64 (sizeE i), rfl, fun a hA => ?_⟩
 refine S.val hA (R.assign rfl) rfl ?_; clear hA a; intro a hA
 refine S.done ?_
 replace hA : St 21 [(1, _), (3, _)] a := hA.sub ((.cons rfl (.cons rfl .nil)))
 refine Ends.seq (Ends.region ?_)
 refine S.val hA (R.move rfl) rfl ?_; clear hA a; intro a hA
 refine S.val hA (R.neq rfl rfl) rfl ?_; clear hA a; intro a hA
 refine S.done ?_
 refine Ends.ite hA rfl (fun hc3 => ?_) (fun hc3 => ?_)
 ·
  refine Ends.seq (Ends.region ?_)
  refine S.val hA (R.move rfl) rfl ?_; clear hA a; intro a hA
  refine S.val hA (R.assign rfl) rfl ?_; clear hA a; intro a hA
  refine S.done ?_
  replace hA : St 21 [(1, _), (2, _)] a := hA.sub ((.cons rfl (.cons rfl .nil)))
  refine Ends.ret1 Try.func35 Try.results35 hA rfl ?_
  exact ⟨by rw [chk_size hc3], Mem.trans0 hbs hM.nilL⟩
 ·
  have hs0 : sizeE i = 0 := Decidable.not_not.1 hc3
  refine Ends.skip (Ends.seq (Ends.block (Ends.seq (Ends.region ?_))))
  refine S.val hA (R.loadA sz25 rfl (hM.range (k := 0) rfl) rfl) rfl ?_; clear hA a; intro a hA
  refine S.call hA (R.callF Try.func54 rfl rfl rfl) rfl (shapeL5 i ax3 cx3 ax4 cx4 ax5 cx5 hbg _ (hx3.mem hM) (hx4.mem hM) (hx5.mem hM)) ?_; clear hA a
  rintro e w3 ⟨bs4, rfl, hbs_5, hb⟩
  replace hM := hM.callB hb; clear hb
  refine ⟨.bool bs4, rfl, fun a hA => ?_⟩
  refine S.val hA (R.not rfl) rfl ?_; clear hA a; intro a hA
  refine S.val hA (R.assign rfl) rfl ?_; clear hA a; intro a hA
  refine S.done ?_
  replace hA : St 21 [(1, _), (9, _)] a := hA.sub ((.cons rfl (.cons rfl .nil)))
  refine Ends.iteB hA rfl (fun hc6 => ?_) (fun hc6 => ?_)
  ·
   have hns : ¬ shapeOK i := fun h9 => by have h8 := hbs_5.2 h9; rw [h8] at hc6; cases hc6
   refine Ends.seq (Ends.region ?_)
   refine S.val hA (R.assign rfl) rfl ?_; clear hA a; intro a hA
   refine S.done ?_
   refine Ends.ret1 Try.func35 Try.results35 hA rfl ?_
   exact ⟨by rw [chk_shape hs0 hns], Mem.trans0 hbs hM.nilL⟩
  ·
   have hss : shapeOK i := hbs_5.1 (by simpa using hc6)
   refine Ends.seq (Ends.region ?_)
   refine S.val hA (R.fieldAddr (q := 0) fi25_0 rfl rfl rfl) rfl ?_; clear hA a; intro a hA
   refine S.val hA (R.load sz3 rfl (hM.cell (k := 0) rfl rfl)) rfl ?_; clear hA a; intro a hA
   refine S.val hA (R.eql rfl rfl) rfl ?_; clear hA a; intro a hA
   refine S.val hA (R.assign rfl) rfl ?_; clear hA a; intro a hA
   refine S.done ?_
   replace hA : St 21 [(1, _), (13, _)] a := hA.sub ((.cons rfl (.cons rfl .nil)))
   refine Ends.ite hA rfl (fun hc7 => ?_) (fun hc7 => ?_)
   ·
    have hsp := shape_items hss hc7
    have hkd := hc7
    refine Ends.seq (Ends.region ?_)
    refine S.val hA (R.loadA sz25 rfl (hM.range (k := 0) rfl) rfl) rfl ?_; clear hA a; intro a hA
    refine S.call hA (R.callF Try.func55 rfl rfl rfl) rfl (items05 i ax3 cx3 ax4 cx4 ax5 cx5 ⟨hsp.1, hsp.2.1⟩ _ (hx3.mem hM) (hx4.mem hM) (hx5.mem hM)) ?_; clear hA a
    rintro e w4 ⟨rfl, hb⟩
    replace hM := hM.callB hb; clear hb
    refine ⟨.int .i64 (if numE i.cap ≠ 0 then numE i.cap else pfx (itF i) i.n.toNat), rfl, fun a hA => ?_⟩
    refine S.val hA (R.assign rfl) rfl ?_; clear hA a; intro a hA
    refine S.done ?_
    refine Ends.ret1 Try.func35 Try.results35 hA rfl ?_
    exact ⟨by rw [chk_items hs0 hss hkd], Mem.trans0 hbs hM.nilL⟩
   ·
    have hsp := shape_rows hss hc7
    have hkd := hc7
    refine Ends.skip (Ends.inBlock (Ends.seq (Ends.region ?_)))
    refine S.val hA (R.loadA sz25 rfl (hM.range (k := 0) rfl) rfl) rfl ?_; clear hA a; intro a hA
    refine S.call hA (R.callF Try.func56 rfl rfl rfl) rfl (rows05 i ax3 cx3 ax4 cx4 ax5 cx5 hsp.2.2.2.2 hsp.1 _ (hx3.mem hM) (hx4.mem hM) (hx5.mem hM)) ?_; clear hA a
    rintro e w5 ⟨rfl, hb⟩
    replace hM := hM.callB hb; clear hb
    refine ⟨.int .i64 (pfx (fun r => pfx (cellF i r) i.n.toNat) i.n.toNat), rfl, fun a hA => ?_⟩
    refine S.val hA (R.assign rfl) rfl ?_; clear hA a; intro a hA
    refine S.done ?_
    replace hA : St 21 [(2, _)] a := hA.sub ((.cons rfl .nil))
    refine Ends.ret1 Try.func35 Try.results35 hA rfl ?_
    exact ⟨by rw [chk_rows hs0 hss hkd], Mem.trans0 hbs hM.nilL⟩
theorem takeI_snoc {R : List (List Int)} {k : Nat} (h : k < R.length) : R.take (k + 1) = R.take k ++ [R.getD k []] := takeR_succ R k h
theorem smallI_of {i : Ins} (hF : InF i) : smallI i := by
  obtain ⟨h1, h2, h3⟩ := inF_len hF
  have h4 := hF.n24
  have h5 := hF.cost
  refine ⟨by omega, by omega, ?_, fun r hr => ?_⟩
  · split at h5
    · omega
    · have := h4 ‹_›; omega
  · obtain ⟨q, hq, rfl⟩ := List.getElem_of_mem hr
    have h6 := hF.row q hq
    rw [List.getD_eq_getElem?_getD, List.getElem?_eq_getElem hq, Option.getD_some] at h6
    have := hF.n64
    omega
theorem rowmem {R : List (List Int)} {k : Nat} (h : k < R.length) : R.getD k [] ∈ R := by rw [List.getD_eq_getElem?_getD, List.getElem?_eq_getElem h]; exact List.getElem_mem h
set_option maxRecDepth 100000 in
set_option maxHeartbeats 400000 in
theorem icopy05 (i : Ins) (ax3 : Option Addr) (cx3 : Nat) (ax4 : Option Addr) (cx4 : Nat) (ax5 : Option Addr) (cx5 : Nat) (hsm : smallI i) (w : World) (hx3 : IntSl w (.slice ax3 i.wt.length cx3) i.wt) (hx4 : IntSl w (.slice ax4 i.vl.length cx4) i.vl) (hx5 : RowsV w (.slice ax5 i.cost.length cx5) i.cost) :
  Calls Try.prog 36 #[.agg #[.int .i64 i.kind, .int .i64 i.n, .int .i64 i.cap, .slice ax3 i.wt.length cx3, .slice ax4 i.vl.length cx4, .slice ax5 i.cost.length cx5]] w fun e w' => ∃ aw cw av cv ac cc rs, e = .returned (insA i aw cw av cv ac cc rs) ∧ rs.map (·.Y) = i.cost ∧ Mem w nof [bundle (insL 3 22 i aw cw av cv ac cc rs)] w' := by
 have hbs := Below.refl (B := w.heap.size) w
 have hl5 := hx5.lenB
 have hs1 := hsm.1
 have hs2 := hsm.2.1
 have hs3 := hsm.2.2.1
 have hM := Mem.start w
 refine Calls.of_ends (vs := [.agg #[.int .i64 i.kind, .int .i64 i.n, .int .i64 i.cap, .slice ax3 i.wt.length cx3, .slice ax4 i.vl.length cx4, .slice ax5 i.cost.length cx5]]) Try.func36 rfl Try.ntmps36 rfl ?_
 intro a hA
 replace hA : St 30 [(0, _)] a := hA
 refine Ends.seq (Ends.region ?_)
 refine S.box hA hM rfl rfl ?_; clear hA hM a; intro b1 w1 hb2 hM a hA
 replace hM : Mem _ _ [pt b1 #[.int .i64 i.kind, .int .i64 i.n, .int .i64 i.cap, .slice ax3 i.wt.length cx3, .slice ax4 i.vl.length cx4, .slice ax5 i.cost.length cx5] 25] _ := hM
 refine S.alloc hA hM info25 rfl rfl ?_; clear hA hM a; intro b3 w2 hb4 hM a hA
 replace hM : Mem _ _ [pt b3 #[.int .i64 0, .int .i64 0, .int .i64 0, .slice none 0 0, .slice none 0 0, .slice none 0 0] 25, pt b1 #[.int .i64 i.kind, .int .i64 i.n, .int .i64 i.cap, .slice ax3 i.wt.length cx3, .slice ax4 i.vl.length cx4, .slice ax5 i.cost.length cx5] 25] _ := hM
 refine S.done ?_
 refine Ends.seq ?_
 refine Ends.drawn (Mem w nof [pt b3 #[.int .i64 0, .int .i64 0, .int .i64 0, .slice none 0 0, .slice none 0 0, .slice none 0 0] 25, pt b1 #[.int .i64 i.kind, .int .i64 i.n, .int .i64 i.cap, .slice ax3 i.wt.length cx3, .slice ax4 i.vl.length cx4, .slice ax5 i.cost.length cx5] 25]) (.cons (0, true) (.cons (1, true) (.cons (3, true) (.cons (4, true) (.cons (2, false) (.cons (6, true) (.cons (5, false) (.cons (7, false) (.cons (8, true) (.cons (9, false) .nil)))))))))) 7 mixed (by kernel_rfl) (by kernel_rfl) (by kernel_rfl) hM.drew ?_
 replace hM := hM.drew
 refine D.valF hA rfl (fun _ => R.fieldAddr (q := 3) fi25_3 rfl rfl rfl) rfl ?_; clear hA a; intro a hA
 refine D.val hA rfl (by kernel_rfl) (fun _ hM => R.load sz22 rfl (hM.cell (k := 1) rfl rfl)) rfl ?_; clear hA a; intro a hA
 refine D.valF hA rfl (fun _ => R.fieldAddr (q := 4) fi25_4 rfl rfl rfl) rfl ?_; clear hA a; intro a hA
 refine D.val hA rfl (by kernel_rfl) (fun _ hM => R.load sz22 rfl (hM.cell (k := 1) rfl rfl)) rfl ?_; clear hA a; intro a hA
 refine D.call hA rfl (R.callF Try.func49 rfl rfl rfl) rfl (clone09 ax3 i.wt cx3 (by omega) _ (hx3.mem hM)) ?_; clear hA a
 rintro e w3 ⟨ka5, kc6, rfl, hn⟩
 replace hM : Mem _ _ [own 3 1 (.slice ka5 i.wt.length kc6) i.wt.length (i.wt.map (Value.int .i64)), pt b3 #[.int .i64 0, .int .i64 0, .int .i64 0, .slice none 0 0, .slice none 0 0, .slice none 0 0] 25, pt b1 #[.int .i64 i.kind, .int .i64 i.n, .int .i64 i.cap, .slice ax3 i.wt.length cx3, .slice ax4 i.vl.length cx4, .slice ax5 i.cost.length cx5] 25] _ := hM.call hn; clear hn
 refine ⟨.slice ka5 i.wt.length kc6, rfl, (hM.drop 0), fun a hA => ?_⟩
 refine D.valF hA rfl (fun _ => R.fieldAddr (q := 3) fi25_3 rfl rfl rfl) rfl ?_; clear hA a; intro a hA
 refine D.call hA rfl (R.callF Try.func49 rfl rfl rfl) rfl (clone09 ax4 i.vl cx4 (by omega) _ (hx4.mem hM)) ?_; clear hA a
 rintro e w4 ⟨ka7, kc8, rfl, hn⟩
 replace hM : Mem _ _ [own 3 1 (.slice ka7 i.vl.length kc8) i.vl.length (i.vl.map (Value.int .i64)), own 3 1 (.slice ka5 i.wt.length kc6) i.wt.length (i.wt.map (Value.int .i64)), pt b3 #[.int .i64 0, .int .i64 0, .int .i64 0, .slice none 0 0, .slice none 0 0, .slice none 0 0] 25, pt b1 #[.int .i64 i.kind, .int .i64 i.n, .int .i64 i.cap, .slice ax3 i.wt.length cx3, .slice ax4 i.vl.length cx4, .slice ax5 i.cost.length cx5] 25] _ := hM.call hn; clear hn
 refine ⟨.slice ka7 i.vl.length kc8, rfl, ((hM.drop 1).drop 0), fun a hA => ?_⟩
 refine D.store (k := 3) hA hM rfl sz22 rfl rfl rfl rfl rfl ?_; clear hM
 intro w5 hM; refine ⟨fun _ hne => absurd rfl hne, ?_⟩
 replace hM : Mem _ _ [own 3 1 (.slice ka7 i.vl.length kc8) i.vl.length (i.vl.map (Value.int .i64)), own 3 1 (.slice ka5 i.wt.length kc6) i.wt.length (i.wt.map (Value.int .i64)), pt b3 #[.int .i64 0, .int .i64 0, .int .i64 0, .slice none 0 0, .slice none 0 0, .slice none 0 0] 25, pt b1 #[.int .i64 i.kind, .int .i64 i.n, .int .i64 i.cap, .slice ka5 i.wt.length kc6, .slice ax4 i.vl.length cx4, .slice ax5 i.cost.length cx5] 25] _ := hM
 refine D.valF hA rfl (fun _ => R.fieldAddr (q := 4) fi25_4 rfl rfl rfl) rfl ?_; clear hA a; intro a hA
 refine D.store (k := 3) hA hM rfl sz22 rfl rfl rfl rfl rfl ?_; clear hM
 intro w6 hM; refine ⟨fun hb0 => absurd hb0 (by decide), ?_⟩
 replace hM : Mem _ _ [own 3 1 (.slice ka7 i.vl.length kc8) i.vl.length (i.vl.map (Value.int .i64)), own 3 1 (.slice ka5 i.wt.length kc6) i.wt.length (i.wt.map (Value.int .i64)), pt b3 #[.int .i64 0, .int .i64 0, .int .i64 0, .slice none 0 0, .slice none 0 0, .slice none 0 0] 25, pt b1 #[.int .i64 i.kind, .int .i64 i.n, .int .i64 i.cap, .slice ka5 i.wt.length kc6, .slice ka7 i.vl.length kc8, .slice ax5 i.cost.length cx5] 25] _ := hM
 refine D.done ?_
 replace hA : St 30 [(1, _), (2, _)] a := hA.sub ((.cons rfl (.cons rfl .nil)))
 refine Ends.seq (Ends.region ?_)
 refine S.val hA (R.assign rfl) rfl ?_; clear hA a; intro a hA
 refine S.done ?_
 refine Ends.seq (Ends.seq (Ends.region ?_))
 refine S.val hA (R.fieldAddr (q := 5) fi25_5 rfl rfl rfl) rfl ?_; clear hA a; intro a hA
 refine S.val hA (R.load sz23 rfl (hM.cell (k := 3) rfl rfl)) rfl ?_; clear hA a; intro a hA
 refine S.val hA (R.lenS Try.underlying23 rfl rfl) rfl ?_; clear hA a; intro a hA
 refine S.val hA (R.move rfl) rfl ?_; clear hA a; intro a hA
 refine S.done ?_
 refine Ends.block ?_
 replace hM := (hM.bundleNil (e := 3)).ownNil 22 1
 replace hM := hM.front (k := 4) rfl
 replace hM := hM.front (k := 2) rfl
 replace hM := hM.front (k := 2) rfl
 replace hM := hM.front (k := 3) rfl
 replace hM := hM.front (k := 4) rfl
 replace hM := hM.front (k := 5) rfl
 replace hM : Mem _ _ [pt b1 #[.int .i64 i.kind, .int .i64 i.n, .int .i64 i.cap, .slice ka5 i.wt.length kc6, .slice ka7 i.vl.length kc8, .slice ax5 i.cost.length cx5] 25, own 3 1 (.slice ka5 i.wt.length kc6) i.wt.length (i.wt.map (Value.int .i64)), own 3 1 (.slice ka7 i.vl.length kc8) i.vl.length (i.vl.map (Value.int .i64)), own 22 1 (.slice none (([] : List OwR).length) 0) (([] : List OwR).length) ((([] : List OwR).map orV)), bundle (([] : List OwR).map (orC 3)), pt b3 #[.int .i64 0, .int .i64 0, .int .i64 0, .slice none 0 0, .slice none 0 0, .slice none 0 0] 25] _ := hM
 refine Ends.loop (σ := Nat × Option Addr × Nat × List OwR) (fun (k, ao, co, rs) (a : Act) (wv : World) => St 30 [(1, .pointer (some ⟨b1, 0, none⟩)), (2, .pointer (some ⟨b3, 0, none⟩)), (3, .slice ao rs.length co), (15, .slice ax5 i.cost.length cx5), (16, .int .i64 ((i.cost.length : Int))), (17, .int .i64 ((k : Int)))] a ∧ Mem w nof [pt b1 #[.int .i64 i.kind, .int .i64 i.n, .int .i64 i.cap, .slice ka5 i.wt.length kc6, .slice ka7 i.vl.length kc8, .slice ax5 i.cost.length cx5] 25, own 3 1 (.slice ka5 i.wt.length kc6) i.wt.length (i.wt.map (Value.int .i64)), own 3 1 (.slice ka7 i.vl.length kc8) i.vl.length (i.vl.map (Value.int .i64)), own 22 1 (.slice ao rs.length co) rs.length ((rs.map orV)), bundle (rs.map (orC 3)), pt b3 #[.int .i64 0, .int .i64 0, .int .i64 0, .slice none 0 0, .slice none 0 0, .slice none 0 0] 25] wv ∧ (k ≤ i.cost.length) ∧ (rs.map (·.Y) = i.cost.take k)) (fun (k, ao, co, rs) => i.cost.length - k) ((0, none, 0, [])) ⟨hA.sub ((.cons rfl (.cons rfl (.cons rfl (.cons rfl (.cons rfl (.cons rfl .nil))))))), hM, (Nat.zero_le _), rfl⟩ ?_
 clear hA hM a
 rintro ⟨k, ao, co, rs⟩ a w7 ⟨hA, hM, hk, hY⟩ hNext
 refine Ends.seq (Ends.region ?_)
 refine S.val hA (R.lss rfl rfl) rfl ?_; clear hA a; intro a hA
 refine S.done ?_
 refine Ends.seq ?_
 refine Ends.ite hA rfl (fun hc9 => ?_) (fun hc9 => ?_)
 ·
  have hlr : rs.length = k := by have := congrArg List.length hY; simpa [List.length_take, Nat.min_eq_left hk] using this
  have hrow := hsm.2.2.2 _ (rowmem (show k < i.cost.length by omega))
  refine Ends.skip (Ends.seq (Ends.block (Ends.seq (Ends.region ?_))))
  refine S.val hA (R.idxR hx5 (j := k) sl23 rfl rfl (by omega) (rfl)) rfl ?_; clear hA a; intro a hA
  obtain ⟨ra10, rc11, hrow12, hld13⟩ := hx5.atP (i := k) (by omega)
  refine S.val hA (hld13 _ _ _ _ _ _ hM sz22 rfl) rfl ?_; clear hA a; intro a hA
  refine S.val hA (R.assign rfl) rfl ?_; clear hA a; intro a hA
  refine S.done ?_
  refine Ends.region ?_
  refine S.val hA (R.move rfl) rfl ?_; clear hA a; intro a hA
  refine S.val hA (R.move rfl) rfl ?_; clear hA a; intro a hA
  refine S.call hA (R.callF Try.func49 rfl rfl rfl) rfl (clone09 ra10 ((i.cost.getD k [])) rc11 (by omega) _ (hrow12.mem hM)) ?_; clear hA a
  rintro e w8 ⟨ka14, kc15, rfl, hn⟩
  replace hM : Mem _ _ [own 3 1 (.slice ka14 (((i.cost.getD k [])).length) kc15) (((i.cost.getD k [])).length) (((i.cost.getD k [])).map (Value.int .i64)), pt b1 #[.int .i64 i.kind, .int .i64 i.n, .int .i64 i.cap, .slice ka5 i.wt.length kc6, .slice ka7 i.vl.length kc8, .slice ax5 i.cost.length cx5] 25, own 3 1 (.slice ka5 i.wt.length kc6) i.wt.length (i.wt.map (Value.int .i64)), own 3 1 (.slice ka7 i.vl.length kc8) i.vl.length (i.vl.map (Value.int .i64)), own 22 1 (.slice ao rs.length co) rs.length ((rs.map orV)), bundle (rs.map (orC 3)), pt b3 #[.int .i64 0, .int .i64 0, .int .i64 0, .slice none 0 0, .slice none 0 0, .slice none 0 0] 25] _ := hM.call hn; clear hn
  refine ⟨.slice ka14 (((i.cost.getD k [])).length) kc15, rfl, fun a hA => ?_⟩
  refine S.buildSl (cells := #[.slice ka14 (((i.cost.getD k [])).length) kc15]) hA hM Try.underlying23 info22 rfl rfl rfl rfl (by kernel_rfl) rfl ?_; clear hA hM a; intro b16 w9 hb17 hM a hA
  replace hM : Mem _ _ [pt b16 #[.slice ka14 (((i.cost.getD k [])).length) kc15] 22, own 3 1 (.slice ka14 (((i.cost.getD k [])).length) kc15) (((i.cost.getD k [])).length) (((i.cost.getD k [])).map (Value.int .i64)), pt b1 #[.int .i64 i.kind, .int .i64 i.n, .int .i64 i.cap, .slice ka5 i.wt.length kc6, .slice ka7 i.vl.length kc8, .slice ax5 i.cost.length cx5] 25, own 3 1 (.slice ka5 i.wt.length kc6) i.wt.length (i.wt.map (Value.int .i64)), own 3 1 (.slice ka7 i.vl.length kc8) i.vl.length (i.vl.map (Value.int .i64)), own 22 1 (.slice ao rs.length co) rs.length ((rs.map orV)), bundle (rs.map (orC 3)), pt b3 #[.int .i64 0, .int .i64 0, .int .i64 0, .slice none 0 0, .slice none 0 0, .slice none 0 0] 25] _ := hM
  refine S.append (k := 5) (k2 := 0) hA hM rfl rfl Try.underlying23 info22 rfl rfl rfl rfl rfl rfl rfl rfl rfl (by first | omega | (show (_ + 1) * 24 ≤ (140737488355328 : Nat); omega) | (unfold maxLen; omega)) (by first | omega | (show (_ + 1) * 24 ≤ (140737488355328 : Nat); omega) | (unfold maxLen; omega)) rfl ?_; clear hA hM a; intro a18 c19 w10 hM a hA
  replace hM : Mem _ _ [pt b16 #[.slice ka14 (((i.cost.getD k [])).length) kc15] 22, own 3 1 (.slice ka14 (((i.cost.getD k [])).length) kc15) (((i.cost.getD k [])).length) (((i.cost.getD k [])).map (Value.int .i64)), pt b1 #[.int .i64 i.kind, .int .i64 i.n, .int .i64 i.cap, .slice ka5 i.wt.length kc6, .slice ka7 i.vl.length kc8, .slice ax5 i.cost.length cx5] 25, own 3 1 (.slice ka5 i.wt.length kc6) i.wt.length (i.wt.map (Value.int .i64)), own 3 1 (.slice ka7 i.vl.length kc8) i.vl.length (i.vl.map (Value.int .i64)), own 22 1 (.slice a18 (rs.length + 1) c19) (rs.length + 1) (((rs.map orV) ++ [.slice ka14 (((i.cost.getD k [])).length) kc15])), bundle (rs.map (orC 3)), pt b3 #[.int .i64 0, .int .i64 0, .int .i64 0, .slice none 0 0, .slice none 0 0, .slice none 0 0] 25] _ := hM
  replace hM := hM.drop 0
  replace hM : Mem _ _ [own 3 1 (.slice ka14 (((i.cost.getD k [])).length) kc15) (((i.cost.getD k [])).length) (((i.cost.getD k [])).map (Value.int .i64)), pt b1 #[.int .i64 i.kind, .int .i64 i.n, .int .i64 i.cap, .slice ka5 i.wt.length kc6, .slice ka7 i.vl.length kc8, .slice ax5 i.cost.length cx5] 25, own 3 1 (.slice ka5 i.wt.length kc6) i.wt.length (i.wt.map (Value.int .i64)), own 3 1 (.slice ka7 i.vl.length kc8) i.vl.length (i.vl.map (Value.int .i64)), own 22 1 (.slice a18 (rs.length + 1) c19) (rs.length + 1) (((rs.map orV) ++ [.slice ka14 (((i.cost.getD k [])).length) kc15])), bundle (rs.map (orC 3)), pt b3 #[.int .i64 0, .int .i64 0, .int .i64 0, .slice none 0 0, .slice none 0 0, .slice none 0 0] 25] _ := hM
  refine S.val hA (R.assign rfl) rfl ?_; clear hA a; intro a hA
  refine S.done ?_
  replace hA : St 30 [(1, _), (2, _), (3, _), (15, _), (16, _), (17, _)] a := hA.sub ((.cons rfl (.cons rfl (.cons rfl (.cons rfl (.cons rfl (.cons rfl .nil)))))))
  refine Ends.inBlock (Ends.region ?_)
  refine S.val hA (R.addI rfl rfl (r := ((k : Int)) + 1) rfl (by omega)) rfl ?_; clear hA a; intro a hA
  refine S.val hA (R.move rfl) rfl ?_; clear hA a; intro a hA
  refine S.done ?_
  rw [show (Value.slice ka14 ((i.cost.getD k [])).length kc15) = orV (⟨(i.cost.getD k []), ka14, kc15⟩ : OwR) from rfl, orV_snoc', len_snoc' rs (⟨(i.cost.getD k []), ka14, kc15⟩ : OwR)] at hM
  rw [len_snoc' rs (⟨(i.cost.getD k []), ka14, kc15⟩ : OwR)] at hA
  replace hM := hM.front (k := 5) rfl
  replace hM := hM.front (k := 1) rfl
  replace hM := (hM.ownOrC).bundleSnoc
  replace hM := hM.front (k := 5) rfl
  replace hM := hM.front (k := 1) rfl
  replace hM := hM.front (k := 5) rfl
  replace hM := hM.front (k := 5) rfl
  replace hM := hM.front (k := 5) rfl
  replace hM := hM.front (k := 5) rfl
  replace hM := hM.firstN 6
  exact hNext ((k + 1, a18, c19, rs ++ [(⟨(i.cost.getD k []), ka14, kc15⟩ : OwR)])) _ _ ((by show i.cost.length - (k + 1) < i.cost.length - k; omega)) ⟨hA.sub ((.cons rfl (.cons rfl (.cons rfl (.cons rfl (.cons rfl (.cons rfl .nil))))))), hM, (by omega), (by rw [List.map_append, hY, takeI_snoc (show k < i.cost.length by omega)]; rfl)⟩
 ·
  have hlr : i.cost.take k = i.cost := List.take_of_length_le (by omega)
  refine Ends.exit rfl ?_
  replace hA : St 30 [(1, _), (2, _), (3, _)] a := hA.sub ((.cons rfl (.cons rfl (.cons rfl .nil))))
  refine Ends.seq (Ends.region ?_)
  refine S.val hA (R.move rfl) rfl ?_; clear hA a; intro a hA
  refine S.val hA (R.fieldAddr (q := 5) fi25_5 rfl rfl rfl) rfl ?_; clear hA a; intro a hA
  refine S.store (k := 0) hA hM sz23 rfl rfl rfl rfl rfl ?_; clear hM
  intro w11 hM
  replace hM : Mem _ _ [pt b1 #[.int .i64 i.kind, .int .i64 i.n, .int .i64 i.cap, .slice ka5 i.wt.length kc6, .slice ka7 i.vl.length kc8, .slice ao rs.length co] 25, own 3 1 (.slice ka5 i.wt.length kc6) i.wt.length (i.wt.map (Value.int .i64)), own 3 1 (.slice ka7 i.vl.length kc8) i.vl.length (i.vl.map (Value.int .i64)), own 22 1 (.slice ao rs.length co) rs.length ((rs.map orV)), bundle (rs.map (orC 3)), pt b3 #[.int .i64 0, .int .i64 0, .int .i64 0, .slice none 0 0, .slice none 0 0, .slice none 0 0] 25] _ := hM
  refine S.done ?_
  refine Ends.seq (Ends.region ?_)
  refine S.val hA (R.loadA sz25 rfl (hM.range (k := 0) rfl) rfl) rfl ?_; clear hA a; intro a hA
  refine S.storeA (k := 5) hA hM sz25 rfl rfl rfl rfl rfl rfl ?_; clear hM
  intro w12 hM
  replace hM : Mem _ _ [pt b1 #[.int .i64 i.kind, .int .i64 i.n, .int .i64 i.cap, .slice ka5 i.wt.length kc6, .slice ka7 i.vl.length kc8, .slice ao rs.length co] 25, own 3 1 (.slice ka5 i.wt.length kc6) i.wt.length (i.wt.map (Value.int .i64)), own 3 1 (.slice ka7 i.vl.length kc8) i.vl.length (i.vl.map (Value.int .i64)), own 22 1 (.slice ao rs.length co) rs.length ((rs.map orV)), bundle (rs.map (orC 3)), pt b3 #[.int .i64 i.kind, .int .i64 i.n, .int .i64 i.cap, .slice ka5 i.wt.length kc6, .slice ka7 i.vl.length kc8, .slice ao rs.length co] 25] _ := hM
  refine S.done ?_
  replace hA : St 30 [(2, _)] a := hA.sub ((.cons rfl .nil))
  refine Ends.retC (k := 5) Try.func36 Try.results36 hA hM rfl rfl sz25 rfl ?_
  replace hM := hM.front (k := 4) rfl
  replace hM := hM.front (k := 4) rfl
  replace hM := hM.front (k := 4) rfl
  replace hM := hM.front (k := 4) rfl
  replace hM := hM.firstN 4
  exact ⟨ka5, kc6, ka7, kc8, ao, co, rs, rfl, by rw [hY, hlr], Mem.pack (cs := insL 3 22 i ka5 kc6 ka7 kc8 ao co rs) (L := []) hM⟩
set_option maxRecDepth 100000 in
set_option maxHeartbeats 400000 in
theorem stands_any  (w : World) :
    Calls Try.prog 34 #[] w fun e w' => e = .returned (.bool true) ∧ w = w' := by
  have hbs := Below.refl (B := w.heap.size) w
  have hM := Mem.start w
  refine Calls.of_ends (vs := []) Try.func34 rfl Try.ntmps34 rfl ?_
  intro a hA
  replace hA : St 12 [] a := hA
  refine Ends.seq (Ends.region ?_)
  refine S.val hA (R.assign rfl) rfl ?_; clear hA a; intro a hA
  refine S.done ?_
  refine Ends.seq (Ends.region ?_)
  refine S.call hA (R.callF Try.func52 rfl rfl rfl) rfl (add_ok 2 3 (by decide) (by decide) (by decide) (by decide) (by decide) _) ?_; clear hA a
  rintro e w1 ⟨rfl, rfl⟩
  refine ⟨.tuple #[.int .i64 5, .bool true], rfl, fun a hA => ?_⟩
  refine S.val hA (R.move rfl) rfl ?_; clear hA a; intro a hA
  refine S.val hA (R.extract (v := .int .i64 5) rfl rfl) rfl ?_; clear hA a; intro a hA
  refine S.val hA (R.extract (v := .bool true) rfl rfl) rfl ?_; clear hA a; intro a hA
  refine S.val hA (R.assign rfl) rfl ?_; clear hA a; intro a hA
  refine S.val hA (R.assign rfl) rfl ?_; clear hA a; intro a hA
  refine S.done ?_
  replace hA : St 12 [(1, _), (2, _)] a := hA.sub ((.cons rfl (.cons rfl .nil)))
  refine Ends.seq (Ends.region ?_)
  refine S.val hA (R.move rfl) rfl ?_; clear hA a; intro a hA
  refine S.val hA (R.move rfl) rfl ?_; clear hA a; intro a hA
  refine S.valg (dj := 8) hA (by kernel_rfl) rfl (R.move rfl) rfl ?_; clear hA a; intro a hA
  refine S.valg (dj := 8) hA (by kernel_rfl) rfl (R.tt (R.eql rfl rfl) (by first | decide | simp | omega)) rfl ?_; clear hA a; intro a hA
  refine S.val hA (R.pickT rfl rfl) rfl ?_; clear hA a; intro a hA
  refine S.val hA (R.assign rfl) rfl ?_; clear hA a; intro a hA
  refine S.done ?_
  replace hA : St 12 [(0, _)] a := hA.sub ((.cons rfl .nil))
  refine Ends.ret1 Try.func34 Try.results34 hA rfl ?_
  exact ⟨rfl, rfl⟩
end Go.Proofs.Ytnikajkklocncaa
namespace Go.Proofs.Ytnikajkklocncaa
open Go.RowKit
theorem chk_ok {i : Ins} (h : sizeE i = 0 ∧ shapeOK i ∧ numsE i = 0) : chk i = 0 := by unfold chk; rw [if_neg (not_not_intro h.1), if_pos h.2.1, h.2.2]
theorem chk_mat {i : Ins} (hF : InF i) (hk : i.kind ≠ 1) {g : Nat → Nat → Int} (hg : ∀ r c, ∃ r' c', g r c = cel i r' c') (hd : i.kind = 3 → ∀ r, g r r = 0) : chk { i with cost := mat i.n.toNat g } = 0 := by
  have h1 := hF.n1
  have h24 := hF.n24 hk
  have fw := hF.wt
  have fv := hF.vl
  rw [if_neg hk] at fw fv
  have hkk := hF.kind
  obtain ⟨n, hn⟩ : ∃ n : Nat, i.n = (n : Int) := ⟨i.n.toNat, by omega⟩
  have hnt : i.n.toNat = n := by omega
  have hc := hF.cap0 hk
  have e : ({ i with cost := mat i.n.toNat g } : Ins) = ⟨i.kind, n, 0, [], [], mat n g⟩ := Ins.ext rfl hn hc (List.length_eq_zero_iff.1 fw) (List.length_eq_zero_iff.1 fv) (by rw [hnt])
  rw [e]
  refine chk_ok (form_mat (by omega) (by omega) (by omega) (fun r c _ _ => ?_) (fun h r _ => hd h r))
  obtain ⟨r', c', e'⟩ := hg r c
  rw [e']
  exact hF.cell r' c'
theorem cost_ord {i : Ins} {x : List Int} (h : (costI i x).2 = 0) (hk : ¬ i.kind = 1) : ordP i x := by
  have hz := costI_chk h
  refine Decidable.byContradiction fun g => ?_
  rw [costI_or hz hk, if_pos g] at h
  cases h
end Go.Proofs.Ytnikajkklocncaa
namespace Go.Proofs.Ytnikajkklocncaa
def digq (r i : Nat) : Nat := r / fac i % (i + 1)
theorem dig_div (r k : Nat) : r / fac k / (k + 1) = r / fac (k + 1) := by rw [Nat.div_div_eq_div_mul, fac, Nat.mul_comm]
theorem dig_mod (r m : Nat) : r % fac (m + 1) / fac m = digq r m := by
  unfold digq
  rw [fac, Nat.mul_comm, Nat.mod_mul_right_div_self]
theorem mod_mod_fac (r m : Nat) : r % fac (m + 1) % fac m = r % fac m := Nat.mod_mod_of_dvd r (fac_dvd (Nat.le_succ m))
theorem dig_lt (r i : Nat) : digq r i < i + 1 := Nat.mod_lt _ (Nat.succ_pos i)
theorem nth_step {n r j : Nat} {L Q : List Int} (hj : j < n) (h : Q ++ nthL (n - j) L (r % fac (n - j)) = nthL n (pl n) (r % fac n)) :
    (Q ++ [L.getD (digq r (n - 1 - j)) 0]) ++ nthL (n - (j + 1)) (L.eraseIdx (digq r (n - 1 - j))) (r % fac (n - (j + 1))) = nthL n (pl n) (r % fac n) := by
  rw [← h, List.append_assoc]
  congr 1
  have e : n - j = (n - (j + 1)) + 1 := by omega
  rw [e, nthL, dig_mod, mod_mod_fac, show n - 1 - j = n - (j + 1) by omega]
  rfl
theorem nth_lt {n r j : Nat} {L : List Int} (hj : j < n) (hl : L.length = n - j) : digq r (n - 1 - j) < L.length := by
  have := dig_lt r (n - 1 - j); omega
def nthV (n rank : Int) : List Int := if 0 ≤ n ∧ n ≤ 20 ∧ 0 ≤ rank ∧ rank < fac n.toNat then nthL n.toNat (pl n.toNat) rank.toNat else []
def nthE (n rank : Int) : Int := if ¬ (0 ≤ n ∧ n ≤ 20) then 1 else if ¬ (0 ≤ rank ∧ rank < fac n.toNat) then 11 else 0
end Go.Proofs.Ytnikajkklocncaa
namespace Go.Proofs.Ytnikajkklocncaa
open Go.RowKit
section
variable {w0 w : World} {F : Nat → Prop} {L : List Ck} {e : TypeId} {g cap : Nat}
theorem Mem.ahead (h : Mem w0 F L w) (q : Nat) : Mem w0 F L (Sort.ahead w q) := ⟨h.os, h.tape, h.output, h.size, h.old, fun c hc => c.loc w (Sort.ahead w q) (fun _ _ => rfl) (h.holds c hc), h.inb, h.apart⟩
theorem Mem.holdsI {X : List Int} {k : Nat} (h : Mem w0 F L w) (hk : ith L k = some (own e 1 (.slice (some ⟨g, 0, none⟩) X.length cap) X.length (X.map (Value.int .i64)))) : Sort.Holds (Value.int .i64) w g 0 X.toArray := fun j hj => by
  have hj' : j < X.length := by simpa using hj
  rw [Nat.zero_add]
  refine ⟨?_, h.ownFree hk j⟩
  rw [h.ownCell hk (mapi_get X j hj')]
  simp [List.getD, hj', getElem!_pos]
theorem Mem.putRow {X Y : List Int} (h : Mem w0 F (own e 1 (.slice (some ⟨g, 0, none⟩) X.length cap) X.length (X.map (Value.int .i64)) :: L) w) (hl : Y.length = X.length) :
    Mem w0 F (own e 1 (.slice (some ⟨g, 0, none⟩) Y.length cap) Y.length (Y.map (Value.int .i64)) :: L) (Sort.putRow (Value.int .i64) w g 0 Y.toArray) := by
  have key : ∀ j, j ≤ X.length → Mem w0 F (own e 1 (.slice (some ⟨g, 0, none⟩) X.length cap) X.length ((Y.take j ++ X.drop j).map (Value.int .i64)) :: L) (Sort.putRow (Value.int .i64) w g 0 (Y.take j ++ X.drop j).toArray) := by
    intro j
    induction j with
    | zero =>
      intro _
      rw [List.take_zero, List.nil_append, List.drop_zero, Sort.putRow_self _ _ _ _ _ (h.holdsI (k := 0) rfl)]
      exact h
    | succ j ih =>
      intro hj
      have h1 := (ih (by omega)).ownStore (k := 0) rfl j (.int .i64 (Y.getD j 0))
      have hlj : (Y.take j).length = j := by rw [List.length_take]; omega
      have e1 : (Y.take j ++ X.drop j).set j (Y.getD j 0) = Y.take (j + 1) ++ X.drop (j + 1) := by
        rw [List.set_append_right _ _ (by omega), hlj, Nat.sub_self, List.drop_eq_getElem_cons (show j < X.length by omega), List.set_cons_zero, take_snoc (show j < Y.length by omega), List.append_assoc]
        rfl
      have e2 := Sort.putRow_set (Value.int .i64) w g 0 (Y.take j ++ X.drop j).toArray j (Y.getD j 0) (by simp; omega)
      rw [Nat.zero_add] at e2
      rw [e2] at h1
      have e3 : (Y.take j ++ X.drop j).toArray.setIfInBounds j (Y.getD j 0) = (Y.take (j + 1) ++ X.drop (j + 1)).toArray := by rw [← e1]; simp
      rw [e3] at h1
      rw [← e1, List.map_set]
      rw [← e1] at h1
      exact h1
  have h1 := key X.length (Nat.le_refl _)
  rw [List.drop_length, List.append_nil, List.take_of_length_le (by omega)] at h1
  rw [hl]
  exact h1
theorem Mem.ownCut {X : List Int} {m : Nat} (h : Mem w0 F (own e 1 (.slice (some ⟨g, 0, none⟩) X.length cap) X.length (X.map (Value.int .i64)) :: L) w) (hm : m ≤ X.length) :
    Mem w0 F (own e 1 (.slice (some ⟨g, 0, none⟩) (X.take m).length cap) (X.take m).length ((X.take m).map (Value.int .i64)) :: L) w := by
  refine h.head ?_ (fun b hb => hb)
  have ho : w.ownsRow 0 e 1 (.slice (some ⟨g, 0, none⟩) X.length cap) X.length (X.map (Value.int .i64)) := h.mem (k := 0) rfl
  rcases ho with ⟨h1, ⟨h2, -⟩ | ⟨g', cap', cur, h2, h3, h4, h5, h6, h7, h8⟩⟩
  · cases h2
  · cases h2
    refine ⟨by simp, .inr ⟨g, cap, cur, rfl, h3, h4, by rw [List.length_take]; omega, h6, h7, ?_⟩⟩
    rw [List.length_take, Nat.min_eq_left hm, List.map_take, ← h8, List.take_take]
    congr 1
    omega
end
set_option maxHeartbeats 400000 in
theorem del09 (g cap i : Nat) (X : List Int) (hi : i < X.length) (w : World) (hM : Mem w (feet [own 3 1 (.slice (some ⟨g, 0, none⟩) X.length cap) X.length (X.map (Value.int .i64))]) [own 3 1 (.slice (some ⟨g, 0, none⟩) X.length cap) X.length (X.map (Value.int .i64))] w) :
    Calls Try.prog 58 #[.slice (some ⟨g, 0, none⟩) X.length cap, .int .i64 (i : Int), .int .i64 ((i : Int) + 1)] w fun e w' => e = .returned (.slice (some ⟨g, 0, none⟩) (X.eraseIdx i).length cap) ∧
      Mem w (feet [own 3 1 (.slice (some ⟨g, 0, none⟩) X.length cap) X.length (X.map (Value.int .i64))]) [own 3 1 (.slice (some ⟨g, 0, none⟩) (X.eraseIdx i).length cap) (X.eraseIdx i).length ((X.eraseIdx i).map (Value.int .i64))] w' := by
  have hle := hM.ownLe (k := 0) rfl
  have hc := Try.slices_Delete_int g 0 cap i (i + 1) X w (hM.holdsI (k := 0) rfl) hle.1 (by have := hle.2; unfold maxLen at this; exact this) (by omega) (by omega)
  have e0 : ((i + 1 : Nat) : Int) = (i : Int) + 1 := by omega
  rw [e0] at hc
  refine hc.mono fun e w' ⟨he, q, hw⟩ => ?_
  have hlE : (X.eraseIdx i).length = X.length - 1 := by rw [List.length_eraseIdx_of_lt hi]
  have h1 := (hM.ahead q).putRow (Y := X.take i ++ X.drop (i + 1) ++ List.replicate (i + 1 - i) 0) (by simp only [List.length_append, List.length_take, List.length_drop, List.length_replicate]; omega)
  have h2 := h1.ownCut (m := X.length - 1) (by simp only [List.length_append, List.length_take, List.length_drop, List.length_replicate]; omega)
  have e1 : (X.take i ++ X.drop (i + 1) ++ List.replicate (i + 1 - i) 0).take (X.length - 1) = X.eraseIdx i := by
    rw [← List.eraseIdx_eq_take_drop_succ, ← hlE, List.take_left']
    rfl
  rw [e1] at h2
  subst hw
  refine ⟨?_, h2⟩
  rw [he, hlE, show i + 1 - i = 1 by omega]
end Go.Proofs.Ytnikajkklocncaa
namespace Go.Proofs.Ytnikajkklocncaa
open Go.RowKit
theorem plain_ownN (n : Nat) (hn : n ≤ 1000) (w : World) : Calls Try.prog 57 #[.int .i64 (n : Int)] w fun e w' => ∃ g c, e = .returned (.slice (some ⟨g, 0, none⟩) (pl n).length c) ∧ Mem w nof [own 3 1 (.slice (some ⟨g, 0, none⟩) (pl n).length c) (pl n).length ((pl n).map (Value.int .i64))] w' :=
  plain_own n (by omega) w
theorem ok_rng {X : List Int} (h : okP X = true) {k : Nat} (hk : k < X.length) : 0 ≤ X.getD k 0 ∧ X.getD k 0 < X.length := (of_decide_eq_true h).2 _ (getD_mem hk)
def thenR (X Z Y : List Int) (er : Int) : Prop := (¬ (okP X = true ∧ okP Z = true ∧ X.length = Z.length) ∧ er = 1 ∧ Y = []) ∨ ((okP X = true ∧ okP Z = true ∧ X.length = Z.length) ∧ er = 0 ∧ Y.length = X.length ∧ ∀ k, k < X.length → Y.getD k 0 = X.getD (Z.getD k 0).toNat 0)
set_option maxRecDepth 100000 in
set_option maxHeartbeats 400000 in
theorem then09 (ax : Option Addr) (X : List Int) (cx : Nat) (ay : Option Addr) (Y : List Int) (cy : Nat) (hX : X.length ≤ 1000) (hY : Y.length ≤ 1000) (w : World) (hx : IntSl w (.slice ax X.length cx) X) (hy : IntSl w (.slice ay Y.length cy) Y) :
  Calls Try.prog 38 #[.slice ax X.length cx, .slice ay Y.length cy] w fun e w' => ∃ T er, thenR X Y T er ∧ ∃ a c, e = .returned (.tuple #[.slice a T.length c, .int .i64 er]) ∧ IntSl w' (.slice a T.length c) T ∧ Below w.heap.size w w' := by
 have hbs := Below.refl (B := w.heap.size) w
 have hM := Mem.start w
 refine Calls.of_ends (vs := [.slice ax X.length cx, .slice ay Y.length cy]) Try.func38 rfl Try.ntmps38 rfl ?_
 intro a hA
 replace hA : St 43 [(0, _), (1, _)] a := hA
 refine Ends.seq (Ends.region ?_)
 refine S.val hA (R.assign rfl) rfl ?_; clear hA a; intro a hA
 refine S.val hA (R.assign rfl) rfl ?_; clear hA a; intro a hA
 refine S.done ?_
 replace hA : St 43 [(0, _), (1, _)] a := hA.sub ((.cons rfl (.cons rfl .nil)))
 refine Ends.seq (Ends.seq ?_)
 refine Ends.cut (fun (a : Act) (wv : World) => St 43 [(0, .slice ax X.length cx), (1, .slice ay Y.length cy), (23, .bool (decide ((((!((okP X))) = true ∨ (!((okP Y))) = true) ∨ ((X.length : Int)) ≠ ((Y.length : Int))))))] a ∧ Mem w nof [] wv) ?_ (fun k2 hJ => ?_)
 ·
  clear hA hM a; rintro a w1 ⟨hA, hM⟩
  refine Ends.ite hA rfl (fun hc1 => ?_) (fun hc1 => ?_)
  ·
   refine Ends.seq (Ends.region ?_)
   refine S.val hA (R.assign rfl) rfl ?_; clear hA a; intro a hA
   refine S.val hA (R.assign rfl) rfl ?_; clear hA a; intro a hA
   refine S.done ?_
   replace hA : St 43 [(0, _), (1, _), (4, _), (5, _)] a := hA.sub ((.cons rfl (.cons rfl (.cons rfl (.cons rfl .nil)))))
   refine Ends.ret2 Try.func38 Try.results38 hA rfl rfl ?_
   exact ⟨[], 1, .inl ⟨fun h8 => by
    have h9 := hc1
    simp [h8.1, h8.2.1] at h9
    omega, rfl, rfl⟩, none, 0, rfl, IntSl.nil _, Mem.trans0 hbs hM.nilL⟩
  ·
   obtain ⟨hok, hoy, hxy⟩ : okP X = true ∧ okP Y = true ∧ X.length = Y.length := by
    have h9 := hc1
    cases e1 : okP X <;> cases e2 : okP Y <;> simp [e1, e2] at h9 ⊢
    omega
   refine Ends.skip (Ends.seq (Ends.region ?_))
   refine S.val hA (R.move rfl) rfl ?_; clear hA a; intro a hA
   refine S.val hA (R.lenS Try.underlying22 rfl rfl) rfl ?_; clear hA a; intro a hA
   refine S.make hA hM Try.underlying22 info3 rfl rfl rfl (by omega) (by show (8 : Int) * _ ≤ _; omega) (by omega) rfl ?_; clear hA hM a; intro b2 w2 hb3 hM a hA
   replace hM : Mem _ _ [pt b2 (madeCells #[.int .i64 0] (X.length * 1)) 3] _ := hM
   rw [Nat.mul_one, made_ints] at hM
   replace hM : Mem _ _ [pt b2 ((ints (List.replicate X.length 0))) 3] _ := hM
   refine S.val hA (R.assign rfl) rfl ?_; clear hA a; intro a hA
   refine S.done ?_
   replace hA : St 43 [(0, _), (1, _), (6, _)] a := hA.sub ((.cons rfl (.cons rfl (.cons rfl .nil))))
   refine Ends.seq (Ends.seq (Ends.region ?_))
   refine S.val hA (R.move rfl) rfl ?_; clear hA a; intro a hA
   refine S.val hA (R.lenS Try.underlying22 rfl rfl) rfl ?_; clear hA a; intro a hA
   refine S.val hA (R.move rfl) rfl ?_; clear hA a; intro a hA
   refine S.done ?_
   replace hA : St 43 [(0, _), (6, _), (27, _), (28, _), (29, _)] a := hA.sub ((.cons rfl (.cons rfl (.cons rfl (.cons rfl (.cons rfl .nil))))))
   refine Ends.block ?_
   refine Ends.loop (σ := Nat × List Int) (fun (k, Z) (a : Act) (wv : World) => St 43 [(0, .slice ax X.length cx), (6, .slice (some ⟨b2, 0, none⟩) X.length X.length), (27, .slice ay Y.length cy), (28, .int .i64 ((Y.length : Int))), (29, .int .i64 ((k : Int)))] a ∧ Mem w nof [pt b2 ((ints Z)) 3] wv ∧ (k ≤ X.length) ∧ (Z.length = X.length) ∧ (∀ i, i < k → Z.getD i 0 = X.getD (Y.getD i 0).toNat 0)) (fun (k, Z) => X.length - k) ((0, List.replicate X.length 0)) ⟨hA.sub ((.cons rfl (.cons rfl (.cons rfl (.cons rfl (.cons rfl .nil)))))), hM, (Nat.zero_le _), (by simp), (fun i hi => absurd hi (Nat.not_lt_zero _))⟩ ?_
   clear hA hM a
   rintro ⟨k, Z⟩ a w3 ⟨hA, hM, hk, hZl, hZ⟩ hNext
   refine Ends.seq (Ends.region ?_)
   refine S.val hA (R.lss rfl rfl) rfl ?_; clear hA a; intro a hA
   refine S.done ?_
   replace hA : St 43 [(0, _), (6, _), (27, _), (28, _), (29, _), (30, _)] a := hA.sub ((.cons rfl (.cons rfl (.cons rfl (.cons rfl (.cons rfl (.cons rfl .nil)))))))
   refine Ends.seq ?_
   refine Ends.ite hA rfl (fun hc4 => ?_) (fun hc4 => ?_)
   ·
    have hrg := ok_rng hoy (show k < Y.length by omega)
    refine Ends.skip (Ends.seq (Ends.block (Ends.seq (Ends.region ?_))))
    refine S.val hA (R.move rfl) rfl ?_; clear hA a; intro a hA
    refine S.val hA (R.idxI hy (j := k) sl22 rfl rfl (by omega) (rfl)) rfl ?_; clear hA a; intro a hA
    refine S.val hA (R.loadI (hy.mem hM) sz3 rfl (by omega)) rfl ?_; clear hA a; intro a hA
    refine S.val hA (R.assign rfl) rfl ?_; clear hA a; intro a hA
    refine S.val hA (R.assign rfl) rfl ?_; clear hA a; intro a hA
    refine S.done ?_
    replace hA : St 43 [(0, _), (6, _), (7, _), (8, _), (27, _), (28, _), (29, _)] a := hA.sub ((.cons rfl (.cons rfl (.cons rfl (.cons rfl (.cons rfl (.cons rfl (.cons rfl .nil))))))))
    refine Ends.region ?_
    refine S.val hA (R.move rfl) rfl ?_; clear hA a; intro a hA
    refine S.val hA (R.move rfl) rfl ?_; clear hA a; intro a hA
    refine S.val hA (R.move rfl) rfl ?_; clear hA a; intro a hA
    refine S.val hA (R.move rfl) rfl ?_; clear hA a; intro a hA
    refine S.val hA (R.idxI hx (j := (Y.getD k 0).toNat) sl22 rfl rfl (by omega) (rfl)) rfl ?_; clear hA a; intro a hA
    refine S.val hA (R.loadI (hx.mem hM) sz3 rfl (by omega)) rfl ?_; clear hA a; intro a hA
    refine S.val hA (R.indexAddr (q := k) sl22 rfl rfl (by omega) (by omega)) rfl ?_; clear hA a; intro a hA
    refine S.store (k := 0) hA hM sz3 rfl rfl rfl rfl (ints_getD Z _ (by omega)) ?_; clear hM
    intro w4 hM
    rw [ints_set] at hM
    replace hM : Mem _ _ [pt b2 ((ints (Z.set k (X.getD ((Y.getD k 0).toNat) 0)))) 3] _ := hM
    refine S.done ?_
    replace hA : St 43 [(0, _), (6, _), (27, _), (28, _), (29, _)] a := hA.sub ((.cons rfl (.cons rfl (.cons rfl (.cons rfl (.cons rfl .nil))))))
    refine Ends.inBlock (Ends.region ?_)
    refine S.val hA (R.addI rfl rfl (r := ((k : Int)) + 1) rfl (by omega)) rfl ?_; clear hA a; intro a hA
    refine S.val hA (R.move rfl) rfl ?_; clear hA a; intro a hA
    refine S.done ?_
    replace hA : St 43 [(0, _), (6, _), (27, _), (28, _), (29, _)] a := hA.sub ((.cons rfl (.cons rfl (.cons rfl (.cons rfl (.cons rfl .nil))))))
    exact hNext ((k + 1, (Z.set k (X.getD ((Y.getD k 0).toNat) 0)))) _ _ ((by show X.length - (k + 1) < X.length - k; omega)) ⟨hA.sub ((.cons rfl (.cons rfl (.cons rfl (.cons rfl (.cons rfl .nil)))))), hM, (by omega), (by rw [List.length_set]; exact hZl), (fun i hi => by rw [getD_set _ _ _ _ (by omega)]; by_cases e : i = k; (rw [e, if_pos rfl]); (rw [if_neg e]; exact hZ i (by omega)))⟩
   ·
    obtain rfl : k = X.length := by omega
    refine Ends.exit rfl ?_
    replace hA : St 43 [(6, _)] a := hA.sub ((.cons rfl .nil))
    refine Ends.seq (Ends.region ?_)
    refine S.val hA (R.move rfl) rfl ?_; clear hA a; intro a hA
    refine S.val hA (R.assign rfl) rfl ?_; clear hA a; intro a hA
    refine S.val hA (R.assign rfl) rfl ?_; clear hA a; intro a hA
    refine S.done ?_
    replace hA : St 43 [(4, _), (5, _)] a := hA.sub ((.cons rfl (.cons rfl .nil)))
    refine Ends.ret2 Try.func38 Try.results38 hA rfl rfl ?_
    have hr := hM.ptRs (k := 0) rfl (by omega)
    rw [hZl] at hr
    exact ⟨Z, 0, .inr ⟨⟨hok, hoy, hxy⟩, rfl, hZl, hZ⟩, _, _, by rw [hZl], by rw [hZl]; exact hr, Mem.trans0 hbs hM.nilL⟩
 ·
  refine Ends.region ?_
  refine S.val hA (R.move rfl) rfl ?_; clear hA a; intro a hA
  refine S.call hA (R.callF Try.func59 rfl rfl rfl) rfl (is09 ax X cx (by omega) _ (hx.mem hM)) ?_; clear hA a
  rintro e w5 ⟨rfl, hb⟩
  replace hM := hM.callB hb; clear hb
  refine ⟨.bool ((okP X)), rfl, fun a hA => ?_⟩
  refine S.val hA (R.not rfl) rfl ?_; clear hA a; intro a hA
  refine S.val hA (R.move rfl) rfl ?_; clear hA a; intro a hA
  refine hA.splitB (d := 12) rfl ?_ ?_
  ·
   clear hA; intro hg5 hA
   refine S.no (dj := 12) hA (by kernel_rfl) rfl rfl rfl ?_; clear hA a; intro a hA
   refine S.no (dj := 12) hA (by kernel_rfl) rfl rfl rfl ?_; clear hA a; intro a hA
   refine S.no (dj := 12) hA (by kernel_rfl) rfl rfl rfl ?_; clear hA a; intro a hA
   refine S.val hA (R.pickT rfl rfl) rfl ?_; clear hA a; intro a hA
   refine S.val hA (R.move rfl) rfl ?_; clear hA a; intro a hA
   refine S.no (dj := 17) hA (by kernel_rfl) rfl rfl rfl ?_; clear hA a; intro a hA
   refine S.no (dj := 17) hA (by kernel_rfl) rfl rfl rfl ?_; clear hA a; intro a hA
   refine S.no (dj := 17) hA (by kernel_rfl) rfl rfl rfl ?_; clear hA a; intro a hA
   refine S.no (dj := 17) hA (by kernel_rfl) rfl rfl rfl ?_; clear hA a; intro a hA
   refine S.no (dj := 17) hA (by kernel_rfl) rfl rfl rfl ?_; clear hA a; intro a hA
   refine S.val hA (R.pickT rfl rfl) rfl ?_; clear hA a; intro a hA
   refine S.done ?_
   replace hA : St 43 [(0, _), (1, _), (23, _)] a := hA.sub ((.cons rfl (.cons rfl (.cons rfl .nil))))
   exact hJ _ _ ⟨hA.sub (.cons rfl (.cons rfl (.cons (by first | rfl | exact congrArg (fun b => some (Value.bool b)) (by first | exact decide_eq_decide.2 (by omega) | exact or_bool (by omega) | exact and_bool (by omega) | (simp; done) | (simp [hg5]; done) | (have h80 := hg5; (try simp at h80); simp [h80]; done) | exact (decide_eq_false (fun h9 => hg5 h9.1)).symm)) .nil))), hM⟩
  ·
   clear hA; intro hg5 hA
   refine S.valg (dj := 12) hA (by kernel_rfl) rfl (R.move rfl) rfl ?_; clear hA a; intro a hA
   refine S.callg (dj := 12) hA (by kernel_rfl) rfl (R.callF Try.func59 rfl rfl rfl) rfl (is09 ay Y cy (by omega) _ (hy.mem hM)) ?_; clear hA a
   rintro e w6 ⟨rfl, hb⟩
   replace hM := hM.callB hb; clear hb
   refine ⟨.bool ((okP Y)), rfl, fun a hA => ?_⟩
   refine S.valg (dj := 12) hA (by kernel_rfl) rfl (R.not rfl) rfl ?_; clear hA a; intro a hA
   refine S.val hA (R.pickF rfl rfl) rfl ?_; clear hA a; intro a hA
   refine S.val hA (R.move rfl) rfl ?_; clear hA a; intro a hA
   refine hA.splitB (d := 17) rfl ?_ ?_
   ·
    clear hA; intro hg6 hA
    refine S.no (dj := 17) hA (by kernel_rfl) rfl rfl rfl ?_; clear hA a; intro a hA
    refine S.no (dj := 17) hA (by kernel_rfl) rfl rfl rfl ?_; clear hA a; intro a hA
    refine S.no (dj := 17) hA (by kernel_rfl) rfl rfl rfl ?_; clear hA a; intro a hA
    refine S.no (dj := 17) hA (by kernel_rfl) rfl rfl rfl ?_; clear hA a; intro a hA
    refine S.no (dj := 17) hA (by kernel_rfl) rfl rfl rfl ?_; clear hA a; intro a hA
    refine S.val hA (R.pickT rfl rfl) rfl ?_; clear hA a; intro a hA
    refine S.done ?_
    replace hA : St 43 [(0, _), (1, _), (23, _)] a := hA.sub ((.cons rfl (.cons rfl (.cons rfl .nil))))
    exact hJ _ _ ⟨hA.sub (.cons rfl (.cons rfl (.cons (by first | rfl | exact congrArg (fun b => some (Value.bool b)) (by first | exact decide_eq_decide.2 (by omega) | exact or_bool (by omega) | exact and_bool (by omega) | (simp; done) | (simp [hg5, hg6]; done) | (have h80 := hg5; (try simp at h80); have h81 := hg6; (try simp at h81); simp [h80, h81]; done) | exact (decide_eq_false (fun h9 => hg5 h9.1)).symm | exact (decide_eq_false (fun h9 => hg6 h9.1)).symm)) .nil))), hM⟩
   ·
    clear hA; intro hg6 hA
    refine S.valg (dj := 17) hA (by kernel_rfl) rfl (R.move rfl) rfl ?_; clear hA a; intro a hA
    refine S.valg (dj := 17) hA (by kernel_rfl) rfl (R.lenS Try.underlying22 rfl rfl) rfl ?_; clear hA a; intro a hA
    refine S.valg (dj := 17) hA (by kernel_rfl) rfl (R.move rfl) rfl ?_; clear hA a; intro a hA
    refine S.valg (dj := 17) hA (by kernel_rfl) rfl (R.lenS Try.underlying22 rfl rfl) rfl ?_; clear hA a; intro a hA
    refine S.valg (dj := 17) hA (by kernel_rfl) rfl (R.neq rfl rfl) rfl ?_; clear hA a; intro a hA
    refine S.val hA (R.pickF rfl rfl) rfl ?_; clear hA a; intro a hA
    refine S.done ?_
    replace hA : St 43 [(0, _), (1, _), (23, _)] a := hA.sub ((.cons rfl (.cons rfl (.cons rfl .nil))))
    exact hJ _ _ ⟨hA.sub (.cons rfl (.cons rfl (.cons (by first | rfl | exact congrArg (fun b => some (Value.bool b)) (by first | exact decide_eq_decide.2 (by omega) | exact or_bool (by omega) | exact and_bool (by omega) | (simp; done) | (simp [hg5, hg6]; done) | (have h80 := hg5; (try simp at h80); have h81 := hg6; (try simp at h81); simp [h80, h81]; done) | exact (decide_eq_false (fun h9 => hg5 h9.1)).symm | exact (decide_eq_false (fun h9 => hg6 h9.1)).symm)) .nil))), hM⟩
end Go.Proofs.Ytnikajkklocncaa
namespace Go.Proofs.Ytnikajkklocncaa
open Go.RowKit
theorem take_min20 (X : List Int) : X.take (min (X.length : Int) 20).toNat = X.take 20 := by
  rcases Nat.le_total X.length 20 with h | h
  · rw [show (min (X.length : Int) 20).toNat = X.length by omega, List.take_length, List.take_of_length_le h]
  · rw [show (min (X.length : Int) 20).toNat = 20 by omega]
def rowI (i : Ins) (P : List Int) : Ins := { i with cost := mat i.n.toNat fun r c => cel i (P.getD r 0).toNat c }
def rowG (i : Ins) (P : List Int) (k : Nat) : Nat → Nat → Int := fun r c => if r < k then cel i (P.getD r 0).toNat c else cel i r c
theorem rowG_zero {i : Ins} {P : List Int} {n : Nat} : mat n (cel i) = mat n (rowG i P 0) := mat_congr fun r c _ _ => by unfold rowG; rw [if_neg (by omega)]
theorem rowG_step {i : Ins} {P : List Int} {n k q : Nat} (hq : P.getD k 0 = (q : Int)) : mat n (fun r c => if r = k then cel i q c else rowG i P k r c) = mat n (rowG i P (k + 1)) := mat_congr fun r c _ _ => by
  unfold rowG
  by_cases h : r = k
  · subst h; rw [if_pos rfl, if_pos (by omega), hq, Int.toNat_natCast]
  · rw [if_neg h]
    by_cases g : r < k
    · rw [if_pos g, if_pos (by omega)]
    · rw [if_neg g, if_neg (by omega)]
theorem rowG_all {i : Ins} {P : List Int} {n : Nat} : mat n (rowG i P n) = mat n fun r c => cel i (P.getD r 0).toNat c := mat_congr fun r c hr _ => by unfold rowG; rw [if_pos hr]
theorem ok_of_perm {x : List Int} {n : Nat} (hn : n ≤ 128) (h : permP x n) : okP x = true := okP_perm.2 (by rw [h.1]; exact h.perm (rng_perm hn))
theorem perm_of_ok {x : List Int} {n : Nat} (hn : n ≤ 128) (h : okP x = true) (hl : x.length = n) : permP x n := perm_of (rng_perm hn) (by have := okP_perm.1 h; rw [hl] at this; exact this)
theorem row_law {i : Ins} {x P T : List Int} (hk : i.kind = 2) (h0 : (costI i x).2 = 0) (hP : okP P = true) (hPl : P.length = i.n.toNat) (hTl : T.length = x.length) (hT : ∀ k, k < x.length → T.getD k 0 = x.getD (P.getD k 0).toNat 0) : costI (rowI i P) T = ((costI i x).1, 0) := by
 have hz := costI_chk h0
 have hk1 : ¬ i.kind = 1 := by omega
 have hF := chk_inF hz
 have ho := cost_ord h0 hk1
 have hn := hF.n1
 have h24 := hF.n24 hk1
 have e1 : costI i x = (sumF (stp i x) i.n.toNat, 0) := by rw [costI_or hz hk1, if_neg (not_not_intro ho)]
 have hz' : chk (rowI i P) = 0 := chk_mat hF hk1 (fun r c => ⟨_, _, rfl⟩) (fun h => absurd h (by omega))
 generalize hN : i.n.toNat = n at *
 have hx : permP x n := by have := ho.1; rwa [hN] at this
 have hPp : permP P n := perm_of_ok (by omega) hP hPl
 have hxl := hx.1
 have eT : T = P.map fun v => x.getD v.toNat 0 := by
  refine List.ext_getElem (by rw [List.length_map]; omega) fun q h1 h2 => ?_
  have := hT q (by omega)
  rw [List.getElem_map]
  rw [List.getD_eq_getElem?_getD, List.getElem?_eq_getElem h1, Option.getD_some] at this
  rw [this]
  congr 2
  rw [List.getD_eq_getElem?_getD, List.getElem?_eq_getElem (by omega), Option.getD_some]
 have ex : (rng n).map (fun v => x.getD v.toNat 0) = x := by
  refine List.ext_getElem (by rw [List.length_map, rng_len]; omega) fun q h1 h2 => ?_
  rw [List.getElem_map]
  have := rng_get (n := n) (q := q) (by omega)
  rw [List.getD_eq_getElem?_getD, List.getElem?_eq_getElem (by rw [rng_len]; omega), Option.getD_some] at this
  rw [this, Int.toNat_natCast, List.getD_eq_getElem?_getD, List.getElem?_eq_getElem h2, Option.getD_some]
 have hTp : permP T n := perm_of hx (by
  have h3 := (hPp.perm (rng_perm (by omega))).map fun v => x.getD v.toNat 0
  rw [ex, ← eT] at h3
  exact h3)
 have hkr : (rowI i P).kind = 2 := hk
 have hnr : (rowI i P).n.toNat = n := hN
 have hkr1 : ¬ (rowI i P).kind = 1 := by omega
 have ho' : ordP (rowI i P) T := ⟨by rw [hnr]; exact hTp, fun h => absurd h (by omega)⟩
 rw [costI_or hz' hkr1, if_neg (not_not_intro ho'), e1, hnr]
 refine Prod.ext ?_ rfl
 show sumF (stp (rowI i P) T) n = sumF (stp i x) n
 rw [← perm_sum (by omega) hPp (stp i x)]
 refine sumF_congr fun q hq => ?_
 have hp := hPp.at_ hq
 have ht := hTp.at_ hq
 have hT' := hT q (by omega)
 unfold stp
 rw [if_pos hkr, if_pos hk]
 unfold cl2
 show ((mat i.n.toNat _).getD _ []).getD _ 0 = _
 rw [hN, Int.toNat_natCast, mat_cell' hq (by omega), Int.toNat_natCast, hT']
 rfl
theorem then_kur (ax : Option Addr) (Y : List Int) (cx : Nat) (ay : Option Addr) (P : List Int) (cy : Nat) (hY : okP Y = true) (hP : okP P = true) (hl : Y.length = P.length) (h1 : Y.length ≤ 1000) (w : World) (hx : IntSl w (.slice ax Y.length cx) Y) (hy : IntSl w (.slice ay P.length cy) P) :
    Calls Try.prog 38 #[.slice ax Y.length cx, .slice ay P.length cy] w fun e w' => ∃ T a c, T.length = Y.length ∧ (∀ k, k < Y.length → T.getD k 0 = Y.getD (P.getD k 0).toNat 0) ∧ e = .returned (.tuple #[.slice a T.length c, .int .i64 0]) ∧ IntSl w' (.slice a T.length c) T ∧ Below w.heap.size w w' :=
  (then09 ax Y cx ay P cy h1 (by omega) w hx hy).mono fun e w' ⟨T, er, hR, a, c, he, h2, h3⟩ => by
    rcases hR with ⟨g1, -, -⟩ | ⟨-, g2, g3, g4⟩
    · exact absurd ⟨hY, hP, hl⟩ g1
    · subst g2; exact ⟨T, a, c, g3, g4, he, h2, h3⟩
set_option maxRecDepth 100000 in
set_option maxHeartbeats 400000 in
theorem nth_okF (n r : Nat) (hn : n ≤ 20) (hr : r ≤ 9223372036854775807) (w : World) :
  Calls Try.prog 37 #[.int .i64 ((n : Int)), .int .i64 ((r : Int))] w fun e w' => ∃ a c, e = .returned (.tuple #[.slice a ((nthV (n : Int) (r : Int))).length c, .int .i64 (nthE (n : Int) (r : Int))]) ∧ IntSl w' (.slice a ((nthV (n : Int) (r : Int))).length c) ((nthV (n : Int) (r : Int))) ∧ frs w.heap.size a ∧ Below w.heap.size w w' := by
 have hbs := Below.refl (B := w.heap.size) w
 have hM := Mem.start w
 refine Calls.of_ends (vs := [.int .i64 ((n : Int)), .int .i64 ((r : Int))]) Try.func37 rfl Try.ntmps37 rfl ?_
 intro a hA
 replace hA : St 65 [(0, _), (1, _)] a := hA
 refine Ends.seq (Ends.region ?_)
 refine S.val hA (R.assign rfl) rfl ?_; clear hA a; intro a hA
 refine S.val hA (R.assign rfl) rfl ?_; clear hA a; intro a hA
 refine S.done ?_
 refine Ends.seq (Ends.seq (Ends.region ?_))
 refine S.val hA (R.move rfl) rfl ?_; clear hA a; intro a hA
 refine S.val hA (R.ff (R.lss rfl rfl) (by first | omega | exact hdg | exact hdq)) rfl ?_; clear hA a; intro a hA
 refine S.val hA (R.move rfl) rfl ?_; clear hA a; intro a hA
 refine S.valg (dj := 14) hA (by kernel_rfl) rfl (R.move rfl) rfl ?_; clear hA a; intro a hA
 refine S.valg (dj := 14) hA (by kernel_rfl) rfl (R.ff (R.gtr rfl rfl) (by first | omega | exact hdg | exact hdq)) rfl ?_; clear hA a; intro a hA
 refine S.val hA (R.pickF rfl rfl) rfl ?_; clear hA a; intro a hA
 refine S.done ?_
 replace hA : St 65 [(0, _), (1, _), (17, _)] a := hA.sub ((.cons rfl (.cons rfl (.cons rfl .nil))))
 refine Ends.condF hA rfl ?_
 refine Ends.skip (Ends.seq (Ends.seq (Ends.region ?_)))
 refine S.val hA (R.move rfl) rfl ?_; clear hA a; intro a hA
 refine S.val hA (R.ff (R.lss rfl rfl) (by first | omega | exact hdg | exact hdq)) rfl ?_; clear hA a; intro a hA
 refine S.done ?_
 refine Ends.condF hA rfl ?_
 refine Ends.skip (Ends.seq (Ends.region ?_))
 refine S.val hA (R.move rfl) rfl ?_; clear hA a; intro a hA
 refine S.make hA hM Try.underlying22 info3 rfl rfl rfl (by first | omega | exact hdg | exact hdq) (by show (8 : Int) * _ ≤ _; omega) (by first | omega | exact hdg | exact hdq) rfl ?_; clear hA hM a; intro b1 w1 hb2 hM a hA
 replace hM : Mem _ _ [pt b1 (madeCells #[.int .i64 0] (n * 1)) 3] _ := hM
 rw [Nat.mul_one, made_ints] at hM
 replace hM : Mem _ _ [pt b1 ((ints (List.replicate n 0))) 3] _ := hM
 refine S.val hA (R.assign rfl) rfl ?_; clear hA a; intro a hA
 refine S.done ?_
 replace hA : St 65 [(0, _), (1, _), (6, _)] a := hA.sub ((.cons rfl (.cons rfl (.cons rfl .nil))))
 refine Ends.seq (Ends.seq (Ends.region ?_))
 refine S.val hA (R.move rfl) rfl ?_; clear hA a; intro a hA
 refine S.val hA (R.move rfl) rfl ?_; clear hA a; intro a hA
 refine S.done ?_
 refine Ends.block ?_
 rw [show (r : Int) = ((r / fac 0 : Nat) : Int) by simp [fac]] at hA
 refine Ends.loop (σ := Nat × List Int) (fun (k, Sk) (a : Act) (wv : World) => St 65 [(0, .int .i64 ((n : Int))), (1, .int .i64 (((r / fac k : Nat) : Int))), (6, .slice (some ⟨b1, 0, none⟩) n n), (22, .int .i64 ((n : Int))), (23, .int .i64 ((k : Int)))] a ∧ Mem w nof [pt b1 ((ints Sk)) 3] wv ∧ (k ≤ n) ∧ (Sk.length = n) ∧ (∀ i, i < k → Sk.getD (n - 1 - i) 0 = ((digq r i : Nat) : Int))) (fun (k, Sk) => n - k) ((0, List.replicate n 0)) ⟨hA.sub ((.cons rfl (.cons rfl (.cons rfl (.cons rfl (.cons rfl .nil)))))), hM, (Nat.zero_le _), (by simp), (fun i hi => absurd hi (Nat.not_lt_zero _))⟩ ?_
 clear hA hM a
 rintro ⟨k, Sk⟩ a w2 ⟨hA, hM, hk, hSl, hS⟩ hNext
 refine Ends.seq (Ends.region ?_)
 refine S.val hA (R.lss rfl rfl) rfl ?_; clear hA a; intro a hA
 refine S.done ?_
 refine Ends.seq ?_
 refine Ends.ite hA rfl (fun hc3 => ?_) (fun hc3 => ?_)
 ·
  have hdg : ((r / fac k : Nat) : Int) % ((k : Int) + 1) = ((digq r k : Nat) : Int) := by
   have e9 : ((k + 1 : Nat) : Int) = (k : Int) + 1 := by omega
   unfold digq; rw [← e9]; exact (Int.natCast_emod _ _).symm
  have hdq : ((r / fac k : Nat) : Int) / ((k : Int) + 1) = ((r / fac (k + 1) : Nat) : Int) := by
   have e9 : ((k + 1 : Nat) : Int) = (k : Int) + 1 := by omega
   rw [← dig_div, ← e9]; exact (Int.natCast_ediv _ _).symm
  have hrl : ((r / fac k : Nat) : Int) ≤ (r : Int) := Int.ofNat_le.2 (Nat.div_le_self _ _)
  have hnn : 0 ≤ ((r / fac k : Nat) : Int) := Int.natCast_nonneg _
  refine Ends.skip (Ends.seq (Ends.block (Ends.seq (Ends.region ?_))))
  refine S.val hA (R.move rfl) rfl ?_; clear hA a; intro a hA
  refine S.val hA (R.assign rfl) rfl ?_; clear hA a; intro a hA
  refine S.done ?_
  refine Ends.seq (Ends.region ?_)
  refine S.val hA (R.move rfl) rfl ?_; clear hA a; intro a hA
  refine S.val hA (R.move rfl) rfl ?_; clear hA a; intro a hA
  refine S.val hA (R.subI rfl rfl (r := ((n : Int)) - 1) rfl (by first | omega | exact hdg | exact hdq)) rfl ?_; clear hA a; intro a hA
  refine S.val hA (R.move rfl) rfl ?_; clear hA a; intro a hA
  refine S.val hA (R.subI rfl rfl (r := ((n - 1 - k : Nat) : Int)) (by first | omega | exact hdg | exact hdq) (by first | omega | exact hdg | exact hdq)) rfl ?_; clear hA a; intro a hA
  refine S.val hA (R.move rfl) rfl ?_; clear hA a; intro a hA
  refine S.val hA (R.move rfl) rfl ?_; clear hA a; intro a hA
  refine S.val hA (R.addI rfl rfl (r := ((k : Int)) + 1) rfl (by first | omega | exact hdg | exact hdq)) rfl ?_; clear hA a; intro a hA
  refine S.val hA (R.remI rfl rfl (r := ((digq r k : Nat) : Int)) (by first | omega | exact hdg | exact hdq) (by first | omega | exact hdg | exact hdq)) rfl ?_; clear hA a; intro a hA
  refine S.val hA (R.indexAddr (q := (n - 1 - k)) sl22 rfl rfl (by first | omega | exact hdg | exact hdq) (by first | omega | exact hdg | exact hdq)) rfl ?_; clear hA a; intro a hA
  refine S.store (k := 0) hA hM sz3 rfl rfl rfl rfl (ints_getD Sk _ (by first | omega | exact hdg | exact hdq)) ?_; clear hM
  intro w3 hM
  rw [ints_set] at hM
  replace hM : Mem _ _ [pt b1 ((ints (Sk.set ((n - 1 - k)) (((digq r k : Nat) : Int))))) 3] _ := hM
  refine S.done ?_
  replace hA : St 65 [(0, _), (1, _), (6, _), (7, _), (22, _), (23, _)] a := hA.sub ((.cons rfl (.cons rfl (.cons rfl (.cons rfl (.cons rfl (.cons rfl .nil)))))))
  refine Ends.region ?_
  refine S.val hA (R.move rfl) rfl ?_; clear hA a; intro a hA
  refine S.val hA (R.move rfl) rfl ?_; clear hA a; intro a hA
  refine S.val hA (R.addI rfl rfl (r := ((k : Int)) + 1) rfl (by first | omega | exact hdg | exact hdq)) rfl ?_; clear hA a; intro a hA
  refine S.val hA (R.quoI rfl rfl (r := ((r / fac (k + 1) : Nat) : Int)) (by first | omega | exact hdg | exact hdq) (by first | omega | exact hdg | exact hdq)) rfl ?_; clear hA a; intro a hA
  refine S.val hA (R.assign rfl) rfl ?_; clear hA a; intro a hA
  refine S.done ?_
  replace hA : St 65 [(0, _), (1, _), (6, _), (22, _), (23, _)] a := hA.sub ((.cons rfl (.cons rfl (.cons rfl (.cons rfl (.cons rfl .nil))))))
  refine Ends.inBlock (Ends.region ?_)
  refine S.val hA (R.addI rfl rfl (r := ((k : Int)) + 1) rfl (by first | omega | exact hdg | exact hdq)) rfl ?_; clear hA a; intro a hA
  refine S.val hA (R.move rfl) rfl ?_; clear hA a; intro a hA
  refine S.done ?_
  exact hNext ((k + 1, (Sk.set ((n - 1 - k)) (((digq r k : Nat) : Int))))) _ _ ((by show n - (k + 1) < n - k; omega)) ⟨hA.sub ((.cons rfl (.cons rfl (.cons rfl (.cons rfl (.cons rfl .nil)))))), hM, (by omega), (by rw [List.length_set]; exact hSl), (fun i hi => by rw [getD_set _ _ _ _ (by omega)]; by_cases e : i = k; (rw [e, if_pos rfl]); (rw [if_neg (by omega)]; exact hS i (by omega)))⟩
 ·
  obtain rfl : n = k := by omega
  refine Ends.exit rfl ?_
  refine Ends.seq (Ends.seq (Ends.region ?_))
  refine S.val hA (R.move rfl) rfl ?_; clear hA a; intro a hA
  refine S.val hA (R.gtr rfl rfl) rfl ?_; clear hA a; intro a hA
  refine S.done ?_
  refine Ends.ite hA rfl (fun hc4 => ?_) (fun hc4 => ?_)
  ·
   have hge : fac n ≤ r := by
    rcases Nat.lt_or_ge r (fac n) with g9 | g9
    · rw [Nat.div_eq_of_lt g9] at hc4; omega
    · exact g9
   refine Ends.seq (Ends.region ?_)
   refine S.val hA (R.assign rfl) rfl ?_; clear hA a; intro a hA
   refine S.val hA (R.assign rfl) rfl ?_; clear hA a; intro a hA
   refine S.done ?_
   replace hA : St 65 [(0, _), (4, _), (5, _), (6, _)] a := hA.sub ((.cons rfl (.cons rfl (.cons rfl (.cons rfl .nil)))))
   refine Ends.ret2 Try.func37 Try.results37 hA rfl rfl ?_
   have hfi : ¬ ((r : Int) < ((fac (n : Int).toNat : Nat) : Int)) := by rw [Int.toNat_natCast]; omega
   rw [show nthV (n : Int) (r : Int) = [] by unfold nthV; rw [if_neg (fun h9 => hfi h9.2.2.2)], show nthE (n : Int) (r : Int) = 11 by unfold nthE; rw [if_neg (by omega), if_pos (fun h9 => hfi h9.2)]]
   exact ⟨none, 0, rfl, IntSl.nil _, (fun p hp => by cases hp), Mem.trans0 hbs hM.nilL⟩
  ·
   have hlt : r < fac n := by
    rcases Nat.lt_or_ge r (fac n) with g9 | g9
    · exact g9
    · have := Nat.div_pos g9 (fac_pos n); omega
   refine Ends.skip (Ends.seq (Ends.region ?_))
   refine S.val hA (R.move rfl) rfl ?_; clear hA a; intro a hA
   refine S.call hA (R.callF Try.func57 rfl rfl rfl) rfl (plain_ownN n (by omega) _) ?_; clear hA a
   rintro e w4 ⟨g, pc, rfl, hn⟩
   replace hM : Mem _ _ [own 3 1 (.slice ((some ⟨g, 0, none⟩)) (((pl n)).length) pc) (((pl n)).length) (((pl n)).map (Value.int .i64)), pt b1 ((ints Sk)) 3] _ := hM.call hn; clear hn
   refine ⟨.slice ((some ⟨g, 0, none⟩)) ((pl n).length) pc, rfl, fun a hA => ?_⟩
   refine S.val hA (R.assign rfl) rfl ?_; clear hA a; intro a hA
   refine S.done ?_
   replace hA : St 65 [(6, _), (8, _)] a := hA.sub ((.cons rfl (.cons rfl .nil)))
   refine Ends.seq (Ends.region ?_)
   refine S.val hA (R.assign rfl) rfl ?_; clear hA a; intro a hA
   refine S.done ?_
   refine Ends.seq (Ends.seq (Ends.region ?_))
   refine S.val hA (R.move rfl) rfl ?_; clear hA a; intro a hA
   refine S.val hA (R.lenS Try.underlying22 rfl rfl) rfl ?_; clear hA a; intro a hA
   refine S.val hA (R.move rfl) rfl ?_; clear hA a; intro a hA
   refine S.done ?_
   refine Ends.block ?_
   replace hM := hM.ownNil 3 1
   replace hM := hM.front (k := 1) rfl
   replace hM := hM.front (k := 2) rfl
   replace hM : Mem _ _ [pt b1 ((ints Sk)) 3, own 3 1 (.slice ((some ⟨g, 0, none⟩)) (((pl n)).length) pc) (((pl n)).length) (((pl n)).map (Value.int .i64)), own 3 1 (.slice none ((([] : List Int)).length) 0) ((([] : List Int)).length) ((([] : List Int)).map (Value.int .i64))] _ := hM
   refine Ends.loop (σ := Nat × List Int × Option Addr × List Int × Nat) (fun (j, T, oa, Q, oc) (a : Act) (wv : World) => St 65 [(8, .slice ((some ⟨g, 0, none⟩)) T.length pc), (9, .slice oa Q.length oc), (45, .slice (some ⟨b1, 0, none⟩) n n), (46, .int .i64 ((n : Int))), (47, .int .i64 ((j : Int)))] a ∧ Mem w nof [pt b1 ((ints Sk)) 3, own 3 1 (.slice ((some ⟨g, 0, none⟩)) T.length pc) T.length (T.map (Value.int .i64)), own 3 1 (.slice oa Q.length oc) Q.length (Q.map (Value.int .i64))] wv ∧ (j ≤ n) ∧ (T.length = n - j) ∧ (Q ++ nthL (n - j) T (r % fac (n - j)) = nthL n (pl n) (r % fac n))) (fun (j, T, oa, Q, oc) => n - j) ((0, pl n, none, [], 0)) ⟨hA.sub ((.cons rfl (.cons rfl (.cons rfl (.cons rfl (.cons rfl .nil)))))), hM, (Nat.zero_le _), (pl_len n), rfl⟩ ?_
   clear hA hM a
   rintro ⟨j, T, oa, Q, oc⟩ a w5 ⟨hA, hM, hj, hLl, hQ⟩ hNext1
   refine Ends.seq (Ends.region ?_)
   refine S.val hA (R.lss rfl rfl) rfl ?_; clear hA a; intro a hA
   refine S.done ?_
   refine Ends.seq ?_
   refine Ends.ite hA rfl (fun hc5 => ?_) (fun hc5 => ?_)
   ·
    have hSj : Sk.getD j 0 = ((digq r (n - 1 - j) : Nat) : Int) := by have := hS (n - 1 - j) (by omega); rwa [show n - 1 - (n - 1 - j) = j by omega] at this
    have hdl := nth_lt (r := r) (show j < n by omega) hLl
    refine Ends.skip (Ends.seq (Ends.block (Ends.seq (Ends.region ?_))))
    refine S.val hA (R.indexAddr (q := j) sl22 rfl rfl (by first | omega | exact hdg | exact hdq) (by first | omega | exact hdg | exact hdq)) rfl ?_; clear hA a; intro a hA
    refine S.val hA (R.to (v := .int .i64 ((digq r (n - 1 - j) : Nat) : Int)) (R.load sz3 rfl (hM.cell (k := 0) rfl (ints_getD Sk _ (by omega)))) (congrArg (Value.int .i64) hSj)) rfl ?_; clear hA a; intro a hA
    refine S.val hA (R.assign rfl) rfl ?_; clear hA a; intro a hA
    refine S.done ?_
    refine Ends.seq (Ends.region ?_)
    refine S.val hA (R.move rfl) rfl ?_; clear hA a; intro a hA
    refine S.val hA (R.move rfl) rfl ?_; clear hA a; intro a hA
    refine S.val hA (R.move rfl) rfl ?_; clear hA a; intro a hA
    refine S.val hA (R.indexAddr (q := (digq r (n - 1 - j))) sl22 rfl rfl (by first | omega | exact hdg | exact hdq) (by first | omega | exact hdg | exact hdq)) rfl ?_; clear hA a; intro a hA
    refine S.val hA (R.load sz3 rfl (hM.ownCell (k := 1) rfl (mapi_get _ _ (by first | omega | exact hdg | exact hdq)))) rfl ?_; clear hA a; intro a hA
    refine S.buildSl (cells := #[.int .i64 (T.getD ((digq r (n - 1 - j))) 0)]) hA hM Try.underlying22 info3 rfl rfl rfl rfl (by kernel_rfl) rfl ?_; clear hA hM a; intro b6 w6 hb7 hM a hA
    replace hM : Mem _ _ [pt b6 #[.int .i64 (T.getD ((digq r (n - 1 - j))) 0)] 3, pt b1 ((ints Sk)) 3, own 3 1 (.slice ((some ⟨g, 0, none⟩)) T.length pc) T.length (T.map (Value.int .i64)), own 3 1 (.slice oa Q.length oc) Q.length (Q.map (Value.int .i64))] _ := hM
    refine S.append (k := 3) (k2 := 0) hA hM rfl rfl Try.underlying22 info3 rfl rfl rfl rfl rfl rfl rfl rfl rfl (by first | (unfold maxLen; omega) | (have hQl := congrArg List.length hQ; simp only [List.length_append, nthL_len] at hQl; unfold maxLen; omega) | (have hQl := congrArg List.length hQ; simp only [List.length_append, nthL_len] at hQl; show (_ + 1) * 8 ≤ (140737488355328 : Nat); omega)) (by first | (unfold maxLen; omega) | (have hQl := congrArg List.length hQ; simp only [List.length_append, nthL_len] at hQl; unfold maxLen; omega) | (have hQl := congrArg List.length hQ; simp only [List.length_append, nthL_len] at hQl; show (_ + 1) * 8 ≤ (140737488355328 : Nat); omega)) rfl ?_; clear hA hM a; intro a8 c9 w7 hM a hA
    replace hM : Mem _ _ [pt b6 #[.int .i64 (T.getD ((digq r (n - 1 - j))) 0)] 3, pt b1 ((ints Sk)) 3, own 3 1 (.slice ((some ⟨g, 0, none⟩)) T.length pc) T.length (T.map (Value.int .i64)), own 3 1 (.slice a8 (Q.length + 1) c9) (Q.length + 1) (Q.map (Value.int .i64) ++ [.int .i64 (T.getD ((digq r (n - 1 - j))) 0)])] _ := hM
    have hl10 : Q.length + 1 = (Q ++ [T.getD ((digq r (n - 1 - j))) 0]).length := by simp
    rw [hl10, show Q.map (Value.int .i64) ++ [.int .i64 (T.getD ((digq r (n - 1 - j))) 0)] = (Q ++ [T.getD ((digq r (n - 1 - j))) 0]).map (Value.int .i64) by simp] at hM; rw [hl10] at hA
    clear hl10
    replace hM := hM.drop 0
    replace hM : Mem _ _ [pt b1 ((ints Sk)) 3, own 3 1 (.slice ((some ⟨g, 0, none⟩)) T.length pc) T.length (T.map (Value.int .i64)), own 3 1 (.slice a8 (((Q ++ [T.getD ((digq r (n - 1 - j))) 0])).length) c9) (((Q ++ [T.getD ((digq r (n - 1 - j))) 0])).length) (((Q ++ [T.getD ((digq r (n - 1 - j))) 0])).map (Value.int .i64))] _ := hM
    refine S.val hA (R.assign rfl) rfl ?_; clear hA a; intro a hA
    refine S.done ?_
    replace hA : St 65 [(8, _), (9, _), (11, _), (45, _), (46, _), (47, _)] a := hA.sub ((.cons rfl (.cons rfl (.cons rfl (.cons rfl (.cons rfl (.cons rfl .nil)))))))
    refine Ends.region ?_
    refine S.val hA (R.move rfl) rfl ?_; clear hA a; intro a hA
    refine S.val hA (R.move rfl) rfl ?_; clear hA a; intro a hA
    refine S.val hA (R.move rfl) rfl ?_; clear hA a; intro a hA
    refine S.val hA (R.addI rfl rfl (r := (((digq r (n - 1 - j) : Nat) : Int)) + 1) rfl (by first | omega | exact hdg | exact hdq)) rfl ?_; clear hA a; intro a hA
    replace hM := hM.front (k := 1) rfl
    replace hM : Mem _ _ [own 3 1 (.slice ((some ⟨g, 0, none⟩)) T.length pc) T.length (T.map (Value.int .i64)), pt b1 ((ints Sk)) 3, own 3 1 (.slice a8 (((Q ++ [T.getD ((digq r (n - 1 - j))) 0])).length) c9) (((Q ++ [T.getD ((digq r (n - 1 - j))) 0])).length) (((Q ++ [T.getD ((digq r (n - 1 - j))) 0])).map (Value.int .i64))] _ := hM
    refine S.call hA (R.callF Try.func58 rfl rfl rfl) rfl (del09 g pc (digq r (n - 1 - j)) T hdl _ (hM.hereN 1)) ?_; clear hA a
    rintro e w8 ⟨rfl, hn⟩
    replace hM : Mem _ _ [own 3 1 (.slice ((some ⟨g, 0, none⟩)) (((T.eraseIdx (digq r (n - 1 - j)))).length) pc) (((T.eraseIdx (digq r (n - 1 - j)))).length) (((T.eraseIdx (digq r (n - 1 - j)))).map (Value.int .i64)), pt b1 ((ints Sk)) 3, own 3 1 (.slice a8 (((Q ++ [T.getD ((digq r (n - 1 - j))) 0])).length) c9) (((Q ++ [T.getD ((digq r (n - 1 - j))) 0])).length) (((Q ++ [T.getD ((digq r (n - 1 - j))) 0])).map (Value.int .i64))] _ := hM.callL 1 hn; clear hn
    refine ⟨.slice ((some ⟨g, 0, none⟩)) (((T.eraseIdx (digq r (n - 1 - j)))).length) pc, rfl, fun a hA => ?_⟩
    refine S.val hA (R.assign rfl) rfl ?_; clear hA a; intro a hA
    refine S.done ?_
    replace hA : St 65 [(8, _), (9, _), (45, _), (46, _), (47, _)] a := hA.sub ((.cons rfl (.cons rfl (.cons rfl (.cons rfl (.cons rfl .nil))))))
    refine Ends.inBlock (Ends.region ?_)
    refine S.val hA (R.addI rfl rfl (r := ((j : Int)) + 1) rfl (by first | omega | exact hdg | exact hdq)) rfl ?_; clear hA a; intro a hA
    refine S.val hA (R.move rfl) rfl ?_; clear hA a; intro a hA
    refine S.done ?_
    replace hM := hM.front (k := 2) rfl
    replace hM := hM.front (k := 1) rfl
    replace hM := hM.front (k := 2) rfl
    replace hM : Mem _ _ [pt b1 ((ints Sk)) 3, own 3 1 (.slice ((some ⟨g, 0, none⟩)) (((T.eraseIdx (digq r (n - 1 - j)))).length) pc) (((T.eraseIdx (digq r (n - 1 - j)))).length) (((T.eraseIdx (digq r (n - 1 - j)))).map (Value.int .i64)), own 3 1 (.slice a8 (((Q ++ [T.getD ((digq r (n - 1 - j))) 0])).length) c9) (((Q ++ [T.getD ((digq r (n - 1 - j))) 0])).length) (((Q ++ [T.getD ((digq r (n - 1 - j))) 0])).map (Value.int .i64))] _ := hM
    replace hM := hM.firstN 3
    exact hNext1 ((j + 1, (T.eraseIdx (digq r (n - 1 - j))), a8, (Q ++ [T.getD ((digq r (n - 1 - j))) 0]), c9)) _ _ ((by show n - (j + 1) < n - j; omega)) ⟨hA.sub ((.cons rfl (.cons rfl (.cons rfl (.cons rfl (.cons rfl .nil)))))), hM, (by omega), (by rw [List.length_eraseIdx_of_lt hdl]; omega), (nth_step (by omega) hQ)⟩
   ·
    obtain rfl : n = j := by omega
    rw [Nat.sub_self, nthL, List.append_nil, Nat.mod_eq_of_lt hlt] at hQ
    refine Ends.exit rfl ?_
    replace hA : St 65 [(9, _)] a := hA.sub ((.cons rfl .nil))
    refine Ends.seq (Ends.region ?_)
    refine S.val hA (R.move rfl) rfl ?_; clear hA a; intro a hA
    refine S.val hA (R.assign rfl) rfl ?_; clear hA a; intro a hA
    refine S.val hA (R.assign rfl) rfl ?_; clear hA a; intro a hA
    refine S.done ?_
    refine Ends.ret2 Try.func37 Try.results37 hA rfl rfl ?_
    have hV : nthV (n : Int) (r : Int) = nthL n (pl n) r := by unfold nthV; rw [if_pos ⟨by omega, by omega, by omega, by rw [Int.toNat_natCast]; omega⟩]; rfl
    have hE : nthE (n : Int) (r : Int) = 0 := by unfold nthE; rw [if_neg (by omega), if_neg (fun h9 => h9 ⟨by omega, by rw [Int.toNat_natCast]; omega⟩)]
    rw [hV, hE]
    rw [← hQ]
    have hr2 := hM.rsl (k := 2) rfl
    have hf9 := hM.ownFresh (k := 2) rfl
    exact ⟨_, _, rfl, hr2, hf9, Mem.trans0 hbs hM.nilL⟩
theorem nth_kur (m : Int) (n r : Nat) (hm : m = (n : Int)) (hn : n ≤ 20) (hr : r < fac n) (w : World) : Calls Try.prog 37 #[.int .i64 m, .int .i64 (r : Int)] w fun e w' => ∃ P a c, okP P = true ∧ P.length = n ∧ e = .returned (.tuple #[.slice a P.length c, .int .i64 0]) ∧ IntSl w' (.slice a P.length c) P ∧ frs w.heap.size a ∧ Below w.heap.size w w' := by
  subst hm
  have hfl := fac_le hn
  have hr' : (r : Int) < ((fac n : Nat) : Int) := Int.ofNat_lt.2 hr
  refine (nth_okF n r hn (by omega) w).mono fun e w' ⟨a, c, he, h2, h3, h4⟩ => ?_
  have e1 : nthV (n : Int) (r : Int) = nthL n (pl n) r := by unfold nthV; rw [if_pos ⟨by omega, by omega, by omega, by rw [Int.toNat_natCast]; exact hr'⟩, Int.toNat_natCast, Int.toNat_natCast]
  have e2 : nthE (n : Int) (r : Int) = 0 := by unfold nthE; rw [if_neg (by omega), if_neg (fun h9 => h9 ⟨by omega, by rw [Int.toNat_natCast]; exact hr'⟩)]
  have hp : (nthL n (pl n) r).Perm (pl n) := nthL_perm n (pl n) r (pl_len n) hr
  have hl : (nthL n (pl n) r).length = n := nthL_len n (pl n) r
  rw [e1, e2] at he
  rw [e1] at h2
  exact ⟨nthL n (pl n) r, a, c, okP_perm.2 (by rw [hl]; exact hp), hl, he, h2, h3, h4⟩
set_option maxRecDepth 100000 in
set_option maxHeartbeats 400000 in
theorem kurganRows_w (i : Ins) (ax3 : Option Addr) (cx3 : Nat) (ax4 : Option Addr) (cx4 : Nat) (ax5 : Option Addr) (cx5 : Nat) (hbg : i.wt.length ≤ 17592186044416 ∧ i.vl.length ≤ 17592186044416) (rank : Int) (ay : Option Addr) (x : List Int) (cy : Nat) (w : World) (hx3 : IntSl w (.slice ax3 i.wt.length cx3) i.wt) (hx4 : IntSl w (.slice ax4 i.vl.length cx4) i.vl) (hx5 : RowsV w (.slice ax5 i.cost.length cx5) i.cost) (hy : IntSl w (.slice ay x.length cy) x) :
  Calls Try.prog 11 #[.agg #[.int .i64 i.kind, .int .i64 i.n, .int .i64 i.cap, .slice ax3 i.wt.length cx3, .slice ax4 i.vl.length cx4, .slice ax5 i.cost.length cx5], .int .i64 rank, .slice ay x.length cy] w fun e w' => e = .returned (.bool true) ∧ Below w.heap.size w w' := by
 have hbs := Below.refl (B := w.heap.size) w
 have hM := Mem.start w
 refine Calls.of_ends (vs := [.agg #[.int .i64 i.kind, .int .i64 i.n, .int .i64 i.cap, .slice ax3 i.wt.length cx3, .slice ax4 i.vl.length cx4, .slice ax5 i.cost.length cx5], .int .i64 rank, .slice ay x.length cy]) Try.func11 rfl Try.ntmps11 rfl ?_
 intro a hA
 replace hA : St 122 [(0, _), (1, _), (2, _)] a := hA
 refine Ends.seq (Ends.region ?_)
 refine S.box hA hM rfl rfl ?_; clear hA hM a; intro b1 w1 hb2 hM a hA
 replace hM : Mem _ _ [pt b1 #[.int .i64 i.kind, .int .i64 i.n, .int .i64 i.cap, .slice ax3 i.wt.length cx3, .slice ax4 i.vl.length cx4, .slice ax5 i.cost.length cx5] 25] _ := hM
 refine S.val hA (R.assign rfl) rfl ?_; clear hA a; intro a hA
 refine S.done ?_
 refine Ends.seq (Ends.seq ?_)
 refine Ends.cut (fun (a : Act) (wv : World) => St 122 [(1, .int .i64 rank), (2, .slice ay x.length cy), (3, .pointer (some ⟨b1, 0, none⟩)), (35, .bool (decide ((((chk i) ≠ 0 ∨ i.kind ≠ 2) ∨ 8 < i.n))))] a ∧ Mem w nof [pt b1 #[.int .i64 i.kind, .int .i64 i.n, .int .i64 i.cap, .slice ax3 i.wt.length cx3, .slice ax4 i.vl.length cx4, .slice ax5 i.cost.length cx5] 25] wv) ?_ (fun k2 hJ => ?_)
 ·
  clear hA hM a; rintro a w2 ⟨hA, hM⟩
  refine Ends.ite hA rfl (fun hc3 => ?_) (fun hc3 => ?_)
  ·
   refine Ends.seq (Ends.region ?_)
   refine S.call hA (R.callF Try.func34 rfl rfl rfl) rfl (stands_any _) ?_; clear hA a
   rintro e w3 ⟨rfl, rfl⟩
   refine ⟨.bool true, rfl, fun a hA => ?_⟩
   refine S.val hA (R.assign rfl) rfl ?_; clear hA a; intro a hA
   refine S.done ?_
   refine Ends.ret1 Try.func11 Try.results11 hA rfl ?_
   exact ⟨rfl, Mem.trans0 hbs hM.nilL⟩
  ·
   have hz : chk i = 0 := by have h9 := hc3; omega
   have hk2 : i.kind = 2 := by have h9 := hc3; omega
   have hn8 : i.n ≤ 8 := by have h9 := hc3; omega
   have hF := chk_inF hz
   have hlx0 := inF_len hF
   have hl1 := hlx0.1
   have hl2 := hlx0.2.1
   have hn1 := hF.n1
   have hsmi := smallI_of hF
   obtain ⟨n, hnn⟩ : ∃ n : Nat, i.n = (n : Int) := ⟨i.n.toNat, by omega⟩
   have hnt : i.n.toNat = n := by omega
   have f7 := hF.cost
   rw [if_neg (by omega), hnt] at f7
   have hrw := hF.row
   rw [hnt] at hrw
   have hcm := cost_mat hF (show i.kind ≠ 1 by omega)
   rw [hnt] at hcm
   refine Ends.skip (Ends.seq (Ends.region ?_))
   refine S.val hA (R.loadA sz25 rfl (hM.range (k := 0) rfl) rfl) rfl ?_; clear hA a; intro a hA
   refine S.call hA (R.callF Try.func36 rfl rfl rfl) rfl (icopy05 i ax3 cx3 ax4 cx4 ax5 cx5 hsmi _ (hx3.mem hM) (hx4.mem hM) (hx5.mem hM)) ?_; clear hA a
   rintro e w4 ⟨ak3, ck3, ak4, ck4, ak5, ck5, rsk, rfl, hYk, hn⟩
   replace hM : Mem _ _ [bundle (insL 3 22 i ak3 ck3 ak4 ck4 ak5 ck5 rsk), pt b1 #[.int .i64 i.kind, .int .i64 i.n, .int .i64 i.cap, .slice ax3 i.wt.length cx3, .slice ax4 i.vl.length cx4, .slice ax5 i.cost.length cx5] 25] _ := hM.call hn; clear hn
   refine ⟨.agg #[.int .i64 i.kind, .int .i64 i.n, .int .i64 i.cap, .slice ak3 i.wt.length ck3, .slice ak4 i.vl.length ck4, .slice ak5 rsk.length ck5], rfl, fun a hA => ?_⟩
   refine S.storeA (k := 1) hA hM sz25 rfl rfl rfl rfl rfl rfl ?_; clear hM
   intro w5 hM
   replace hM : Mem _ _ [bundle (insL 3 22 i ak3 ck3 ak4 ck4 ak5 ck5 rsk), pt b1 #[.int .i64 i.kind, .int .i64 i.n, .int .i64 i.cap, .slice ak3 i.wt.length ck3, .slice ak4 i.vl.length ck4, .slice ak5 rsk.length ck5] 25] _ := hM
   refine S.done ?_
   refine Ends.seq ?_
   obtain ⟨-, hk3, hk4, hk5⟩ := insR_of hM (k := 0) rfl hYk
   have hlck : rsk.length = i.cost.length := by rw [← hYk, List.length_map]
   replace hM := hM.drop 0
   rw [hlck] at hM
   rw [hlck] at hA
   replace hM : Mem _ _ [pt b1 #[.int .i64 i.kind, .int .i64 i.n, .int .i64 i.cap, .slice ak3 i.wt.length ck3, .slice ak4 i.vl.length ck4, .slice ak5 i.cost.length ck5] 25] _ := hM
   have hbx4 := hM.block (k := 0) rfl
   have hbs := hbs.trans (hM.below.mono hbs.size)
   have hx3 := hx3.mem hM
   have hx4 := hx4.mem hM
   have hx5 := hx5.mem hM
   have hy := hy.mem hM
   replace hM := Mem.start w5
   refine Ends.region ?_
   refine S.val hA (R.assign rfl) rfl ?_; clear hA a; intro a hA
   refine S.done ?_
   refine Ends.seq (Ends.seq (Ends.region ?_))
   refine S.val hA (R.assign rfl) rfl ?_; clear hA a; intro a hA
   refine S.done ?_
   refine Ends.block ?_
   refine Ends.loop (σ := Nat × Nat) (fun (z, f) (a : Act) (wv : World) => St 122 [(1, .int .i64 rank), (2, .slice ay x.length cy), (3, .pointer (some ⟨b1, 0, none⟩)), (7, .int .i64 ((f : Int))), (8, .int .i64 ((z : Int)))] a ∧ Mem w5 nof [] wv ∧ (2 ≤ z ∧ z ≤ n + 1) ∧ (f = fac (z - 1))) (fun (z, f) => n + 1 - z) ((2, 1)) ⟨hA.sub ((.cons rfl (.cons rfl (.cons rfl (.cons rfl (.cons rfl .nil)))))), hM, ⟨by decide, by omega⟩, rfl⟩ ?_
   clear hA hM a
   rintro ⟨z, f⟩ a w6 ⟨hA, hM, hz2, hff⟩ hNext
   refine Ends.seq (Ends.seq (Ends.region ?_))
   refine S.val hA (R.move rfl) rfl ?_; clear hA a; intro a hA
   refine S.val hA (R.fieldAddr (q := 1) fi25_1 rfl rfl rfl) rfl ?_; clear hA a; intro a hA
   refine S.val hA (R.load sz3 rfl (hM.cellB hbx4 rfl)) rfl ?_; clear hA a; intro a hA
   refine S.val hA (R.leq rfl rfl) rfl ?_; clear hA a; intro a hA
   refine S.done ?_
   refine Ends.ite hA rfl (fun hc5 => ?_) (fun hc5 => ?_)
   ·
    have hfk : (f : Int) * (z : Int) = ((f * z : Nat) : Int) := (Int.natCast_mul f z).symm
    have hfs : f * z = fac z := by
     obtain ⟨y, rfl⟩ : ∃ y, z = y + 1 := ⟨z - 1, by omega⟩
     rw [hff, Nat.add_sub_cancel, fac, Nat.mul_comm]
    have hfb : fac z ≤ fac 8 := fac_mono (by omega)
    have hf8 : fac 8 = 40320 := by decide
    rw [hfs] at hfk
    refine Ends.skip (Ends.seq (Ends.block (Ends.region ?_)))
    refine S.val hA (R.move rfl) rfl ?_; clear hA a; intro a hA
    refine S.val hA (R.move rfl) rfl ?_; clear hA a; intro a hA
    refine S.val hA (R.mulI rfl rfl (r := ((fac z : Nat) : Int)) (by first | omega | exact hfk) (by first | omega | exact hfk)) rfl ?_; clear hA a; intro a hA
    refine S.val hA (R.assign rfl) rfl ?_; clear hA a; intro a hA
    refine S.done ?_
    replace hA : St 122 [(1, _), (2, _), (3, _), (7, _), (8, _)] a := hA.sub ((.cons rfl (.cons rfl (.cons rfl (.cons rfl (.cons rfl .nil))))))
    refine Ends.inBlock (Ends.region ?_)
    refine S.val hA (R.move rfl) rfl ?_; clear hA a; intro a hA
    refine S.val hA (R.addI rfl rfl (r := ((z + 1 : Nat) : Int)) (by first | omega | exact hfk) (by first | omega | exact hfk)) rfl ?_; clear hA a; intro a hA
    refine S.val hA (R.assign rfl) rfl ?_; clear hA a; intro a hA
    refine S.done ?_
    exact hNext ((z + 1, fac z)) _ _ ((by show n + 1 - (z + 1) < n + 1 - z; omega)) ⟨hA.sub ((.cons rfl (.cons rfl (.cons rfl (.cons rfl (.cons rfl .nil)))))), hM, ⟨by omega, by omega⟩, (by rw [Nat.add_sub_cancel])⟩
   ·
    have hze : z = n + 1 := by omega
    have hfn : f = fac n := by rw [hff, hze, Nat.add_sub_cancel]
    have hfb : fac n ≤ fac 8 := fac_mono (by omega)
    have hf8 : fac 8 = 40320 := by decide
    have hfp := fac_pos n
    refine Ends.exit rfl ?_
    replace hA : St 122 [(1, _), (2, _), (3, _), (7, _)] a := hA.sub ((.cons rfl (.cons rfl (.cons rfl (.cons rfl .nil)))))
    refine Ends.seq ?_
    refine Ends.drawn (Mem w5 nof []) (.cons (0, true) (.cons (1, true) (.cons (2, true) (.cons (3, true) (.cons (4, true) (.cons (5, true) (.cons (6, true) (.cons (7, true) (.cons (8, false) (.cons (9, true) (.cons (10, true) (.cons (11, true) (.cons (12, true) (.cons (13, true) .nil)))))))))))))) 14 mixed (by kernel_rfl) (by kernel_rfl) (by kernel_rfl) hM.drew ?_
    replace hM := hM.drew
    refine D.valF hA rfl (fun _ => R.fieldAddr (q := 1) fi25_1 rfl rfl rfl) rfl ?_; clear hA a; intro a hA
    refine D.val hA rfl (by kernel_rfl) (fun _ hM => R.load sz3 rfl (hM.cellB hbx4 rfl)) rfl ?_; clear hA a; intro a hA
    refine D.valF hA rfl (fun _ => R.move rfl) rfl ?_; clear hA a; intro a hA
    refine D.valF hA rfl (fun _ => R.conv Try.underlying45 Try.underlying3 rfl) rfl ?_; clear hA a; intro a hA
    refine D.valF hA rfl (fun _ => R.move rfl) rfl ?_; clear hA a; intro a hA
    refine D.valF hA rfl (fun _ => R.to (v := .int .u64 (f : Int)) (R.conv Try.underlying45 Try.underlying3 rfl) (congrArg (Value.int .u64) (by rw [IntKind.wrap_u64]; omega))) rfl ?_; clear hA a; intro a hA
    refine D.valF hA rfl (fun _ => R.remI rfl rfl (r := IntKind.u64.wrap rank % (f : Int)) rfl ⟨u64_nn _, by omega⟩) rfl ?_; clear hA a; intro a hA
    obtain ⟨r, hr8, en⟩ := umod_ex rank (f : Int) (by omega)
    have hrf : r < fac n := by omega
    refine D.valF hA rfl (fun _ => R.to (v := .int .i64 (r : Int)) (R.conv Try.underlying3 Try.underlying45 rfl) (congrArg (Value.int .i64) en)) rfl ?_; clear hA a; intro a hA
    refine D.call hA rfl (R.callF Try.func37 rfl rfl rfl) rfl (nth_kur i.n n r hnn (by omega) hrf _) ?_; clear hA a
    rintro e w7 ⟨P, pa, pc, hPo, hPl, rfl, hli, hlf, hb⟩
    replace hM : Mem _ _ [rd pa pc P] _ := hM.callRd hb hli hlf; clear hb
    refine ⟨.tuple #[.slice pa P.length pc, .int .i64 0], rfl, (hM.drop 0), fun a hA => ?_⟩
    refine D.valF hA rfl (fun _ => R.move rfl) rfl ?_; clear hA a; intro a hA
    refine D.valF hA rfl (fun _ => R.extract (v := .slice pa P.length pc) rfl rfl) rfl ?_; clear hA a; intro a hA
    refine D.valF hA rfl (fun _ => R.extract (v := .int .i64 0) rfl rfl) rfl ?_; clear hA a; intro a hA
    refine D.valF hA rfl (fun _ => R.assign rfl) rfl ?_; clear hA a; intro a hA
    refine D.valF hA rfl (fun _ => R.assign rfl) rfl ?_; clear hA a; intro a hA
    refine D.done ?_
    have hpr := hM.rd (k := 0) rfl
    replace hM := hM.drop 0
    replace hM : Mem _ _ [] _ := hM
    have hbs := hbs.trans (hM.below.mono hbs.size)
    have hx3 := hx3.mem hM
    have hx4 := hx4.mem hM
    have hx5 := hx5.mem hM
    have hy := hy.mem hM
    have hk3 := hk3.mem hM
    have hk4 := hk4.mem hM
    have hk5 := hk5.mem hM
    have hbx4 := hM.keepB hbx4
    replace hM := Mem.start w7
    replace hA : St 122 [(2, _), (3, _), (9, _), (10, _)] a := hA.sub ((.cons rfl (.cons rfl (.cons rfl (.cons rfl .nil)))))
    refine Ends.seq (Ends.seq (Ends.region ?_))
    refine S.val hA (R.move rfl) rfl ?_; clear hA a; intro a hA
    refine S.val hA (R.ff (R.neq rfl rfl) (by decide)) rfl ?_; clear hA a; intro a hA
    refine S.done ?_
    refine Ends.condF hA rfl ?_
    refine Ends.skip (Ends.seq (Ends.region ?_))
    refine S.buildSl0 hA hM Try.underlying22 info3 rfl ?_; clear hA hM a; intro b6 w8 hb7 hM a hA
    replace hM := hM.ownPt (cap := 0) (n := 0) (sz := 1) (xs := []) rfl (Nat.zero_le _) (Nat.le_refl _) rfl
    replace hM : Mem _ _ [own 3 1 (.slice ((some ⟨b6, 0, none⟩)) 0 0) 0 ((([] : List Int)).map (Value.int .i64))] _ := hM
    refine S.val hA (R.move rfl) rfl ?_; clear hA a; intro a hA
    refine S.val hA (R.move rfl) rfl ?_; clear hA a; intro a hA
    refine S.val hA (R.lenS Try.underlying22 rfl rfl) rfl ?_; clear hA a; intro a hA
    refine S.val hA (R.min rfl rfl) rfl ?_; clear hA a; intro a hA
    have hsl8 := hy.cutR ((min ((x.length : Int)) 20).toNat) (by first | omega | exact hfk)
    refine S.val hA (R.sliceHI (h := (min ((x.length : Int)) 20).toNat) hy Try.underlying22 info3 rfl rfl (by first | omega | exact hfk) (by first | omega | exact hfk)) rfl ?_; clear hA a; intro a hA
    refine S.appendI (k := 0) hA hM rfl (hsl8.mem hM) Try.underlying22 info3 rfl rfl rfl rfl rfl rfl (by first | (rw [take_min20, List.length_take]; unfold maxLen; omega) | (rw [take_min20, List.length_take]; show (0 + _) * 8 ≤ (140737488355328 : Nat); omega) | omega | (unfold maxLen; omega) | (show (0 + _) * 8 ≤ (140737488355328 : Nat); omega)) (by first | (rw [take_min20, List.length_take]; unfold maxLen; omega) | (rw [take_min20, List.length_take]; show (0 + _) * 8 ≤ (140737488355328 : Nat); omega) | omega | (unfold maxLen; omega) | (show (0 + _) * 8 ≤ (140737488355328 : Nat); omega)) rfl ?_; clear hA hM a; intro a9 c10 w9 hM a hA
    have hl11 : 0 + ((x.take ((min ((x.length : Int)) 20).toNat))).length = (((x.take ((min ((x.length : Int)) 20).toNat)))).length := by first | (simp; done) | simp only [List.length_append]
    rw [hl11, show (([] : List Int)).map (Value.int .i64) ++ ((x.take ((min ((x.length : Int)) 20).toNat))).map (Value.int .i64) = (((x.take ((min ((x.length : Int)) 20).toNat)))).map (Value.int .i64) by simp] at hM; rw [hl11] at hA; clear hl11
    replace hM : Mem _ _ [own 3 1 (.slice a9 ((((x.take ((min ((x.length : Int)) 20).toNat)))).length) c10) ((((x.take ((min ((x.length : Int)) 20).toNat)))).length) ((((x.take ((min ((x.length : Int)) 20).toNat)))).map (Value.int .i64))] _ := hM
    refine S.val hA (R.assign rfl) rfl ?_; clear hA a; intro a hA
    refine S.done ?_
    obtain ⟨Y, hY⟩ : ∃ Y, Y = x.take 20 := ⟨_, rfl⟩
    rw [take_min20, ← hY] at hM hA
    have hxr := hM.rsl (k := 0) (X := Y) rfl
    replace hM := hM.drop 0
    replace hM : Mem _ _ [] _ := hM
    have hbs := hbs.trans (hM.below.mono hbs.size)
    have hx3 := hx3.mem hM
    have hx4 := hx4.mem hM
    have hx5 := hx5.mem hM
    have hy := hy.mem hM
    have hk3 := hk3.mem hM
    have hk4 := hk4.mem hM
    have hk5 := hk5.mem hM
    have hpr := hpr.mem hM
    have hsl8 := hsl8.mem hM
    have hbx4 := hM.keepB hbx4
    replace hM := Mem.start w9
    have hcl := (by rw [hY, List.length_take]; omega : Y.length ≤ 20)
    replace hA : St 122 [(2, _), (3, _), (9, _)] a := hA.sub ((.cons rfl (.cons rfl (.cons rfl .nil))))
    refine Ends.seq (Ends.region ?_)
    refine S.val hA (R.loadA sz25 rfl (hM.oldRange hbx4) rfl) rfl ?_; clear hA a; intro a hA
    refine S.val hA (R.move rfl) rfl ?_; clear hA a; intro a hA
    refine S.call hA (R.callF Try.func17 rfl rfl rfl) rfl (cost08 i ak3 ck3 ak4 ck4 ak5 ck5 a9 Y c10 ⟨by omega, by omega⟩ _ (hk3.mem hM) (hk4.mem hM) (hk5.mem hM) (hxr.mem hM)) ?_; clear hA a
    rintro e w10 ⟨rfl, hb⟩
    replace hM := hM.callB hb; clear hb
    refine ⟨.tuple #[.int .i64 ((costI i Y).1), .int .i64 ((costI i Y).2)], rfl, fun a hA => ?_⟩
    refine S.val hA (R.move rfl) rfl ?_; clear hA a; intro a hA
    refine S.val hA (R.extract (v := .int .i64 ((costI i Y).1)) rfl rfl) rfl ?_; clear hA a; intro a hA
    refine S.val hA (R.extract (v := .int .i64 ((costI i Y).2)) rfl rfl) rfl ?_; clear hA a; intro a hA
    refine S.val hA (R.assign rfl) rfl ?_; clear hA a; intro a hA
    refine S.val hA (R.assign rfl) rfl ?_; clear hA a; intro a hA
    refine S.done ?_
    replace hA : St 122 [(2, _), (3, _), (9, _), (11, _), (12, _)] a := hA.sub ((.cons rfl (.cons rfl (.cons rfl (.cons rfl (.cons rfl .nil))))))
    refine Ends.seq (Ends.seq (Ends.region ?_))
    refine S.val hA (R.move rfl) rfl ?_; clear hA a; intro a hA
    refine S.val hA (R.neq rfl rfl) rfl ?_; clear hA a; intro a hA
    refine S.done ?_
    refine Ends.ite hA rfl (fun hc12 => ?_) (fun hc12 => ?_)
    ·
     refine Ends.seq (Ends.region ?_)
     refine S.val hA (R.assign rfl) rfl ?_; clear hA a; intro a hA
     refine S.done ?_
     refine Ends.ret1 Try.func11 Try.results11 hA rfl ?_
     exact ⟨rfl, Mem.trans0 hbs hM.nilL⟩
    ·
     have hz0 : (costI i Y).2 = 0 := Decidable.not_not.1 hc12
     have ho := cost_ord hz0 (by omega)
     have hyp := ho.1
     rw [hnt] at hyp
     have hYl : Y.length = n := hyp.1
     have hYo := ok_of_perm (by omega) hyp
     refine Ends.skip (Ends.seq (Ends.region ?_))
     refine S.val hA (R.move rfl) rfl ?_; clear hA a; intro a hA
     refine S.val hA (R.move rfl) rfl ?_; clear hA a; intro a hA
     refine S.call hA (R.callF Try.func38 rfl rfl rfl) rfl (then_kur a9 Y c10 pa P pc hYo hPo (by omega) (by omega) _ (hxr.mem hM) (hpr.mem hM)) ?_; clear hA a
     rintro e w11 ⟨T, ta, tc, hTl, hTe, rfl, htr, hb⟩
     replace hM := hM.callB hb; clear hb
     have hbs := hbs.trans (hM.below.mono hbs.size)
     have hx3 := hx3.mem hM
     have hx4 := hx4.mem hM
     have hx5 := hx5.mem hM
     have hy := hy.mem hM
     have hk3 := hk3.mem hM
     have hk4 := hk4.mem hM
     have hk5 := hk5.mem hM
     have hpr := hpr.mem hM
     have hsl8 := hsl8.mem hM
     have hxr := hxr.mem hM
     have hbx4 := hM.keepB hbx4
     replace hM := Mem.start w11
     refine ⟨.tuple #[.slice ta T.length tc, .int .i64 0], rfl, fun a hA => ?_⟩
     refine S.val hA (R.move rfl) rfl ?_; clear hA a; intro a hA
     refine S.val hA (R.extract (v := .slice ta T.length tc) rfl rfl) rfl ?_; clear hA a; intro a hA
     refine S.val hA (R.extract (v := .int .i64 0) rfl rfl) rfl ?_; clear hA a; intro a hA
     refine S.val hA (R.assign rfl) rfl ?_; clear hA a; intro a hA
     refine S.val hA (R.assign rfl) rfl ?_; clear hA a; intro a hA
     refine S.done ?_
     replace hA : St 122 [(3, _), (9, _), (11, _), (13, _), (14, _)] a := hA.sub ((.cons rfl (.cons rfl (.cons rfl (.cons rfl (.cons rfl .nil))))))
     refine Ends.seq (Ends.region ?_)
     refine S.val hA (R.loadA sz25 rfl (hM.oldRange hbx4) rfl) rfl ?_; clear hA a; intro a hA
     refine S.call hA (R.callF Try.func36 rfl rfl rfl) rfl (icopy05 i ak3 ck3 ak4 ck4 ak5 ck5 hsmi _ (hk3.mem hM) (hk4.mem hM) (hk5.mem hM)) ?_; clear hA a
     rintro e w12 ⟨az3, cz3, az4, cz4, az5, cz5, rsz, rfl, hYz, hn⟩
     replace hM : Mem _ _ [bundle (insL 3 22 i az3 cz3 az4 cz4 az5 cz5 rsz)] _ := hM.call hn; clear hn
     refine ⟨.agg #[.int .i64 i.kind, .int .i64 i.n, .int .i64 i.cap, .slice az3 i.wt.length cz3, .slice az4 i.vl.length cz4, .slice az5 rsz.length cz5], rfl, fun a hA => ?_⟩
     refine S.alloc hA hM info25 rfl rfl ?_; clear hA hM a; intro b13 w13 hb14 hM a hA
     replace hM : Mem _ _ [pt b13 #[.int .i64 0, .int .i64 0, .int .i64 0, .slice none 0 0, .slice none 0 0, .slice none 0 0] 25, bundle (insL 3 22 i az3 cz3 az4 cz4 az5 cz5 rsz)] _ := hM
     refine S.storeA (k := 0) hA hM sz25 rfl rfl rfl rfl rfl rfl ?_; clear hM
     intro w14 hM
     replace hM : Mem _ _ [pt b13 #[.int .i64 i.kind, .int .i64 i.n, .int .i64 i.cap, .slice az3 i.wt.length cz3, .slice az4 i.vl.length cz4, .slice az5 rsz.length cz5] 25, bundle (insL 3 22 i az3 cz3 az4 cz4 az5 cz5 rsz)] _ := hM
     refine S.done ?_
     refine Ends.seq (Ends.seq (Ends.region ?_))
     refine S.val hA (R.assign rfl) rfl ?_; clear hA a; intro a hA
     refine S.done ?_
     refine Ends.block ?_
     replace hM := hM.front (k := 1) rfl
     replace hM := hM.unpack
     replace hM : Mem _ _ [own 3 1 (.slice az3 i.wt.length cz3) i.wt.length (i.wt.map (Value.int .i64)), own 3 1 (.slice az4 i.vl.length cz4) i.vl.length (i.vl.map (Value.int .i64)), own 22 1 (.slice az5 rsz.length cz5) rsz.length ((rsz.map orV)), bundle (rsz.map (orC 3)), pt b13 #[.int .i64 i.kind, .int .i64 i.n, .int .i64 i.cap, .slice az3 i.wt.length cz3, .slice az4 i.vl.length cz4, .slice az5 rsz.length cz5] 25] _ := hM
     replace hM := hM.front (k := 4) rfl
     replace hM : Mem _ _ [pt b13 #[.int .i64 i.kind, .int .i64 i.n, .int .i64 i.cap, .slice az3 i.wt.length cz3, .slice az4 i.vl.length cz4, .slice az5 rsz.length cz5] 25, own 3 1 (.slice az3 i.wt.length cz3) i.wt.length (i.wt.map (Value.int .i64)), own 3 1 (.slice az4 i.vl.length cz4) i.vl.length (i.vl.map (Value.int .i64)), own 22 1 (.slice az5 rsz.length cz5) rsz.length ((rsz.map orV)), bundle (rsz.map (orC 3))] _ := hM
     have hrl0 : rsz.length = n := by rw [← f7, ← hYz, List.length_map]
     have hrs0 : rsz.map (·.Y) = mat n (rowG i P 0) := by rw [hYz, hcm]; exact rowG_zero
     obtain ⟨gb, hgb_⟩ := hM.ownAt (k := 3) rfl (by omega)
     subst hgb_
     replace hM : Mem _ _ [pt b13 #[.int .i64 i.kind, .int .i64 i.n, .int .i64 i.cap, .slice az3 i.wt.length cz3, .slice az4 i.vl.length cz4, .slice ((some ⟨gb, 0, none⟩)) rsz.length cz5] 25, own 3 1 (.slice az3 i.wt.length cz3) i.wt.length (i.wt.map (Value.int .i64)), own 3 1 (.slice az4 i.vl.length cz4) i.vl.length (i.vl.map (Value.int .i64)), own 22 1 (.slice ((some ⟨gb, 0, none⟩)) rsz.length cz5) rsz.length ((rsz.map orV)), bundle (rsz.map (orC 3))] _ := hM
     replace hM := hM.front (k := 4) rfl
     replace hM := hM.front (k := 4) rfl
     replace hM := hM.front (k := 4) rfl
     replace hM := hM.front (k := 4) rfl
     replace hM := hM.front (k := 4) rfl
     replace hM : Mem _ _ [pt b13 #[.int .i64 i.kind, .int .i64 i.n, .int .i64 i.cap, .slice az3 i.wt.length cz3, .slice az4 i.vl.length cz4, .slice ((some ⟨gb, 0, none⟩)) rsz.length cz5] 25, own 3 1 (.slice az3 i.wt.length cz3) i.wt.length (i.wt.map (Value.int .i64)), own 3 1 (.slice az4 i.vl.length cz4) i.vl.length (i.vl.map (Value.int .i64)), own 22 1 (.slice ((some ⟨gb, 0, none⟩)) rsz.length cz5) rsz.length ((rsz.map orV)), bundle (rsz.map (orC 3))] _ := hM
     refine Ends.loop (σ := Nat × List OwR) (fun (k, rs) (a : Act) (wv : World) => St 122 [(3, .pointer (some ⟨b1, 0, none⟩)), (9, .slice pa P.length pc), (11, .int .i64 ((costI i Y).1)), (13, .slice ta T.length tc), (14, .int .i64 0), (15, .pointer (some ⟨b13, 0, none⟩)), (16, .int .i64 ((k : Int)))] a ∧ Mem w11 nof [pt b13 #[.int .i64 i.kind, .int .i64 i.n, .int .i64 i.cap, .slice az3 i.wt.length cz3, .slice az4 i.vl.length cz4, .slice ((some ⟨gb, 0, none⟩)) rs.length cz5] 25, own 3 1 (.slice az3 i.wt.length cz3) i.wt.length (i.wt.map (Value.int .i64)), own 3 1 (.slice az4 i.vl.length cz4) i.vl.length (i.vl.map (Value.int .i64)), own 22 1 (.slice ((some ⟨gb, 0, none⟩)) rs.length cz5) rs.length ((rs.map orV)), bundle (rs.map (orC 3))] wv ∧ (k ≤ n) ∧ (rs.map (·.Y) = mat n (rowG i P k))) (fun (k, rs) => n - k) ((0, rsz)) ⟨hA.sub ((.cons rfl (.cons rfl (.cons rfl (.cons rfl (.cons rfl (.cons rfl (.cons rfl .nil)))))))), hM, (Nat.zero_le _), hrs0⟩ ?_
     clear hA hM a
     rintro ⟨k, rs⟩ a w15 ⟨hA, hM, hk, hYs⟩ hNext1
     refine Ends.seq (Ends.seq (Ends.region ?_))
     refine S.val hA (R.move rfl) rfl ?_; clear hA a; intro a hA
     refine S.val hA (R.fieldAddr (q := 1) fi25_1 rfl rfl rfl) rfl ?_; clear hA a; intro a hA
     refine S.val hA (R.load sz3 rfl (hM.cellB hbx4 rfl)) rfl ?_; clear hA a; intro a hA
     refine S.val hA (R.lss rfl rfl) rfl ?_; clear hA a; intro a hA
     refine S.done ?_
     refine Ends.ite hA rfl (fun hc15 => ?_) (fun hc15 => ?_)
     ·
      have hkn : k < n := by omega
      have hPk := ok_rng hPo (show k < P.length by omega)
      obtain ⟨q, hq⟩ : ∃ q : Nat, P.getD k 0 = (q : Int) := ⟨(P.getD k 0).toNat, by omega⟩
      have hqn : q < n := by omega
      have hrq := hrw q (by omega)
      refine Ends.skip (Ends.seq (Ends.block ?_))
      have hrsl := rows_len hYs
      obtain ⟨Yo, ao, co, hxo, hYo1, hYo2⟩ := row_of hYs hkn
      refine Ends.drawn (Mem w11 nof [pt b13 #[.int .i64 i.kind, .int .i64 i.n, .int .i64 i.cap, .slice az3 i.wt.length cz3, .slice az4 i.vl.length cz4, .slice ((some ⟨gb, 0, none⟩)) rs.length cz5] 25, own 3 1 (.slice az3 i.wt.length cz3) i.wt.length (i.wt.map (Value.int .i64)), own 3 1 (.slice az4 i.vl.length cz4) i.vl.length (i.vl.map (Value.int .i64)), own 22 1 (.slice ((some ⟨gb, 0, none⟩)) rs.length cz5) rs.length ((rs.map orV))]) (.cons (0, true) (.cons (1, true) (.cons (2, true) (.cons (4, true) (.cons (5, true) (.cons (6, true) (.cons (7, true) (.cons (8, true) (.cons (9, true) (.cons (10, true) (.cons (11, true) (.cons (3, false) (.cons (12, false) (.cons (13, true) (.cons (14, false) .nil))))))))))))))) 14 mixed (by kernel_rfl) (by kernel_rfl) (by kernel_rfl) (hM.drop 4).drew ?_
      replace hM := hM.drew
      refine D.valF hA rfl (fun _ => R.fieldAddr (q := 5) fi25_5 rfl rfl rfl) rfl ?_; clear hA a; intro a hA
      refine D.val hA rfl (by kernel_rfl) (fun _ hM => R.load sz23 rfl (hM.cell (k := 0) rfl rfl)) rfl ?_; clear hA a; intro a hA
      refine D.valF hA rfl (fun _ => R.move rfl) rfl ?_; clear hA a; intro a hA
      refine D.valF hA rfl (fun _ => R.fieldAddr (q := 5) fi25_5 rfl rfl rfl) rfl ?_; clear hA a; intro a hA
      refine D.val hA rfl (by kernel_rfl) (fun _ hM => R.load sz23 rfl (hM.cellB hbx4 rfl)) rfl ?_; clear hA a; intro a hA
      refine D.valF hA rfl (fun _ => R.move rfl) rfl ?_; clear hA a; intro a hA
      refine D.valF hA rfl (fun _ => R.move rfl) rfl ?_; clear hA a; intro a hA
      refine D.valF hA rfl (fun _ => R.idxI hpr (j := k) sl22 rfl rfl (by first | omega | exact hfk) (rfl)) rfl ?_; clear hA a; intro a hA
      refine D.val hA rfl (by kernel_rfl) (fun _ hM => R.to (v := .int .i64 (q : Int)) (R.loadI (hpr.mem hM) sz3 rfl (by omega)) (congrArg (Value.int .i64) hq)) rfl ?_; clear hA a; intro a hA
      refine D.valF hA rfl (fun _ => R.idxR hk5 (j := q) sl23 rfl rfl (by first | omega | exact hfk) (rfl)) rfl ?_; clear hA a; intro a hA
      obtain ⟨ra16, rc17, hrow18, hld19⟩ := hk5.atP (i := q) (by first | omega | exact hfk)
      refine D.val hA rfl (by kernel_rfl) (fun _ hM => hld19 _ _ _ _ _ _ hM sz22 rfl) rfl ?_; clear hA a; intro a hA
      refine D.buildSl0 hA hM rfl Try.underlying22 info3 rfl ?_; clear hA hM a; intro b20 w16 hb21 hM; refine ⟨(fun hM => (hM.drop 4)) hM.tail, fun a hA => ?_⟩
      replace hM := hM.ownPt (cap := 0) (n := 0) (sz := 1) (xs := []) rfl (Nat.zero_le _) (Nat.le_refl _) rfl
      replace hM : Mem _ _ [own 3 1 (.slice ((some ⟨b20, 0, none⟩)) 0 0) 0 ((([] : List Int)).map (Value.int .i64)), pt b13 #[.int .i64 i.kind, .int .i64 i.n, .int .i64 i.cap, .slice az3 i.wt.length cz3, .slice az4 i.vl.length cz4, .slice ((some ⟨gb, 0, none⟩)) rs.length cz5] 25, own 3 1 (.slice az3 i.wt.length cz3) i.wt.length (i.wt.map (Value.int .i64)), own 3 1 (.slice az4 i.vl.length cz4) i.vl.length (i.vl.map (Value.int .i64)), own 22 1 (.slice ((some ⟨gb, 0, none⟩)) rs.length cz5) rs.length ((rs.map orV)), bundle (rs.map (orC 3))] _ := hM
      refine D.appendI (k := 0) hA hM rfl rfl (hrow18.mem hM) (by omega) Try.underlying22 info3 rfl rfl rfl rfl rfl rfl (by first | (rw [take_min20, List.length_take]; unfold maxLen; omega) | (rw [take_min20, List.length_take]; show (0 + _) * 8 ≤ (140737488355328 : Nat); omega) | omega | (unfold maxLen; omega) | (show (0 + _) * 8 ≤ (140737488355328 : Nat); omega)) (by first | (rw [take_min20, List.length_take]; unfold maxLen; omega) | (rw [take_min20, List.length_take]; show (0 + _) * 8 ≤ (140737488355328 : Nat); omega) | omega | (unfold maxLen; omega) | (show (0 + _) * 8 ≤ (140737488355328 : Nat); omega)) rfl ?_; clear hA hM a; intro a22 c23 w17 hM
      have hl24 : 0 + ((i.cost.getD q [])).length = (((i.cost.getD q []))).length := by first | (simp; done) | simp only [List.length_append]
      rw [hl24, show (([] : List Int)).map (Value.int .i64) ++ ((i.cost.getD q [])).map (Value.int .i64) = (((i.cost.getD q []))).map (Value.int .i64) by simp] at hM
      replace hM : Mem _ _ [own 3 1 (.slice a22 ((((i.cost.getD q []))).length) c23) ((((i.cost.getD q []))).length) ((((i.cost.getD q []))).map (Value.int .i64)), pt b13 #[.int .i64 i.kind, .int .i64 i.n, .int .i64 i.cap, .slice az3 i.wt.length cz3, .slice az4 i.vl.length cz4, .slice ((some ⟨gb, 0, none⟩)) rs.length cz5] 25, own 3 1 (.slice az3 i.wt.length cz3) i.wt.length (i.wt.map (Value.int .i64)), own 3 1 (.slice az4 i.vl.length cz4) i.vl.length (i.vl.map (Value.int .i64)), own 22 1 (.slice ((some ⟨gb, 0, none⟩)) rs.length cz5) rs.length ((rs.map orV)), bundle (rs.map (orC 3))] _ := hM
      refine ⟨((hM.drop 5).drop 0), fun a hA => ?_⟩; rw [hl24] at hA; clear hl24
      refine D.valF hA rfl (fun _ => R.indexAddr (q := k) sl23 rfl rfl (by first | omega | exact hfk) (by first | omega | exact hfk)) rfl ?_; clear hA a; intro a hA
      refine D.storeO (k := 4) hA hM rfl sz22 rfl rfl rfl rfl (orV_of hxo) ?_; clear hM; intro w18 hM
      refine ⟨fun _ hne => absurd rfl hne, ?_⟩
      replace hM : Mem _ _ [own 3 1 (.slice a22 ((((i.cost.getD q []))).length) c23) ((((i.cost.getD q []))).length) ((((i.cost.getD q []))).map (Value.int .i64)), pt b13 #[.int .i64 i.kind, .int .i64 i.n, .int .i64 i.cap, .slice az3 i.wt.length cz3, .slice az4 i.vl.length cz4, .slice ((some ⟨gb, 0, none⟩)) rs.length cz5] 25, own 3 1 (.slice az3 i.wt.length cz3) i.wt.length (i.wt.map (Value.int .i64)), own 3 1 (.slice az4 i.vl.length cz4) i.vl.length (i.vl.map (Value.int .i64)), own 22 1 (.slice ((some ⟨gb, 0, none⟩)) rs.length cz5) rs.length (((rs.map orV).set k (.slice a22 ((((i.cost.getD q []))).length) c23))), bundle (rs.map (orC 3))] _ := hM
      refine D.done ?_
      replace hM := hM.front (k := 5) rfl
      replace hM := (hM.openB hxo).drop 0
      replace hM : Mem _ _ [bundle ((rs.eraseIdx k).map (orC 3)), own 3 1 (.slice a22 ((((i.cost.getD q []))).length) c23) ((((i.cost.getD q []))).length) ((((i.cost.getD q []))).map (Value.int .i64)), pt b13 #[.int .i64 i.kind, .int .i64 i.n, .int .i64 i.cap, .slice az3 i.wt.length cz3, .slice az4 i.vl.length cz4, .slice ((some ⟨gb, 0, none⟩)) rs.length cz5] 25, own 3 1 (.slice az3 i.wt.length cz3) i.wt.length (i.wt.map (Value.int .i64)), own 3 1 (.slice az4 i.vl.length cz4) i.vl.length (i.vl.map (Value.int .i64)), own 22 1 (.slice ((some ⟨gb, 0, none⟩)) rs.length cz5) rs.length (((rs.map orV).set k (.slice a22 ((((i.cost.getD q []))).length) c23)))] _ := hM
      replace hM := hM.front (k := 1) rfl
      replace hM := Mem.closeB (f := orC 3) (y := (⟨((i.cost.getD q [])), a22, c23⟩ : OwR)) hM hxo
      rw [show (rs.map orV).set k (.slice a22 ((((i.cost.getD q []))).length) c23) = (rs.set k (⟨((i.cost.getD q [])), a22, c23⟩ : OwR)).map orV by rw [List.map_set]; rfl, show rs.length = (rs.set k (⟨((i.cost.getD q [])), a22, c23⟩ : OwR)).length from List.length_set.symm] at hM
      replace hM : Mem _ _ [bundle ((rs.set k (⟨((i.cost.getD q [])), a22, c23⟩ : OwR)).map (orC 3)), pt b13 #[.int .i64 i.kind, .int .i64 i.n, .int .i64 i.cap, .slice az3 i.wt.length cz3, .slice az4 i.vl.length cz4, .slice ((some ⟨gb, 0, none⟩)) ((rs.set k (⟨((i.cost.getD q [])), a22, c23⟩ : OwR)).length) cz5] 25, own 3 1 (.slice az3 i.wt.length cz3) i.wt.length (i.wt.map (Value.int .i64)), own 3 1 (.slice az4 i.vl.length cz4) i.vl.length (i.vl.map (Value.int .i64)), own 22 1 (.slice ((some ⟨gb, 0, none⟩)) ((rs.set k (⟨((i.cost.getD q [])), a22, c23⟩ : OwR)).length) cz5) ((rs.set k (⟨((i.cost.getD q [])), a22, c23⟩ : OwR)).length) (((rs.set k (⟨((i.cost.getD q [])), a22, c23⟩ : OwR)).map orV))] _ := hM
      have hY3 : (rs.set k (⟨((i.cost.getD q [])), a22, c23⟩ : OwR)).map (·.Y) = mat n (rowG i P (k + 1)) := by
       refine (rows_setRow (h := fun c => cel i q c) hYs ?_).trans (rowG_step hq)
       show ((i.cost.getD q [])) = _
       rw [hcm]; exact mat_row hqn
      replace hA : St 122 [(3, _), (9, _), (11, _), (13, _), (14, _), (15, _), (16, _)] a := hA.sub ((.cons rfl (.cons rfl (.cons rfl (.cons rfl (.cons rfl (.cons rfl (.cons rfl .nil))))))))
      refine Ends.inBlock (Ends.region ?_)
      refine S.val hA (R.move rfl) rfl ?_; clear hA a; intro a hA
      refine S.val hA (R.addI rfl rfl (r := ((k : Int)) + 1) rfl (by first | omega | exact hfk)) rfl ?_; clear hA a; intro a hA
      refine S.val hA (R.assign rfl) rfl ?_; clear hA a; intro a hA
      refine S.done ?_
      replace hM := hM.front (k := 4) rfl
      replace hM := hM.front (k := 4) rfl
      replace hM := hM.front (k := 4) rfl
      replace hM := hM.front (k := 4) rfl
      replace hM : Mem _ _ [pt b13 #[.int .i64 i.kind, .int .i64 i.n, .int .i64 i.cap, .slice az3 i.wt.length cz3, .slice az4 i.vl.length cz4, .slice ((some ⟨gb, 0, none⟩)) ((rs.set k (⟨((i.cost.getD q [])), a22, c23⟩ : OwR)).length) cz5] 25, own 3 1 (.slice az3 i.wt.length cz3) i.wt.length (i.wt.map (Value.int .i64)), own 3 1 (.slice az4 i.vl.length cz4) i.vl.length (i.vl.map (Value.int .i64)), own 22 1 (.slice ((some ⟨gb, 0, none⟩)) ((rs.set k (⟨((i.cost.getD q [])), a22, c23⟩ : OwR)).length) cz5) ((rs.set k (⟨((i.cost.getD q [])), a22, c23⟩ : OwR)).length) (((rs.set k (⟨((i.cost.getD q [])), a22, c23⟩ : OwR)).map orV)), bundle ((rs.set k (⟨((i.cost.getD q [])), a22, c23⟩ : OwR)).map (orC 3))] _ := hM
      exact hNext1 ((k + 1, (rs.set k (⟨((i.cost.getD q [])), a22, c23⟩ : OwR)))) _ _ ((by show n - (k + 1) < n - k; omega)) ⟨hA.sub ((.cons rfl (.cons rfl (.cons rfl (.cons rfl (.cons rfl (.cons rfl (.cons rfl .nil)))))))), hM, (by omega), hY3⟩
     ·
      have hke : k = n := by omega
      refine Ends.exit rfl ?_
      replace hA : St 122 [(11, _), (13, _), (14, _), (15, _)] a := hA.sub ((.cons rfl (.cons rfl (.cons rfl (.cons rfl .nil)))))
      refine Ends.seq ?_
      replace hM := hM.front (k := 4) rfl
      replace hM := hM.front (k := 4) rfl
      replace hM := hM.front (k := 4) rfl
      replace hM := hM.front (k := 4) rfl
      replace hM := hM.front (k := 4) rfl
      replace hM : Mem _ _ [pt b13 #[.int .i64 i.kind, .int .i64 i.n, .int .i64 i.cap, .slice az3 i.wt.length cz3, .slice az4 i.vl.length cz4, .slice ((some ⟨gb, 0, none⟩)) rs.length cz5] 25, own 3 1 (.slice az3 i.wt.length cz3) i.wt.length (i.wt.map (Value.int .i64)), own 3 1 (.slice az4 i.vl.length cz4) i.vl.length (i.vl.map (Value.int .i64)), own 22 1 (.slice ((some ⟨gb, 0, none⟩)) rs.length cz5) rs.length ((rs.map orV)), bundle (rs.map (orC 3))] _ := hM
      rw [hke] at hYs
      have hYm : rs.map (·.Y) = (rowI i P).cost := by rw [hYs, rowG_all]; unfold rowI; rw [hnt]
      have hlct : rs.length = (rowI i P).cost.length := by rw [← hYm, List.length_map]
      have hlaw := row_law hk2 hz0 hPo (by omega) hTl hTe
      replace hM := hM.front (k := 4) rfl
      replace hM := hM.front (k := 4) rfl
      replace hM := hM.front (k := 4) rfl
      replace hM := hM.front (k := 4) rfl
      replace hM := Mem.pack (cs := insL 3 22 (rowI i P) az3 cz3 az4 cz4 (some ⟨gb, 0, none⟩) cz5 rs) (L := [pt b13 #[.int .i64 i.kind, .int .i64 i.n, .int .i64 i.cap, .slice az3 i.wt.length cz3, .slice az4 i.vl.length cz4, .slice ((some ⟨gb, 0, none⟩)) rs.length cz5] 25]) hM
      obtain ⟨-, hz3, hz4, hz5⟩ := insR_of hM (k := 0) rfl hYm
      replace hM := hM.drop 0
      rw [hlct] at hM
      replace hM : Mem _ _ [pt b13 #[.int .i64 ((rowI i P).kind), .int .i64 ((rowI i P).n), .int .i64 ((rowI i P).cap), .slice az3 (((rowI i P).wt).length) cz3, .slice az4 (((rowI i P).vl).length) cz4, .slice ((some ⟨gb, 0, none⟩)) (((rowI i P).cost).length) cz5] 25] _ := hM
      have hr1 : (rowI i P).wt.length ≤ 64 := hl1
      have hr2 : (rowI i P).vl.length ≤ 64 := hl2
      obtain ⟨J, hJ⟩ : ∃ J, rowI i P = J := ⟨_, rfl⟩
      rw [hJ] at hM hz3 hz4 hz5 hlaw hr1 hr2
      replace hM : Mem _ _ [pt b13 #[.int .i64 J.kind, .int .i64 J.n, .int .i64 J.cap, .slice az3 J.wt.length cz3, .slice az4 J.vl.length cz4, .slice ((some ⟨gb, 0, none⟩)) J.cost.length cz5] 25] _ := hM
      have hbx25 := hM.block (k := 0) rfl
      have hbs := hbs.trans (hM.below.mono hbs.size)
      have hx3 := hx3.mem hM
      have hx4 := hx4.mem hM
      have hx5 := hx5.mem hM
      have hy := hy.mem hM
      have hk3 := hk3.mem hM
      have hk4 := hk4.mem hM
      have hk5 := hk5.mem hM
      have hpr := hpr.mem hM
      have hsl8 := hsl8.mem hM
      have hxr := hxr.mem hM
      have htr := htr.mem hM
      have hbx4 := hM.keepB hbx4
      replace hM := Mem.start w15
      refine Ends.region ?_
      refine S.val hA (R.loadA sz25 rfl (hM.oldRange hbx25) rfl) rfl ?_; clear hA a; intro a hA
      refine S.val hA (R.move rfl) rfl ?_; clear hA a; intro a hA
      refine S.call hA (R.callF Try.func17 rfl rfl rfl) rfl (cost08 J az3 cz3 az4 cz4 ((some ⟨gb, 0, none⟩)) cz5 ta T tc ⟨by omega, by omega⟩ _ (hz3.mem hM) (hz4.mem hM) (hz5.mem hM) (htr.mem hM)) ?_; clear hA a
      rintro e w19 ⟨rfl, hb⟩
      replace hM := hM.callB hb; clear hb
      refine ⟨.tuple #[.int .i64 ((costI J T).1), .int .i64 ((costI J T).2)], rfl, fun a hA => ?_⟩
      refine S.val hA (R.move rfl) rfl ?_; clear hA a; intro a hA
      refine S.val hA (R.extract (v := .int .i64 ((costI J T).1)) rfl rfl) rfl ?_; clear hA a; intro a hA
      refine S.val hA (R.extract (v := .int .i64 ((costI J T).2)) rfl rfl) rfl ?_; clear hA a; intro a hA
      refine S.val hA (R.assign rfl) rfl ?_; clear hA a; intro a hA
      refine S.val hA (R.assign rfl) rfl ?_; clear hA a; intro a hA
      refine S.done ?_
      replace hA : St 122 [(11, _), (14, _), (17, _), (18, _)] a := hA.sub ((.cons rfl (.cons rfl (.cons rfl (.cons rfl .nil)))))
      refine Ends.seq (Ends.region ?_)
      refine S.val hA (R.move rfl) rfl ?_; clear hA a; intro a hA
      refine S.val hA (R.tt (R.eql rfl rfl) (rfl)) rfl ?_; clear hA a; intro a hA
      refine S.val hA (R.move rfl) rfl ?_; clear hA a; intro a hA
      refine S.valg (dj := 113) hA (by kernel_rfl) rfl (R.move rfl) rfl ?_; clear hA a; intro a hA
      refine S.valg (dj := 113) hA (by kernel_rfl) rfl (R.tt (R.eql rfl rfl) (by rw [hlaw])) rfl ?_; clear hA a; intro a hA
      refine S.val hA (R.pickT rfl rfl) rfl ?_; clear hA a; intro a hA
      refine S.val hA (R.move rfl) rfl ?_; clear hA a; intro a hA
      refine S.valg (dj := 117) hA (by kernel_rfl) rfl (R.move rfl) rfl ?_; clear hA a; intro a hA
      refine S.valg (dj := 117) hA (by kernel_rfl) rfl (R.move rfl) rfl ?_; clear hA a; intro a hA
      refine S.valg (dj := 117) hA (by kernel_rfl) rfl (R.tt (R.eql rfl rfl) (by rw [hlaw])) rfl ?_; clear hA a; intro a hA
      refine S.val hA (R.pickT rfl rfl) rfl ?_; clear hA a; intro a hA
      refine S.val hA (R.assign rfl) rfl ?_; clear hA a; intro a hA
      refine S.done ?_
      replace hA : St 122 [(6, _)] a := hA.sub ((.cons rfl .nil))
      refine Ends.ret1 Try.func11 Try.results11 hA rfl ?_
      exact ⟨rfl, Mem.trans0 hbs hM.nilL⟩
 ·
  refine Ends.region ?_
  refine S.call hA (R.callF Try.func34 rfl rfl rfl) rfl (stands_any _) ?_; clear hA a
  rintro e w20 ⟨rfl, rfl⟩
  refine ⟨.bool true, rfl, fun a hA => ?_⟩
  refine S.val hA (R.not rfl) rfl ?_; clear hA a; intro a hA
  refine S.val hA (R.move rfl) rfl ?_; clear hA a; intro a hA
  refine S.valg (dj := 21) hA (by kernel_rfl) rfl (R.loadA sz25 rfl (hM.range (k := 0) rfl) rfl) rfl ?_; clear hA a; intro a hA
  refine S.callg (dj := 21) hA (by kernel_rfl) rfl (R.callF Try.func35 rfl rfl rfl) rfl (checkL5 i ax3 cx3 ax4 cx4 ax5 cx5 hbg _ (hx3.mem hM) (hx4.mem hM) (hx5.mem hM)) ?_; clear hA a
  rintro e w21 ⟨rfl, hb⟩
  replace hM := hM.callB hb; clear hb
  refine ⟨.int .i64 (chk i), rfl, fun a hA => ?_⟩
  refine S.valg (dj := 21) hA (by kernel_rfl) rfl (R.neq rfl rfl) rfl ?_; clear hA a; intro a hA
  refine S.val hA (R.pickF rfl rfl) rfl ?_; clear hA a; intro a hA
  refine S.val hA (R.move rfl) rfl ?_; clear hA a; intro a hA
  refine hA.split (d := 26) rfl ?_ ?_
  ·
   clear hA; intro hg26 hA
   refine S.no (dj := 26) hA (by kernel_rfl) rfl rfl rfl ?_; clear hA a; intro a hA
   refine S.no (dj := 26) hA (by kernel_rfl) rfl rfl rfl ?_; clear hA a; intro a hA
   refine S.no (dj := 26) hA (by kernel_rfl) rfl rfl rfl ?_; clear hA a; intro a hA
   refine S.val hA (R.pickT rfl rfl) rfl ?_; clear hA a; intro a hA
   refine S.val hA (R.move rfl) rfl ?_; clear hA a; intro a hA
   refine S.no (dj := 31) hA (by kernel_rfl) rfl rfl rfl ?_; clear hA a; intro a hA
   refine S.no (dj := 31) hA (by kernel_rfl) rfl rfl rfl ?_; clear hA a; intro a hA
   refine S.no (dj := 31) hA (by kernel_rfl) rfl rfl rfl ?_; clear hA a; intro a hA
   refine S.val hA (R.pickT rfl rfl) rfl ?_; clear hA a; intro a hA
   refine S.done ?_
   replace hA : St 122 [(1, _), (2, _), (3, _), (35, _)] a := hA.sub ((.cons rfl (.cons rfl (.cons rfl (.cons rfl .nil)))))
   exact hJ _ _ ⟨hA.sub (.cons rfl (.cons rfl (.cons rfl (.cons (by first | rfl | exact congrArg (fun b => some (Value.bool b)) (by first | exact decide_eq_decide.2 (by omega) | exact or_bool (by omega) | exact and_bool (by omega) | (simp; done) | (simp [hg26]; done) | (have h80 := hg26; (try simp at h80); simp [h80]; done) | exact (decide_eq_false (fun h9 => hg26 h9.1)).symm)) .nil)))), hM⟩
  ·
   clear hA; intro hg26 hA
   refine S.valg (dj := 26) hA (by kernel_rfl) rfl (R.fieldAddr (q := 0) fi25_0 rfl rfl rfl) rfl ?_; clear hA a; intro a hA
   refine S.valg (dj := 26) hA (by kernel_rfl) rfl (R.load sz3 rfl (hM.cell (k := 0) rfl rfl)) rfl ?_; clear hA a; intro a hA
   refine S.valg (dj := 26) hA (by kernel_rfl) rfl (R.neq rfl rfl) rfl ?_; clear hA a; intro a hA
   refine S.val hA (R.pickF rfl rfl) rfl ?_; clear hA a; intro a hA
   refine S.val hA (R.move rfl) rfl ?_; clear hA a; intro a hA
   refine hA.split (d := 31) rfl ?_ ?_
   ·
    clear hA; intro hg27 hA
    refine S.no (dj := 31) hA (by kernel_rfl) rfl rfl rfl ?_; clear hA a; intro a hA
    refine S.no (dj := 31) hA (by kernel_rfl) rfl rfl rfl ?_; clear hA a; intro a hA
    refine S.no (dj := 31) hA (by kernel_rfl) rfl rfl rfl ?_; clear hA a; intro a hA
    refine S.val hA (R.pickT rfl rfl) rfl ?_; clear hA a; intro a hA
    refine S.done ?_
    replace hA : St 122 [(1, _), (2, _), (3, _), (35, _)] a := hA.sub ((.cons rfl (.cons rfl (.cons rfl (.cons rfl .nil)))))
    exact hJ _ _ ⟨hA.sub (.cons rfl (.cons rfl (.cons rfl (.cons (by first | rfl | exact congrArg (fun b => some (Value.bool b)) (by first | exact decide_eq_decide.2 (by omega) | exact or_bool (by omega) | exact and_bool (by omega) | (simp; done) | (simp [hg26, hg27]; done) | (have h80 := hg26; (try simp at h80); have h81 := hg27; (try simp at h81); simp [h80, h81]; done) | exact (decide_eq_false (fun h9 => hg26 h9.1)).symm | exact (decide_eq_false (fun h9 => hg27 h9.1)).symm)) .nil)))), hM⟩
   ·
    clear hA; intro hg27 hA
    refine S.valg (dj := 31) hA (by kernel_rfl) rfl (R.fieldAddr (q := 1) fi25_1 rfl rfl rfl) rfl ?_; clear hA a; intro a hA
    refine S.valg (dj := 31) hA (by kernel_rfl) rfl (R.load sz3 rfl (hM.cell (k := 0) rfl rfl)) rfl ?_; clear hA a; intro a hA
    refine S.valg (dj := 31) hA (by kernel_rfl) rfl (R.gtr rfl rfl) rfl ?_; clear hA a; intro a hA
    refine S.val hA (R.pickF rfl rfl) rfl ?_; clear hA a; intro a hA
    refine S.done ?_
    replace hA : St 122 [(1, _), (2, _), (3, _), (35, _)] a := hA.sub ((.cons rfl (.cons rfl (.cons rfl (.cons rfl .nil)))))
    exact hJ _ _ ⟨hA.sub (.cons rfl (.cons rfl (.cons rfl (.cons (by first | rfl | exact congrArg (fun b => some (Value.bool b)) (by first | exact decide_eq_decide.2 (by omega) | exact or_bool (by omega) | exact and_bool (by omega) | (simp; done) | (simp [hg26, hg27]; done) | (have h80 := hg26; (try simp at h80); have h81 := hg27; (try simp at h81); simp [h80, h81]; done) | exact (decide_eq_false (fun h9 => hg26 h9.1)).symm | exact (decide_eq_false (fun h9 => hg27 h9.1)).symm)) .nil)))), hM⟩
theorem kurganRows_any (v : Value) (i : Ins) (rank : Int) (v2 : Value) (x : List Int) (w : World) (h1 : InsV w v i) (_h2 : wfI i) (h3 : i.wt.length ≤ 17592186044416 ∧ i.vl.length ≤ 17592186044416) (_h4 : (Lit.int .i64 rank).wf = true) (h5 : IntSl w v2 x) (_h6 : ∀ y ∈ x, (Lit.int .i64 y).wf = true) :
    Calls Try.prog 11 #[v, .int .i64 rank, v2] w fun e w' => e = .returned (.bool true) ∧ Below w.heap.size w w' := by
  obtain ⟨aw, cw, av, cv, ac, cc, rfl, g3, g4, g5⟩ := h1.parts
  obtain ⟨ay, cy, rfl⟩ := h5.form
  exact kurganRows_w i aw cw av cv ac cc h3 rank ay x cy w g3 g4 g5 h5
end Go.Proofs.Ytnikajkklocncaa
namespace Go.Proofs.Ytnikajkklocncaa
open Go.RowKit Go.WideShapes Go.ChangeShapes
section
variable {H : Type} {enc : TypeId × Value → H} {P : Program} {w : World} {base : Nat} {spare : Nat → Bool} {held : Bool}
theorem open_sli {r : Reach} {b0 : Nat} {t e : TypeId} {v : Value} {d : DataW H} {p : List MemPlace} (ht : P.underlying t = some (.slice e)) (he : P.underlying e = some (.int .i64)) (hce : P.cellsOf e = 1)
    (hv : Value.okWide P w r b0 t v) (h : DataW.Trod enc P w 0 (fun _ => true) held t v d p) :
    ∃ l : List Int, IntSl w v l ∧ ∀ x ∈ l, (Lit.int .i64 x).wf = true := by
  obtain ⟨a, len, cap, rfl⟩ := okWide_slice ht hv
  obtain ⟨fuel, hf⟩ := h
  rcases open_ints ht he hce hf with ⟨hcs, _⟩ | ⟨x, l, c, zs, hcs, _, hl, hm, hz, _, hcell, hwz⟩
  · simp [Value.cells] at hcs
    obtain ⟨rfl, rfl, rfl⟩ := hcs
    exact ⟨[], ⟨none, 0, rfl, Nat.le_refl _, Nat.zero_le _, fun _ => rfl, fun h => (h rfl).elim⟩, fun x hx => by cases hx⟩
  · simp [Value.cells] at hcs
    obtain ⟨rfl, rfl, rfl⟩ := hcs
    simp only [if_true] at hz
    refine ⟨zs.take len, ⟨some x, cap, by rw [List.length_take, Nat.min_eq_left (by omega)], by rw [List.length_take]; omega, hm, (fun h => nomatch h), fun hne => ?_⟩, fun y hy => hwz y (List.mem_of_mem_take hy)⟩
    have h0 : 0 < zs.length ∧ 0 < len := by
      rcases Nat.eq_zero_or_pos len with e | e
      · subst e; simp at hne
      · exact ⟨by omega, e⟩
    obtain ⟨b, off, spot⟩ := x
    have hs : spot = none := by
      have h1 := hcell 0 h0.1
      unfold Addr.add at h1
      simp only [if_true] at h1
      cases spot with
      | none => rfl
      | some s =>
        unfold World.cell? at h1
        split at h1 <;> simp at h1
    subst hs
    refine ⟨b, off, rfl, ?_, fun i hi => ?_⟩
    · have h1 := hcell 0 h0.1
      exact World.block_lt_of_cell? w _ h1
    · rw [List.length_take] at hi
      have h1 := hcell i (by omega)
      rw [Addr.add_lit] at h1
      rw [h1]
      congr 2
      simp only [List.getD_eq_getElem?_getD, List.getElem?_take]
      rw [if_pos (by omega)]
end
end Go.Proofs.Ytnikajkklocncaa
