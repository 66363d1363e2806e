/-
  KurganStarts, part 2 of 3: what the code computes, and plain laws; no condition beside those that each theorem tells.
-/
import Derived.Test.YtnikajkklocncaaKurganStartsA
import Derived.ChangeKeysEq
import Derived.Shelf.Bits.Mul64
import Derived.Shelf.Slices.Reverse
import Derived.Ground.Names2Prog
import Derived.Shelf.Slices.Clone
import Derived.Shelf.Slices.Delete
import Derived.Shelf.Slices.Cells
import Derived.Shelf.Slices.Empties
import Derived.Test.YtnikajkklocncaaProg
import Derived.Test.YtnikajkklocncaaRows
import Derived.Deep.RegionHeld
import Derived.Deep.DeepCutAuto
import Derived.Laws.StructEq
import Derived.KernelRfl
import Derived.Laws.Externs
import Derived.Deep.DrawnRows
import Derived.Deep.RegionWith
namespace Go.Proofs.Ytnikajkklocncaa
open Go.RowKit
theorem Mem.eqM {w0 w : World} {F : Nat → Prop} {L L2 : List Ck} (h : Mem w0 F L w) (he : L = L2) : Mem w0 F L2 w := he ▸ h
theorem lo_nil (x : List Int) : loW (memF (x.take 0)) = 0 := by unfold loW; rw [wdB_none (fun b _ => by simp [memF])]; rfl
theorem hi_nil (x : List Int) : hiW (memF (x.take 0)) = 0 := by unfold hiW; rw [wdB_none (f := fun b => memF (x.take 0) (64 + b)) (fun b _ => by simp [memF])]; rfl
theorem full_w {n : Nat} (h : n < 64) : IntKind.u64.wrap (IntKind.u64.wrap (1 * 2 ^ min n IntKind.u64.bits) - 1) = loW (lessF n) := by
  rw [u64_pow h, full_lo h, IntKind.wrap_u64]
  have h2 : 2 ^ n < 2 ^ 64 := Nat.pow_lt_pow_right (by decide) h
  have h3 : 0 < 2 ^ n := Nat.pow_pos (by decide)
  generalize 2 ^ n = p at h2 h3
  omega
theorem eq_set (a b c d : Int) (w : World) : (Op.equalIn 10000 63 (.agg #[.int .u64 a, .int .u64 b]) (.agg #[.int .u64 c, .int .u64 d])).run Try.prog w = .ok (decide (a = c ∧ b = d)) w := by
  have u3 := Try.underlying45
  have q3 := Try.isAgg45
  have z3 := Try.sizeOf45
  rw [show (10000 : Nat) = 9999 + 1 from rfl, run_equalIn_array (P := Try.prog) w 9999 _ _ Try.underlying63 info45]
  rw [show List.range 2 = [0, 1] from rfl, show Try.prog.cellsOf 45 = 1 by kernel_rfl]
  simp only [Op.eqItems]
  by_cases h1 : a = c
  · by_cases h2 : b = d
    · subst h1; subst h2; go_simp
    · subst h1; go_simp
  · go_simp
def costI (i : Ins) (x : List Int) : Int × Int := if chk i ≠ 0 then (0, chk i) else if i.kind = 1 then knpI i x else if ¬ ordP i x then (0, 1) else (sumF (stp i x) i.n.toNat, 0)
def ofI (i : Ins) (c : Int) : Int := if i.kind = 1 then i.vl.sum - c else c
def valI (i : Ins) (x : List Int) : Int × Int := if (costI i x).2 ≠ 0 then (0, (costI i x).2) else (ofI i (costI i x).1, 0)
def plnI (i : Ins) : List Int := if chk i ≠ 0 then [] else if i.kind = 1 then List.replicate i.n.toNat 0 else (List.range i.n.toNat).map Int.ofNat
def totI (i : Ins) : Int := if chk i ≠ 0 then 0 else i.vl.sum + sumF (mxR i) i.cost.length
theorem inF_len {i : Ins} (h : InF i) : i.wt.length ≤ 64 ∧ i.vl.length ≤ 64 ∧ i.cost.length ≤ 64 := by
  have h1 := h.wt
  have h2 := h.vl
  have h3 := h.cost
  have h4 := h.n64
  refine ⟨?_, ?_, ?_⟩
  · rw [h1]; split <;> omega
  · rw [h2]; split <;> omega
  · rw [h3]; split <;> omega
theorem vl_sum {i : Ins} (h : InF i) : 0 ≤ i.vl.sum ∧ i.vl.sum ≤ 64 * 2147483647 := by
  rw [← sumF_list]
  have h1 := sumF_bd (f := fun q => i.vl.getD q 0) (B := 2147483647) (by decide) (k := i.vl.length) (fun q _ => h.vlr q)
  have := (inF_len h).2.1
  omega
theorem wtF_bd {i : Ins} (h : InF i) (x : List Int) (k : Nat) (hk : k ≤ 64) : 0 ≤ sumF (wtF i x) k ∧ sumF (wtF i x) k ≤ 64 * 2147483647 := by
  have h1 := sumF_bd (f := wtF i x) (B := 2147483647) (by decide) (k := k) (fun q _ => by unfold wtF; have := h.wtr q; split <;> omega)
  omega
theorem vlF_bd {i : Ins} (h : InF i) (x : List Int) (k : Nat) (hk : k ≤ 64) : 0 ≤ sumF (vlF i x) k ∧ sumF (vlF i x) k ≤ 64 * 2147483647 := by
  have h1 := sumF_bd (f := vlF i x) (B := 2147483647) (by decide) (k := k) (fun q _ => by unfold vlF; have := h.vlr q; split <;> omega)
  omega
theorem cl2_bd {i : Ins} (h : InF i) (r c : Int) : 0 ≤ cl2 i r c ∧ cl2 i r c ≤ 2147483647 := h.cell _ _
theorem stp_bd {i : Ins} (h : InF i) (x : List Int) (k : Nat) (hk : k ≤ 64) : 0 ≤ sumF (stp i x) k ∧ sumF (stp i x) k ≤ 64 * 2147483647 := by
  have h1 := sumF_bd (f := stp i x) (B := 2147483647) (by decide) (k := k) (fun q _ => by unfold stp; split <;> exact cl2_bd h _ _)
  omega
theorem knp_bd {i : Ins} (h : InF i) (x : List Int) : 0 ≤ (knpI i x).1 ∧ (knpI i x).1 ≤ 64 * 2147483647 := by
  have h1 := h.n64
  unfold knpI
  split
  · simp
  · split
    · simp
    · split
      · simp
      · exact vlF_bd h x _ (by omega)
theorem cost_bd (i : Ins) (x : List Int) : 0 ≤ (costI i x).1 ∧ (costI i x).1 ≤ 64 * 2147483647 := by
  unfold costI
  split
  · simp
  · rename_i h
    have hF := chk_inF (Decidable.not_not.1 h)
    have h1 := hF.n64
    split
    · exact knp_bd hF x
    · split
      · simp
      · exact stp_bd hF x _ (by omega)
theorem mxR_bd {i : Ins} (h : InF i) (r : Nat) : 0 ≤ mxR i r ∧ mxR i r ≤ 2147483647 := mxF_bd (by decide) (fun q _ => (h.cell r q).2)
theorem mxS_bd {i : Ins} (h : InF i) (k : Nat) (hk : k ≤ 64) : 0 ≤ sumF (mxR i) k ∧ sumF (mxR i) k ≤ 64 * 2147483647 := by
  have h1 := sumF_bd (f := mxR i) (B := 2147483647) (by decide) (k := k) (fun q _ => mxR_bd h q)
  omega
theorem take_all {X : List Int} {k : Nat} (h : k = X.length) : X.take k = X := by subst h; exact List.take_length
set_option maxRecDepth 100000 in
set_option maxHeartbeats 400000 in
theorem within02 (i : Int) (w : World) :
  Calls Try.prog 75 #[.int .i64 i] w fun e w' => e = .returned (.bool (decide (0 ≤ i ∧ i < 128))) ∧ Below w.heap.size w w' := by
 have hbs := Below.refl (B := w.heap.size) w
 have hM := Mem.start w
 refine Calls.of_ends (vs := [.int .i64 i]) Try.func75 rfl Try.ntmps75 rfl ?_
 intro a hA
 replace hA : St 9 [(0, _)] a := hA
 refine Ends.seq (Ends.region ?_)
 refine S.val hA (R.assign rfl) rfl ?_; clear hA a; intro a hA
 refine S.done ?_
 refine Ends.seq ?_
 refine Ends.cut (fun (a : Act) (wv : World) => St 9 [(2, .bool (decide ((0 ≤ i ∧ i < 128))))] a ∧ Mem w nof [] wv) ?_ (fun k2 hJ => ?_)
 ·
  clear hA hM a; rintro a w1 ⟨hA, hM⟩
  refine Ends.ret1 Try.func75 Try.results75 hA rfl ?_
  exact ⟨congrArg (fun b => Ending.returned (.bool b)) (decide_eq_decide.2 (by omega)), Mem.trans0 hbs hM.nilL⟩
 ·
  refine Ends.region ?_
  refine S.val hA (R.move rfl) rfl ?_; clear hA a; intro a hA
  refine S.val hA (R.geq rfl rfl) rfl ?_; clear hA a; intro a hA
  refine S.val hA (R.move rfl) rfl ?_; clear hA a; intro a hA
  refine hA.split (d := 5) rfl ?_ ?_
  ·
   clear hA; intro hg1 hA
   refine S.valg (dj := 5) hA (by kernel_rfl) rfl (R.move rfl) rfl ?_; clear hA a; intro a hA
   refine S.valg (dj := 5) hA (by kernel_rfl) rfl (R.lss rfl rfl) rfl ?_; clear hA a; intro a hA
   refine S.val hA (R.pickT rfl rfl) rfl ?_; clear hA a; intro a hA
   refine S.val hA (R.assign rfl) rfl ?_; clear hA a; intro a hA
   refine S.done ?_
   replace hA : St 9 [(2, _)] a := hA.sub ((.cons rfl .nil))
   exact hJ _ _ ⟨hA.sub (.cons (by first | rfl | exact congrArg (fun b => some (Value.bool b)) (by first | exact decide_eq_decide.2 (by omega) | exact or_bool (by omega) | exact and_bool (by omega) | (simp; done) | (simp [hg1]; done) | (have h80 := hg1; (try simp at h80); simp [h80]; done) | exact (decide_eq_false (fun h9 => hg1 h9.1)).symm)) .nil), hM⟩
  ·
   clear hA; intro hg1 hA
   refine S.no (dj := 5) hA (by kernel_rfl) rfl rfl rfl ?_; clear hA a; intro a hA
   refine S.no (dj := 5) hA (by kernel_rfl) rfl rfl rfl ?_; clear hA a; intro a hA
   refine S.val hA (R.pickF rfl rfl) rfl ?_; clear hA a; intro a hA
   refine S.val hA (R.assign rfl) rfl ?_; clear hA a; intro a hA
   refine S.done ?_
   replace hA : St 9 [(2, _)] a := hA.sub ((.cons rfl .nil))
   exact hJ _ _ ⟨hA.sub (.cons (by first | rfl | exact congrArg (fun b => some (Value.bool b)) (by first | exact decide_eq_decide.2 (by omega) | exact or_bool (by omega) | exact and_bool (by omega) | (simp; done) | (simp [hg1]; done) | (have h80 := hg1; (try simp at h80); simp [h80]; done) | exact (decide_eq_false (fun h9 => hg1 h9.1)).symm)) .nil), hM⟩
set_option maxRecDepth 100000 in
set_option maxHeartbeats 400000 in
theorem with02 (f : Nat → Bool) (i : Int) (w : World) :
  Calls Try.prog 70 #[.agg #[.int .u64 (loW f), .int .u64 (hiW f)], .int .i64 i] w fun e w' => e = .returned (.agg #[.int .u64 (loW (adF1 f i)), .int .u64 (hiW (adF1 f i))]) ∧ Below w.heap.size w w' := by
 have hbs := Below.refl (B := w.heap.size) w
 have hM := Mem.start w
 refine Calls.of_ends (vs := [.agg #[.int .u64 (loW f), .int .u64 (hiW f)], .int .i64 i]) Try.func70 rfl Try.ntmps70 rfl ?_
 intro a hA
 replace hA : St 17 [(0, _), (1, _)] a := hA
 refine Ends.seq (Ends.region ?_)
 refine S.box hA hM rfl rfl ?_; clear hA hM a; intro b1 w1 hb2 hM a hA
 replace hM : Mem _ _ [pt b1 #[.int .u64 (loW f), .int .u64 (hiW f)] 63] _ := hM
 refine S.alloc hA hM info63 rfl rfl ?_; clear hA hM a; intro b3 w2 hb4 hM a hA
 replace hM : Mem _ _ [pt b3 #[.int .u64 0, .int .u64 0] 63, pt b1 #[.int .u64 (loW f), .int .u64 (hiW f)] 63] _ := hM
 refine S.done ?_
 refine Ends.seq (Ends.seq (Ends.region ?_))
 refine S.val hA (R.move rfl) rfl ?_; clear hA a; intro a hA
 refine S.call hA (R.callF Try.func75 rfl rfl rfl) rfl (within02 i _) ?_; clear hA a
 rintro e w3 ⟨rfl, hb⟩
 replace hM := hM.callB hb; clear hb
 refine ⟨.bool (decide (0 ≤ i ∧ i < 128)), rfl, fun a hA => ?_⟩
 refine S.done ?_
 refine Ends.ite hA rfl (fun hc5 => ?_) (fun hc5 => ?_)
 ·
  have hin := hc5
  by_cases hs6 : i < 64
  ·
   obtain ⟨m, hm, hmi⟩ : ∃ m : Nat, m < 64 ∧ i = (m : Int) := ⟨i.toNat, by omega, by omega⟩
   have e9 : (i % 64).toNat = m := by omega
   refine Ends.drawn (Mem w nof [pt b3 #[.int .u64 0, .int .u64 0] 63, pt b1 #[.int .u64 (loW f), .int .u64 (hiW f)] 63]) (.cons (0, true) (.cons (1, true) (.cons (2, true) (.cons (3, true) (.cons (4, true) (.cons (5, true) (.cons (6, true) (.cons (7, true) (.cons (8, true) (.cons (9, false) .nil)))))))))) 9 mixed (by kernel_rfl) (by kernel_rfl) (by kernel_rfl) hM.drew ?_
   replace hM := hM.drew
   refine D.valF hA rfl (fun _ => R.move rfl) rfl ?_; clear hA a; intro a hA
   refine D.valF hA rfl (fun _ => R.quoI rfl rfl rfl (by omega)) rfl ?_; clear hA a; intro a hA
   refine D.valF hA rfl (fun _ => R.indexAddrA (q := 0) ar63 rfl rfl (by omega) (by omega)) rfl ?_; clear hA a; intro a hA
   refine D.val hA rfl (by kernel_rfl) (fun _ hM => R.load sz45 rfl (hM.cell (k := 1) rfl rfl)) rfl ?_; clear hA a; intro a hA
   refine D.valF hA rfl (fun _ => R.move rfl) rfl ?_; clear hA a; intro a hA
   refine D.valF hA rfl (fun _ => R.remI rfl rfl rfl (by omega)) rfl ?_; clear hA a; intro a hA
   refine D.valF hA rfl (fun _ => R.shl rfl rfl (by omega)) rfl ?_; clear hA a; intro a hA
   refine D.valF hA rfl (fun _ => R.bits (by simp) rfl rfl) rfl ?_; clear hA a; intro a hA
   refine D.valF hA rfl (fun _ => R.indexAddrA (q := 0) ar63 rfl rfl (by omega) (by omega)) rfl ?_; clear hA a; intro a hA
   refine D.store (k := 1) hA hM rfl sz45 rfl rfl rfl rfl rfl ?_; clear hM
   intro w4 hM; refine ⟨fun _ hne => absurd rfl hne, ?_⟩
   replace hM : Mem _ _ [pt b3 #[.int .u64 0, .int .u64 0] 63, pt b1 #[.int .u64 (bits .or .u64 (loW f) (IntKind.u64.wrap (1 * 2 ^ min (i % 64).toNat (IntKind.u64).bits))), .int .u64 (hiW f)] 63] _ := hM
   refine D.done ?_
   obtain ⟨g1, g2⟩ := add_lo (f := f) hm
   rw [← hmi] at g1 g2
   rw [e9, g1, ← g2] at hM
   replace hM : Mem _ _ [pt b3 #[.int .u64 0, .int .u64 0] 63, pt b1 #[.int .u64 (loW (adF1 f i)), .int .u64 (hiW (adF1 f i))] 63] _ := hM
   replace hA : St 17 [(2, _), (4, _)] a := hA.sub ((.cons rfl (.cons rfl .nil)))
   refine Ends.seq (Ends.region ?_)
   refine S.val hA (R.loadA sz63 rfl (hM.range (k := 1) rfl) rfl) rfl ?_; clear hA a; intro a hA
   refine S.storeA (k := 0) hA hM sz63 rfl rfl rfl rfl rfl rfl ?_; clear hM
   intro w5 hM
   replace hM : Mem _ _ [pt b3 #[.int .u64 (loW (adF1 f i)), .int .u64 (hiW (adF1 f i))] 63, pt b1 #[.int .u64 (loW (adF1 f i)), .int .u64 (hiW (adF1 f i))] 63] _ := hM
   refine S.done ?_
   refine Ends.retC (k := 0) Try.func70 Try.results70 hA hM rfl rfl sz63 rfl ?_
   exact ⟨rfl, Mem.trans0 hbs hM.nilL⟩
  ·
   obtain ⟨m, hm, hmi⟩ : ∃ m : Nat, m < 64 ∧ i = ((64 + m : Nat) : Int) := ⟨(i - 64).toNat, by omega, by omega⟩
   have e9 : (i % 64).toNat = m := by omega
   refine Ends.drawn (Mem w nof [pt b3 #[.int .u64 0, .int .u64 0] 63, pt b1 #[.int .u64 (loW f), .int .u64 (hiW f)] 63]) (.cons (0, true) (.cons (1, true) (.cons (2, true) (.cons (3, true) (.cons (4, true) (.cons (5, true) (.cons (6, true) (.cons (7, true) (.cons (8, true) (.cons (9, false) .nil)))))))))) 9 mixed (by kernel_rfl) (by kernel_rfl) (by kernel_rfl) hM.drew ?_
   replace hM := hM.drew
   refine D.valF hA rfl (fun _ => R.move rfl) rfl ?_; clear hA a; intro a hA
   refine D.valF hA rfl (fun _ => R.quoI rfl rfl rfl (by omega)) rfl ?_; clear hA a; intro a hA
   refine D.valF hA rfl (fun _ => R.indexAddrA (q := 1) ar63 rfl rfl (by omega) (by omega)) rfl ?_; clear hA a; intro a hA
   refine D.val hA rfl (by kernel_rfl) (fun _ hM => R.load sz45 rfl (hM.cell (k := 1) rfl rfl)) rfl ?_; clear hA a; intro a hA
   refine D.valF hA rfl (fun _ => R.move rfl) rfl ?_; clear hA a; intro a hA
   refine D.valF hA rfl (fun _ => R.remI rfl rfl rfl (by omega)) rfl ?_; clear hA a; intro a hA
   refine D.valF hA rfl (fun _ => R.shl rfl rfl (by omega)) rfl ?_; clear hA a; intro a hA
   refine D.valF hA rfl (fun _ => R.bits (by simp) rfl rfl) rfl ?_; clear hA a; intro a hA
   refine D.valF hA rfl (fun _ => R.indexAddrA (q := 1) ar63 rfl rfl (by omega) (by omega)) rfl ?_; clear hA a; intro a hA
   refine D.store (k := 1) hA hM rfl sz45 rfl rfl rfl rfl rfl ?_; clear hM
   intro w6 hM; refine ⟨fun _ hne => absurd rfl hne, ?_⟩
   replace hM : Mem _ _ [pt b3 #[.int .u64 0, .int .u64 0] 63, pt b1 #[.int .u64 (loW f), .int .u64 (bits .or .u64 (hiW f) (IntKind.u64.wrap (1 * 2 ^ min (i % 64).toNat (IntKind.u64).bits)))] 63] _ := hM
   refine D.done ?_
   obtain ⟨g1, g2⟩ := add_hi (f := f) hm
   rw [← hmi] at g1 g2
   rw [e9, g1, ← g2] at hM
   replace hM : Mem _ _ [pt b3 #[.int .u64 0, .int .u64 0] 63, pt b1 #[.int .u64 (loW (adF1 f i)), .int .u64 (hiW (adF1 f i))] 63] _ := hM
   replace hA : St 17 [(2, _), (4, _)] a := hA.sub ((.cons rfl (.cons rfl .nil)))
   refine Ends.seq (Ends.region ?_)
   refine S.val hA (R.loadA sz63 rfl (hM.range (k := 1) rfl) rfl) rfl ?_; clear hA a; intro a hA
   refine S.storeA (k := 0) hA hM sz63 rfl rfl rfl rfl rfl rfl ?_; clear hM
   intro w7 hM
   replace hM : Mem _ _ [pt b3 #[.int .u64 (loW (adF1 f i)), .int .u64 (hiW (adF1 f i))] 63, pt b1 #[.int .u64 (loW (adF1 f i)), .int .u64 (hiW (adF1 f i))] 63] _ := hM
   refine S.done ?_
   refine Ends.retC (k := 0) Try.func70 Try.results70 hA hM rfl rfl sz63 rfl ?_
   exact ⟨rfl, Mem.trans0 hbs hM.nilL⟩
 ·
  refine Ends.skip (Ends.seq (Ends.region ?_))
  refine S.val hA (R.loadA sz63 rfl (hM.range (k := 1) rfl) rfl) rfl ?_; clear hA a; intro a hA
  refine S.storeA (k := 0) hA hM sz63 rfl rfl rfl rfl rfl rfl ?_; clear hM
  intro w8 hM
  replace hM : Mem _ _ [pt b3 #[.int .u64 (loW f), .int .u64 (hiW f)] 63, pt b1 #[.int .u64 (loW f), .int .u64 (hiW f)] 63] _ := hM
  refine S.done ?_
  replace hA : St 17 [(4, _)] a := hA.sub ((.cons rfl .nil))
  refine Ends.retC (k := 0) Try.func70 Try.results70 hA hM rfl rfl sz63 rfl ?_
  obtain ⟨g1, g2⟩ := add_out (f := f) hc5
  exact ⟨by rw [g1, g2], Mem.trans0 hbs hM.nilL⟩
set_option maxRecDepth 100000 in
set_option maxHeartbeats 400000 in
theorem of02 (ay : Option Addr) (x : List Int) (cy : Nat) (w : World) (hy : IntSl w (.slice ay x.length cy) x) :
  Calls Try.prog 60 #[.slice ay x.length cy] w fun e w' => e = .returned (.agg #[.int .u64 (loW (memF x)), .int .u64 (hiW (memF x))]) ∧ Below w.heap.size w w' := by
 have hbs := Below.refl (B := w.heap.size) w
 have hlx := hy.lenB
 have hM := Mem.start w
 refine Calls.of_ends (vs := [.slice ay x.length cy]) Try.func60 rfl Try.ntmps60 rfl ?_
 intro a hA
 replace hA : St 17 [(0, _)] a := hA
 refine Ends.seq (Ends.region ?_)
 refine S.alloc hA hM info63 rfl rfl ?_; clear hA hM a; intro b1 w1 hb2 hM a hA
 replace hM : Mem _ _ [pt b1 #[.int .u64 0, .int .u64 0] 63] _ := hM
 refine S.done ?_
 refine Ends.seq (Ends.region ?_)
 refine S.alloc hA hM info63 rfl rfl ?_; clear hA hM a; intro b3 w2 hb4 hM a hA
 replace hM : Mem _ _ [pt b3 #[.int .u64 0, .int .u64 0] 63, pt b1 #[.int .u64 0, .int .u64 0] 63] _ := hM
 refine S.done ?_
 refine Ends.seq (Ends.seq (Ends.region ?_))
 refine S.val hA (R.move rfl) rfl ?_; clear hA a; intro a hA
 refine S.val hA (R.lenS Try.underlying22 rfl rfl) rfl ?_; clear hA a; intro a hA
 refine S.val hA (R.move rfl) rfl ?_; clear hA a; intro a hA
 refine S.done ?_
 refine Ends.block ?_
 replace hM := Mem.eqM (L2 := [pt b3 #[.int .u64 (loW (memF (x.take 0))), .int .u64 (hiW (memF (x.take 0)))] 63, pt b1 #[.int .u64 0, .int .u64 0] 63]) hM (by rw [lo_nil, hi_nil])
 refine Ends.loop (σ := Nat) (fun k (a : Act) (wv : World) => St 17 [(2, .pointer (some ⟨b1, 0, none⟩)), (3, .pointer (some ⟨b3, 0, none⟩)), (6, .slice ay x.length cy), (7, .int .i64 ((x.length : Int))), (8, .int .i64 ((k : Int)))] a ∧ Mem w nof [pt b3 #[.int .u64 (loW (memF (x.take k))), .int .u64 (hiW (memF (x.take k)))] 63, pt b1 #[.int .u64 0, .int .u64 0] 63] wv ∧ (k ≤ x.length)) (fun k => x.length - k) 0 ⟨hA.sub ((.cons rfl (.cons rfl (.cons rfl (.cons rfl (.cons rfl .nil)))))), hM, (Nat.zero_le _)⟩ ?_
 clear hA hM a
 rintro k a w3 ⟨hA, hM, hk⟩ hNext
 refine Ends.seq (Ends.region ?_)
 refine S.val hA (R.lss rfl rfl) rfl ?_; clear hA a; intro a hA
 refine S.done ?_
 refine Ends.seq ?_
 refine Ends.ite hA rfl (fun hc5 => ?_) (fun hc5 => ?_)
 ·
  refine Ends.skip (Ends.seq (Ends.block (Ends.seq (Ends.region ?_))))
  refine S.val hA (R.idxI hy (j := k) sl22 rfl rfl (by omega) (rfl)) rfl ?_; clear hA a; intro a hA
  refine S.val hA (R.loadI (hy.mem hM) sz3 rfl (by omega)) rfl ?_; clear hA a; intro a hA
  refine S.val hA (R.assign rfl) rfl ?_; clear hA a; intro a hA
  refine S.done ?_
  refine Ends.region ?_
  refine S.val hA (R.loadA sz63 rfl (hM.range (k := 0) rfl) rfl) rfl ?_; clear hA a; intro a hA
  refine S.val hA (R.move rfl) rfl ?_; clear hA a; intro a hA
  refine S.call hA (R.callF Try.func70 rfl rfl rfl) rfl (with02 (memF (x.take k)) (x.getD k 0) _) ?_; clear hA a
  rintro e w4 ⟨rfl, hb⟩
  replace hM := hM.callB hb; clear hb
  refine ⟨.agg #[.int .u64 (loW (adF1 (memF (x.take k)) (x.getD k 0))), .int .u64 (hiW (adF1 (memF (x.take k)) (x.getD k 0)))], rfl, fun a hA => ?_⟩
  refine S.storeA (k := 0) hA hM sz63 rfl rfl rfl rfl rfl rfl ?_; clear hM
  intro w5 hM
  replace hM : Mem _ _ [pt b3 #[.int .u64 (loW (adF1 (memF (x.take k)) (x.getD k 0))), .int .u64 (hiW (adF1 (memF (x.take k)) (x.getD k 0)))] 63, pt b1 #[.int .u64 0, .int .u64 0] 63] _ := hM
  refine S.done ?_
  replace hA : St 17 [(2, _), (3, _), (6, _), (7, _), (8, _)] a := hA.sub ((.cons rfl (.cons rfl (.cons rfl (.cons rfl (.cons rfl .nil))))))
  refine Ends.inBlock (Ends.region ?_)
  refine S.val hA (R.addI rfl rfl (r := ((k : Int)) + 1) rfl (by omega)) rfl ?_; clear hA a; intro a hA
  refine S.val hA (R.move rfl) rfl ?_; clear hA a; intro a hA
  refine S.done ?_
  rw [← memF_snoc, ← take_succ_getD x k (by omega)] at hM
  exact hNext ((k + 1)) _ _ ((by show x.length - (k + 1) < x.length - k; omega)) ⟨hA.sub ((.cons rfl (.cons rfl (.cons rfl (.cons rfl (.cons rfl .nil)))))), hM, (by omega)⟩
 ·
  refine Ends.exit rfl ?_
  replace hA : St 17 [(2, _), (3, _)] a := hA.sub ((.cons rfl (.cons rfl .nil)))
  refine Ends.seq (Ends.region ?_)
  refine S.val hA (R.loadA sz63 rfl (hM.range (k := 0) rfl) rfl) rfl ?_; clear hA a; intro a hA
  refine S.storeA (k := 1) hA hM sz63 rfl rfl rfl rfl rfl rfl ?_; clear hM
  intro w6 hM
  replace hM : Mem _ _ [pt b3 #[.int .u64 (loW (memF (x.take k))), .int .u64 (hiW (memF (x.take k)))] 63, pt b1 #[.int .u64 (loW (memF (x.take k))), .int .u64 (hiW (memF (x.take k)))] 63] _ := hM
  refine S.done ?_
  refine Ends.retC (k := 1) Try.func60 Try.results60 hA hM rfl rfl sz63 rfl ?_
  exact ⟨by rw [take_all (X := x) (k := k) (by omega)], Mem.trans0 hbs hM.nilL⟩
set_option maxRecDepth 100000 in
set_option maxHeartbeats 400000 in
theorem full02 (n : Nat) (h1 : 1 ≤ n) (h24 : n ≤ 24) (w : World) :
  Calls Try.prog 61 #[.int .i64 ((n : Int))] w fun e w' => e = .returned (.agg #[.int .u64 (loW (lessF n)), .int .u64 (hiW (lessF n))]) ∧ Below w.heap.size w w' := by
 have hbs := Below.refl (B := w.heap.size) w
 have hM := Mem.start w
 refine Calls.of_ends (vs := [.int .i64 ((n : Int))]) Try.func61 rfl Try.ntmps61 rfl ?_
 intro a hA
 replace hA : St 29 [(0, _)] a := hA
 refine Ends.seq (Ends.region ?_)
 refine S.alloc hA hM info63 rfl rfl ?_; clear hA hM a; intro b1 w1 hb2 hM a hA
 replace hM : Mem _ _ [pt b1 #[.int .u64 0, .int .u64 0] 63] _ := hM
 refine S.done ?_
 refine Ends.seq (Ends.region ?_)
 refine S.alloc hA hM info63 rfl rfl ?_; clear hA hM a; intro b3 w2 hb4 hM a hA
 replace hM : Mem _ _ [pt b3 #[.int .u64 0, .int .u64 0] 63, pt b1 #[.int .u64 0, .int .u64 0] 63] _ := hM
 refine S.done ?_
 refine Ends.seq (Ends.seq (Ends.region ?_))
 refine S.val hA (R.move rfl) rfl ?_; clear hA a; intro a hA
 refine S.done ?_
 refine Ends.block ?_
 refine Ends.unroll ?_
 refine Ends.seq (Ends.region ?_)
 refine S.val hA (R.tt (R.lss rfl rfl) (by first | decide | simp | omega)) rfl ?_; clear hA a; intro a hA
 refine S.done ?_
 refine Ends.seq ?_
 refine Ends.condT hA rfl ?_
 refine Ends.skip (Ends.seq (Ends.block (Ends.seq (Ends.region ?_))))
 refine S.val hA (R.move rfl) rfl ?_; clear hA a; intro a hA
 refine S.val hA (R.assign rfl) rfl ?_; clear hA a; intro a hA
 refine S.done ?_
 refine Ends.seq (Ends.region ?_)
 refine S.val hA (R.move rfl) rfl ?_; clear hA a; intro a hA
 refine S.val hA (R.max rfl rfl) rfl ?_; clear hA a; intro a hA
 refine S.val hA (R.move rfl) rfl ?_; clear hA a; intro a hA
 refine S.val hA (R.mulI rfl rfl (r := 0) rfl (by omega)) rfl ?_; clear hA a; intro a hA
 refine S.val hA (R.subI rfl rfl (r := (max ((n : Int)) 0) - 0) rfl (by omega)) rfl ?_; clear hA a; intro a hA
 refine S.val hA (R.assign rfl) rfl ?_; clear hA a; intro a hA
 refine S.done ?_
 replace hA : St 29 [(0, _), (2, _), (3, _), (4, _), (5, _), (6, _)] a := hA.sub ((.cons rfl (.cons rfl (.cons rfl (.cons rfl (.cons rfl (.cons rfl .nil)))))))
 refine Ends.block (Ends.seq (Ends.region ?_))
 refine S.val hA (R.move rfl) rfl ?_; clear hA a; intro a hA
 refine S.val hA (R.ff (R.geq rfl rfl) (by omega)) rfl ?_; clear hA a; intro a hA
 refine S.val hA (R.assign rfl) rfl ?_; clear hA a; intro a hA
 refine S.done ?_
 refine Ends.condF hA rfl ?_
 refine Ends.seq (Ends.region ?_)
 refine S.val hA (R.move rfl) rfl ?_; clear hA a; intro a hA
 refine S.val hA (R.tt (R.gtr rfl rfl) (by omega)) rfl ?_; clear hA a; intro a hA
 refine S.val hA (R.assign rfl) rfl ?_; clear hA a; intro a hA
 refine S.done ?_
 replace hA : St 29 [(0, _), (2, _), (3, _), (4, _), (5, _), (6, _), (19, _)] a := hA.sub ((.cons rfl (.cons rfl (.cons rfl (.cons rfl (.cons rfl (.cons rfl (.cons rfl .nil))))))))
 refine Ends.condT hA rfl ?_
 refine Ends.region ?_
 refine S.val hA (R.move rfl) rfl ?_; clear hA a; intro a hA
 refine S.val hA (R.move rfl) rfl ?_; clear hA a; intro a hA
 refine S.val hA (R.shl rfl rfl (by omega)) rfl ?_; clear hA a; intro a hA
 refine S.val hA (R.sub rfl rfl) rfl ?_; clear hA a; intro a hA
 refine S.val hA (R.indexAddrA (q := 0) ar63 rfl rfl (by omega) (rfl)) rfl ?_; clear hA a; intro a hA
 refine S.store (k := 0) hA hM sz45 rfl rfl rfl rfl rfl ?_; clear hM
 intro w3 hM
 replace hM : Mem _ _ [pt b3 #[.int .u64 (IntKind.u64.wrap ((IntKind.u64.wrap (1 * 2 ^ min ((max ((n : Int)) 0) - 0).toNat (IntKind.u64).bits)) - 1)), .int .u64 0] 63, pt b1 #[.int .u64 0, .int .u64 0] 63] _ := hM
 refine S.done ?_
 replace hA : St 29 [(0, _), (2, _), (3, _), (6, _)] a := hA.sub ((.cons rfl (.cons rfl (.cons rfl (.cons rfl .nil)))))
 refine Ends.inBlock (Ends.inBlock (Ends.region ?_))
 refine S.val hA (R.addI rfl rfl (r := 1) rfl (by omega)) rfl ?_; clear hA a; intro a hA
 refine S.val hA (R.move rfl) rfl ?_; clear hA a; intro a hA
 refine S.done ?_
 refine Ends.inLoop ?_
 refine Ends.seq (Ends.region ?_)
 refine S.val hA (R.tt (R.lss rfl rfl) (by first | decide | simp | omega)) rfl ?_; clear hA a; intro a hA
 refine S.done ?_
 refine Ends.seq ?_
 refine Ends.condT hA rfl ?_
 refine Ends.skip (Ends.seq (Ends.block (Ends.seq (Ends.region ?_))))
 refine S.val hA (R.move rfl) rfl ?_; clear hA a; intro a hA
 refine S.val hA (R.assign rfl) rfl ?_; clear hA a; intro a hA
 refine S.done ?_
 refine Ends.seq (Ends.region ?_)
 refine S.val hA (R.move rfl) rfl ?_; clear hA a; intro a hA
 refine S.val hA (R.max rfl rfl) rfl ?_; clear hA a; intro a hA
 refine S.val hA (R.move rfl) rfl ?_; clear hA a; intro a hA
 refine S.val hA (R.mulI rfl rfl (r := 64) rfl (by omega)) rfl ?_; clear hA a; intro a hA
 refine S.val hA (R.subI rfl rfl (r := (max ((n : Int)) 0) - 64) rfl (by omega)) rfl ?_; clear hA a; intro a hA
 refine S.val hA (R.assign rfl) rfl ?_; clear hA a; intro a hA
 refine S.done ?_
 replace hA : St 29 [(0, _), (2, _), (3, _), (4, _), (5, _), (6, _)] a := hA.sub ((.cons rfl (.cons rfl (.cons rfl (.cons rfl (.cons rfl (.cons rfl .nil)))))))
 refine Ends.block (Ends.seq (Ends.region ?_))
 refine S.val hA (R.move rfl) rfl ?_; clear hA a; intro a hA
 refine S.val hA (R.ff (R.geq rfl rfl) (by omega)) rfl ?_; clear hA a; intro a hA
 refine S.val hA (R.assign rfl) rfl ?_; clear hA a; intro a hA
 refine S.done ?_
 refine Ends.condF hA rfl ?_
 refine Ends.seq (Ends.region ?_)
 refine S.val hA (R.move rfl) rfl ?_; clear hA a; intro a hA
 refine S.val hA (R.ff (R.gtr rfl rfl) (by omega)) rfl ?_; clear hA a; intro a hA
 refine S.val hA (R.assign rfl) rfl ?_; clear hA a; intro a hA
 refine S.done ?_
 replace hA : St 29 [(0, _), (2, _), (3, _), (4, _), (5, _), (6, _), (19, _)] a := hA.sub ((.cons rfl (.cons rfl (.cons rfl (.cons rfl (.cons rfl (.cons rfl (.cons rfl .nil))))))))
 refine Ends.condF hA rfl ?_
 refine Ends.skip (Ends.inBlock (Ends.inBlock (Ends.region ?_)))
 refine S.val hA (R.addI rfl rfl (r := 2) rfl (by omega)) rfl ?_; clear hA a; intro a hA
 refine S.val hA (R.move rfl) rfl ?_; clear hA a; intro a hA
 refine S.done ?_
 replace hA : St 29 [(0, _), (2, _), (3, _), (6, _)] a := hA.sub ((.cons rfl (.cons rfl (.cons rfl (.cons rfl .nil)))))
 refine Ends.inLoop ?_
 refine Ends.seq (Ends.region ?_)
 refine S.val hA (R.ff (R.lss rfl rfl) (by first | decide | simp | omega)) rfl ?_; clear hA a; intro a hA
 refine S.done ?_
 refine Ends.seq ?_
 refine Ends.condF hA rfl ?_
 refine Ends.exit rfl ?_
 refine Ends.seq (Ends.region ?_)
 refine S.val hA (R.loadA sz63 rfl (hM.range (k := 0) rfl) rfl) rfl ?_; clear hA a; intro a hA
 refine S.storeA (k := 1) hA hM sz63 rfl rfl rfl rfl rfl rfl ?_; clear hM
 intro w4 hM
 replace hM : Mem _ _ [pt b3 #[.int .u64 (IntKind.u64.wrap ((IntKind.u64.wrap (1 * 2 ^ min ((max ((n : Int)) 0) - 0).toNat (IntKind.u64).bits)) - 1)), .int .u64 0] 63, pt b1 #[.int .u64 (IntKind.u64.wrap ((IntKind.u64.wrap (1 * 2 ^ min ((max ((n : Int)) 0) - 0).toNat (IntKind.u64).bits)) - 1)), .int .u64 0] 63] _ := hM
 refine S.done ?_
 replace hA : St 29 [(2, _)] a := hA.sub ((.cons rfl .nil))
 refine Ends.retC (k := 1) Try.func61 Try.results61 hA hM rfl rfl sz63 rfl ?_
 have e1 : (max (n : Int) 0 - 0).toNat = n := by omega
 rw [e1, full_w (n := n) (by omega)]
 exact ⟨by rw [full_hi (n := n) (by omega)], Mem.trans0 hbs hM.nilL⟩
set_option maxRecDepth 100000 in
set_option maxHeartbeats 400000 in
theorem order08 (ay : Option Addr) (x : List Int) (cy : Nat) (n : Nat) (h1 : 1 ≤ n) (h24 : n ≤ 24) (w : World) (hy : IntSl w (.slice ay x.length cy) x) :
  Calls Try.prog 42 #[.slice ay x.length cy, .int .i64 ((n : Int))] w fun e w' => e = .returned (.bool (decide (permP x n))) ∧ Below w.heap.size w w' := by
 have hbs := Below.refl (B := w.heap.size) w
 have hM := Mem.start w
 refine Calls.of_ends (vs := [.slice ay x.length cy, .int .i64 ((n : Int))]) Try.func42 rfl Try.ntmps42 rfl ?_
 intro a hA
 replace hA : St 16 [(0, _), (1, _)] a := hA
 refine Ends.seq (Ends.region ?_)
 refine S.val hA (R.assign rfl) rfl ?_; clear hA a; intro a hA
 refine S.done ?_
 refine Ends.seq ?_
 refine Ends.cut (fun (a : Act) (wv : World) => St 16 [(4, .bool (decide ((((x.length : Int)) = ((n : Int)) ∧ loW (memF x) = loW (lessF n) ∧ hiW (memF x) = hiW (lessF n)))))] a ∧ Mem w nof [] wv) ?_ (fun k2 hJ => ?_)
 ·
  clear hA hM a; rintro a w1 ⟨hA, hM⟩
  refine Ends.ret1 Try.func42 Try.results42 hA rfl ?_
  have he : ((((x.length : Int)) = ((n : Int)) ∧ loW (memF x) = loW (lessF n) ∧ hiW (memF x) = hiW (lessF n))) ↔ permP x n := by rw [← perm_set (x := x) (n := n) (by omega), set_eq]; exact ⟨fun h => ⟨by omega, h.2⟩, fun h => ⟨by omega, h.2⟩⟩
  exact ⟨congrArg (fun b => Ending.returned (.bool b)) (decide_eq_decide.2 he), Mem.trans0 hbs hM.nilL⟩
 ·
  refine Ends.region ?_
  refine S.val hA (R.move rfl) rfl ?_; clear hA a; intro a hA
  refine S.val hA (R.lenS Try.underlying22 rfl rfl) rfl ?_; clear hA a; intro a hA
  refine S.val hA (R.move rfl) rfl ?_; clear hA a; intro a hA
  refine S.val hA (R.eql rfl rfl) rfl ?_; clear hA a; intro a hA
  refine S.val hA (R.move rfl) rfl ?_; clear hA a; intro a hA
  refine hA.split (d := 9) rfl ?_ ?_
  ·
   clear hA; intro hg1 hA
   refine S.valg (dj := 9) hA (by kernel_rfl) rfl (R.move rfl) rfl ?_; clear hA a; intro a hA
   refine S.callg (dj := 9) hA (by kernel_rfl) rfl (R.callF Try.func60 rfl rfl rfl) rfl (of02 ay x cy _ (hy.mem hM)) ?_; clear hA a
   rintro e w2 ⟨rfl, hb⟩
   replace hM := hM.callB hb; clear hb
   refine ⟨.agg #[.int .u64 (loW (memF x)), .int .u64 (hiW (memF x))], rfl, fun a hA => ?_⟩
   refine S.valg (dj := 9) hA (by kernel_rfl) rfl (R.move rfl) rfl ?_; clear hA a; intro a hA
   refine S.callg (dj := 9) hA (by kernel_rfl) rfl (R.callF Try.func61 rfl rfl rfl) rfl (full02 n (by omega) (by omega) _) ?_; clear hA a
   rintro e w3 ⟨rfl, hb⟩
   replace hM := hM.callB hb; clear hb
   refine ⟨.agg #[.int .u64 (loW (lessF n)), .int .u64 (hiW (lessF n))], rfl, fun a hA => ?_⟩
   refine S.valg (dj := 9) hA (by kernel_rfl) rfl (R.eqlS (b := decide (loW (memF x) = loW (lessF n) ∧ hiW (memF x) = hiW (lessF n))) Try.eqGuardType63 (fun w => eq_set _ _ _ _ w) rfl rfl) rfl ?_; clear hA a; intro a hA
   refine S.val hA (R.pickT rfl rfl) rfl ?_; clear hA a; intro a hA
   refine S.val hA (R.assign rfl) rfl ?_; clear hA a; intro a hA
   refine S.done ?_
   replace hA : St 16 [(4, _)] a := hA.sub ((.cons rfl .nil))
   exact hJ _ _ ⟨hA.sub (.cons (by first | rfl | exact congrArg (fun b => some (Value.bool b)) (by first | exact decide_eq_decide.2 (by omega) | exact or_bool (by omega) | exact and_bool (by omega) | (simp; done) | (simp [hg1]; done) | (have h80 := hg1; (try simp at h80); simp [h80]; done) | exact (decide_eq_false (fun h9 => hg1 h9.1)).symm)) .nil), hM⟩
  ·
   clear hA; intro hg1 hA
   refine S.no (dj := 9) hA (by kernel_rfl) rfl rfl rfl ?_; clear hA a; intro a hA
   refine S.no (dj := 9) hA (by kernel_rfl) rfl rfl rfl ?_; clear hA a; intro a hA
   refine S.no (dj := 9) hA (by kernel_rfl) rfl rfl rfl ?_; clear hA a; intro a hA
   refine S.no (dj := 9) hA (by kernel_rfl) rfl rfl rfl ?_; clear hA a; intro a hA
   refine S.no (dj := 9) hA (by kernel_rfl) rfl rfl rfl ?_; clear hA a; intro a hA
   refine S.val hA (R.pickF rfl rfl) rfl ?_; clear hA a; intro a hA
   refine S.val hA (R.assign rfl) rfl ?_; clear hA a; intro a hA
   refine S.done ?_
   replace hA : St 16 [(4, _)] a := hA.sub ((.cons rfl .nil))
   exact hJ _ _ ⟨hA.sub (.cons (by first | rfl | exact congrArg (fun b => some (Value.bool b)) (by first | exact decide_eq_decide.2 (by omega) | exact or_bool (by omega) | exact and_bool (by omega) | (simp; done) | (simp [hg1]; done) | (have h80 := hg1; (try simp at h80); simp [h80]; done) | exact (decide_eq_false (fun h9 => hg1 h9.1)).symm)) .nil), hM⟩
set_option maxRecDepth 100000 in
set_option maxHeartbeats 400000 in
theorem total08 (ay : Option Addr) (x : List Int) (cy : Nat) (hl : x.length ≤ 64) (hb0 : ∀ q, 0 ≤ x.getD q 0 ∧ x.getD q 0 ≤ 2147483647) (w : World) (hy : IntSl w (.slice ay x.length cy) x) :
  Calls Try.prog 43 #[.slice ay x.length cy] w fun e w' => e = .returned (.int .i64 x.sum) ∧ Below w.heap.size w w' := by
 have hbs := Below.refl (B := w.heap.size) w
 have hM := Mem.start w
 refine Calls.of_ends (vs := [.slice ay x.length cy]) Try.func43 rfl Try.ntmps43 rfl ?_
 intro a hA
 replace hA : St 17 [(0, _)] a := hA
 refine Ends.seq (Ends.region ?_)
 refine S.val hA (R.assign rfl) rfl ?_; clear hA a; intro a hA
 refine S.done ?_
 refine Ends.seq (Ends.region ?_)
 refine S.val hA (R.assign rfl) rfl ?_; clear hA a; intro a hA
 refine S.done ?_
 refine Ends.seq (Ends.seq (Ends.region ?_))
 refine S.val hA (R.move rfl) rfl ?_; clear hA a; intro a hA
 refine S.val hA (R.lenS Try.underlying22 rfl rfl) rfl ?_; clear hA a; intro a hA
 refine S.val hA (R.move rfl) rfl ?_; clear hA a; intro a hA
 refine S.done ?_
 refine Ends.block ?_
 refine Ends.loop (σ := Nat) (fun k (a : Act) (wv : World) => St 17 [(3, .int .i64 (sumF (fun q => x.getD q 0) k)), (6, .slice ay x.length cy), (7, .int .i64 ((x.length : Int))), (8, .int .i64 ((k : Int)))] a ∧ Mem w nof [] wv ∧ (k ≤ x.length)) (fun k => x.length - k) 0 ⟨hA.sub ((.cons rfl (.cons rfl (.cons rfl (.cons rfl .nil))))), hM, (Nat.zero_le _)⟩ ?_
 clear hA hM a
 rintro k a w1 ⟨hA, hM, hk⟩ hNext
 refine Ends.seq (Ends.region ?_)
 refine S.val hA (R.lss rfl rfl) rfl ?_; clear hA a; intro a hA
 refine S.done ?_
 refine Ends.seq ?_
 refine Ends.ite hA rfl (fun hc1 => ?_) (fun hc1 => ?_)
 ·
  have hk9 := hb0 k
  have hs9 := sumF_bd (f := fun q => x.getD q 0) (B := 2147483647) (by decide) (k := k) (fun q _ => hb0 q)
  refine Ends.skip (Ends.seq (Ends.block (Ends.seq (Ends.region ?_))))
  refine S.val hA (R.idxI hy (j := k) sl22 rfl rfl (by omega) (rfl)) rfl ?_; clear hA a; intro a hA
  refine S.val hA (R.loadI (hy.mem hM) sz3 rfl (by omega)) rfl ?_; clear hA a; intro a hA
  refine S.val hA (R.assign rfl) rfl ?_; clear hA a; intro a hA
  refine S.done ?_
  refine Ends.region ?_
  refine S.val hA (R.move rfl) rfl ?_; clear hA a; intro a hA
  refine S.val hA (R.move rfl) rfl ?_; clear hA a; intro a hA
  refine S.val hA (R.addI rfl rfl (r := (sumF (fun q => x.getD q 0) k) + (x.getD k 0)) rfl (by omega)) rfl ?_; clear hA a; intro a hA
  refine S.val hA (R.assign rfl) rfl ?_; clear hA a; intro a hA
  refine S.done ?_
  replace hA : St 17 [(3, _), (6, _), (7, _), (8, _)] a := hA.sub ((.cons rfl (.cons rfl (.cons rfl (.cons rfl .nil)))))
  refine Ends.inBlock (Ends.region ?_)
  refine S.val hA (R.addI rfl rfl (r := ((k : Int)) + 1) rfl (by omega)) rfl ?_; clear hA a; intro a hA
  refine S.val hA (R.move rfl) rfl ?_; clear hA a; intro a hA
  refine S.done ?_
  exact hNext ((k + 1)) _ _ ((by show x.length - (k + 1) < x.length - k; omega)) ⟨hA.sub ((.cons rfl (.cons rfl (.cons rfl (.cons rfl .nil))))), hM, (by omega)⟩
 ·
  refine Ends.exit rfl ?_
  replace hA : St 17 [(3, _)] a := hA.sub ((.cons rfl .nil))
  refine Ends.seq (Ends.region ?_)
  refine S.val hA (R.move rfl) rfl ?_; clear hA a; intro a hA
  refine S.val hA (R.assign rfl) rfl ?_; clear hA a; intro a hA
  refine S.done ?_
  refine Ends.ret1 Try.func43 Try.results43 hA rfl ?_
  have hke : k = x.length := by omega
  exact ⟨by rw [hke, sumF_list], Mem.trans0 hbs hM.nilL⟩
set_option maxRecDepth 100000 in
set_option maxHeartbeats 400000 in
theorem max08 (ay : Option Addr) (x : List Int) (cy : Nat) (hl : 1 ≤ x.length) (hb0 : ∀ q, 0 ≤ x.getD q 0 ∧ x.getD q 0 ≤ 2147483647) (w : World) (hy : IntSl w (.slice ay x.length cy) x) :
  Calls Try.prog 44 #[.slice ay x.length cy] w fun e w' => e = .returned (.int .i64 (mxF (fun c => x.getD c 0) x.length)) ∧ Below w.heap.size w w' := by
 have hbs := Below.refl (B := w.heap.size) w
 have hlx := hy.lenB
 have hM := Mem.start w
 refine Calls.of_ends (vs := [.slice ay x.length cy]) Try.func44 rfl Try.ntmps44 rfl ?_
 intro a hA
 replace hA : St 25 [(0, _)] a := hA
 refine Ends.seq (Ends.region ?_)
 refine S.val hA (R.assign rfl) rfl ?_; clear hA a; intro a hA
 refine S.done ?_
 refine Ends.seq (Ends.seq (Ends.region ?_))
 refine S.val hA (R.move rfl) rfl ?_; clear hA a; intro a hA
 refine S.val hA (R.lenS Try.underlying22 rfl rfl) rfl ?_; clear hA a; intro a hA
 refine S.val hA (R.lss rfl rfl) rfl ?_; clear hA a; intro a hA
 refine S.done ?_
 refine Ends.ite hA rfl (fun hc1 => ?_) (fun hc1 => ?_)
 · omega
 ·
  refine Ends.skip (Ends.seq (Ends.region ?_))
  refine S.val hA (R.move rfl) rfl ?_; clear hA a; intro a hA
  refine S.val hA (R.idxI hy (j := 0) sl22 rfl rfl (by omega) (rfl)) rfl ?_; clear hA a; intro a hA
  refine S.val hA (R.loadI (hy.mem hM) sz3 rfl (by omega)) rfl ?_; clear hA a; intro a hA
  refine S.val hA (R.assign rfl) rfl ?_; clear hA a; intro a hA
  refine S.done ?_
  replace hA : St 25 [(0, _), (3, _)] a := hA.sub ((.cons rfl (.cons rfl .nil)))
  refine Ends.seq (Ends.seq (Ends.region ?_))
  refine S.val hA (R.assign rfl) rfl ?_; clear hA a; intro a hA
  refine S.done ?_
  refine Ends.block ?_
  rw [show x.getD 0 0 = mxF (fun c => x.getD c 0) 1 by have h9 := hb0 0; simp only [mxF]; omega] at hA
  refine Ends.loop (σ := Nat) (fun k (a : Act) (wv : World) => St 25 [(0, .slice ay x.length cy), (3, .int .i64 (mxF (fun c => x.getD c 0) k)), (4, .int .i64 ((k : Int)))] a ∧ Mem w nof [] wv ∧ (1 ≤ k) ∧ (k ≤ x.length)) (fun k => x.length - k) 1 ⟨hA.sub ((.cons rfl (.cons rfl (.cons rfl .nil)))), hM, (Nat.le_refl _), (by omega)⟩ ?_
  clear hA hM a
  rintro k a w1 ⟨hA, hM, hk1, hk⟩ hNext
  refine Ends.seq (Ends.seq (Ends.region ?_))
  refine S.val hA (R.move rfl) rfl ?_; clear hA a; intro a hA
  refine S.val hA (R.move rfl) rfl ?_; clear hA a; intro a hA
  refine S.val hA (R.lenS Try.underlying22 rfl rfl) rfl ?_; clear hA a; intro a hA
  refine S.val hA (R.lss rfl rfl) rfl ?_; clear hA a; intro a hA
  refine S.done ?_
  refine Ends.ite hA rfl (fun hc2 => ?_) (fun hc2 => ?_)
  ·
   refine Ends.skip (Ends.seq (Ends.block (Ends.region ?_)))
   refine S.val hA (R.move rfl) rfl ?_; clear hA a; intro a hA
   refine S.val hA (R.move rfl) rfl ?_; clear hA a; intro a hA
   refine S.val hA (R.move rfl) rfl ?_; clear hA a; intro a hA
   refine S.val hA (R.idxI hy (j := k) sl22 rfl rfl (by omega) (rfl)) rfl ?_; clear hA a; intro a hA
   refine S.val hA (R.loadI (hy.mem hM) sz3 rfl (by omega)) rfl ?_; clear hA a; intro a hA
   refine S.val hA (R.max rfl rfl) rfl ?_; clear hA a; intro a hA
   refine S.val hA (R.assign rfl) rfl ?_; clear hA a; intro a hA
   refine S.done ?_
   replace hA : St 25 [(0, _), (3, _), (4, _)] a := hA.sub ((.cons rfl (.cons rfl (.cons rfl .nil))))
   refine Ends.inBlock (Ends.region ?_)
   refine S.val hA (R.move rfl) rfl ?_; clear hA a; intro a hA
   refine S.val hA (R.addI rfl rfl (r := ((k : Int)) + 1) rfl (by omega)) rfl ?_; clear hA a; intro a hA
   refine S.val hA (R.assign rfl) rfl ?_; clear hA a; intro a hA
   refine S.done ?_
   exact hNext ((k + 1)) _ _ ((by show x.length - (k + 1) < x.length - k; omega)) ⟨hA.sub ((.cons rfl (.cons rfl (.cons rfl .nil)))), hM, (by omega), (by omega)⟩
  ·
   refine Ends.exit rfl ?_
   replace hA : St 25 [(3, _)] a := hA.sub ((.cons rfl .nil))
   refine Ends.seq (Ends.region ?_)
   refine S.val hA (R.move rfl) rfl ?_; clear hA a; intro a hA
   refine S.val hA (R.assign rfl) rfl ?_; clear hA a; intro a hA
   refine S.done ?_
   refine Ends.ret1 Try.func44 Try.results44 hA rfl ?_
   have hke : k = x.length := by omega
   exact ⟨by rw [hke], Mem.trans0 hbs hM.nilL⟩
set_option maxRecDepth 100000 in
set_option maxHeartbeats 400000 in
theorem knap08 (i : Ins) (ax3 : Option Addr) (cx3 : Nat) (ax4 : Option Addr) (cx4 : Nat) (ax5 : Option Addr) (cx5 : Nat) (ay : Option Addr) (x : List Int) (cy : Nat) (hF : InF i) (hk1 : i.kind = 1) (w : World) (hx3 : IntSl w (.slice ax3 i.wt.length cx3) i.wt) (hx4 : IntSl w (.slice ax4 i.vl.length cx4) i.vl) (hx5 : RowsV w (.slice ax5 i.cost.length cx5) i.cost) (hy : IntSl w (.slice ay x.length cy) x) :
  Calls Try.prog 41 #[.agg #[.int .i64 i.kind, .int .i64 i.n, .int .i64 i.cap, .slice ax3 i.wt.length cx3, .slice ax4 i.vl.length cx4, .slice ax5 i.cost.length cx5], .slice ay x.length cy] w fun e w' => e = .returned (.tuple #[.int .i64 (knpI i x).1, .int .i64 (knpI i x).2]) ∧ Below w.heap.size w w' := by
 have hbs := Below.refl (B := w.heap.size) w
 have f2 := hF.n1
 have f3 := hF.n64
 have f5 := hF.wt
 have f6 := hF.vl
 rw [if_pos hk1] at f5 f6
 have hlx := hy.lenB
 have hM := Mem.start w
 refine Calls.of_ends (vs := [.agg #[.int .i64 i.kind, .int .i64 i.n, .int .i64 i.cap, .slice ax3 i.wt.length cx3, .slice ax4 i.vl.length cx4, .slice ax5 i.cost.length cx5], .slice ay x.length cy]) Try.func41 rfl Try.ntmps41 rfl ?_
 intro a hA
 replace hA : St 47 [(0, _), (1, _)] a := hA
 refine Ends.seq (Ends.region ?_)
 refine S.box hA hM rfl rfl ?_; clear hA hM a; intro b1 w1 hb2 hM a hA
 replace hM : Mem _ _ [pt b1 #[.int .i64 i.kind, .int .i64 i.n, .int .i64 i.cap, .slice ax3 i.wt.length cx3, .slice ax4 i.vl.length cx4, .slice ax5 i.cost.length cx5] 25] _ := hM
 refine S.val hA (R.assign rfl) rfl ?_; clear hA a; intro a hA
 refine S.val hA (R.assign rfl) rfl ?_; clear hA a; intro a hA
 refine S.done ?_
 refine Ends.seq (Ends.seq (Ends.region ?_))
 refine S.val hA (R.move rfl) rfl ?_; clear hA a; intro a hA
 refine S.val hA (R.lenS Try.underlying22 rfl rfl) rfl ?_; clear hA a; intro a hA
 refine S.val hA (R.fieldAddr (q := 1) fi25_1 rfl rfl rfl) rfl ?_; clear hA a; intro a hA
 refine S.val hA (R.load sz3 rfl (hM.cell (k := 0) rfl rfl)) rfl ?_; clear hA a; intro a hA
 refine S.val hA (R.neq rfl rfl) rfl ?_; clear hA a; intro a hA
 refine S.done ?_
 replace hA : St 47 [(1, _), (2, _), (14, _)] a := hA.sub ((.cons rfl (.cons rfl (.cons rfl .nil))))
 refine Ends.ite hA rfl (fun hc3 => ?_) (fun hc3 => ?_)
 ·
  refine Ends.seq (Ends.region ?_)
  refine S.val hA (R.assign rfl) rfl ?_; clear hA a; intro a hA
  refine S.val hA (R.assign rfl) rfl ?_; clear hA a; intro a hA
  refine S.done ?_
  refine Ends.ret2 Try.func41 Try.results41 hA rfl rfl ?_
  have he : knpI i x = (0, 1) := if_pos hc3
  exact ⟨by rw [he], Mem.trans0 hbs hM.nilL⟩
 ·
  have hln : (x.length : Int) = i.n := Decidable.not_not.1 hc3
  refine Ends.skip (Ends.seq (Ends.region ?_))
  refine S.val hA (R.assign rfl) rfl ?_; clear hA a; intro a hA
  refine S.val hA (R.assign rfl) rfl ?_; clear hA a; intro a hA
  refine S.done ?_
  refine Ends.seq (Ends.seq (Ends.region ?_))
  refine S.val hA (R.move rfl) rfl ?_; clear hA a; intro a hA
  refine S.val hA (R.lenS Try.underlying22 rfl rfl) rfl ?_; clear hA a; intro a hA
  refine S.val hA (R.move rfl) rfl ?_; clear hA a; intro a hA
  refine S.done ?_
  refine Ends.block ?_
  refine Ends.loop (σ := Nat) (fun k (a : Act) (wv : World) => St 47 [(2, .pointer (some ⟨b1, 0, none⟩)), (6, .int .i64 (sumF (wtF i x) k)), (7, .int .i64 (sumF (vlF i x) k)), (15, .slice ay x.length cy), (16, .int .i64 ((x.length : Int))), (17, .int .i64 ((k : Int)))] a ∧ Mem w nof [pt b1 #[.int .i64 i.kind, .int .i64 i.n, .int .i64 i.cap, .slice ax3 i.wt.length cx3, .slice ax4 i.vl.length cx4, .slice ax5 i.cost.length cx5] 25] wv ∧ (k ≤ x.length) ∧ (∀ q, q < k → x.getD q 0 = 0 ∨ x.getD q 0 = 1)) (fun k => x.length - k) 0 ⟨hA.sub ((.cons rfl (.cons rfl (.cons rfl (.cons rfl (.cons rfl (.cons rfl .nil))))))), hM, (Nat.zero_le _), (fun q h => absurd h (Nat.not_lt_zero q))⟩ ?_
  clear hA hM a
  rintro k a w2 ⟨hA, hM, hk, hbit⟩ hNext
  refine Ends.seq (Ends.region ?_)
  refine S.val hA (R.lss rfl rfl) rfl ?_; clear hA a; intro a hA
  refine S.done ?_
  refine Ends.seq ?_
  refine Ends.ite hA rfl (fun hc4 => ?_) (fun hc4 => ?_)
  ·
   have g1 := hF.wtr k
   have g2 := hF.vlr k
   have s1 := wtF_bd hF x k (by omega)
   have s2 := vlF_bd hF x k (by omega)
   refine Ends.skip (Ends.seq (Ends.block (Ends.seq (Ends.region ?_))))
   refine S.val hA (R.move rfl) rfl ?_; clear hA a; intro a hA
   refine S.val hA (R.idxI hy (j := k) sl22 rfl rfl (by omega) (rfl)) rfl ?_; clear hA a; intro a hA
   refine S.val hA (R.loadI (hy.mem hM) sz3 rfl (by omega)) rfl ?_; clear hA a; intro a hA
   refine S.val hA (R.assign rfl) rfl ?_; clear hA a; intro a hA
   refine S.val hA (R.assign rfl) rfl ?_; clear hA a; intro a hA
   refine S.done ?_
   replace hA : St 47 [(2, _), (6, _), (7, _), (8, _), (9, _), (15, _), (16, _), (17, _)] a := hA.sub ((.cons rfl (.cons rfl (.cons rfl (.cons rfl (.cons rfl (.cons rfl (.cons rfl (.cons rfl .nil)))))))))
   refine Ends.seq (Ends.region ?_)
   refine S.val hA (R.move rfl) rfl ?_; clear hA a; intro a hA
   refine S.done ?_
   refine Ends.block (Ends.seq (Ends.region ?_))
   refine S.val hA (R.eql rfl rfl) rfl ?_; clear hA a; intro a hA
   refine S.val hA (R.assign rfl) rfl ?_; clear hA a; intro a hA
   refine S.done ?_
   refine Ends.ite hA rfl (fun hc5 => ?_) (fun hc5 => ?_)
   ·
    refine Ends.region ?_
    refine S.val hA (R.move rfl) rfl ?_; clear hA a; intro a hA
    refine S.val hA (R.fieldAddr (q := 3) fi25_3 rfl rfl rfl) rfl ?_; clear hA a; intro a hA
    refine S.val hA (R.load sz22 rfl (hM.cell (k := 0) rfl rfl)) rfl ?_; clear hA a; intro a hA
    refine S.val hA (R.move rfl) rfl ?_; clear hA a; intro a hA
    refine S.val hA (R.idxI hx3 (j := k) sl22 rfl rfl (by omega) (rfl)) rfl ?_; clear hA a; intro a hA
    refine S.val hA (R.loadI (hx3.mem hM) sz3 rfl (by omega)) rfl ?_; clear hA a; intro a hA
    refine S.val hA (R.addI rfl rfl (r := (sumF (wtF i x) k) + (i.wt.getD k 0)) rfl (by omega)) rfl ?_; clear hA a; intro a hA
    refine S.val hA (R.assign rfl) rfl ?_; clear hA a; intro a hA
    refine S.done ?_
    replace hA : St 47 [(2, _), (6, _), (7, _), (15, _), (16, _), (17, _)] a := hA.sub ((.cons rfl (.cons rfl (.cons rfl (.cons rfl (.cons rfl (.cons rfl .nil)))))))
    refine Ends.inBlock (Ends.inBlock (Ends.region ?_))
    refine S.val hA (R.addI rfl rfl (r := ((k : Int)) + 1) rfl (by omega)) rfl ?_; clear hA a; intro a hA
    refine S.val hA (R.move rfl) rfl ?_; clear hA a; intro a hA
    refine S.done ?_
    have hw9 : sumF (wtF i x) (k + 1) = (sumF (wtF i x) k) + (i.wt.getD k 0) := by simp only [sumF, wtF]; rw [if_pos hc5]
    have hv9 : sumF (vlF i x) (k + 1) = sumF (vlF i x) k := by simp only [sumF, vlF]; rw [if_pos hc5]; omega
    rw [← hw9, ← hv9] at hA
    exact hNext ((k + 1)) _ _ ((by show x.length - (k + 1) < x.length - k; omega)) ⟨hA.sub ((.cons rfl (.cons rfl (.cons rfl (.cons rfl (.cons rfl (.cons rfl .nil))))))), hM, (by omega), (fun q hq => by rcases Nat.lt_succ_iff_lt_or_eq.1 hq with g | g; exact hbit q g; rw [g]; exact .inr hc5)⟩
   ·
    refine Ends.seq (Ends.region ?_)
    refine S.val hA (R.eql rfl rfl) rfl ?_; clear hA a; intro a hA
    refine S.val hA (R.assign rfl) rfl ?_; clear hA a; intro a hA
    refine S.done ?_
    replace hA : St 47 [(2, _), (6, _), (7, _), (8, _), (15, _), (16, _), (17, _), (32, _)] a := hA.sub ((.cons rfl (.cons rfl (.cons rfl (.cons rfl (.cons rfl (.cons rfl (.cons rfl (.cons rfl .nil)))))))))
    refine Ends.ite hA rfl (fun hc6 => ?_) (fun hc6 => ?_)
    ·
     refine Ends.region ?_
     refine S.val hA (R.move rfl) rfl ?_; clear hA a; intro a hA
     refine S.val hA (R.fieldAddr (q := 4) fi25_4 rfl rfl rfl) rfl ?_; clear hA a; intro a hA
     refine S.val hA (R.load sz22 rfl (hM.cell (k := 0) rfl rfl)) rfl ?_; clear hA a; intro a hA
     refine S.val hA (R.move rfl) rfl ?_; clear hA a; intro a hA
     refine S.val hA (R.idxI hx4 (j := k) sl22 rfl rfl (by omega) (rfl)) rfl ?_; clear hA a; intro a hA
     refine S.val hA (R.loadI (hx4.mem hM) sz3 rfl (by omega)) rfl ?_; clear hA a; intro a hA
     refine S.val hA (R.addI rfl rfl (r := (sumF (vlF i x) k) + (i.vl.getD k 0)) rfl (by omega)) rfl ?_; clear hA a; intro a hA
     refine S.val hA (R.assign rfl) rfl ?_; clear hA a; intro a hA
     refine S.done ?_
     replace hA : St 47 [(2, _), (6, _), (7, _), (15, _), (16, _), (17, _)] a := hA.sub ((.cons rfl (.cons rfl (.cons rfl (.cons rfl (.cons rfl (.cons rfl .nil)))))))
     refine Ends.inBlock (Ends.inBlock (Ends.region ?_))
     refine S.val hA (R.addI rfl rfl (r := ((k : Int)) + 1) rfl (by omega)) rfl ?_; clear hA a; intro a hA
     refine S.val hA (R.move rfl) rfl ?_; clear hA a; intro a hA
     refine S.done ?_
     have hw9 : sumF (wtF i x) (k + 1) = sumF (wtF i x) k := by simp only [sumF, wtF]; rw [if_neg hc5]; omega
     have hv9 : sumF (vlF i x) (k + 1) = (sumF (vlF i x) k) + (i.vl.getD k 0) := by simp only [sumF, vlF]; rw [if_neg hc5]
     rw [← hw9, ← hv9] at hA
     exact hNext ((k + 1)) _ _ ((by show x.length - (k + 1) < x.length - k; omega)) ⟨hA.sub ((.cons rfl (.cons rfl (.cons rfl (.cons rfl (.cons rfl (.cons rfl .nil))))))), hM, (by omega), (fun q hq => by rcases Nat.lt_succ_iff_lt_or_eq.1 hq with g | g; exact hbit q g; rw [g]; exact .inl hc6)⟩
    ·
     refine Ends.seq (Ends.region ?_)
     refine S.val hA (R.assign rfl) rfl ?_; clear hA a; intro a hA
     refine S.val hA (R.assign rfl) rfl ?_; clear hA a; intro a hA
     refine S.done ?_
     refine Ends.ret2 Try.func41 Try.results41 hA rfl rfl ?_
     have he : knpI i x = (0, 1) := by unfold knpI; rw [if_neg (not_not_intro hln), if_pos (fun hb9 => by have h9 := hb9 k (by omega); rcases h9 with h9 | h9; exact hc6 h9; exact hc5 h9)]
     exact ⟨by rw [he], Mem.trans0 hbs hM.nilL⟩
  ·
   have hke : k = x.length := by omega
   refine Ends.exit rfl ?_
   replace hA : St 47 [(2, _), (6, _), (7, _)] a := hA.sub ((.cons rfl (.cons rfl (.cons rfl .nil))))
   refine Ends.seq (Ends.seq (Ends.region ?_))
   refine S.val hA (R.move rfl) rfl ?_; clear hA a; intro a hA
   refine S.val hA (R.fieldAddr (q := 2) fi25_2 rfl rfl rfl) rfl ?_; clear hA a; intro a hA
   refine S.val hA (R.load sz3 rfl (hM.cell (k := 0) rfl rfl)) rfl ?_; clear hA a; intro a hA
   refine S.val hA (R.gtr rfl rfl) rfl ?_; clear hA a; intro a hA
   refine S.done ?_
   replace hA : St 47 [(7, _), (45, _)] a := hA.sub ((.cons rfl (.cons rfl .nil)))
   refine Ends.ite hA rfl (fun hc7 => ?_) (fun hc7 => ?_)
   ·
    refine Ends.seq (Ends.region ?_)
    refine S.val hA (R.assign rfl) rfl ?_; clear hA a; intro a hA
    refine S.val hA (R.assign rfl) rfl ?_; clear hA a; intro a hA
    refine S.done ?_
    refine Ends.ret2 Try.func41 Try.results41 hA rfl rfl ?_
    rw [hke] at hbit
    replace hbit : bitP x x.length := hbit
    have hf9 := hc7
    rw [hke] at hf9
    have he : knpI i x = (0, 9) := by unfold knpI; rw [if_neg (not_not_intro hln), if_neg (not_not_intro hbit), if_pos hf9]
    exact ⟨by rw [he], Mem.trans0 hbs hM.nilL⟩
   ·
    refine Ends.skip (Ends.seq (Ends.region ?_))
    refine S.val hA (R.move rfl) rfl ?_; clear hA a; intro a hA
    refine S.val hA (R.assign rfl) rfl ?_; clear hA a; intro a hA
    refine S.val hA (R.assign rfl) rfl ?_; clear hA a; intro a hA
    refine S.done ?_
    refine Ends.ret2 Try.func41 Try.results41 hA rfl rfl ?_
    rw [hke] at hbit
    replace hbit : bitP x x.length := hbit
    have hf9 := hc7
    rw [hke] at hf9
    have he : knpI i x = (sumF (vlF i x) x.length, 0) := by unfold knpI; rw [if_neg (not_not_intro hln), if_neg (not_not_intro hbit), if_neg hf9]
    exact ⟨by rw [he, hke], Mem.trans0 hbs hM.nilL⟩
set_option maxRecDepth 100000 in
set_option maxHeartbeats 400000 in
theorem cost08 (i : Ins) (ax3 : Option Addr) (cx3 : Nat) (ax4 : Option Addr) (cx4 : Nat) (ax5 : Option Addr) (cx5 : Nat) (ay : Option Addr) (x : List Int) (cy : Nat) (hsm : i.wt.length ≤ 1000000 ∧ i.vl.length ≤ 1000000) (w : World) (hx3 : IntSl w (.slice ax3 i.wt.length cx3) i.wt) (hx4 : IntSl w (.slice ax4 i.vl.length cx4) i.vl) (hx5 : RowsV w (.slice ax5 i.cost.length cx5) i.cost) (hy : IntSl w (.slice ay x.length cy) x) :
  Calls Try.prog 17 #[.agg #[.int .i64 i.kind, .int .i64 i.n, .int .i64 i.cap, .slice ax3 i.wt.length cx3, .slice ax4 i.vl.length cx4, .slice ax5 i.cost.length cx5], .slice ay x.length cy] w fun e w' => e = .returned (.tuple #[.int .i64 (costI i x).1, .int .i64 (costI i x).2]) ∧ Below w.heap.size w w' := by
 have hbs := Below.refl (B := w.heap.size) w
 have hM := Mem.start w
 refine Calls.of_ends (vs := [.agg #[.int .i64 i.kind, .int .i64 i.n, .int .i64 i.cap, .slice ax3 i.wt.length cx3, .slice ax4 i.vl.length cx4, .slice ax5 i.cost.length cx5], .slice ay x.length cy]) Try.func17 rfl Try.ntmps17 rfl ?_
 intro a hA
 replace hA : St 81 [(0, _), (1, _)] a := hA
 refine Ends.seq (Ends.region ?_)
 refine S.box hA hM rfl rfl ?_; clear hA hM a; intro b1 w1 hb2 hM a hA
 replace hM : Mem _ _ [pt b1 #[.int .i64 i.kind, .int .i64 i.n, .int .i64 i.cap, .slice ax3 i.wt.length cx3, .slice ax4 i.vl.length cx4, .slice ax5 i.cost.length cx5] 25] _ := hM
 refine S.val hA (R.assign rfl) rfl ?_; clear hA a; intro a hA
 refine S.val hA (R.assign rfl) rfl ?_; clear hA a; intro a hA
 refine S.done ?_
 refine Ends.seq (Ends.region ?_)
 refine S.val hA (R.loadA sz25 rfl (hM.range (k := 0) rfl) rfl) rfl ?_; clear hA a; intro a hA
 refine S.call hA (R.callF Try.func35 rfl rfl rfl) rfl (check05 i ax3 cx3 ax4 cx4 ax5 cx5 hsm _ (hx3.mem hM) (hx4.mem hM) (hx5.mem hM)) ?_; clear hA a
 rintro e w2 ⟨rfl, hb⟩
 replace hM := hM.callB hb; clear hb
 refine ⟨.int .i64 (chk i), rfl, fun a hA => ?_⟩
 refine S.val hA (R.assign rfl) rfl ?_; clear hA a; intro a hA
 refine S.done ?_
 replace hA : St 81 [(1, _), (2, _), (6, _)] a := hA.sub ((.cons rfl (.cons rfl (.cons rfl .nil))))
 refine Ends.seq (Ends.block (Ends.seq (Ends.region ?_)))
 refine S.val hA (R.move rfl) rfl ?_; clear hA a; intro a hA
 refine S.val hA (R.neq rfl rfl) rfl ?_; clear hA a; intro a hA
 refine S.val hA (R.assign rfl) rfl ?_; clear hA a; intro a hA
 refine S.done ?_
 refine Ends.ite hA rfl (fun hc3 => ?_) (fun hc3 => ?_)
 ·
  refine Ends.seq (Ends.region ?_)
  refine S.val hA (R.move rfl) rfl ?_; clear hA a; intro a hA
  refine S.val hA (R.assign rfl) rfl ?_; clear hA a; intro a hA
  refine S.val hA (R.assign rfl) rfl ?_; clear hA a; intro a hA
  refine S.done ?_
  replace hA : St 81 [(1, _), (2, _), (4, _), (5, _)] a := hA.sub ((.cons rfl (.cons rfl (.cons rfl (.cons rfl .nil)))))
  refine Ends.ret2 Try.func17 Try.results17 hA rfl rfl ?_
  have he : costI i x = (0, chk i) := if_pos hc3
  exact ⟨by rw [he], Mem.trans0 hbs hM.nilL⟩
 ·
  have hz : chk i = 0 := Decidable.not_not.1 hc3
  have hF := chk_inF hz
  have f2 := hF.n1
  have f3 := hF.n64
  have hlx := hy.lenB
  refine Ends.seq (Ends.region ?_)
  refine S.val hA (R.fieldAddr (q := 0) fi25_0 rfl rfl rfl) rfl ?_; clear hA a; intro a hA
  refine S.val hA (R.load sz3 rfl (hM.cell (k := 0) rfl rfl)) rfl ?_; clear hA a; intro a hA
  refine S.val hA (R.eql rfl rfl) rfl ?_; clear hA a; intro a hA
  refine S.val hA (R.assign rfl) rfl ?_; clear hA a; intro a hA
  refine S.done ?_
  replace hA : St 81 [(1, _), (2, _), (16, _)] a := hA.sub ((.cons rfl (.cons rfl (.cons rfl .nil))))
  refine Ends.ite hA rfl (fun hc4 => ?_) (fun hc4 => ?_)
  ·
   have hkn := hc4
   refine Ends.seq (Ends.region ?_)
   refine S.val hA (R.loadA sz25 rfl (hM.range (k := 0) rfl) rfl) rfl ?_; clear hA a; intro a hA
   refine S.val hA (R.move rfl) rfl ?_; clear hA a; intro a hA
   refine S.call hA (R.callF Try.func41 rfl rfl rfl) rfl (knap08 i ax3 cx3 ax4 cx4 ax5 cx5 ay x cy hF hkn _ (hx3.mem hM) (hx4.mem hM) (hx5.mem hM) (hy.mem hM)) ?_; clear hA a
   rintro e w3 ⟨rfl, hb⟩
   replace hM := hM.callB hb; clear hb
   refine ⟨.tuple #[.int .i64 ((knpI i x).1), .int .i64 ((knpI i x).2)], rfl, fun a hA => ?_⟩
   refine S.val hA (R.extract (v := .int .i64 ((knpI i x).1)) rfl rfl) rfl ?_; clear hA a; intro a hA
   refine S.val hA (R.extract (v := .int .i64 ((knpI i x).2)) rfl rfl) rfl ?_; clear hA a; intro a hA
   refine S.val hA (R.assign rfl) rfl ?_; clear hA a; intro a hA
   refine S.val hA (R.assign rfl) rfl ?_; clear hA a; intro a hA
   refine S.done ?_
   replace hA : St 81 [(1, _), (2, _), (4, _), (5, _)] a := hA.sub ((.cons rfl (.cons rfl (.cons rfl (.cons rfl .nil)))))
   refine Ends.ret2 Try.func17 Try.results17 hA rfl rfl ?_
   have he : costI i x = knpI i x := by unfold costI; rw [if_neg (not_not_intro hz), if_pos hkn]
   exact ⟨by rw [he], Mem.trans0 hbs hM.nilL⟩
  ·
   have hkn := hc4
   have f4 := hF.n24 hkn
   have f7 := hF.cost
   rw [if_neg hkn] at f7
   obtain ⟨n, hn⟩ : ∃ n : Nat, i.n = (n : Int) := ⟨i.n.toNat, by omega⟩
   have hnt : i.n.toNat = n := by omega
   rw [hn] at hM
   replace hM : Mem _ _ [pt b1 #[.int .i64 i.kind, .int .i64 ((n : Int)), .int .i64 i.cap, .slice ax3 i.wt.length cx3, .slice ax4 i.vl.length cx4, .slice ax5 i.cost.length cx5] 25] _ := hM
   refine Ends.seq ?_
   refine Ends.cut (fun (a : Act) (wv : World) => St 81 [(1, .slice ay x.length cy), (2, .pointer (some ⟨b1, 0, none⟩)), (25, .bool (decide ((¬ (permP x n) ∨ (i.kind = 3 ∧ (x.getD 0 0) ≠ 0)))))] a ∧ Mem w nof [pt b1 #[.int .i64 i.kind, .int .i64 ((n : Int)), .int .i64 i.cap, .slice ax3 i.wt.length cx3, .slice ax4 i.vl.length cx4, .slice ax5 i.cost.length cx5] 25] wv) ?_ (fun k2 hJ => ?_)
   ·
    clear hA hM a; rintro a w4 ⟨hA, hM⟩
    refine Ends.ite hA rfl (fun hc5 => ?_) (fun hc5 => ?_)
    ·
     refine Ends.seq (Ends.region ?_)
     refine S.val hA (R.assign rfl) rfl ?_; clear hA a; intro a hA
     refine S.val hA (R.assign rfl) rfl ?_; clear hA a; intro a hA
     refine S.done ?_
     refine Ends.ret2 Try.func17 Try.results17 hA rfl rfl ?_
     have hno : ¬ ordP i x := fun h9 => by have h8 := h9.1; rw [hnt] at h8; rcases hc5 with g | g; exact g h8; exact g.2 (h9.2 g.1)
     have he : costI i x = (0, 1) := by unfold costI; rw [if_neg (not_not_intro hz), if_neg hkn, if_pos hno]
     exact ⟨by rw [he], Mem.trans0 hbs hM.nilL⟩
    ·
     have hp : permP x n := Classical.byContradiction fun h9 => hc5 (.inl h9)
     have ho : ordP i x := ⟨by rw [hnt]; exact hp, fun h3 => Classical.byContradiction fun h9 => hc5 (.inr ⟨h3, h9⟩)⟩
     have hlp := hp.1
     refine Ends.skip (Ends.inBlock (Ends.seq (Ends.region ?_)))
     refine S.val hA (R.assign rfl) rfl ?_; clear hA a; intro a hA
     refine S.done ?_
     refine Ends.seq (Ends.seq (Ends.region ?_))
     refine S.val hA (R.move rfl) rfl ?_; clear hA a; intro a hA
     refine S.val hA (R.lenS Try.underlying22 rfl rfl) rfl ?_; clear hA a; intro a hA
     refine S.val hA (R.move rfl) rfl ?_; clear hA a; intro a hA
     refine S.done ?_
     refine Ends.block ?_
     refine Ends.loop (σ := Nat) (fun k (a : Act) (wv : World) => St 81 [(1, .slice ay x.length cy), (2, .pointer (some ⟨b1, 0, none⟩)), (7, .int .i64 (sumF (stp i x) k)), (42, .slice ay x.length cy), (43, .int .i64 ((x.length : Int))), (44, .int .i64 ((k : Int)))] a ∧ Mem w nof [pt b1 #[.int .i64 i.kind, .int .i64 ((n : Int)), .int .i64 i.cap, .slice ax3 i.wt.length cx3, .slice ax4 i.vl.length cx4, .slice ax5 i.cost.length cx5] 25] wv ∧ (k ≤ x.length)) (fun k => x.length - k) 0 ⟨hA.sub ((.cons rfl (.cons rfl (.cons rfl (.cons rfl (.cons rfl (.cons rfl .nil))))))), hM, (Nat.zero_le _)⟩ ?_
     clear hA hM a
     rintro k a w5 ⟨hA, hM, hk⟩ hNext
     refine Ends.seq (Ends.region ?_)
     refine S.val hA (R.lss rfl rfl) rfl ?_; clear hA a; intro a hA
     refine S.done ?_
     refine Ends.seq ?_
     refine Ends.ite hA rfl (fun hc6 => ?_) (fun hc6 => ?_)
     ·
      have hkl : k < n := by omega
      have s1 := stp_bd hF x k (by omega)
      have p1 := hp.at_ hkl
      have hrw := hF.row
      have g1 := hF.row k (by omega)
      have g2 := hF.row (x.getD k 0).toNat (by omega)
      have hml := Nat.mod_lt (k + 1) (show 0 < n by omega)
      have p2 := hp.at_ hml
      have hmod : ((k : Int) + 1) % (n : Int) = (((k + 1) % n : Nat) : Int) := by push_cast; rfl
      have d1 := cl2_bd hF k (x.getD k 0)
      have d2 := cl2_bd hF (x.getD k 0) (x.getD ((k + 1) % n) 0)
      have e1 : cl2 i k (x.getD k 0) = (i.cost.getD k []).getD (x.getD k 0).toNat 0 := rfl
      have e2 : cl2 i (x.getD k 0) (x.getD ((k + 1) % n) 0) = (i.cost.getD (x.getD k 0).toNat []).getD (x.getD ((k + 1) % n) 0).toNat 0 := rfl
      refine Ends.skip (Ends.seq (Ends.block (Ends.seq (Ends.region ?_))))
      refine S.val hA (R.move rfl) rfl ?_; clear hA a; intro a hA
      refine S.val hA (R.idxI hy (j := k) sl22 rfl rfl (by first | omega | exact hmod | (rw [hmod]; omega) | (have h9 := Decidable.not_not.1 ‹¬ ¬ permP x n›; have h8 := h9.1; omega)) (rfl)) rfl ?_; clear hA a; intro a hA
      refine S.val hA (R.loadI (hy.mem hM) sz3 rfl (by first | omega | exact hmod | (rw [hmod]; omega) | (have h9 := Decidable.not_not.1 ‹¬ ¬ permP x n›; have h8 := h9.1; omega))) rfl ?_; clear hA a; intro a hA
      refine S.val hA (R.assign rfl) rfl ?_; clear hA a; intro a hA
      refine S.val hA (R.assign rfl) rfl ?_; clear hA a; intro a hA
      refine S.done ?_
      replace hA : St 81 [(1, _), (2, _), (7, _), (8, _), (9, _), (42, _), (43, _), (44, _)] a := hA.sub ((.cons rfl (.cons rfl (.cons rfl (.cons rfl (.cons rfl (.cons rfl (.cons rfl (.cons rfl .nil)))))))))
      refine Ends.seq (Ends.seq (Ends.region ?_))
      refine S.val hA (R.fieldAddr (q := 0) fi25_0 rfl rfl rfl) rfl ?_; clear hA a; intro a hA
      refine S.val hA (R.load sz3 rfl (hM.cell (k := 0) rfl rfl)) rfl ?_; clear hA a; intro a hA
      refine S.val hA (R.eql rfl rfl) rfl ?_; clear hA a; intro a hA
      refine S.done ?_
      refine Ends.ite hA rfl (fun hc7 => ?_) (fun hc7 => ?_)
      ·
       refine Ends.seq (Ends.region ?_)
       refine S.val hA (R.move rfl) rfl ?_; clear hA a; intro a hA
       refine S.val hA (R.fieldAddr (q := 5) fi25_5 rfl rfl rfl) rfl ?_; clear hA a; intro a hA
       refine S.val hA (R.load sz23 rfl (hM.cell (k := 0) rfl rfl)) rfl ?_; clear hA a; intro a hA
       refine S.val hA (R.move rfl) rfl ?_; clear hA a; intro a hA
       refine S.val hA (R.idxR hx5 (j := k) sl23 rfl rfl (by first | omega | exact hmod | (rw [hmod]; omega) | (have h9 := Decidable.not_not.1 ‹¬ ¬ permP x n›; have h8 := h9.1; omega)) (by first | omega | exact hmod | (rw [hmod]; omega) | (have h9 := Decidable.not_not.1 ‹¬ ¬ permP x n›; have h8 := h9.1; omega))) rfl ?_; clear hA a; intro a hA
       obtain ⟨ra8, rc9, hrow10, hld11⟩ := hx5.atP (i := k) (by first | omega | exact hmod | (rw [hmod]; omega) | (have h9 := Decidable.not_not.1 ‹¬ ¬ permP x n›; have h8 := h9.1; omega))
       refine S.val hA (hld11 _ _ _ _ _ _ hM sz22 rfl) rfl ?_; clear hA a; intro a hA
       refine S.val hA (R.move rfl) rfl ?_; clear hA a; intro a hA
       refine S.val hA (R.idxI hrow10 (j := (x.getD k 0).toNat) sl22 rfl rfl (by first | omega | exact hmod | (rw [hmod]; omega) | (have h9 := Decidable.not_not.1 ‹¬ ¬ permP x n›; have h8 := h9.1; omega)) (rfl)) rfl ?_; clear hA a; intro a hA
       refine S.val hA (R.loadI (hrow10.mem hM) sz3 rfl (by first | omega | exact hmod | (rw [hmod]; omega) | (have h9 := Decidable.not_not.1 ‹¬ ¬ permP x n›; have h8 := h9.1; omega))) rfl ?_; clear hA a; intro a hA
       refine S.val hA (R.addI rfl rfl (r := (sumF (stp i x) k) + (((i.cost.getD k [])).getD ((x.getD k 0).toNat) 0)) rfl (by first | omega | exact hmod | (rw [hmod]; omega) | (have h9 := Decidable.not_not.1 ‹¬ ¬ permP x n›; have h8 := h9.1; omega))) rfl ?_; clear hA a; intro a hA
       refine S.val hA (R.assign rfl) rfl ?_; clear hA a; intro a hA
       refine S.done ?_
       replace hA : St 81 [(1, _), (2, _), (7, _), (8, _), (9, _), (42, _), (43, _), (44, _)] a := hA.sub ((.cons rfl (.cons rfl (.cons rfl (.cons rfl (.cons rfl (.cons rfl (.cons rfl (.cons rfl .nil)))))))))
       refine Ends.exit rfl ?_
       refine Ends.region ?_
       refine S.val hA (R.addI rfl rfl (r := ((k : Int)) + 1) rfl (by first | omega | exact hmod | (rw [hmod]; omega) | (have h9 := Decidable.not_not.1 ‹¬ ¬ permP x n›; have h8 := h9.1; omega))) rfl ?_; clear hA a; intro a hA
       refine S.val hA (R.move rfl) rfl ?_; clear hA a; intro a hA
       refine S.done ?_
       have hs9 : sumF (stp i x) (k + 1) = (sumF (stp i x) k) + (((i.cost.getD k [])).getD ((x.getD k 0).toNat) 0) := by simp only [sumF, stp]; rw [if_pos hc7]; rfl
       rw [← hs9] at hA
       exact hNext ((k + 1)) _ _ ((by show x.length - (k + 1) < x.length - k; omega)) ⟨hA.sub ((.cons rfl (.cons rfl (.cons rfl (.cons rfl (.cons rfl (.cons rfl .nil))))))), hM, (by omega)⟩
      ·
       refine Ends.skip ?_
       refine Ends.drawn (Mem w nof [pt b1 #[.int .i64 i.kind, .int .i64 ((n : Int)), .int .i64 i.cap, .slice ax3 i.wt.length cx3, .slice ax4 i.vl.length cx4, .slice ax5 i.cost.length cx5] 25]) (.cons (0, true) (.cons (1, true) (.cons (2, true) (.cons (3, true) (.cons (4, true) (.cons (5, true) (.cons (6, true) (.cons (7, true) (.cons (8, true) (.cons (9, true) (.cons (10, true) (.cons (11, true) (.cons (12, true) (.cons (13, true) (.cons (14, true) (.cons (15, true) (.cons (16, true) (.cons (17, true) .nil)))))))))))))))))) 18 mixed (by kernel_rfl) (by kernel_rfl) (by kernel_rfl) hM.drew ?_
       replace hM := hM.drew
       refine D.valF hA rfl (fun _ => R.move rfl) rfl ?_; clear hA a; intro a hA
       refine D.valF hA rfl (fun _ => R.fieldAddr (q := 5) fi25_5 rfl rfl rfl) rfl ?_; clear hA a; intro a hA
       refine D.val hA rfl (by kernel_rfl) (fun _ hM => R.load sz23 rfl (hM.cell (k := 0) rfl rfl)) rfl ?_; clear hA a; intro a hA
       refine D.valF hA rfl (fun _ => R.move rfl) rfl ?_; clear hA a; intro a hA
       refine D.valF hA rfl (fun _ => R.idxR hx5 (j := (x.getD k 0).toNat) sl23 rfl rfl (by first | omega | exact hmod | (rw [hmod]; omega) | (have h9 := Decidable.not_not.1 ‹¬ ¬ permP x n›; have h8 := h9.1; omega)) (rfl)) rfl ?_; clear hA a; intro a hA
       obtain ⟨ra12, rc13, hrow14, hld15⟩ := hx5.atP (i := (x.getD k 0).toNat) (by first | omega | exact hmod | (rw [hmod]; omega) | (have h9 := Decidable.not_not.1 ‹¬ ¬ permP x n›; have h8 := h9.1; omega))
       refine D.val hA rfl (by kernel_rfl) (fun _ hM => hld15 _ _ _ _ _ _ hM sz22 rfl) rfl ?_; clear hA a; intro a hA
       refine D.valF hA rfl (fun _ => R.move rfl) rfl ?_; clear hA a; intro a hA
       refine D.valF hA rfl (fun _ => R.move rfl) rfl ?_; clear hA a; intro a hA
       refine D.valF hA rfl (fun _ => R.addI rfl rfl (r := ((k : Int)) + 1) rfl (by first | omega | exact hmod | (rw [hmod]; omega) | (have h9 := Decidable.not_not.1 ‹¬ ¬ permP x n›; have h8 := h9.1; omega))) rfl ?_; clear hA a; intro a hA
       refine D.valF hA rfl (fun _ => R.fieldAddr (q := 1) fi25_1 rfl rfl rfl) rfl ?_; clear hA a; intro a hA
       refine D.val hA rfl (by kernel_rfl) (fun _ hM => R.load sz3 rfl (hM.cell (k := 0) rfl rfl)) rfl ?_; clear hA a; intro a hA
       refine D.valF hA rfl (fun _ => R.remI rfl rfl (r := (((k + 1) % n : Nat) : Int)) (by first | omega | exact hmod | (rw [hmod]; omega) | (have h9 := Decidable.not_not.1 ‹¬ ¬ permP x n›; have h8 := h9.1; omega)) (by first | omega | exact hmod | (rw [hmod]; omega) | (have h9 := Decidable.not_not.1 ‹¬ ¬ permP x n›; have h8 := h9.1; omega))) rfl ?_; clear hA a; intro a hA
       refine D.valF hA rfl (fun _ => R.idxI hy (j := ((k + 1) % n)) sl22 rfl rfl (by first | omega | exact hmod | (rw [hmod]; omega) | (have h9 := Decidable.not_not.1 ‹¬ ¬ permP x n›; have h8 := h9.1; omega)) (by first | omega | exact hmod | (rw [hmod]; omega) | (have h9 := Decidable.not_not.1 ‹¬ ¬ permP x n›; have h8 := h9.1; omega))) rfl ?_; clear hA a; intro a hA
       refine D.val hA rfl (by kernel_rfl) (fun _ hM => R.loadI (hy.mem hM) sz3 rfl (by first | omega | exact hmod | (rw [hmod]; omega) | (have h9 := Decidable.not_not.1 ‹¬ ¬ permP x n›; have h8 := h9.1; omega))) rfl ?_; clear hA a; intro a hA
       refine D.valF hA rfl (fun _ => R.idxI hrow14 (j := (x.getD (((k + 1) % n)) 0).toNat) sl22 rfl rfl (by first | omega | exact hmod | (rw [hmod]; omega) | (have h9 := Decidable.not_not.1 ‹¬ ¬ permP x n›; have h8 := h9.1; omega)) (rfl)) rfl ?_; clear hA a; intro a hA
       refine D.val hA rfl (by kernel_rfl) (fun _ hM => R.loadI (hrow14.mem hM) sz3 rfl (by first | omega | exact hmod | (rw [hmod]; omega) | (have h9 := Decidable.not_not.1 ‹¬ ¬ permP x n›; have h8 := h9.1; omega))) rfl ?_; clear hA a; intro a hA
       refine D.valF hA rfl (fun _ => R.addI rfl rfl (r := (sumF (stp i x) k) + (((i.cost.getD ((x.getD k 0).toNat) [])).getD ((x.getD (((k + 1) % n)) 0).toNat) 0)) rfl (by first | omega | exact hmod | (rw [hmod]; omega) | (have h9 := Decidable.not_not.1 ‹¬ ¬ permP x n›; have h8 := h9.1; omega))) rfl ?_; clear hA a; intro a hA
       refine D.valF hA rfl (fun _ => R.assign rfl) rfl ?_; clear hA a; intro a hA
       refine D.done ?_
       replace hA : St 81 [(1, _), (2, _), (7, _), (42, _), (43, _), (44, _)] a := hA.sub ((.cons rfl (.cons rfl (.cons rfl (.cons rfl (.cons rfl (.cons rfl .nil)))))))
       refine Ends.inBlock (Ends.region ?_)
       refine S.val hA (R.addI rfl rfl (r := ((k : Int)) + 1) rfl (by first | omega | exact hmod | (rw [hmod]; omega) | (have h9 := Decidable.not_not.1 ‹¬ ¬ permP x n›; have h8 := h9.1; omega))) rfl ?_; clear hA a; intro a hA
       refine S.val hA (R.move rfl) rfl ?_; clear hA a; intro a hA
       refine S.done ?_
       have hs9 : sumF (stp i x) (k + 1) = (sumF (stp i x) k) + (((i.cost.getD ((x.getD k 0).toNat) [])).getD ((x.getD (((k + 1) % n)) 0).toNat) 0) := by simp only [sumF, stp]; rw [if_neg hc7]; rw [hnt]; rfl
       rw [← hs9] at hA
       exact hNext ((k + 1)) _ _ ((by show x.length - (k + 1) < x.length - k; omega)) ⟨hA.sub ((.cons rfl (.cons rfl (.cons rfl (.cons rfl (.cons rfl (.cons rfl .nil))))))), hM, (by omega)⟩
     ·
      have hke : k = i.n.toNat := by omega
      refine Ends.exit rfl ?_
      replace hA : St 81 [(7, _)] a := hA.sub ((.cons rfl .nil))
      refine Ends.seq (Ends.region ?_)
      refine S.val hA (R.move rfl) rfl ?_; clear hA a; intro a hA
      refine S.val hA (R.assign rfl) rfl ?_; clear hA a; intro a hA
      refine S.val hA (R.assign rfl) rfl ?_; clear hA a; intro a hA
      refine S.done ?_
      refine Ends.ret2 Try.func17 Try.results17 hA rfl rfl ?_
      have he : costI i x = (sumF (stp i x) i.n.toNat, 0) := by unfold costI; rw [if_neg (not_not_intro hz), if_neg hkn, if_neg (not_not_intro ho)]
      exact ⟨by rw [he, hke], Mem.trans0 hbs hM.nilL⟩
   ·
    refine Ends.region ?_
    refine S.val hA (R.move rfl) rfl ?_; clear hA a; intro a hA
    refine S.val hA (R.fieldAddr (q := 1) fi25_1 rfl rfl rfl) rfl ?_; clear hA a; intro a hA
    refine S.val hA (R.load sz3 rfl (hM.cell (k := 0) rfl rfl)) rfl ?_; clear hA a; intro a hA
    refine S.call hA (R.callF Try.func42 rfl rfl rfl) rfl (order08 ay x cy n (by omega) (by omega) _ (hy.mem hM)) ?_; clear hA a
    rintro e w6 ⟨rfl, hb⟩
    replace hM := hM.callB hb; clear hb
    refine ⟨.bool (decide (permP x n)), rfl, fun a hA => ?_⟩
    refine S.val hA (R.notD rfl) rfl ?_; clear hA a; intro a hA
    refine S.val hA (R.move rfl) rfl ?_; clear hA a; intro a hA
    refine hA.split (d := 31) rfl ?_ ?_
    ·
     clear hA; intro hg16 hA
     refine S.no (dj := 31) hA (by kernel_rfl) rfl rfl rfl ?_; clear hA a; intro a hA
     refine S.no (dj := 31) hA (by kernel_rfl) rfl rfl rfl ?_; clear hA a; intro a hA
     refine S.no (dj := 31) hA (by kernel_rfl) rfl rfl rfl ?_; clear hA a; intro a hA
     refine S.no (dj := 31) hA (by kernel_rfl) rfl rfl rfl ?_; clear hA a; intro a hA
     refine S.noU (dj := 35) hA (by kernel_rfl) rfl rfl ?_; clear hA a; intro a hA
     refine S.noU (dj := 35) hA (by kernel_rfl) rfl rfl ?_; clear hA a; intro a hA
     refine S.noU (dj := 35) hA (by kernel_rfl) rfl rfl ?_; clear hA a; intro a hA
     refine S.noU (dj := 35) hA (by kernel_rfl) rfl rfl ?_; clear hA a; intro a hA
     refine S.no (dj := 31) hA (by kernel_rfl) rfl rfl rfl ?_; clear hA a; intro a hA
     refine S.val hA (R.pickT rfl rfl) rfl ?_; clear hA a; intro a hA
     refine S.val hA (R.assign rfl) rfl ?_; clear hA a; intro a hA
     refine S.done ?_
     replace hA : St 81 [(1, _), (2, _), (25, _)] a := hA.sub ((.cons rfl (.cons rfl (.cons rfl .nil))))
     exact hJ _ _ ⟨hA.sub (.cons rfl (.cons rfl (.cons (by first | rfl | exact congrArg (fun b => some (Value.bool b)) (by first | exact decide_eq_decide.2 (by omega) | exact or_bool (by omega) | exact and_bool (by omega) | (simp; done) | (simp [hg16]; done) | (have h80 := hg16; (try simp at h80); simp [h80]; done) | exact (decide_eq_false (fun h9 => hg16 h9.1)).symm)) .nil))), hM⟩
    ·
     clear hA; intro hg16 hA
     refine S.valg (dj := 31) hA (by kernel_rfl) rfl (R.fieldAddr (q := 0) fi25_0 rfl rfl rfl) rfl ?_; clear hA a; intro a hA
     refine S.valg (dj := 31) hA (by kernel_rfl) rfl (R.load sz3 rfl (hM.cell (k := 0) rfl rfl)) rfl ?_; clear hA a; intro a hA
     refine S.valg (dj := 31) hA (by kernel_rfl) rfl (R.eql rfl rfl) rfl ?_; clear hA a; intro a hA
     refine S.valg (dj := 31) hA (by kernel_rfl) rfl (R.move rfl) rfl ?_; clear hA a; intro a hA
     refine hA.split (d := 35) rfl ?_ ?_
     ·
      clear hA; intro hg17 hA
      refine S.valg (dj := 35) hA (by kernel_rfl) rfl (R.move rfl) rfl ?_; clear hA a; intro a hA
      refine S.valg (dj := 35) hA (by kernel_rfl) rfl (R.idxI hy (j := 0) sl22 rfl rfl (by first | omega | exact hmod | (rw [hmod]; omega) | (have h9 := Decidable.not_not.1 ‹¬ ¬ permP x n›; have h8 := h9.1; omega)) (rfl)) rfl ?_; clear hA a; intro a hA
      refine S.valg (dj := 35) hA (by kernel_rfl) rfl (R.loadI (hy.mem hM) sz3 rfl (by first | omega | exact hmod | (rw [hmod]; omega) | (have h9 := Decidable.not_not.1 ‹¬ ¬ permP x n›; have h8 := h9.1; omega))) rfl ?_; clear hA a; intro a hA
      refine S.valg (dj := 35) hA (by kernel_rfl) rfl (R.neq rfl rfl) rfl ?_; clear hA a; intro a hA
      refine S.valg (dj := 31) hA (by kernel_rfl) rfl (R.pickT rfl rfl) rfl ?_; clear hA a; intro a hA
      refine S.val hA (R.pickF rfl rfl) rfl ?_; clear hA a; intro a hA
      refine S.val hA (R.assign rfl) rfl ?_; clear hA a; intro a hA
      refine S.done ?_
      replace hA : St 81 [(1, _), (2, _), (25, _)] a := hA.sub ((.cons rfl (.cons rfl (.cons rfl .nil))))
      exact hJ _ _ ⟨hA.sub (.cons rfl (.cons rfl (.cons (by first | rfl | exact congrArg (fun b => some (Value.bool b)) (by first | exact decide_eq_decide.2 (by omega) | exact or_bool (by omega) | exact and_bool (by omega) | (simp; done) | (simp [hg16, hg17]; done) | (have h80 := hg16; (try simp at h80); have h81 := hg17; (try simp at h81); simp [h80, h81]; done) | exact (decide_eq_false (fun h9 => hg16 h9.1)).symm | exact (decide_eq_false (fun h9 => hg17 h9.1)).symm)) .nil))), hM⟩
     ·
      clear hA; intro hg17 hA
      refine S.no (dj := 35) hA (by kernel_rfl) rfl rfl rfl ?_; clear hA a; intro a hA
      refine S.no (dj := 35) hA (by kernel_rfl) rfl rfl rfl ?_; clear hA a; intro a hA
      refine S.no (dj := 35) hA (by kernel_rfl) rfl rfl rfl ?_; clear hA a; intro a hA
      refine S.no (dj := 35) hA (by kernel_rfl) rfl rfl rfl ?_; clear hA a; intro a hA
      refine S.valg (dj := 31) hA (by kernel_rfl) rfl (R.pickF rfl rfl) rfl ?_; clear hA a; intro a hA
      refine S.val hA (R.pickF rfl rfl) rfl ?_; clear hA a; intro a hA
      refine S.val hA (R.assign rfl) rfl ?_; clear hA a; intro a hA
      refine S.done ?_
      replace hA : St 81 [(1, _), (2, _), (25, _)] a := hA.sub ((.cons rfl (.cons rfl (.cons rfl .nil))))
      exact hJ _ _ ⟨hA.sub (.cons rfl (.cons rfl (.cons (by first | rfl | exact congrArg (fun b => some (Value.bool b)) (by first | exact decide_eq_decide.2 (by omega) | exact or_bool (by omega) | exact and_bool (by omega) | (simp; done) | (simp [hg16, hg17]; done) | (have h80 := hg16; (try simp at h80); have h81 := hg17; (try simp at h81); simp [h80, h81]; done) | exact (decide_eq_false (fun h9 => hg16 h9.1)).symm | exact (decide_eq_false (fun h9 => hg17 h9.1)).symm)) .nil))), hM⟩
end Go.Proofs.Ytnikajkklocncaa
namespace Go.Proofs.Ytnikajkklocncaa
theorem perm_isum {l l' : List Int} (h : l.Perm l') : l.sum = l'.sum := by
  induction h with
  | nil => rfl
  | cons a _ ih => rw [List.sum_cons, List.sum_cons, ih]
  | swap a b l => simp only [List.sum_cons]; omega
  | trans _ _ a b => exact a.trans b
theorem sumF_map (x : List Int) (f : Int → Int) : sumF (fun q => f (x.getD q 0)) x.length = (x.map f).sum := by
  rw [← sumF_list (x.map f), List.length_map]
  exact sumF_congr (fun q hq => by simp [List.getD, hq])
theorem permP.perm {x y : List Int} {n : Nat} (h : permP x n) (h' : permP y n) : x.Perm y := by
  refine List.perm_iff_count.2 (fun a => ?_)
  by_cases ha : 0 ≤ a ∧ a < n
  · obtain ⟨k, rfl⟩ : ∃ k : Nat, a = k := ⟨a.toNat, by omega⟩
    rw [h.2 k (by omega), h'.2 k (by omega)]
  · rw [List.count_eq_zero.2 (fun q => ha (h.mem q)), List.count_eq_zero.2 (fun q => ha (h'.mem q))]
def rng (n : Nat) : List Int := (List.range n).map Int.ofNat
theorem rng_len (n : Nat) : (rng n).length = n := by simp [rng]
theorem rng_get {n q : Nat} (h : q < n) : (rng n).getD q 0 = q := by simp [rng, List.getD, h]
theorem rng_perm {n : Nat} (hn : n ≤ 128) : permP (rng n) n := by
  refine (perm_set hn).1 ⟨rng_len n, fun b _ => ?_⟩
  unfold memF lessF
  refine decide_eq_decide.2 ⟨fun h => ?_, fun h => ?_⟩
  · obtain ⟨c, hc, e⟩ := List.mem_map.1 h
    have h1 := List.mem_range.1 hc
    have h2 : (c : Int) = (b : Int) := e
    omega
  · exact List.mem_map.2 ⟨b, List.mem_range.2 h, rfl⟩
theorem perm_sum {x : List Int} {n : Nat} (hn : n ≤ 128) (h : permP x n) (g : Nat → Int) : sumF (fun q => g (x.getD q 0).toNat) n = sumF g n := by
  have h1 := sumF_map x (fun v => g v.toNat)
  have h2 := sumF_map (rng n) (fun v => g v.toNat)
  have h3 := perm_isum ((h.perm (rng_perm hn)).map (fun v => g v.toNat))
  rw [h.1] at h1
  rw [rng_len] at h2
  rw [h1, h3, ← h2]
  exact sumF_congr (fun q hq => by rw [rng_get hq]; rfl)
theorem cl2_le {i : Ins} (h : InF i) (r c : Int) : cl2 i r c ≤ mxR i r.toNat := by
  unfold cl2 mxR
  by_cases hc : c.toNat < (i.cost.getD r.toNat []).length
  · exact mxF_le (f := fun c => (i.cost.getD r.toNat []).getD c 0) hc
  · rw [getD_out (by omega)]
    exact (mxF_bd (B := 2147483647) (by decide) (fun q _ => (h.cell r.toNat q).2)).1
theorem stp_le_tot {i : Ins} (hF : InF i) (hk : i.kind ≠ 1) {x : List Int} (h : permP x i.n.toNat) : sumF (stp i x) i.n.toNat ≤ sumF (mxR i) i.n.toNat := by
  have hn := hF.n24 hk
  by_cases h2 : i.kind = 2
  · refine sumF_le (fun q _ => ?_)
    unfold stp
    rw [if_pos h2]
    exact cl2_le hF q _
  · rw [← perm_sum (by omega) h (mxR i)]
    refine sumF_le (fun q _ => ?_)
    unfold stp
    rw [if_neg h2]
    exact cl2_le hF _ _
theorem vl_nil {i : Ins} (hF : InF i) (hk : i.kind ≠ 1) : i.vl = [] := by
  have := hF.vl
  rw [if_neg hk] at this
  exact List.eq_nil_of_length_eq_zero this
theorem vlF_le {i : Ins} (hF : InF i) (x : List Int) : sumF (vlF i x) i.vl.length ≤ i.vl.sum := by
  rw [← sumF_list]
  refine sumF_le (fun q _ => ?_)
  have := (hF.vlr q).1
  unfold vlF
  split <;> omega
def rtF (i : Ins) (k : Nat) : Int := if i.kind = 1 then i.vl.getD k 0 else mxR i k
theorem rtF_bd {i : Ins} (h : InF i) (k : Nat) : 0 ≤ rtF i k ∧ rtF i k ≤ 2147483647 := by
  unfold rtF
  split
  · exact h.vlr k
  · exact mxF_bd (by decide) (fun q _ => (h.cell k q).2)
theorem rtF_sum {i : Ins} (h : InF i) : sumF (rtF i) i.n.toNat = i.vl.sum + sumF (mxR i) i.cost.length := by
  have hv := h.vl
  have hc := h.cost
  by_cases hk : i.kind = 1
  · rw [if_pos hk] at hv hc
    rw [hc, ← sumF_list, hv, sumF_congr (g := fun q => i.vl.getD q 0) (fun q _ => by unfold rtF; rw [if_pos hk])]
    simp [sumF]
  · rw [if_neg hk] at hc
    rw [hc, vl_nil h hk, sumF_congr (g := mxR i) (fun q _ => by unfold rtF; rw [if_neg hk])]
    simp
theorem perm_of {x y : List Int} {n : Nat} (h : permP x n) (p : y.Perm x) : permP y n := ⟨by rw [p.length_eq, h.1], fun k hk => by rw [p.count_eq, h.2 k hk]⟩
end Go.Proofs.Ytnikajkklocncaa
namespace Go.Proofs.Ytnikajkklocncaa
open Go.RowKit
theorem costI_chk {i : Ins} {x : List Int} (h : (costI i x).2 = 0) : chk i = 0 := by
  refine Decidable.byContradiction fun g => ?_
  unfold costI at h
  rw [if_pos g] at h
  exact g h
theorem tot_eq {i : Ins} (h : chk i = 0) : totI i = sumF (rtF i) i.n.toNat := by
  unfold totI; rw [if_neg (not_not_intro h), rtF_sum (chk_inF h)]
theorem tot_bd (i : Ins) : 0 ≤ totI i ∧ totI i ≤ 64 * 2147483647 := by
  by_cases h : chk i = 0
  · rw [tot_eq h]
    have hF := chk_inF h
    have h1 := sumF_bd (f := rtF i) (B := 2147483647) (by decide) (k := i.n.toNat) (fun q _ => rtF_bd hF q)
    have := hF.n64
    omega
  · unfold totI; rw [if_pos h]; decide
theorem costI_kn {i : Ins} {x : List Int} (h : chk i = 0) (hk : i.kind = 1) : costI i x = knpI i x := by unfold costI; rw [if_neg (not_not_intro h), if_pos hk]
theorem costI_or {i : Ins} {x : List Int} (h : chk i = 0) (hk : ¬ i.kind = 1) : costI i x = if ¬ ordP i x then (0, 1) else (sumF (stp i x) i.n.toNat, 0) := by unfold costI; rw [if_neg (not_not_intro h), if_neg hk]
theorem cost_tot {i : Ins} (x : List Int) : (costI i x).1 ≤ totI i := by
  have ht := (tot_bd i).1
  by_cases h : chk i = 0
  · have hF := chk_inF h
    by_cases hk : i.kind = 1
    · rw [costI_kn h hk]
      unfold knpI
      split
      · exact ht
      · rename_i hl
        split
        · exact ht
        · split
          · exact ht
          · have e : totI i = i.vl.sum := by
              have hc := hF.cost
              rw [if_pos hk] at hc
              unfold totI; rw [if_neg (not_not_intro h), hc]; simp [sumF]
            have hv := hF.vl
            rw [if_pos hk] at hv
            have := vlF_le hF x
            rw [e]
            rw [show x.length = i.vl.length by omega]
            exact this
    · rw [costI_or h hk]
      split
      · exact ht
      · rename_i ho
        have ho := Decidable.not_not.1 ho
        have e : totI i = sumF (mxR i) i.n.toNat := by
          have hc := hF.cost
          rw [if_neg hk] at hc
          unfold totI; rw [if_neg (not_not_intro h), hc, vl_nil hF hk]; simp
        rw [e]
        exact stp_le_tot hF hk ho.1
  · unfold costI; rw [if_pos h]; exact ht
theorem rep_get (n q : Nat) : (List.replicate n (0 : Int)).getD q 0 = 0 := by
  rw [List.getD_eq_getElem?_getD, List.getElem?_replicate]; split <;> rfl
theorem pln_cost {i : Ins} (h : chk i = 0) : (costI i (plnI i)).2 = 0 := by
  have hF := chk_inF h
  have h1 := hF.n1
  by_cases hk : i.kind = 1
  · have e : plnI i = List.replicate i.n.toNat 0 := by unfold plnI; rw [if_neg (not_not_intro h), if_pos hk]
    rw [costI_kn h hk, e]
    unfold knpI
    have hl : (List.replicate i.n.toNat (0 : Int)).length = i.n.toNat := List.length_replicate
    have hz : sumF (wtF i (List.replicate i.n.toNat 0)) (List.replicate i.n.toNat (0 : Int)).length = 0 := by
      have : ∀ k, sumF (wtF i (List.replicate i.n.toNat 0)) k = 0 := fun k => by
        induction k with
        | zero => rfl
        | succ k ih => simp only [sumF]; rw [ih]; unfold wtF; rw [rep_get, if_neg (by decide)]; rfl
      exact this _
    have hb : bitP (List.replicate i.n.toNat 0) (List.replicate i.n.toNat (0 : Int)).length := fun q _ => .inl (rep_get _ q)
    rw [if_neg (not_not_intro (by rw [hl]; omega)), if_neg (not_not_intro hb), hz, if_neg (by have := hF.cap.1; omega)]
  · have e : plnI i = rng i.n.toNat := by unfold plnI; rw [if_neg (not_not_intro h), if_neg hk]; rfl
    have hn := hF.n24 hk
    rw [costI_or h hk, e]
    have ho : ordP i (rng i.n.toNat) := ⟨rng_perm (by omega), fun _ => by rw [rng_get (by omega)]; rfl⟩
    rw [if_neg (not_not_intro ho)]
theorem pln_len {i : Ins} (h : chk i = 0) : (plnI i).length = i.n.toNat := by
  unfold plnI; rw [if_neg (not_not_intro h)]; split
  · exact List.length_replicate
  · simp
theorem pln_no {i : Ins} (h : ¬ chk i = 0) : plnI i = [] := if_pos h
theorem pln_kn {i : Ins} (h : chk i = 0) (hk : i.kind = 1) : List.replicate i.n.toNat 0 = plnI i := by unfold plnI; rw [if_neg (not_not_intro h), if_pos hk]
theorem pln_or {i : Ins} (h : chk i = 0) (hk : ¬ i.kind = 1) : (List.range i.n.toNat).map Int.ofNat = plnI i := by unfold plnI; rw [if_neg (not_not_intro h), if_neg hk]
theorem fil_set (n k : Nat) (h : k < n) : ((List.range k).map Int.ofNat ++ List.replicate (n - k) 0).set k (k : Int) = (List.range (k + 1)).map Int.ofNat ++ List.replicate (n - (k + 1)) 0 := by
  rw [List.set_append_right _ _ (by simp), List.range_succ, List.map_append, List.append_assoc]
  simp only [List.length_map, List.length_range, Nat.sub_self]
  rw [show n - k = (n - (k + 1)) + 1 by omega, List.replicate_succ, List.set_cons_zero]
  rfl
theorem fil_len (n k : Nat) (h : k ≤ n) : ((List.range k).map Int.ofNat ++ List.replicate (n - k) (0 : Int)).length = n := by
  rw [List.length_append, List.length_map, List.length_range, List.length_replicate]; omega
theorem fil_all (n k : Nat) (h : k = n) : (List.range k).map Int.ofNat ++ List.replicate (n - k) (0 : Int) = (List.range n).map Int.ofNat := by subst h; simp
theorem fil_zero (n : Nat) : List.replicate n (0 : Int) = (List.range 0).map Int.ofNat ++ List.replicate (n - 0) 0 := rfl
set_option maxRecDepth 100000 in
set_option maxHeartbeats 400000 in
theorem of08 (i : Ins) (ax3 : Option Addr) (cx3 : Nat) (ax4 : Option Addr) (cx4 : Nat) (ax5 : Option Addr) (cx5 : Nat) (c : Int) (hF : InF i) (hc : 0 ≤ c ∧ c ≤ 64 * 2147483647) (w : World) (hx3 : IntSl w (.slice ax3 i.wt.length cx3) i.wt) (hx4 : IntSl w (.slice ax4 i.vl.length cx4) i.vl) (hx5 : RowsV w (.slice ax5 i.cost.length cx5) i.cost) :
  Calls Try.prog 23 #[.agg #[.int .i64 i.kind, .int .i64 i.n, .int .i64 i.cap, .slice ax3 i.wt.length cx3, .slice ax4 i.vl.length cx4, .slice ax5 i.cost.length cx5], .int .i64 c] w fun e w' => e = .returned (.int .i64 (ofI i c)) ∧ Below w.heap.size w w' := by
 have hbs := Below.refl (B := w.heap.size) w
 have f2 := hF.n1
 have f3 := hF.n64
 have f5 := hF.wt
 have f6 := hF.vl
 have f7 := hF.cost
 have hlx0 := inF_len hF
 have hvs := vl_sum hF
 have hM := Mem.start w
 refine Calls.of_ends (vs := [.agg #[.int .i64 i.kind, .int .i64 i.n, .int .i64 i.cap, .slice ax3 i.wt.length cx3, .slice ax4 i.vl.length cx4, .slice ax5 i.cost.length cx5], .int .i64 c]) Try.func23 rfl Try.ntmps23 rfl ?_
 intro a hA
 replace hA : St 14 [(0, _), (1, _)] a := hA
 refine Ends.seq (Ends.region ?_)
 refine S.box hA hM rfl rfl ?_; clear hA hM a; intro b1 w1 hb2 hM a hA
 replace hM : Mem _ _ [pt b1 #[.int .i64 i.kind, .int .i64 i.n, .int .i64 i.cap, .slice ax3 i.wt.length cx3, .slice ax4 i.vl.length cx4, .slice ax5 i.cost.length cx5] 25] _ := hM
 refine S.val hA (R.assign rfl) rfl ?_; clear hA a; intro a hA
 refine S.done ?_
 refine Ends.seq (Ends.seq (Ends.region ?_))
 refine S.val hA (R.fieldAddr (q := 0) fi25_0 rfl rfl rfl) rfl ?_; clear hA a; intro a hA
 refine S.val hA (R.load sz3 rfl (hM.cell (k := 0) rfl rfl)) rfl ?_; clear hA a; intro a hA
 refine S.val hA (R.eql rfl rfl) rfl ?_; clear hA a; intro a hA
 refine S.done ?_
 replace hA : St 14 [(1, _), (2, _), (7, _)] a := hA.sub ((.cons rfl (.cons rfl (.cons rfl .nil))))
 refine Ends.ite hA rfl (fun hc3 => ?_) (fun hc3 => ?_)
 ·
  refine Ends.seq (Ends.region ?_)
  refine S.val hA (R.fieldAddr (q := 4) fi25_4 rfl rfl rfl) rfl ?_; clear hA a; intro a hA
  refine S.val hA (R.load sz22 rfl (hM.cell (k := 0) rfl rfl)) rfl ?_; clear hA a; intro a hA
  refine S.call hA (R.callF Try.func43 rfl rfl rfl) rfl (total08 ax4 i.vl cx4 (by omega) (fun q => hF.vlr q) _ (hx4.mem hM)) ?_; clear hA a
  rintro e w2 ⟨rfl, hb⟩
  replace hM := hM.callB hb; clear hb
  refine ⟨.int .i64 i.vl.sum, rfl, fun a hA => ?_⟩
  refine S.val hA (R.move rfl) rfl ?_; clear hA a; intro a hA
  refine S.val hA (R.subI rfl rfl (r := i.vl.sum - c) rfl (by omega)) rfl ?_; clear hA a; intro a hA
  refine S.val hA (R.assign rfl) rfl ?_; clear hA a; intro a hA
  refine S.done ?_
  replace hA : St 14 [(1, _), (4, _)] a := hA.sub ((.cons rfl (.cons rfl .nil)))
  refine Ends.ret1 Try.func23 Try.results23 hA rfl ?_
  exact ⟨by unfold ofI; rw [if_pos hc3], Mem.trans0 hbs hM.nilL⟩
 ·
  refine Ends.skip (Ends.seq (Ends.region ?_))
  refine S.val hA (R.move rfl) rfl ?_; clear hA a; intro a hA
  refine S.val hA (R.assign rfl) rfl ?_; clear hA a; intro a hA
  refine S.done ?_
  replace hA : St 14 [(4, _)] a := hA.sub ((.cons rfl .nil))
  refine Ends.ret1 Try.func23 Try.results23 hA rfl ?_
  exact ⟨by unfold ofI; rw [if_neg hc3], Mem.trans0 hbs hM.nilL⟩
set_option maxRecDepth 100000 in
set_option maxHeartbeats 400000 in
theorem val08 (i : Ins) (ax3 : Option Addr) (cx3 : Nat) (ax4 : Option Addr) (cx4 : Nat) (ax5 : Option Addr) (cx5 : Nat) (ay : Option Addr) (x : List Int) (cy : Nat) (hsm : i.wt.length ≤ 1000000 ∧ i.vl.length ≤ 1000000) (w : World) (hx3 : IntSl w (.slice ax3 i.wt.length cx3) i.wt) (hx4 : IntSl w (.slice ax4 i.vl.length cx4) i.vl) (hx5 : RowsV w (.slice ax5 i.cost.length cx5) i.cost) (hy : IntSl w (.slice ay x.length cy) x) :
  Calls Try.prog 19 #[.agg #[.int .i64 i.kind, .int .i64 i.n, .int .i64 i.cap, .slice ax3 i.wt.length cx3, .slice ax4 i.vl.length cx4, .slice ax5 i.cost.length cx5], .slice ay x.length cy] w fun e w' => e = .returned (.tuple #[.int .i64 (valI i x).1, .int .i64 (valI i x).2]) ∧ Below w.heap.size w w' := by
 have hbs := Below.refl (B := w.heap.size) w
 have hM := Mem.start w
 refine Calls.of_ends (vs := [.agg #[.int .i64 i.kind, .int .i64 i.n, .int .i64 i.cap, .slice ax3 i.wt.length cx3, .slice ax4 i.vl.length cx4, .slice ax5 i.cost.length cx5], .slice ay x.length cy]) Try.func19 rfl Try.ntmps19 rfl ?_
 intro a hA
 replace hA : St 20 [(0, _), (1, _)] a := hA
 refine Ends.seq (Ends.region ?_)
 refine S.box hA hM rfl rfl ?_; clear hA hM a; intro b1 w1 hb2 hM a hA
 replace hM : Mem _ _ [pt b1 #[.int .i64 i.kind, .int .i64 i.n, .int .i64 i.cap, .slice ax3 i.wt.length cx3, .slice ax4 i.vl.length cx4, .slice ax5 i.cost.length cx5] 25] _ := hM
 refine S.val hA (R.assign rfl) rfl ?_; clear hA a; intro a hA
 refine S.val hA (R.assign rfl) rfl ?_; clear hA a; intro a hA
 refine S.done ?_
 refine Ends.seq (Ends.region ?_)
 refine S.val hA (R.loadA sz25 rfl (hM.range (k := 0) rfl) rfl) rfl ?_; clear hA a; intro a hA
 refine S.val hA (R.move rfl) rfl ?_; clear hA a; intro a hA
 refine S.call hA (R.callF Try.func17 rfl rfl rfl) rfl (cost08 i ax3 cx3 ax4 cx4 ax5 cx5 ay x cy hsm _ (hx3.mem hM) (hx4.mem hM) (hx5.mem hM) (hy.mem hM)) ?_; clear hA a
 rintro e w2 ⟨rfl, hb⟩
 replace hM := hM.callB hb; clear hb
 refine ⟨.tuple #[.int .i64 ((costI i x).1), .int .i64 ((costI i x).2)], rfl, fun a hA => ?_⟩
 refine S.val hA (R.move rfl) rfl ?_; clear hA a; intro a hA
 refine S.val hA (R.extract (v := .int .i64 ((costI i x).1)) rfl rfl) rfl ?_; clear hA a; intro a hA
 refine S.val hA (R.extract (v := .int .i64 ((costI i x).2)) rfl rfl) rfl ?_; clear hA a; intro a hA
 refine S.val hA (R.assign rfl) rfl ?_; clear hA a; intro a hA
 refine S.val hA (R.assign rfl) rfl ?_; clear hA a; intro a hA
 refine S.done ?_
 replace hA : St 20 [(2, _), (6, _), (7, _)] a := hA.sub ((.cons rfl (.cons rfl (.cons rfl .nil))))
 refine Ends.seq (Ends.seq (Ends.region ?_))
 refine S.val hA (R.move rfl) rfl ?_; clear hA a; intro a hA
 refine S.val hA (R.neq rfl rfl) rfl ?_; clear hA a; intro a hA
 refine S.done ?_
 refine Ends.ite hA rfl (fun hc3 => ?_) (fun hc3 => ?_)
 ·
  refine Ends.seq (Ends.region ?_)
  refine S.val hA (R.move rfl) rfl ?_; clear hA a; intro a hA
  refine S.val hA (R.assign rfl) rfl ?_; clear hA a; intro a hA
  refine S.val hA (R.assign rfl) rfl ?_; clear hA a; intro a hA
  refine S.done ?_
  replace hA : St 20 [(2, _), (4, _), (5, _), (6, _)] a := hA.sub ((.cons rfl (.cons rfl (.cons rfl (.cons rfl .nil)))))
  refine Ends.ret2 Try.func19 Try.results19 hA rfl rfl ?_
  exact ⟨by unfold valI; rw [if_pos hc3], Mem.trans0 hbs hM.nilL⟩
 ·
  have hz0 : (costI i x).2 = 0 := Decidable.not_not.1 hc3
  have hF := chk_inF (costI_chk hz0)
  have hcb := cost_bd i x
  refine Ends.skip (Ends.seq (Ends.region ?_))
  refine S.val hA (R.loadA sz25 rfl (hM.range (k := 0) rfl) rfl) rfl ?_; clear hA a; intro a hA
  refine S.val hA (R.move rfl) rfl ?_; clear hA a; intro a hA
  refine S.call hA (R.callF Try.func23 rfl rfl rfl) rfl (of08 i ax3 cx3 ax4 cx4 ax5 cx5 ((costI i x).1) hF (by omega) _ (hx3.mem hM) (hx4.mem hM) (hx5.mem hM)) ?_; clear hA a
  rintro e w3 ⟨rfl, hb⟩
  replace hM := hM.callB hb; clear hb
  refine ⟨.int .i64 (ofI i ((costI i x).1)), rfl, fun a hA => ?_⟩
  refine S.val hA (R.assign rfl) rfl ?_; clear hA a; intro a hA
  refine S.val hA (R.assign rfl) rfl ?_; clear hA a; intro a hA
  refine S.done ?_
  replace hA : St 20 [(4, _), (5, _)] a := hA.sub ((.cons rfl (.cons rfl .nil)))
  refine Ends.ret2 Try.func19 Try.results19 hA rfl rfl ?_
  exact ⟨by unfold valI; rw [if_neg (not_not_intro hz0)], Mem.trans0 hbs hM.nilL⟩
set_option maxRecDepth 100000 in
set_option maxHeartbeats 400000 in
theorem tot08 (i : Ins) (ax3 : Option Addr) (cx3 : Nat) (ax4 : Option Addr) (cx4 : Nat) (ax5 : Option Addr) (cx5 : Nat) (hsm : i.wt.length ≤ 1000000 ∧ i.vl.length ≤ 1000000) (w : World) (hx3 : IntSl w (.slice ax3 i.wt.length cx3) i.wt) (hx4 : IntSl w (.slice ax4 i.vl.length cx4) i.vl) (hx5 : RowsV w (.slice ax5 i.cost.length cx5) i.cost) :
  Calls Try.prog 18 #[.agg #[.int .i64 i.kind, .int .i64 i.n, .int .i64 i.cap, .slice ax3 i.wt.length cx3, .slice ax4 i.vl.length cx4, .slice ax5 i.cost.length cx5]] w fun e w' => e = .returned (.int .i64 (totI i)) ∧ Below w.heap.size w w' := by
 have hbs := Below.refl (B := w.heap.size) w
 have hM := Mem.start w
 refine Calls.of_ends (vs := [.agg #[.int .i64 i.kind, .int .i64 i.n, .int .i64 i.cap, .slice ax3 i.wt.length cx3, .slice ax4 i.vl.length cx4, .slice ax5 i.cost.length cx5]]) Try.func18 rfl Try.ntmps18 rfl ?_
 intro a hA
 replace hA : St 25 [(0, _)] a := hA
 refine Ends.seq (Ends.region ?_)
 refine S.box hA hM rfl rfl ?_; clear hA hM a; intro b1 w1 hb2 hM a hA
 replace hM : Mem _ _ [pt b1 #[.int .i64 i.kind, .int .i64 i.n, .int .i64 i.cap, .slice ax3 i.wt.length cx3, .slice ax4 i.vl.length cx4, .slice ax5 i.cost.length cx5] 25] _ := hM
 refine S.val hA (R.assign rfl) rfl ?_; clear hA a; intro a hA
 refine S.done ?_
 refine Ends.seq (Ends.seq (Ends.region ?_))
 refine S.val hA (R.loadA sz25 rfl (hM.range (k := 0) rfl) rfl) rfl ?_; clear hA a; intro a hA
 refine S.call hA (R.callF Try.func35 rfl rfl rfl) rfl (check05 i ax3 cx3 ax4 cx4 ax5 cx5 hsm _ (hx3.mem hM) (hx4.mem hM) (hx5.mem hM)) ?_; clear hA a
 rintro e w2 ⟨rfl, hb⟩
 replace hM := hM.callB hb; clear hb
 refine ⟨.int .i64 (chk i), rfl, fun a hA => ?_⟩
 refine S.val hA (R.neq rfl rfl) rfl ?_; clear hA a; intro a hA
 refine S.done ?_
 replace hA : St 25 [(1, _), (8, _)] a := hA.sub ((.cons rfl (.cons rfl .nil)))
 refine Ends.ite hA rfl (fun hc3 => ?_) (fun hc3 => ?_)
 ·
  refine Ends.seq (Ends.region ?_)
  refine S.val hA (R.assign rfl) rfl ?_; clear hA a; intro a hA
  refine S.done ?_
  refine Ends.ret1 Try.func18 Try.results18 hA rfl ?_
  exact ⟨by unfold totI; rw [if_pos hc3], Mem.trans0 hbs hM.nilL⟩
 ·
  have hz : chk i = 0 := Decidable.not_not.1 hc3
  have hF := chk_inF hz
  have f2 := hF.n1
  have f3 := hF.n64
  have f5 := hF.wt
  have f6 := hF.vl
  have f7 := hF.cost
  have hlx0 := inF_len hF
  have hvs := vl_sum hF
  have hrow := hF.row
  refine Ends.skip (Ends.seq (Ends.region ?_))
  refine S.val hA (R.fieldAddr (q := 4) fi25_4 rfl rfl rfl) rfl ?_; clear hA a; intro a hA
  refine S.val hA (R.load sz22 rfl (hM.cell (k := 0) rfl rfl)) rfl ?_; clear hA a; intro a hA
  refine S.call hA (R.callF Try.func43 rfl rfl rfl) rfl (total08 ax4 i.vl cx4 (by omega) (fun q => hF.vlr q) _ (hx4.mem hM)) ?_; clear hA a
  rintro e w3 ⟨rfl, hb⟩
  replace hM := hM.callB hb; clear hb
  refine ⟨.int .i64 i.vl.sum, rfl, fun a hA => ?_⟩
  refine S.val hA (R.assign rfl) rfl ?_; clear hA a; intro a hA
  refine S.done ?_
  replace hA : St 25 [(1, _), (3, _)] a := hA.sub ((.cons rfl (.cons rfl .nil)))
  refine Ends.seq (Ends.seq (Ends.region ?_))
  refine S.val hA (R.fieldAddr (q := 5) fi25_5 rfl rfl rfl) rfl ?_; clear hA a; intro a hA
  refine S.val hA (R.load sz23 rfl (hM.cell (k := 0) rfl rfl)) rfl ?_; clear hA a; intro a hA
  refine S.val hA (R.lenS Try.underlying23 rfl rfl) rfl ?_; clear hA a; intro a hA
  refine S.val hA (R.move rfl) rfl ?_; clear hA a; intro a hA
  refine S.done ?_
  refine Ends.block ?_
  rw [show i.vl.sum = i.vl.sum + sumF (mxR i) 0 by simp [sumF]] at hA
  refine Ends.loop (σ := Nat) (fun r (a : Act) (wv : World) => St 25 [(3, .int .i64 (i.vl.sum + sumF (mxR i) r)), (13, .slice ax5 i.cost.length cx5), (14, .int .i64 ((i.cost.length : Int))), (15, .int .i64 ((r : Int)))] a ∧ Mem w nof [pt b1 #[.int .i64 i.kind, .int .i64 i.n, .int .i64 i.cap, .slice ax3 i.wt.length cx3, .slice ax4 i.vl.length cx4, .slice ax5 i.cost.length cx5] 25] wv ∧ (r ≤ i.cost.length)) (fun r => i.cost.length - r) 0 ⟨hA.sub ((.cons rfl (.cons rfl (.cons rfl (.cons rfl .nil))))), hM, (Nat.zero_le _)⟩ ?_
  clear hA hM a
  rintro r a w4 ⟨hA, hM, hr⟩ hNext
  refine Ends.seq (Ends.region ?_)
  refine S.val hA (R.lss rfl rfl) rfl ?_; clear hA a; intro a hA
  refine S.done ?_
  refine Ends.seq ?_
  refine Ends.ite hA rfl (fun hc4 => ?_) (fun hc4 => ?_)
  ·
   have hrk := hrow r (by omega)
   have hmx := mxS_bd hF r (by omega)
   have hmr := mxR_bd hF r
   refine Ends.skip (Ends.seq (Ends.block (Ends.seq (Ends.region ?_))))
   refine S.val hA (R.idxR hx5 (j := r) sl23 rfl rfl (by omega) (rfl)) rfl ?_; clear hA a; intro a hA
   obtain ⟨ra5, rc6, hrow7, hld8⟩ := hx5.atP (i := r) (by omega)
   refine S.val hA (hld8 _ _ _ _ _ _ hM sz22 rfl) rfl ?_; clear hA a; intro a hA
   refine S.val hA (R.assign rfl) rfl ?_; clear hA a; intro a hA
   refine S.done ?_
   refine Ends.region ?_
   refine S.val hA (R.move rfl) rfl ?_; clear hA a; intro a hA
   refine S.val hA (R.move rfl) rfl ?_; clear hA a; intro a hA
   refine S.call hA (R.callF Try.func44 rfl rfl rfl) rfl (max08 ra5 ((i.cost.getD r [])) rc6 (by omega) (fun q => hF.cell r q) _ (hrow7.mem hM)) ?_; clear hA a
   rintro e w5 ⟨rfl, hb⟩
   replace hM := hM.callB hb; clear hb
   refine ⟨.int .i64 (mxR i r), rfl, fun a hA => ?_⟩
   refine S.val hA (R.addI rfl rfl (r := (i.vl.sum + sumF (mxR i) r) + (mxR i r)) rfl (by omega)) rfl ?_; clear hA a; intro a hA
   refine S.val hA (R.assign rfl) rfl ?_; clear hA a; intro a hA
   refine S.done ?_
   replace hA : St 25 [(3, _), (13, _), (14, _), (15, _)] a := hA.sub ((.cons rfl (.cons rfl (.cons rfl (.cons rfl .nil)))))
   refine Ends.inBlock (Ends.region ?_)
   refine S.val hA (R.addI rfl rfl (r := ((r : Int)) + 1) rfl (by omega)) rfl ?_; clear hA a; intro a hA
   refine S.val hA (R.move rfl) rfl ?_; clear hA a; intro a hA
   refine S.done ?_
   have hs9 : i.vl.sum + sumF (mxR i) (r + 1) = (i.vl.sum + sumF (mxR i) r) + (mxR i r) := by simp only [sumF]; omega
   rw [← hs9] at hA
   exact hNext ((r + 1)) _ _ ((by show i.cost.length - (r + 1) < i.cost.length - r; omega)) ⟨hA.sub ((.cons rfl (.cons rfl (.cons rfl (.cons rfl .nil))))), hM, (by omega)⟩
  ·
   have hre : r = i.cost.length := by omega
   refine Ends.exit rfl ?_
   replace hA : St 25 [(3, _)] a := hA.sub ((.cons rfl .nil))
   refine Ends.seq (Ends.region ?_)
   refine S.val hA (R.move rfl) rfl ?_; clear hA a; intro a hA
   refine S.val hA (R.assign rfl) rfl ?_; clear hA a; intro a hA
   refine S.done ?_
   refine Ends.ret1 Try.func18 Try.results18 hA rfl ?_
   exact ⟨by unfold totI; rw [if_neg (not_not_intro hz), ← hre], Mem.trans0 hbs hM.nilL⟩
end Go.Proofs.Ytnikajkklocncaa
namespace Go.Proofs.Ytnikajkklocncaa
def pl (n : Nat) : List Int := (List.range n).map fun (i : Nat) => (i : Int)
theorem pl_len (n : Nat) : (pl n).length = n := by simp [pl]
theorem pl_succ (n : Nat) : pl (n + 1) = pl n ++ [(n : Int)] := by simp [pl, List.range_succ]
theorem mem_pl {n : Nat} {x : Int} : x ∈ pl n ↔ 0 ≤ x ∧ x < n := by
  simp only [pl, List.mem_map, List.mem_range]
  constructor
  · rintro ⟨a, h, rfl⟩; omega
  · intro h; exact ⟨x.toNat, by omega, by omega⟩
theorem pl_pw (n : Nat) : (pl n).Pairwise (· < ·) := by
  rw [pl, List.pairwise_map]
  exact List.pairwise_lt_range.imp fun h => by omega
theorem pl_nodup (n : Nat) : (pl n).Nodup := (pl_pw n).imp fun h => by omega
theorem pl_set (n k : Nat) (h : k < n) : (pl k ++ List.replicate (n - k) 0).set k (k : Int) = pl (k + 1) ++ List.replicate (n - (k + 1)) 0 := by
  rw [List.set_append_right _ _ (by rw [pl_len]; exact Nat.le_refl _), pl_len, Nat.sub_self, show n - k = (n - (k + 1)) + 1 by omega, List.replicate_succ, List.set_cons_zero, pl_succ, List.append_assoc]
  rfl
section
variable (lt : Int → Int → Bool)
def mrg : List Int → List Int → List Int
  | l, [] => l
  | [], b :: r => b :: r
  | a :: l, b :: r => if lt b a then b :: mrg (a :: l) r else a :: mrg l (b :: r)
termination_by l r => l.length + r.length
def msort : Nat → List Int → List Int
  | 0, p => p
  | f + 1, p => if p.length < 2 then p else mrg lt (msort f (p.take (p.length / 2))) (msort f (p.drop (p.length / 2)))
def rbo (a b : Int) : Bool := lt a b || (!lt b a && decide (a < b))
end
section
variable {lt : Int → Int → Bool}
theorem mrg_nil (l : List Int) : mrg lt l [] = l := by cases l <;> simp [mrg]
theorem nil_mrg (r : List Int) : mrg lt [] r = r := by cases r <;> simp [mrg]
theorem mrg_perm : ∀ (l r : List Int), (mrg lt l r).Perm (l ++ r)
  | l, [] => by rw [mrg_nil, List.append_nil]
  | [], b :: r => by rw [nil_mrg]; exact .refl _
  | a :: l, b :: r => by
    rw [mrg]
    split
    · exact ((mrg_perm (a :: l) r).cons b).trans List.perm_middle.symm
    · exact (mrg_perm l (b :: r)).cons a
termination_by l r => l.length + r.length
theorem msort_perm : ∀ (f : Nat) (p : List Int), (msort lt f p).Perm p
  | 0, p => .refl _
  | f + 1, p => by
    rw [msort]
    split
    · exact .refl _
    · have h := (mrg_perm (lt := lt) (msort lt f (p.take (p.length / 2))) (msort lt f (p.drop (p.length / 2)))).trans ((msort_perm f _).append (msort_perm f _))
      rwa [List.take_append_drop] at h
theorem msort_len (f : Nat) (p : List Int) : (msort lt f p).length = p.length := (msort_perm f p).length_eq
variable {A : Int → Prop} (htr : ∀ a b c, A a → A b → A c → rbo lt a b = true → rbo lt b c = true → rbo lt a c = true)
include htr
end
section
variable {rb : Int → Int → Bool}
end
theorem perm_of_nodup : ∀ {l m : List Int}, l.Nodup → l ⊆ m → m.length ≤ l.length → l.Perm m
  | [], m, _, _, h => by rw [List.length_eq_zero_iff.1 (Nat.le_zero.1 h)]
  | x :: l, m, hn, hs, hl => by
    obtain ⟨h1, h2⟩ := List.nodup_cons.1 hn
    have hx : x ∈ m := hs (.head _)
    have hp := List.perm_cons_erase hx
    refine List.Perm.trans (List.Perm.cons x (perm_of_nodup h2 (fun y hy => ?_) ?_)) hp.symm
    · have hy' := hs (.tail _ hy)
      exact (List.mem_erase_of_ne (by rintro rfl; exact h1 hy)).2 hy'
    · rw [List.length_erase_of_mem hx]; simp only [List.length_cons] at hl; omega
end Go.Proofs.Ytnikajkklocncaa
namespace Go.Proofs.Ytnikajkklocncaa
open Go.RowKit
set_option maxRecDepth 100000 in
set_option maxHeartbeats 400000 in
theorem plain_own (n : Int) (hn : 0 ≤ n ∧ n ≤ 1000) (w : World) :
  Calls Try.prog 57 #[.int .i64 n] w fun e w' => ∃ g c, e = .returned (.slice (some ⟨g, 0, none⟩) (pl n.toNat).length c) ∧ Mem w nof [own 3 1 (.slice ((some ⟨g, 0, none⟩)) (((pl n.toNat)).length) c) (((pl n.toNat)).length) (((pl n.toNat)).map (Value.int .i64))] w' := by
 have hbs := Below.refl (B := w.heap.size) w
 have hM := Mem.start w
 refine Calls.of_ends (vs := [.int .i64 n]) Try.func57 rfl Try.ntmps57 rfl ?_
 intro a hA
 replace hA : St 18 [(0, _)] a := hA
 refine Ends.seq (Ends.region ?_)
 refine S.val hA (R.assign rfl) rfl ?_; clear hA a; intro a hA
 refine S.done ?_
 replace hA : St 18 [(0, _)] a := hA.sub ((.cons rfl .nil))
 refine Ends.seq (Ends.region ?_)
 refine S.val hA (R.move rfl) rfl ?_; clear hA a; intro a hA
 refine S.make hA hM Try.underlying22 info3 rfl rfl rfl (by first | omega | (rw [hpl]; omega)) (by show (8 : Int) * _ ≤ _; omega) (by first | omega | (rw [hpl]; omega)) rfl ?_; clear hA hM a; intro b1 w1 hb2 hM a hA
 replace hM : Mem _ _ [pt b1 (madeCells #[.int .i64 0] (n.toNat * 1)) 3] _ := hM
 rw [Nat.mul_one, made_ints] at hM
 replace hM : Mem _ _ [pt b1 ((ints (List.replicate n.toNat 0))) 3] _ := hM
 refine S.val hA (R.assign rfl) rfl ?_; clear hA a; intro a hA
 refine S.done ?_
 replace hA : St 18 [(3, _)] a := hA.sub ((.cons rfl .nil))
 refine Ends.seq (Ends.seq (Ends.region ?_))
 refine S.val hA (R.move rfl) rfl ?_; clear hA a; intro a hA
 refine S.val hA (R.lenS Try.underlying22 rfl rfl) rfl ?_; clear hA a; intro a hA
 refine S.val hA (R.move rfl) rfl ?_; clear hA a; intro a hA
 refine S.done ?_
 replace hA : St 18 [(3, _), (8, _), (9, _)] a := hA.sub ((.cons rfl (.cons rfl (.cons rfl .nil))))
 refine Ends.block ?_
 rw [show List.replicate n.toNat 0 = (pl 0 ++ List.replicate (n.toNat - 0) 0) from rfl] at hM
 refine Ends.loop (σ := Nat) (fun k (a : Act) (wv : World) => St 18 [(3, .slice (some ⟨b1, 0, none⟩) n.toNat n.toNat), (8, .int .i64 ((n.toNat : Int))), (9, .int .i64 ((k : Int)))] a ∧ Mem w nof [pt b1 ((ints (pl k ++ List.replicate (n.toNat - k) 0))) 3] wv ∧ (k ≤ n.toNat)) (fun k => n.toNat - k) 0 ⟨hA.sub ((.cons rfl (.cons rfl (.cons rfl .nil)))), hM, (Nat.zero_le _)⟩ ?_
 clear hA hM a
 rintro k a w2 ⟨hA, hM, hk⟩ hNext
 refine Ends.seq (Ends.region ?_)
 refine S.val hA (R.lss rfl rfl) rfl ?_; clear hA a; intro a hA
 refine S.done ?_
 replace hA : St 18 [(3, _), (8, _), (9, _), (10, _)] a := hA.sub ((.cons rfl (.cons rfl (.cons rfl (.cons rfl .nil)))))
 refine Ends.seq ?_
 refine Ends.ite hA rfl (fun hc3 => ?_) (fun hc3 => ?_)
 ·
  have hpl : (pl k ++ List.replicate (n.toNat - k) 0).length = n.toNat := by rw [List.length_append, pl_len, List.length_replicate]; omega
  refine Ends.skip (Ends.seq (Ends.block (Ends.seq (Ends.region ?_))))
  refine S.val hA (R.move rfl) rfl ?_; clear hA a; intro a hA
  refine S.val hA (R.assign rfl) rfl ?_; clear hA a; intro a hA
  refine S.done ?_
  replace hA : St 18 [(3, _), (4, _), (8, _), (9, _)] a := hA.sub ((.cons rfl (.cons rfl (.cons rfl (.cons rfl .nil)))))
  refine Ends.region ?_
  refine S.val hA (R.move rfl) rfl ?_; clear hA a; intro a hA
  refine S.val hA (R.move rfl) rfl ?_; clear hA a; intro a hA
  refine S.val hA (R.move rfl) rfl ?_; clear hA a; intro a hA
  refine S.val hA (R.indexAddr (q := k) sl22 rfl rfl (by first | omega | (rw [hpl]; omega)) (by first | omega | (rw [hpl]; omega))) rfl ?_; clear hA a; intro a hA
  refine S.store (k := 0) hA hM sz3 rfl rfl rfl rfl (ints_getD ((pl k ++ List.replicate (n.toNat - k) 0)) _ (by first | omega | (rw [hpl]; omega))) ?_; clear hM
  intro w3 hM
  rw [ints_set] at hM
  replace hM : Mem _ _ [pt b1 ((ints (((pl k ++ List.replicate (n.toNat - k) 0)).set k ((k : Int))))) 3] _ := hM
  refine S.done ?_
  rw [pl_set _ _ (by omega)] at hM
  replace hA : St 18 [(3, _), (8, _), (9, _)] a := hA.sub ((.cons rfl (.cons rfl (.cons rfl .nil))))
  refine Ends.inBlock (Ends.region ?_)
  refine S.val hA (R.addI rfl rfl (r := ((k : Int)) + 1) rfl (by first | omega | (rw [hpl]; omega))) rfl ?_; clear hA a; intro a hA
  refine S.val hA (R.move rfl) rfl ?_; clear hA a; intro a hA
  refine S.done ?_
  replace hA : St 18 [(3, _), (8, _), (9, _)] a := hA.sub ((.cons rfl (.cons rfl (.cons rfl .nil))))
  exact hNext ((k + 1)) _ _ ((by show n.toNat - (k + 1) < n.toNat - k; omega)) ⟨hA.sub ((.cons rfl (.cons rfl (.cons rfl .nil)))), hM, (by omega)⟩
 ·
  obtain rfl : k = n.toNat := by omega
  rw [Nat.sub_self, List.replicate_zero, List.append_nil] at hM
  refine Ends.exit rfl ?_
  replace hA : St 18 [(3, _)] a := hA.sub ((.cons rfl .nil))
  refine Ends.seq (Ends.region ?_)
  refine S.val hA (R.move rfl) rfl ?_; clear hA a; intro a hA
  refine S.val hA (R.assign rfl) rfl ?_; clear hA a; intro a hA
  refine S.done ?_
  replace hA : St 18 [(2, _)] a := hA.sub ((.cons rfl .nil))
  refine Ends.ret1 Try.func57 Try.results57 hA rfl ?_
  replace hM := hM.ptOwn (n := n.toNat) (pl_len _) (by omega)
  have hl := pl_len n.toNat
  exact ⟨_, _, by rw [pl_len], hM⟩
def AheadAt (A : Int → Prop) (lt : Int → Int → Bool) (cf : FuncId) (cs : Array Value) (w : World) : Prop :=
  ∀ w', Below w.heap.size w w' → ∀ x y, A x → A y → Calls Try.prog cf (#[.int .i64 x, .int .i64 y] ++ cs) w' fun e w2 => e = .returned (.bool (lt x y)) ∧ Below w'.heap.size w' w2
theorem AheadAt.mem {A : Int → Prop} {lt : Int → Int → Bool} {cf : FuncId} {cs : Array Value} {w0 w : World} {L : List Ck} (h : AheadAt A lt cf cs w0) (hM : Mem w0 nof L w) : AheadAt A lt cf cs w :=
  fun w' hb x y hx hy => h w' (Mem.trans0 hM.nilL.below (Mem.of_below hb)) x y hx hy
def MergeAt (A : Int → Prop) (lt : Int → Int → Bool) (cf : FuncId) (cs : Array Value) (f : Nat) : Prop :=
  ∀ (ax : Option Addr) (X : List Int) (cx : Nat) (w : World), X.length ≤ f → X.length ≤ 1000 → (∀ x ∈ X, A x) → IntSl w (.slice ax X.length cx) X → AheadAt A lt cf cs w →
    Calls Try.prog 78 #[.slice ax X.length cx, .func (.func cf) #[] cs] w fun e w' => ∃ a c, e = .returned (.slice a (msort lt f X).length c) ∧ IntSl w' (.slice a (msort lt f X).length c) (msort lt f X) ∧ Below w.heap.size w w'
theorem mrg_stepR {lt : Int → Int → Bool} {X Y : List Int} (hx : 0 < X.length) (hy : 0 < Y.length) (h : lt (Y.getD 0 0) (X.getD 0 0) = true) : mrg lt X Y = Y.getD 0 0 :: mrg lt X (Y.drop 1) := by
  match X, Y, hx, hy with
  | a :: X, b :: Y, _, _ =>
    have h' : lt b a = true := h
    rw [mrg, if_pos h']; rfl
theorem mrg_stepL {lt : Int → Int → Bool} {X Y : List Int} (hx : 0 < X.length) (hy : 0 < Y.length) (h : lt (Y.getD 0 0) (X.getD 0 0) = false) : mrg lt X Y = X.getD 0 0 :: mrg lt (X.drop 1) Y := by
  match X, Y, hx, hy with
  | a :: X, b :: Y, _, _ =>
    have h' : lt b a = false := h
    rw [mrg, if_neg (by rw [h']; simp)]; rfl
theorem mrg_end {lt : Int → Int → Bool} {X Y : List Int} (h : ¬ (0 < X.length ∧ 0 < Y.length)) : mrg lt X Y = X ++ Y := by
  rcases Nat.eq_zero_or_pos X.length with e | e
  · rw [List.length_eq_zero_iff.1 e, nil_mrg]; rfl
  · have : Y.length = 0 := by omega
    rw [List.length_eq_zero_iff.1 this, mrg_nil, List.append_nil]
theorem getD_mem0 {l : List Int} (h : 0 < l.length) : l.getD 0 0 ∈ l := getD_mem h
set_option maxRecDepth 100000 in
set_option maxHeartbeats 400000 in
theorem merge_short (cf : FuncId) (cs : Array Value) (ax : Option Addr) (X : List Int) (cx : Nat) (hX2 : X.length < 2) (w : World) (hx : IntSl w (.slice ax X.length cx) X) :
    Calls Try.prog 78 #[.slice ax X.length cx, .func (.func cf) #[] cs] w fun e w' => ∃ a c, e = .returned (.slice a X.length c) ∧ IntSl w' (.slice a X.length c) X ∧ Below w.heap.size w w' := by
  have hbs := Below.refl (B := w.heap.size) w
  have hM := Mem.start w
  refine Calls.of_ends (vs := [.slice ax X.length cx, .func (.func cf) #[] cs]) Try.func78 rfl Try.ntmps78 rfl ?_
  intro a hA
  replace hA : St 66 [(0, _), (1, _)] a := hA
  refine Ends.seq (Ends.region ?_)
  refine S.val hA (R.assign rfl) rfl ?_; clear hA a; intro a hA
  refine S.done ?_
  replace hA : St 66 [(0, _), (1, _)] a := hA.sub ((.cons rfl (.cons rfl .nil)))
  refine Ends.seq (Ends.seq (Ends.region ?_))
  refine S.val hA (R.move rfl) rfl ?_; clear hA a; intro a hA
  refine S.val hA (R.lenS Try.underlying22 rfl rfl) rfl ?_; clear hA a; intro a hA
  refine S.val hA (R.tt (R.lss rfl rfl) (by omega)) rfl ?_; clear hA a; intro a hA
  refine S.done ?_
  replace hA : St 66 [(0, _), (1, _), (11, _)] a := hA.sub ((.cons rfl (.cons rfl (.cons rfl .nil))))
  refine Ends.condT hA rfl ?_
  refine Ends.seq (Ends.region ?_)
  refine S.val hA (R.move rfl) rfl ?_; clear hA a; intro a hA
  refine S.val hA (R.assign rfl) rfl ?_; clear hA a; intro a hA
  refine S.done ?_
  replace hA : St 66 [(0, _), (1, _), (4, _)] a := hA.sub ((.cons rfl (.cons rfl (.cons rfl .nil))))
  refine Ends.ret1 Try.func78 Try.results78 hA rfl ?_
  exact ⟨_, _, rfl, hx, Mem.trans0 hbs hM.nilL⟩
set_option maxRecDepth 100000 in
set_option maxHeartbeats 400000 in
theorem merge_step {lt : Int → Int → Bool} {A : Int → Prop} {cf : FuncId} {cs : Array Value} {fn : Func} (hcf : Try.prog.funcs[cf]? = some fn) (hcn : (fn.name == "runtime.NumGoroutine") = false) (hcb : fn.body.isNone = false) (f : Nat) (ih : MergeAt A lt cf cs f) (ax : Option Addr) (X : List Int) (cx : Nat) (hXf : X.length ≤ f + 1) (hXm : X.length ≤ 1000) (hAX : ∀ x ∈ X, A x) (w : World) (hx : IntSl w (.slice ax X.length cx) X) (hah : AheadAt A lt cf cs w) :
  Calls Try.prog 78 #[.slice ax X.length cx, .func (.func cf) #[] cs] w fun e w' => ∃ a c, e = .returned (.slice a (msort lt (f + 1) X).length c) ∧ IntSl w' (.slice a (msort lt (f + 1) X).length c) (msort lt (f + 1) X) ∧ Below w.heap.size w w' := by
 have hbs := Below.refl (B := w.heap.size) w
 have hM := Mem.start w
 refine Calls.of_ends (vs := [.slice ax X.length cx, .func (.func cf) #[] cs]) Try.func78 rfl Try.ntmps78 rfl ?_
 intro a hA
 replace hA : St 66 [(0, _), (1, _)] a := hA
 refine Ends.seq (Ends.region ?_)
 refine S.val hA (R.assign rfl) rfl ?_; clear hA a; intro a hA
 refine S.done ?_
 replace hA : St 66 [(0, _), (1, _)] a := hA.sub ((.cons rfl (.cons rfl .nil)))
 refine Ends.seq (Ends.seq (Ends.region ?_))
 refine S.val hA (R.move rfl) rfl ?_; clear hA a; intro a hA
 refine S.val hA (R.lenS Try.underlying22 rfl rfl) rfl ?_; clear hA a; intro a hA
 refine S.val hA (R.lss rfl rfl) rfl ?_; clear hA a; intro a hA
 refine S.done ?_
 replace hA : St 66 [(0, _), (1, _), (11, _)] a := hA.sub ((.cons rfl (.cons rfl (.cons rfl .nil))))
 refine Ends.ite hA rfl (fun hc1 => ?_) (fun hc1 => ?_)
 ·
  refine Ends.seq (Ends.region ?_)
  refine S.val hA (R.move rfl) rfl ?_; clear hA a; intro a hA
  refine S.val hA (R.assign rfl) rfl ?_; clear hA a; intro a hA
  refine S.done ?_
  replace hA : St 66 [(0, _), (1, _), (4, _)] a := hA.sub ((.cons rfl (.cons rfl (.cons rfl .nil))))
  refine Ends.ret1 Try.func78 Try.results78 hA rfl ?_
  rw [show msort lt (f + 1) X = X by rw [msort, if_pos (by omega)]]
  exact ⟨_, _, rfl, hx, Mem.trans0 hbs hM.nilL⟩
 ·
  refine Ends.skip (Ends.seq (Ends.region ?_))
  refine S.val hA (R.move rfl) rfl ?_; clear hA a; intro a hA
  refine S.val hA (R.lenS Try.underlying22 rfl rfl) rfl ?_; clear hA a; intro a hA
  refine S.val hA (R.quoI rfl rfl rfl (by omega)) rfl ?_; clear hA a; intro a hA
  refine S.val hA (R.assign rfl) rfl ?_; clear hA a; intro a hA
  refine S.done ?_
  replace hA : St 66 [(0, _), (1, _), (5, _)] a := hA.sub ((.cons rfl (.cons rfl (.cons rfl .nil))))
  refine Ends.seq ?_
  refine Ends.drawn (fun _ => True) (.cons (0, true) (.cons (1, true) (.cons (2, true) (.cons (3, true) (.cons (5, true) (.cons (6, true) (.cons (7, true) (.cons (8, true) (.cons (4, false) (.cons (9, false) (.cons (10, true) (.cons (11, true) .nil)))))))))))) 12 mixed (by kernel_rfl) (by kernel_rfl) (by kernel_rfl) trivial ?_
  replace hM := hM.drew
  refine D.valF hA rfl (fun _ => R.move rfl) rfl ?_; clear hA a; intro a hA
  refine D.valF hA rfl (fun _ => R.move rfl) rfl ?_; clear hA a; intro a hA
  have hsl2 := hx.cutR ((X.length / 2)) (by omega)
  refine D.valF hA rfl (fun _ => R.sliceHI (h := (X.length / 2)) hx Try.underlying22 info3 rfl rfl (by omega) (by omega)) rfl ?_; clear hA a; intro a hA
  refine D.valF hA rfl (fun _ => R.move rfl) rfl ?_; clear hA a; intro a hA
  refine D.valF hA rfl (fun _ => R.move rfl) rfl ?_; clear hA a; intro a hA
  refine D.valF hA rfl (fun _ => R.move rfl) rfl ?_; clear hA a; intro a hA
  obtain ⟨as4, cs5, hsl3, hr6⟩ := hx.fromR ((X.length / 2)) (by omega) (by omega)
  refine D.valF hA rfl (fun _ => (hr6 _ _ _ _ _ _ _ _ _ _ _ Try.underlying22 info3 rfl rfl rfl (by omega))) rfl ?_; clear hA a; intro a hA
  refine D.valF hA rfl (fun _ => R.move rfl) rfl ?_; clear hA a; intro a hA
  refine D.call hA rfl (R.callF Try.func78 rfl rfl rfl) rfl (ih ax ((X.take ((X.length / 2)))) cx _ (by rw [List.length_take]; omega) (by rw [List.length_take]; omega) (fun x hx => hAX x (List.mem_of_mem_take hx)) (hsl2.mem hM) (hah.mem hM)) ?_; clear hA a
  rintro e w1 ⟨ra7, rc8, rfl, rh9, hb⟩
  replace hM := hM.callB hb; clear hb
  have hbs := hbs.trans (hM.below.mono hbs.size)
  have hx := hx.mem hM
  have hah := hah.mem hM
  have hsl2 := hsl2.mem hM
  have hsl3 := hsl3.mem hM
  replace hM := Mem.start w1
  refine ⟨.slice ra7 (((msort lt f ((X.take ((X.length / 2)))))).length) rc8, rfl, trivial, fun a hA => ?_⟩
  refine D.call hA rfl (R.callF Try.func78 rfl rfl rfl) rfl (ih as4 ((X.drop ((X.length / 2)))) cs5 _ (by rw [List.length_drop]; omega) (by rw [List.length_drop]; omega) (fun x hx => hAX x (List.mem_of_mem_drop hx)) (hsl3.mem hM) (hah.mem hM)) ?_; clear hA a
  rintro e w2 ⟨ra10, rc11, rfl, rh12, hb⟩
  replace hM := hM.callB hb; clear hb
  have hbs := hbs.trans (hM.below.mono hbs.size)
  have hx := hx.mem hM
  have hah := hah.mem hM
  have hsl2 := hsl2.mem hM
  have hsl3 := hsl3.mem hM
  have rh9 := rh9.mem hM
  replace hM := Mem.start w2
  refine ⟨.slice ra10 (((msort lt f ((X.drop ((X.length / 2)))))).length) rc11, rfl, trivial, fun a hA => ?_⟩
  refine D.valF hA rfl (fun _ => R.assign rfl) rfl ?_; clear hA a; intro a hA
  refine D.valF hA rfl (fun _ => R.assign rfl) rfl ?_; clear hA a; intro a hA
  refine D.done ?_
  replace hA : St 66 [(0, _), (1, _), (6, _), (7, _)] a := hA.sub ((.cons rfl (.cons rfl (.cons rfl (.cons rfl .nil)))))
  refine Ends.seq (Ends.region ?_)
  refine S.val hA (R.move rfl) rfl ?_; clear hA a; intro a hA
  refine S.val hA (R.lenS Try.underlying22 rfl rfl) rfl ?_; clear hA a; intro a hA
  refine S.makeC hA hM Try.underlying22 info3 rfl rfl rfl (by omega) (by show (8 : Int) * _ ≤ _; omega) (by omega) rfl ?_; clear hA hM a; intro b13 w3 hb14 hM a hA
  replace hM : Mem _ _ [pt b13 ((madeCells #[.int .i64 0] (X.length * 1))) 3] _ := hM
  refine S.val hA (R.assign rfl) rfl ?_; clear hA a; intro a hA
  refine S.done ?_
  replace hA : St 66 [(1, _), (6, _), (7, _), (8, _)] a := hA.sub ((.cons rfl (.cons rfl (.cons rfl (.cons rfl .nil)))))
  refine Ends.seq (Ends.block ?_)
  replace hM := hM.ownPt (cap := X.length) (n := 0) (sz := 1) (xs := []) (by simp [madeCells]) (by unfold maxLen; omega) (Nat.zero_le _) rfl
  replace hM : Mem _ _ [own 3 1 (.slice ((some ⟨b13, 0, none⟩)) ((([] : List Int)).length) X.length) ((([] : List Int)).length) ((([] : List Int)).map (Value.int .i64))] _ := hM
  refine Ends.loop (σ := Option Addr × List Int × Nat × Option Addr × List Int × Nat × Option Addr × List Int × Nat) (fun (la, U, lc, ra, V, rc, oa, Z, oc) (a : Act) (wv : World) => St 66 [(1, .func (.func cf) #[] cs), (6, .slice la U.length lc), (7, .slice ra V.length rc), (8, .slice oa Z.length oc)] a ∧ Mem w2 nof [own 3 1 (.slice oa Z.length oc) Z.length (Z.map (Value.int .i64))] wv ∧ (IntSl w2 (.slice la U.length lc) U) ∧ (IntSl w2 (.slice ra V.length rc) V) ∧ (Z ++ mrg lt U V = mrg lt ((msort lt f ((X.take ((X.length / 2)))))) ((msort lt f ((X.drop ((X.length / 2))))))) ∧ (U.length + V.length + Z.length = X.length) ∧ (∀ x ∈ U, A x) ∧ (∀ x ∈ V, A x)) (fun (la, U, lc, ra, V, rc, oa, Z, oc) => U.length + V.length) ((ra7, (msort lt f ((X.take ((X.length / 2))))), rc8, ra10, (msort lt f ((X.drop ((X.length / 2))))), rc11, (some ⟨b13, 0, none⟩), [], X.length)) ⟨hA.sub ((.cons rfl (.cons rfl (.cons rfl (.cons rfl .nil))))), hM, rh9, rh12, rfl, (by rw [msort_len, msort_len, List.length_take, List.length_drop]; simp only [List.length_nil]; omega), (fun x hx => hAX x (List.mem_of_mem_take ((msort_perm f _).mem_iff.1 hx))), (fun x hx => hAX x (List.mem_of_mem_drop ((msort_perm f _).mem_iff.1 hx)))⟩ ?_
  clear hA hM a
  rintro ⟨la, U, lc, ra, V, rc, oa, Z, oc⟩ a w4 ⟨hA, hM, hU, hV, hord, hlen, hAL, hAR⟩ hNext
  refine Ends.seq (Ends.seq ?_)
  refine Ends.cut (fun (a : Act) (wv : World) => St 66 [(1, .func (.func cf) #[] cs), (6, .slice la U.length lc), (7, .slice ra V.length rc), (8, .slice oa Z.length oc), (36, .bool (decide ((0 < ((U.length : Int)) ∧ 0 < ((V.length : Int))))))] a ∧ Mem w2 nof [own 3 1 (.slice oa Z.length oc) Z.length (Z.map (Value.int .i64))] wv) ?_ (fun k2 hJ => ?_)
  ·
   clear hA hM a; rintro a w5 ⟨hA, hM⟩
   refine Ends.ite hA rfl (fun hc15 => ?_) (fun hc15 => ?_)
   ·
    refine Ends.skip (Ends.block (Ends.seq ?_))
    refine Ends.drawn (Mem w2 nof [own 3 1 (.slice oa Z.length oc) Z.length (Z.map (Value.int .i64))]) (.cons (0, true) (.cons (1, true) (.cons (2, true) (.cons (3, true) (.cons (4, true) (.cons (5, true) (.cons (6, true) (.cons (7, false) .nil)))))))) 8 mixed (by kernel_rfl) (by kernel_rfl) (by kernel_rfl) hM.drew ?_
    replace hM := hM.drew
    refine D.valF hA rfl (fun _ => R.move rfl) rfl ?_; clear hA a; intro a hA
    refine D.valF hA rfl (fun _ => R.move rfl) rfl ?_; clear hA a; intro a hA
    refine D.valF hA rfl (fun _ => R.idxI hV (j := 0) sl22 rfl rfl (by omega) (rfl)) rfl ?_; clear hA a; intro a hA
    refine D.val hA rfl (by kernel_rfl) (fun _ hM => R.loadI (hV.mem hM) sz3 rfl (by omega)) rfl ?_; clear hA a; intro a hA
    refine D.valF hA rfl (fun _ => R.move rfl) rfl ?_; clear hA a; intro a hA
    refine D.valF hA rfl (fun _ => R.idxI hU (j := 0) sl22 rfl rfl (by omega) (rfl)) rfl ?_; clear hA a; intro a hA
    refine D.val hA rfl (by kernel_rfl) (fun _ hM => R.loadI (hU.mem hM) sz3 rfl (by omega)) rfl ?_; clear hA a; intro a hA
    refine D.call hA rfl (R.callV hcf hcn hcb rfl rfl) rfl (hah _ hM.nilL.below (V.getD 0 0) (U.getD 0 0) (hAR _ (getD_mem0 (by omega))) (hAL _ (getD_mem0 (by omega)))) ?_; clear hA a
    rintro e w6 ⟨rfl, hb⟩
    replace hM := hM.callB hb; clear hb
    refine ⟨.bool (lt (V.getD 0 0) (U.getD 0 0)), rfl, hM, fun a hA => ?_⟩
    refine D.done ?_
    replace hA : St 66 [(1, _), (6, _), (7, _), (8, _), (44, _)] a := hA.sub ((.cons rfl (.cons rfl (.cons rfl (.cons rfl (.cons rfl .nil))))))
    refine Ends.iteB hA rfl (fun hc16 => ?_) (fun hc16 => ?_)
    ·
     refine Ends.drawn (Mem w2 nof []) (.cons (0, true) (.cons (1, true) (.cons (2, true) (.cons (3, true) (.cons (6, true) (.cons (7, true) (.cons (4, false) (.cons (5, false) (.cons (8, true) (.cons (9, true) .nil)))))))))) 10 mixed (by kernel_rfl) (by kernel_rfl) (by kernel_rfl) (hM.drop 0).drew ?_
     replace hM := hM.drew
     refine D.valF hA rfl (fun _ => R.move rfl) rfl ?_; clear hA a; intro a hA
     refine D.valF hA rfl (fun _ => R.move rfl) rfl ?_; clear hA a; intro a hA
     refine D.valF hA rfl (fun _ => R.idxI hV (j := 0) sl22 rfl rfl (by omega) (rfl)) rfl ?_; clear hA a; intro a hA
     refine D.val hA rfl (by kernel_rfl) (fun _ hM => R.loadI (hV.mem hM) sz3 rfl (by omega)) rfl ?_; clear hA a; intro a hA
     refine D.valF hA rfl (fun _ => R.move rfl) rfl ?_; clear hA a; intro a hA
     obtain ⟨as18, cs19, hsl17, hr20⟩ := hV.fromR 1 (by omega) (by omega)
     refine D.valF hA rfl (fun _ => (hr20 _ _ _ _ _ _ _ _ _ _ _ Try.underlying22 info3 rfl rfl rfl (by omega))) rfl ?_; clear hA a; intro a hA
     refine D.buildSl (cells := #[.int .i64 (V.getD 0 0)]) hA hM rfl Try.underlying22 info3 rfl rfl rfl rfl (by kernel_rfl) rfl ?_; clear hA hM a; intro b21 w7 hb22 hM; refine ⟨(fun hM => (hM.drop 0)) hM.tail, fun a hA => ?_⟩
     replace hM : Mem _ _ [pt b21 #[.int .i64 (V.getD 0 0)] 3, own 3 1 (.slice oa Z.length oc) Z.length (Z.map (Value.int .i64))] _ := hM
     refine D.append (k := 1) (k2 := 0) hA hM rfl rfl rfl Try.underlying22 info3 rfl rfl rfl rfl rfl rfl rfl rfl rfl (by first | (unfold maxLen; omega) | (rw [List.length_append]; unfold maxLen; omega) | (show (_ + _) * 8 ≤ (140737488355328 : Nat); omega) | (rw [List.length_append]; show (_ + _) * 8 ≤ (140737488355328 : Nat); omega)) (by first | (unfold maxLen; omega) | (rw [List.length_append]; unfold maxLen; omega) | (show (_ + _) * 8 ≤ (140737488355328 : Nat); omega) | (rw [List.length_append]; show (_ + _) * 8 ≤ (140737488355328 : Nat); omega)) rfl ?_; clear hA hM a; intro a23 c24 w8 hM
     replace hM : Mem _ _ [pt b21 #[.int .i64 (V.getD 0 0)] 3, own 3 1 (.slice a23 (Z.length + 1) c24) (Z.length + 1) (Z.map (Value.int .i64) ++ [.int .i64 (V.getD 0 0)])] _ := hM
     have hl25 : Z.length + 1 = (Z ++ [V.getD 0 0]).length := by simp
     rw [hl25, show Z.map (Value.int .i64) ++ [.int .i64 (V.getD 0 0)] = (Z ++ [V.getD 0 0]).map (Value.int .i64) by simp] at hM
     replace hM := hM.drop 0
     replace hM : Mem _ _ [own 3 1 (.slice a23 (((Z ++ [V.getD 0 0])).length) c24) (((Z ++ [V.getD 0 0])).length) (((Z ++ [V.getD 0 0])).map (Value.int .i64))] _ := hM
     refine ⟨(hM.drop 0), fun a hA => ?_⟩; rw [hl25] at hA; clear hl25
     refine D.valF hA rfl (fun _ => R.assign rfl) rfl ?_; clear hA a; intro a hA
     refine D.valF hA rfl (fun _ => R.assign rfl) rfl ?_; clear hA a; intro a hA
     refine D.done ?_
     replace hA : St 66 [(1, _), (6, _), (7, _), (8, _)] a := hA.sub ((.cons rfl (.cons rfl (.cons rfl (.cons rfl .nil)))))
     refine Ends.inBlock ?_
     replace hM := hM.firstN 1
     exact hNext ((la, U, lc, as18, (V.drop 1), cs19, a23, (Z ++ [V.getD 0 0]), c24)) _ _ ((by show _ < _; simp only [List.length_drop]; omega)) ⟨hA.sub ((.cons rfl (.cons rfl (.cons rfl (.cons rfl .nil))))), hM, hU, hsl17, (by rw [← hord, mrg_stepR (by omega) (by omega) hc16]; simp), (by simp only [List.length_drop, List.length_append, List.length_cons, List.length_nil]; omega), hAL, (fun x hx => hAR x (List.mem_of_mem_drop hx))⟩
    ·
     refine Ends.drawn (Mem w2 nof []) (.cons (0, true) (.cons (1, true) (.cons (2, true) (.cons (3, true) (.cons (6, true) (.cons (7, true) (.cons (4, false) (.cons (5, false) (.cons (8, true) (.cons (9, true) .nil)))))))))) 10 mixed (by kernel_rfl) (by kernel_rfl) (by kernel_rfl) (hM.drop 0).drew ?_
     replace hM := hM.drew
     refine D.valF hA rfl (fun _ => R.move rfl) rfl ?_; clear hA a; intro a hA
     refine D.valF hA rfl (fun _ => R.move rfl) rfl ?_; clear hA a; intro a hA
     refine D.valF hA rfl (fun _ => R.idxI hU (j := 0) sl22 rfl rfl (by omega) (rfl)) rfl ?_; clear hA a; intro a hA
     refine D.val hA rfl (by kernel_rfl) (fun _ hM => R.loadI (hU.mem hM) sz3 rfl (by omega)) rfl ?_; clear hA a; intro a hA
     refine D.valF hA rfl (fun _ => R.move rfl) rfl ?_; clear hA a; intro a hA
     obtain ⟨as27, cs28, hsl26, hr29⟩ := hU.fromR 1 (by omega) (by omega)
     refine D.valF hA rfl (fun _ => (hr29 _ _ _ _ _ _ _ _ _ _ _ Try.underlying22 info3 rfl rfl rfl (by omega))) rfl ?_; clear hA a; intro a hA
     refine D.buildSl (cells := #[.int .i64 (U.getD 0 0)]) hA hM rfl Try.underlying22 info3 rfl rfl rfl rfl (by kernel_rfl) rfl ?_; clear hA hM a; intro b30 w9 hb31 hM; refine ⟨(fun hM => (hM.drop 0)) hM.tail, fun a hA => ?_⟩
     replace hM : Mem _ _ [pt b30 #[.int .i64 (U.getD 0 0)] 3, own 3 1 (.slice oa Z.length oc) Z.length (Z.map (Value.int .i64))] _ := hM
     refine D.append (k := 1) (k2 := 0) hA hM rfl rfl rfl Try.underlying22 info3 rfl rfl rfl rfl rfl rfl rfl rfl rfl (by first | (unfold maxLen; omega) | (rw [List.length_append]; unfold maxLen; omega) | (show (_ + _) * 8 ≤ (140737488355328 : Nat); omega) | (rw [List.length_append]; show (_ + _) * 8 ≤ (140737488355328 : Nat); omega)) (by first | (unfold maxLen; omega) | (rw [List.length_append]; unfold maxLen; omega) | (show (_ + _) * 8 ≤ (140737488355328 : Nat); omega) | (rw [List.length_append]; show (_ + _) * 8 ≤ (140737488355328 : Nat); omega)) rfl ?_; clear hA hM a; intro a32 c33 w10 hM
     replace hM : Mem _ _ [pt b30 #[.int .i64 (U.getD 0 0)] 3, own 3 1 (.slice a32 (Z.length + 1) c33) (Z.length + 1) (Z.map (Value.int .i64) ++ [.int .i64 (U.getD 0 0)])] _ := hM
     have hl34 : Z.length + 1 = (Z ++ [U.getD 0 0]).length := by simp
     rw [hl34, show Z.map (Value.int .i64) ++ [.int .i64 (U.getD 0 0)] = (Z ++ [U.getD 0 0]).map (Value.int .i64) by simp] at hM
     replace hM := hM.drop 0
     replace hM : Mem _ _ [own 3 1 (.slice a32 (((Z ++ [U.getD 0 0])).length) c33) (((Z ++ [U.getD 0 0])).length) (((Z ++ [U.getD 0 0])).map (Value.int .i64))] _ := hM
     refine ⟨(hM.drop 0), fun a hA => ?_⟩; rw [hl34] at hA; clear hl34
     refine D.valF hA rfl (fun _ => R.assign rfl) rfl ?_; clear hA a; intro a hA
     refine D.valF hA rfl (fun _ => R.assign rfl) rfl ?_; clear hA a; intro a hA
     refine D.done ?_
     replace hA : St 66 [(1, _), (6, _), (7, _), (8, _)] a := hA.sub ((.cons rfl (.cons rfl (.cons rfl (.cons rfl .nil)))))
     refine Ends.inBlock ?_
     replace hM := hM.firstN 1
     exact hNext ((as27, (U.drop 1), cs28, ra, V, rc, a32, (Z ++ [U.getD 0 0]), c33)) _ _ ((by show _ < _; simp only [List.length_drop]; omega)) ⟨hA.sub ((.cons rfl (.cons rfl (.cons rfl (.cons rfl .nil))))), hM, hsl26, hV, (by rw [← hord, mrg_stepL (by omega) (by omega) hc16]; simp), (by simp only [List.length_drop, List.length_append, List.length_cons, List.length_nil]; omega), (fun x hx => hAL x (List.mem_of_mem_drop hx)), hAR⟩
   ·
    refine Ends.exit rfl ?_
    replace hA : St 66 [(6, _), (7, _), (8, _)] a := hA.sub ((.cons rfl (.cons rfl (.cons rfl .nil))))
    refine Ends.seq (Ends.region ?_)
    refine S.val hA (R.move rfl) rfl ?_; clear hA a; intro a hA
    refine S.val hA (R.move rfl) rfl ?_; clear hA a; intro a hA
    refine S.appendI (k := 0) hA hM rfl (hU.mem hM) Try.underlying22 info3 rfl rfl rfl rfl rfl rfl (by first | (unfold maxLen; omega) | (rw [List.length_append]; unfold maxLen; omega) | (show (_ + _) * 8 ≤ (140737488355328 : Nat); omega) | (rw [List.length_append]; show (_ + _) * 8 ≤ (140737488355328 : Nat); omega)) (by first | (unfold maxLen; omega) | (rw [List.length_append]; unfold maxLen; omega) | (show (_ + _) * 8 ≤ (140737488355328 : Nat); omega) | (rw [List.length_append]; show (_ + _) * 8 ≤ (140737488355328 : Nat); omega)) rfl ?_; clear hA hM a; intro a35 c36 w11 hM a hA
    have hl37 : Z.length + U.length = ((Z ++ U)).length := by first | (simp; done) | simp only [List.length_append]
    rw [hl37, show Z.map (Value.int .i64) ++ U.map (Value.int .i64) = ((Z ++ U)).map (Value.int .i64) by simp] at hM; rw [hl37] at hA; clear hl37
    replace hM : Mem _ _ [own 3 1 (.slice a35 (((Z ++ U)).length) c36) (((Z ++ U)).length) (((Z ++ U)).map (Value.int .i64))] _ := hM
    refine S.val hA (R.move rfl) rfl ?_; clear hA a; intro a hA
    refine S.appendI (k := 0) hA hM rfl (hV.mem hM) Try.underlying22 info3 rfl rfl rfl rfl rfl rfl (by first | (unfold maxLen; omega) | (rw [List.length_append]; unfold maxLen; omega) | (show (_ + _) * 8 ≤ (140737488355328 : Nat); omega) | (rw [List.length_append]; show (_ + _) * 8 ≤ (140737488355328 : Nat); omega)) (by first | (unfold maxLen; omega) | (rw [List.length_append]; unfold maxLen; omega) | (show (_ + _) * 8 ≤ (140737488355328 : Nat); omega) | (rw [List.length_append]; show (_ + _) * 8 ≤ (140737488355328 : Nat); omega)) rfl ?_; clear hA hM a; intro a38 c39 w12 hM a hA
    have hl40 : (((Z ++ U)).length) + V.length = (((Z ++ U) ++ V)).length := by first | (simp; done) | simp only [List.length_append]
    rw [hl40, show ((Z ++ U)).map (Value.int .i64) ++ V.map (Value.int .i64) = (((Z ++ U) ++ V)).map (Value.int .i64) by simp] at hM; rw [hl40] at hA; clear hl40
    replace hM : Mem _ _ [own 3 1 (.slice a38 ((((Z ++ U) ++ V)).length) c39) ((((Z ++ U) ++ V)).length) ((((Z ++ U) ++ V)).map (Value.int .i64))] _ := hM
    refine S.val hA (R.assign rfl) rfl ?_; clear hA a; intro a hA
    refine S.done ?_
    replace hA : St 66 [(4, _)] a := hA.sub ((.cons rfl .nil))
    refine Ends.ret1 Try.func78 Try.results78 hA rfl ?_
    have hend := mrg_end (lt := lt) (X := U) (Y := V) (by omega)
    have hfin : msort lt (f + 1) X = (Z ++ U) ++ V := by rw [msort, if_neg (by omega), ← hord, hend, List.append_assoc]
    rw [hfin]
    have hr := hM.rsl (k := 0) rfl
    exact ⟨_, _, rfl, hr, Mem.trans0 hbs hM.nilL⟩
  ·
   refine Ends.region ?_
   refine S.val hA (R.move rfl) rfl ?_; clear hA a; intro a hA
   refine S.val hA (R.lenS Try.underlying22 rfl rfl) rfl ?_; clear hA a; intro a hA
   refine S.val hA (R.gtr rfl rfl) rfl ?_; clear hA a; intro a hA
   refine S.val hA (R.move rfl) rfl ?_; clear hA a; intro a hA
   refine hA.split (d := 32) rfl ?_ ?_
   ·
    clear hA; intro hg41 hA
    refine S.valg (dj := 32) hA (by kernel_rfl) rfl (R.move rfl) rfl ?_; clear hA a; intro a hA
    refine S.valg (dj := 32) hA (by kernel_rfl) rfl (R.lenS Try.underlying22 rfl rfl) rfl ?_; clear hA a; intro a hA
    refine S.valg (dj := 32) hA (by kernel_rfl) rfl (R.gtr rfl rfl) rfl ?_; clear hA a; intro a hA
    refine S.val hA (R.pickT rfl rfl) rfl ?_; clear hA a; intro a hA
    refine S.done ?_
    replace hA : St 66 [(1, _), (6, _), (7, _), (8, _), (36, _)] a := hA.sub ((.cons rfl (.cons rfl (.cons rfl (.cons rfl (.cons rfl .nil))))))
    exact hJ _ _ ⟨hA.sub (.cons rfl (.cons rfl (.cons rfl (.cons rfl (.cons (by first | rfl | exact congrArg (fun b => some (Value.bool b)) (by first | exact decide_eq_decide.2 (by omega) | exact or_bool (by omega) | exact and_bool (by omega) | (simp; done) | (simp [hg41]; done) | (have h80 := hg41; (try simp at h80); simp [h80]; done) | exact (decide_eq_false (fun h9 => hg41 h9.1)).symm)) .nil))))), hM⟩
   ·
    clear hA; intro hg41 hA
    refine S.no (dj := 32) hA (by kernel_rfl) rfl rfl rfl ?_; clear hA a; intro a hA
    refine S.no (dj := 32) hA (by kernel_rfl) rfl rfl rfl ?_; clear hA a; intro a hA
    refine S.no (dj := 32) hA (by kernel_rfl) rfl rfl rfl ?_; clear hA a; intro a hA
    refine S.val hA (R.pickF rfl rfl) rfl ?_; clear hA a; intro a hA
    refine S.done ?_
    replace hA : St 66 [(1, _), (6, _), (7, _), (8, _), (36, _)] a := hA.sub ((.cons rfl (.cons rfl (.cons rfl (.cons rfl (.cons rfl .nil))))))
    exact hJ _ _ ⟨hA.sub (.cons rfl (.cons rfl (.cons rfl (.cons rfl (.cons (by first | rfl | exact congrArg (fun b => some (Value.bool b)) (by first | exact decide_eq_decide.2 (by omega) | exact or_bool (by omega) | exact and_bool (by omega) | (simp; done) | (simp [hg41]; done) | (have h80 := hg41; (try simp at h80); simp [h80]; done) | exact (decide_eq_false (fun h9 => hg41 h9.1)).symm)) .nil))))), hM⟩
theorem merge_any {lt : Int → Int → Bool} {A : Int → Prop} {cf : FuncId} {cs : Array Value} {fn : Func} (hcf : Try.prog.funcs[cf]? = some fn) (hcn : (fn.name == "runtime.NumGoroutine") = false) (hcb : fn.body.isNone = false) : ∀ f, MergeAt A lt cf cs (f + 1)
  | 0 => fun ax X cx w h1 h2 h3 h4 h5 => merge_step hcf hcn hcb 0 (fun ax X cx w h1 _ _ h4 _ => merge_short cf cs ax X cx (by omega) w h4) ax X cx h1 h2 h3 w h4 h5
  | f + 1 => fun ax X cx w h1 h2 h3 h4 h5 => merge_step hcf hcn hcb (f + 1) (merge_any hcf hcn hcb f) ax X cx h1 h2 h3 w h4 h5
end Go.Proofs.Ytnikajkklocncaa
namespace Go.Proofs.Ytnikajkklocncaa
def inRq (n : Nat) (x : Int) : Prop := 0 ≤ x ∧ x < n
def ltq (v w : List Int) (x y : Int) : Bool := if w.getD y.toNat 0 = 0 then false else if w.getD x.toNat 0 = 0 then true else decide (v.getD y.toNat 0 * w.getD x.toNat 0 < v.getD x.toNat 0 * w.getD y.toNat 0)
def byQ (v w : List Int) : List Int := msort (ltq v w) (v.length + 1) (pl v.length)
theorem byQ_perm (v w : List Int) : (byQ v w).Perm (pl v.length) := msort_perm _ _
theorem byQ_len (v w : List Int) : (byQ v w).length = v.length := by rw [(byQ_perm v w).length_eq, pl_len]
end Go.Proofs.Ytnikajkklocncaa
namespace Go.Proofs.Ytnikajkklocncaa
def hasNeg (X : List Int) : Bool := X.any fun x => decide (x < 0)
theorem hasNeg_at {X : List Int} {k : Nat} (hk : k < X.length) (h : X.getD k 0 < 0) : hasNeg X = true := by
  refine List.any_eq_true.2 ⟨X.getD k 0, ?_, decide_eq_true h⟩
  rw [List.getD_eq_getElem?_getD, List.getElem?_eq_getElem hk]; exact List.getElem_mem hk
theorem hasNeg_no {X : List Int} (h : ∀ j, j < X.length → 0 ≤ X.getD j 0) : hasNeg X = false := by
  refine List.any_eq_false.2 fun x hx => ?_
  obtain ⟨j, hj, rfl⟩ := List.mem_iff_getElem.1 hx
  have := h j hj
  rw [List.getD_eq_getElem?_getD, List.getElem?_eq_getElem hj] at this
  simpa using this
theorem nn_of {X : List Int} (h : hasNeg X = false) : ∀ x ∈ X, 0 ≤ x := fun x hx => by
  have := List.any_eq_false.1 h x hx
  simpa using this
end Go.Proofs.Ytnikajkklocncaa
namespace Go.Proofs
open Go.Shelf
def Try.lays264_ren : Go.Shelf.Ren := ⟨fun | 264 => 91 | n => n, fun | 53 => 45 | 46 => 99 | n => n, fun | n => n⟩
theorem Try.lays264 : Go.Proofs.Lays.n264 Try.prog Try.lays264_ren := {
  mixed := by kernel_rfl
  f264 := Try.func91.trans (congrArg some (by kernel_rfl))
  t46 := Try.underlying99
  a46 := Try.isAgg99
  z46 := Try.sizeOf99
  v46 := Try.zeroValue99
  t53 := Try.underlying45
  a53 := Try.isAgg45
  z53 := Try.sizeOf45
  v53 := Try.zeroValue45 }
open Go.RowKit Go.Lib in
theorem Try.bits_Mul64 (x y : Nat) (hx : x < 18446744073709551616) (hy : y < 18446744073709551616) (w : World) :
    Calls Try.prog 91 #[.int .u64 x, .int .u64 y] w fun e w' => e = .returned (.tuple #[.int .u64 ((x * y / 18446744073709551616 : Nat) : Int), .int .u64 ((x * y % 18446744073709551616 : Nat) : Int)]) ∧ w' = w := Any.bits_Mul64 Try.lays264 x y hx hy w
end Go.Proofs
namespace Go.Proofs.Ytnikajkklocncaa
open Go.RowKit
theorem sum_wrap (a b : Int) : wrap64 (IntKind.u64.wrap (IntKind.u64.wrap a + IntKind.u64.wrap b)) = (a + b + 9223372036854775808) % 18446744073709551616 - 9223372036854775808 := by
  rw [← IntWalk.i64_left, IntKind.wrap_i64, IntKind.wrap_u64, IntKind.wrap_u64, IntKind.wrap_u64]; omega
theorem over_sum {a b S : Int} (a0 : -9223372036854775808 ≤ a) (a1 : a ≤ 9223372036854775807) (b0 : -9223372036854775808 ≤ b) (b1 : b ≤ 9223372036854775807)
    (hS : S = (a + b + 9223372036854775808) % 18446744073709551616 - 9223372036854775808) (h1 : a < 0 ↔ b < 0) (h2 : ¬ (S < 0 ↔ b < 0)) : intN (a + b) = 0 ∧ intB (a + b) = false :=
  int_no (by omega)
theorem fine_sum {a b S : Int} (a0 : -9223372036854775808 ≤ a) (a1 : a ≤ 9223372036854775807) (b0 : -9223372036854775808 ≤ b) (b1 : b ≤ 9223372036854775807)
    (hS : S = (a + b + 9223372036854775808) % 18446744073709551616 - 9223372036854775808) (h : ¬ (a < 0 ↔ b < 0) ∨ (S < 0 ↔ b < 0)) : intN (a + b) = S ∧ intB (a + b) = true := by
  have := int_yes (v := a + b) (by omega)
  exact ⟨by rw [this.1]; omega, this.2⟩
set_option maxHeartbeats 400000 in
theorem a_add (a b : Int) (a0 : -9223372036854775808 ≤ a) (a1 : a ≤ 9223372036854775807) (b0 : -9223372036854775808 ≤ b) (b1 : b ≤ 9223372036854775807) (w : World) :
    Calls Try.prog 52 #[.int .i64 a, .int .i64 b] w fun e w' => e = .returned (.tuple #[.int .i64 (intN (a + b)), .bool (intB (a + b))]) ∧ w = w' := by
  have HS := hid (sum_wrap a b)
  go_enter Try.func52, Try.ntmps52
  go_wp2
  · rename_i h1 h2
    have := over_sum a0 a1 b0 b1 HS.out h1 (by intro h; simp [h] at h2)
    go_ret2
    exact ⟨ret_ib this.1.symm this.2.symm, rfl⟩
  · rename_i h1 h2
    have := fine_sum a0 a1 b0 b1 HS.out (by right; simpa using h2)
    go_ret2
    exact ⟨ret_ib this.1.symm this.2.symm, rfl⟩
  · rename_i h1
    have := fine_sum a0 a1 b0 b1 HS.out (.inl h1)
    go_ret2
    exact ⟨ret_ib this.1.symm this.2.symm, rfl⟩
set_option maxHeartbeats 400000 in
theorem a_size (a : Int) (a0 : -9223372036854775808 ≤ a) (a1 : a ≤ 9223372036854775807) (w : World) :
    Calls Try.prog 92 #[.int .i64 a] w fun e w' => e = .returned (.int .u64 (a.natAbs : Int)) ∧ w = w' := by
  rcases Int.lt_or_le a 0 with h | h
  · go_enter Try.func92, Try.ntmps92
    go_wp2
    go_ret
    refine ⟨?_, rfl⟩
    rw [show (a.natAbs : Int) = IntKind.u64.wrap (-IntKind.u64.wrap a) by rw [IntKind.wrap_u64, IntKind.wrap_u64]; omega]; rfl
  · go_enter Try.func92, Try.ntmps92
    go_wp2
    go_ret
    refine ⟨?_, rfl⟩
    rw [show (a.natAbs : Int) = a by omega]; rfl
end Go.Proofs.Ytnikajkklocncaa
namespace Go.Proofs.Ytnikajkklocncaa
open Go.RowKit
theorem abs_mul (a b : Int) : (a.natAbs * b.natAbs : Nat) = (a * b).natAbs := (Int.natAbs_mul a b).symm
end Go.Proofs.Ytnikajkklocncaa
namespace Go.Proofs.Ytnikajkklocncaa
open Go.RowKit
def dg (n i : Nat) : Nat := n / 2^(31*i) % 2147483648
def low (m i : Nat) : Nat := m % 2^(31*i)
end Go.Proofs.Ytnikajkklocncaa
namespace Go.Proofs.Ytnikajkklocncaa
open Go.RowKit
theorem gs {α : Type} {o x : α} {l : List α} {n : Nat} (h : l.toArray[n]? = some x) : (o :: l).toArray[n + 1]? = some x := by
  simpa using h
end Go.Proofs.Ytnikajkklocncaa
namespace Go.Proofs.Ytnikajkklocncaa
open Go.RowKit
def wHi (v : Int) : Int := v / 18446744073709551616 % 18446744073709551616
def wLo (v : Int) : Int := v % 18446744073709551616
def wdA (v : Int) : Array Value := #[.int .u64 (wHi v), .int .u64 (wLo v)]
end Go.Proofs.Ytnikajkklocncaa
namespace Go.Proofs.Ytnikajkklocncaa
open Go.RowKit
theorem abs_bd {a b : Int} (a0 : -9223372036854775808 ≤ a) (a1 : a ≤ 9223372036854775807) (b0 : -9223372036854775808 ≤ b) (b1 : b ≤ 9223372036854775807) : (a * b).natAbs ≤ 85070591730234615865843651857942052864 := by
  rw [Int.natAbs_mul]
  have h1 : a.natAbs ≤ 9223372036854775808 := by omega
  have h2 : b.natAbs ≤ 9223372036854775808 := by omega
  exact Nat.mul_le_mul h1 h2
theorem w_size (p : Nat) (h : p ≤ 85070591730234615865843651857942052864) : wHi (p : Int) = ((p / 18446744073709551616 : Nat) : Int) ∧ wLo (p : Int) = ((p % 18446744073709551616 : Nat) : Int) := by
  unfold wHi wLo; omega
theorem cmp_pos {v : Int} (h : 0 < v) : cmpI v = 1 := by unfold cmpI; rw [if_neg (by omega), if_neg (by omega)]
theorem cmp_neg {v : Int} (h : v < 0) : cmpI v = -1 := by unfold cmpI; rw [if_neg (by omega), if_pos h]
theorem cmp_zero : cmpI 0 = 0 := rfl
def prodV (v : Int) : Value := .tuple #[.int .i64 (cmpI v), .agg (wdA (v.natAbs : Int))]
set_option maxHeartbeats 400000 in
theorem prod_any (a b : Int) (a0 : -9223372036854775808 ≤ a) (a1 : a ≤ 9223372036854775807) (b0 : -9223372036854775808 ≤ b) (b1 : b ≤ 9223372036854775807) (w : World) :
  Calls Try.prog 85 #[.int .i64 a, .int .i64 b] w fun e w' => e = .returned (prodV (a * b)) ∧ Below w.heap.size w w' := by
 have hp := abs_bd a0 a1 b0 b1
 have hm := fun w => Try.bits_Mul64 a.natAbs b.natAbs (by omega) (by omega) w
 have hmul : a.natAbs * b.natAbs = (a * b).natAbs := abs_mul a b
 rw [hmul] at hm
 have hw := hid (w_size _ hp)
 clear hp hmul
 have hcase : (a = 0 ∨ b = 0) ∨ ((a < 0 ↔ b < 0) ∧ a ≠ 0 ∧ b ≠ 0) ∨ (¬ (a < 0 ↔ b < 0) ∧ a ≠ 0 ∧ b ≠ 0) := by omega
 rcases hcase with h | h | h
 ·
  have hz : a * b = 0 := by rcases h with h | h <;> simp [h]
  rw [hz] at hw ⊢
  clear hz
  by_cases ha : a = 0
  ·
   have t1 : (a == 0) = true := by simp [ha]
   clear ha h
   go_enter Try.func85, Try.ntmps85
   go_wp2_with (first | (go_at_call_of 92 (Value.int IntKind.i64 a); refine (a_size a a0 a1 _).mono ?_; rintro e w' ⟨rfl, rfl⟩) | (go_at_call_of 92 (Value.int IntKind.i64 b); refine (a_size b b0 b1 _).mono ?_; rintro e w' ⟨rfl, rfl⟩) | (go_at_call 91; refine (hm _).mono ?_; rintro e w' ⟨rfl, hww⟩; subst hww))
   refine bodyPost_ret (v := prodV 0) (by simp [results, Try.results85, go_sem, prodV, wdA, cmpI, wHi, wLo]) rfl ⟨rfl, ?_⟩
   exact (Below.refl _ _).alloc (Nat.le_refl _) _
  ·
   have t1 : (a == 0) = false := by simp [ha]
   have t2 : (b == 0) = true := by simp; omega
   clear ha h
   go_enter Try.func85, Try.ntmps85
   go_wp2_with (first | (go_at_call_of 92 (Value.int IntKind.i64 a); refine (a_size a a0 a1 _).mono ?_; rintro e w' ⟨rfl, rfl⟩) | (go_at_call_of 92 (Value.int IntKind.i64 b); refine (a_size b b0 b1 _).mono ?_; rintro e w' ⟨rfl, rfl⟩) | (go_at_call 91; refine (hm _).mono ?_; rintro e w' ⟨rfl, hww⟩; subst hww))
   refine bodyPost_ret (v := prodV 0) (by simp [results, Try.results85, go_sem, prodV, wdA, cmpI, wHi, wLo]) rfl ⟨rfl, ?_⟩
   exact (Below.refl _ _).alloc (Nat.le_refl _) _
 ·
  have t1 : (a == 0) = false := by simp; omega
  have t2 : (b == 0) = false := by simp; omega
  have t3 : (decide (a < 0) != decide (b < 0)) = false := by simp [h.1]
  have hs : cmpI (a * b) = 1 := by
   rcases Int.lt_or_le a 0 with g | g
   · exact cmp_pos (Int.mul_pos_of_neg_of_neg g (h.1.1 g))
   · exact cmp_pos (Int.mul_pos (by omega) (by omega))
  have HS := hid hs
  have hiff := h.1
  clear hs h
  go_enter Try.func85, Try.ntmps85
  go_wp2_with (first | (go_at_call_of 92 (Value.int IntKind.i64 a); refine (a_size a a0 a1 _).mono ?_; rintro e w' ⟨rfl, rfl⟩) | (go_at_call_of 92 (Value.int IntKind.i64 b); refine (a_size b b0 b1 _).mono ?_; rintro e w' ⟨rfl, rfl⟩) | (go_at_call 91; refine (hm _).mono ?_; rintro e w' ⟨rfl, hww⟩; subst hww))
  refine bodyPost_ret (v := prodV (a * b)) (by simp [results, Try.results85, go_sem, prodV, wdA, hw.out.1, hw.out.2, HS.out]) rfl ⟨rfl, ?_⟩
  exact (Below.refl _ _).alloc (Nat.le_refl _) _
 ·
  have t1 : (a == 0) = false := by simp; omega
  have t2 : (b == 0) = false := by simp; omega
  have hs : cmpI (a * b) = -1 := by
   rcases Int.lt_or_le a 0 with g | g
   · exact cmp_neg (Int.mul_neg_of_neg_of_pos g (by omega))
   · exact cmp_neg (Int.mul_neg_of_pos_of_neg (by omega) (by omega))
  have t3 : (!decide (a < 0) == decide (b < 0)) = true := by
   have := h.1
   by_cases g : a < 0 <;> by_cases g2 : b < 0 <;> simp [g, g2] at this ⊢
  have HS := hid hs
  have hiff := h.1
  clear hs h
  go_enter Try.func85, Try.ntmps85
  go_wp2_with (first | (go_at_call_of 92 (Value.int IntKind.i64 a); refine (a_size a a0 a1 _).mono ?_; rintro e w' ⟨rfl, rfl⟩) | (go_at_call_of 92 (Value.int IntKind.i64 b); refine (a_size b b0 b1 _).mono ?_; rintro e w' ⟨rfl, rfl⟩) | (go_at_call 91; refine (hm _).mono ?_; rintro e w' ⟨rfl, hww⟩; subst hww))
  refine bodyPost_ret (v := prodV (a * b)) (by simp [results, Try.results85, go_sem, prodV, wdA, hw.out.1, hw.out.2, HS.out]) rfl ⟨rfl, ?_⟩
  exact (Below.refl _ _).alloc (Nat.le_refl _) _
theorem eq_wide (a b c d : Int) (w : World) : (Op.equalIn 10000 88 (.agg #[.int .u64 a, .int .u64 b]) (.agg #[.int .u64 c, .int .u64 d])).run Try.prog w = .ok (a == c && b == d) w := by
  have u3 := Try.underlying45
  have q3 := Try.isAgg45
  have z3 := Try.sizeOf45
  have hS : Try.prog.underlying 88 = some (.struct (Try.prog.fieldsOf 88)) := by kernel_rfl
  have hp : Try.prog.stoodInHeld 88 = false := by kernel_rfl
  rw [show (10000 : Nat) = 9999 + 1 from rfl, run_equalIn_agg w 9999 88 _ _ hS hp]
  simp only [Program.fieldsOf, Try.underlying88]
  go_simp
  by_cases h1 : a = c <;> by_cases h2 : b = d <;> simp [h1, h2]
set_option maxHeartbeats 800000 in
theorem order_any (p q : Nat) (hp : p ≤ 85070591730234615865843651857942052864) (hq : q ≤ 85070591730234615865843651857942052864) (w : World) :
  Calls Try.prog 86 #[.agg (wdA (p : Int)), .agg (wdA (q : Int))] w fun e w' => e = .returned (.int .i64 (cmpI ((p : Int) - q))) ∧ Below w.heap.size w w' := by
 have ep := w_size p hp
 have eq := w_size q hq
 unfold wdA
 rw [ep.1, ep.2, eq.1, eq.2]
 clear ep eq
 have hpe := Nat.div_add_mod p 18446744073709551616
 have hqe := Nat.div_add_mod q 18446744073709551616
 have hpm := Nat.mod_lt p (show 18446744073709551616 > 0 by decide)
 have hqm := Nat.mod_lt q (show 18446744073709551616 > 0 by decide)
 clear hp hq
 generalize p / 18446744073709551616 = ph at *
 generalize p % 18446744073709551616 = pl at *
 generalize q / 18446744073709551616 = qh at *
 generalize q % 18446744073709551616 = ql at *
 have HP := hid hpe
 have HQ := hid hqe
 have HPM := hid hpm
 have HQM := hid hqm
 clear hpe hqe hpm hqm
 have he := fun w => eq_wide (ph : Int) (pl : Int) (qh : Int) (ql : Int) w
 by_cases h1 : ph = qh ∧ pl = ql
 ·
  have hx : ((ph : Int) == (qh : Int) && (pl : Int) == (ql : Int)) = true := by simp; omega
  rw [hx] at he
  have H1 := hid h1
  clear hx h1
  go_enter Try.func86, Try.ntmps86
  go_wp2
  go_ret
  have g1 := H1.out; have g2 := HP.out; have g3 := HQ.out
  refine ⟨ret_i64 ?_, ((Below.refl _ _).alloc (Nat.le_refl _) _).alloc (by simp) _⟩
  rw [show (p : Int) - q = 0 by rw [g1.1, g1.2] at g2; omega]; rfl
 ·
  have hx : ((ph : Int) == (qh : Int) && (pl : Int) == (ql : Int)) = false := by
   rw [Bool.eq_false_iff]; intro g; apply h1; simp at g; omega
  rw [hx] at he
  clear hx
  rcases Nat.lt_trichotomy ph qh with h | h | h
  ·
   have H := hid h
   have hlt : (ph : Int) < qh := by omega
   clear h h1
   go_enter Try.func86, Try.ntmps86
   go_wp2
   go_ret
   have g1 := H.out; have g2 := HP.out; have g3 := HQ.out; have g4 := HPM.out; have g5 := HQM.out
   exact ⟨ret_i64 (cmp_neg (by omega)).symm, ((Below.refl _ _).alloc (Nat.le_refl _) _).alloc (by simp) _⟩
  ·
   have H := hid h
   have hb1 : ¬ (ph : Int) < qh := by omega
   have hb2 : ((ph : Int) == qh) = true := by simp; omega
   rcases Nat.lt_or_ge pl ql with h3 | h3
   ·
    have H3 := hid h3
    have hlt : (pl : Int) < ql := by omega
    clear h h1 h3
    go_enter Try.func86, Try.ntmps86
    go_wp2
    go_ret
    have g1 := H.out; have g2 := HP.out; have g3 := HQ.out; have g4 := H3.out
    exact ⟨ret_i64 (cmp_neg (by rw [g1] at g2; omega)).symm, ((Below.refl _ _).alloc (Nat.le_refl _) _).alloc (by simp) _⟩
   ·
    have H3 := hid (show ql < pl by omega)
    have hlt : ¬ (pl : Int) < ql := by omega
    clear h h1 h3
    go_enter Try.func86, Try.ntmps86
    go_wp2
    go_ret
    have g1 := H.out; have g2 := HP.out; have g3 := HQ.out; have g4 := H3.out
    exact ⟨ret_i64 (cmp_pos (by rw [g1] at g2; omega)).symm, ((Below.refl _ _).alloc (Nat.le_refl _) _).alloc (by simp) _⟩
  ·
   have H := hid h
   have hlt : ¬ (ph : Int) < qh := by omega
   have hb2 : ((ph : Int) == qh) = false := by simp; omega
   clear h h1
   go_enter Try.func86, Try.ntmps86
   go_wp2
   go_ret
   have g1 := H.out; have g2 := HP.out; have g3 := HQ.out; have g4 := HPM.out; have g5 := HQM.out
   exact ⟨ret_i64 (cmp_pos (by omega)).symm, ((Below.refl _ _).alloc (Nat.le_refl _) _).alloc (by simp) _⟩
theorem cmp_bd (v : Int) : -1 ≤ cmpI v ∧ cmpI v ≤ 1 := by unfold cmpI; split <;> (try split) <;> omega
theorem cmp_opp (v : Int) : cmpI (-v) = - cmpI v := by unfold cmpI; split <;> (try split) <;> (try split) <;> omega
def CrossAt (x y : Int) (w : World) (e : Ending) (w' : World) : Prop := e = .returned (.int .i64 (cmpI (x - y))) ∧ Below w.heap.size w w'
theorem prod_sign (a b s : Int) (a0 : -9223372036854775808 ≤ a) (a1 : a ≤ 9223372036854775807) (b0 : -9223372036854775808 ≤ b) (b1 : b ≤ 9223372036854775807) (hs : cmpI (a * b) = s) (w : World) :
    Calls Try.prog 85 #[.int .i64 a, .int .i64 b] w fun e w' => e = .returned (.tuple #[.int .i64 s, .agg (wdA ((a * b).natAbs : Int))]) ∧ Below w.heap.size w w' := by
  have := prod_any a b a0 a1 b0 b1 w
  unfold prodV at this
  rw [hs] at this
  exact this
set_option maxHeartbeats 800000 in
theorem cross_lt (a b c d s t : Int) (a0 : -9223372036854775808 ≤ a) (a1 : a ≤ 9223372036854775807) (b0 : -9223372036854775808 ≤ b) (b1 : b ≤ 9223372036854775807)
  (c0 : -9223372036854775808 ≤ c) (c1 : c ≤ 9223372036854775807) (d0 : -9223372036854775808 ≤ d) (d1 : d ≤ 9223372036854775807)
  (hs : cmpI (a * b) = s) (ht : cmpI (c * d) = t) (h : s < t ∨ t < s) (w : World) :
  Calls Try.prog 80 #[.int .i64 a, .int .i64 b, .int .i64 c, .int .i64 d] w (CrossAt (a * b) (c * d) w) := by
 have h1 := prod_sign a b s a0 a1 b0 b1 hs
 have h2 := prod_sign c d t c0 c1 d0 d1 ht
 have hres : cmpI (a * b - c * d) = if s < t then -1 else 1 := by
  unfold cmpI at hs ht ⊢
  generalize a * b = x at *
  generalize c * d = y at *
  split at hs <;> (try split at hs) <;> split at ht <;> (try split at ht) <;> subst hs <;> subst ht <;> simp at h ⊢ <;> (try split) <;> (try split) <;> omega
 have HR := hid hres
 have bs := cmp_bd (a * b)
 have bt := cmp_bd (c * d)
 rw [hs] at bs
 rw [ht] at bt
 have H1 := hid h1
 have H2 := hid h2
 clear h1 h2 hres hs ht
 rcases h with h | h
 all_goals
  go_enter Try.func80, Try.ntmps80
  go_wp2_with fail
  refine (H1.out _).mono ?_
  rintro e w1 ⟨rfl, hb1⟩
  unfold wdA
  obtain ⟨hc1, hf1⟩ := bcell hb1
  have HB1 := hid hb1
  clear hb1
  go_wp2_with fail
  refine (H2.out _).mono ?_
  rintro e w2 ⟨rfl, hb2⟩
  unfold wdA
  have HB2 := hid hb2
  clear hb2
  go_wp2_with fail
  go_ret
  refine ⟨ret_i64 ?_, ?_⟩
  · rw [HR.out]; first | rw [if_pos h] | rw [if_neg (by omega)]
  ·
   have z1 := HB1.out.size
   have z2 := HB2.out.size
   simp at z2
   exact (((HB1.out.alloc z1 _).trans (HB2.out.mono (by simp; omega))).alloc (by omega) _)
theorem same_sign {x y s : Int} (hx : cmpI x = s) (hy : cmpI y = s) : cmpI (x - y) = s * cmpI ((x.natAbs : Int) - y.natAbs) := by
  rcases Int.lt_trichotomy x 0 with h | h | h
  · rw [cmp_neg h] at hx
    subst hx
    have : y < 0 := by
      rcases Int.lt_trichotomy y 0 with g | g | g
      · exact g
      · subst g; simp [cmpI] at hy
      · rw [cmp_pos g] at hy; omega
    rw [show x - y = -((x.natAbs : Int) - y.natAbs) by omega, cmp_opp]; omega
  · subst h
    rw [cmp_zero] at hx
    subst hx
    have : y = 0 := by
      rcases Int.lt_trichotomy y 0 with g | g | g
      · rw [cmp_neg g] at hy; omega
      · exact g
      · rw [cmp_pos g] at hy; omega
    subst this; rfl
  · rw [cmp_pos h] at hx
    subst hx
    have : 0 < y := by
      rcases Int.lt_trichotomy y 0 with g | g | g
      · rw [cmp_neg g] at hy; omega
      · subst g; simp [cmpI] at hy
      · exact g
    rw [show x - y = ((x.natAbs : Int) - y.natAbs) by omega]; omega
set_option maxHeartbeats 800000 in
theorem cross_eq (a b c d s : Int) (a0 : -9223372036854775808 ≤ a) (a1 : a ≤ 9223372036854775807) (b0 : -9223372036854775808 ≤ b) (b1 : b ≤ 9223372036854775807)
  (c0 : -9223372036854775808 ≤ c) (c1 : c ≤ 9223372036854775807) (d0 : -9223372036854775808 ≤ d) (d1 : d ≤ 9223372036854775807)
  (hs : cmpI (a * b) = s) (ht : cmpI (c * d) = s) (w : World) :
  Calls Try.prog 80 #[.int .i64 a, .int .i64 b, .int .i64 c, .int .i64 d] w (CrossAt (a * b) (c * d) w) := by
 have h1 := prod_sign a b s a0 a1 b0 b1 hs
 have h2 := prod_sign c d s c0 c1 d0 d1 ht
 have hres := same_sign hs ht
 have h3 := order_any (a * b).natAbs (c * d).natAbs (abs_bd a0 a1 b0 b1) (abs_bd c0 c1 d0 d1)
 have hr := cmp_bd (((a * b).natAbs : Int) - (c * d).natAbs)
 have bs := cmp_bd (a * b)
 rw [hs] at bs
 have HR := hid hres
 have H1 := hid h1
 have H2 := hid h2
 have H3 := hid h3
 clear h1 h2 hres hs ht h3
 have hs3 : s = -1 ∨ s = 0 ∨ s = 1 := by omega
 generalize cmpI (((a * b).natAbs : Int) - (c * d).natAbs) = r at *
 rcases hs3 with rfl | rfl | rfl
 all_goals
  go_enter Try.func80, Try.ntmps80
  go_wp2_with fail
  refine (H1.out _).mono ?_
  rintro e w1 ⟨rfl, hb1⟩
  unfold wdA
  obtain ⟨hc1, hf1⟩ := bcell hb1
  have z1 := hb1.size
  have HB1 := hid hb1
  clear hb1
  go_wp2_with fail
  refine (H2.out _).mono ?_
  rintro e w2 ⟨rfl, hb2⟩
  unfold wdA
  obtain ⟨hc2, hf2⟩ := bcell hb2
  have z2 := hb2.size
  simp at z2
  have z3 : w1.heap.size < w2.heap.size := by omega
  have HB2 := hid hb2
  clear hb2
  go_wp2_with fail
  refine (H3.out _).mono ?_
  rintro e w3 ⟨rfl, hb3⟩
  have HB3 := hid hb3
  clear hb3
  go_wp2_with fail
  go_ret
  refine ⟨ret_i64 (by rw [HR.out]; omega), ?_⟩
  have hB2 := ((HB1.out.alloc z1 _).trans (HB2.out.mono (by simp; omega))).alloc (by omega) (.cells #[.int .u64 (wHi ((c * d).natAbs : Int)), .int .u64 (wLo ((c * d).natAbs : Int))] 88)
  exact hB2.trans (HB3.out.mono (by simp; omega))
theorem cross_any (a b c d : Int) (a0 : -9223372036854775808 ≤ a) (a1 : a ≤ 9223372036854775807) (b0 : -9223372036854775808 ≤ b) (b1 : b ≤ 9223372036854775807)
    (c0 : -9223372036854775808 ≤ c) (c1 : c ≤ 9223372036854775807) (d0 : -9223372036854775808 ≤ d) (d1 : d ≤ 9223372036854775807) (w : World) :
    Calls Try.prog 80 #[.int .i64 a, .int .i64 b, .int .i64 c, .int .i64 d] w (CrossAt (a * b) (c * d) w) := by
  by_cases h : cmpI (a * b) = cmpI (c * d)
  · exact cross_eq a b c d _ a0 a1 b0 b1 c0 c1 d0 d1 rfl h.symm w
  · exact cross_lt a b c d _ _ a0 a1 b0 b1 c0 c1 d0 d1 rfl rfl (by omega) w
end Go.Proofs.Ytnikajkklocncaa
namespace Go.Proofs.Ytnikajkklocncaa
open Go.RowKit
attribute [local go_sem ↓] Go.wp_at_zero Go.wp_at_succ
def sgA (s : Bool) (n : Nat) : Array Value := #[.bool s, .int .i64 (dg n 0), .int .i64 (dg n 1), .int .i64 (dg n 2), .int .i64 (dg n 3), .int .i64 (dg n 4), .int .i64 (dg n 5), .int .i64 (dg n 6), .int .i64 (dg n 7), .int .i64 (dg n 8)]
end Go.Proofs.Ytnikajkklocncaa
namespace Go.Proofs.Ytnikajkklocncaa
open Go.RowKit
def val (s : Bool) (m : Nat) : Int := if s then -(m : Int) else m
end Go.Proofs.Ytnikajkklocncaa
namespace Go.Proofs.Ytnikajkklocncaa
open Go.RowKit
def Sg (v : Int) (x : Array Value) : Prop := ∃ s m, x = sgA s m ∧ val s m = v
theorem Sg.size {v : Int} {x : Array Value} (h : Sg v x) : x.size = 10 := by obtain ⟨s, m, rfl, -⟩ := h; rfl
theorem Sg.one {v : Int} {x : Array Value} (h : Sg v x) : allOne x.toList = true := by obtain ⟨s, m, rfl, -⟩ := h; rfl
def Lt (k : Nat) (v : Int) : Prop := v.natAbs < 2 ^ k
theorem Lt.int {a : Int} (a0 : -9223372036854775808 ≤ a) (a1 : a ≤ 9223372036854775807) : Lt 64 a := by
  unfold Lt
  have : (2:Nat)^64 = 18446744073709551616 := by decide
  omega
theorem Lt.mul {k j : Nat} {u v : Int} (hu : Lt k u) (hv : Lt j v) : Lt (k + j) (u * v) := by
  unfold Lt at *
  rw [Int.natAbs_mul, Nat.pow_add]
  exact Nat.mul_lt_mul'' hu hv
theorem Lt.add {k : Nat} {u v : Int} (hu : Lt k u) (hv : Lt k v) : Lt (k + 1) (u + v) := by
  unfold Lt at *
  rw [Nat.pow_succ]
  have := Int.natAbs_add_le u v
  omega
end Go.Proofs.Ytnikajkklocncaa
namespace Go.Proofs.Ytnikajkklocncaa
open Go.RowKit
set_option maxRecDepth 100000 in
set_option maxHeartbeats 400000 in
theorem below09 (n : Int) (w : World) :
    Calls Try.prog 77 #[.int .i64 n] w fun e w' => e = .returned (.bool (decide (n < 0))) ∧ w = w' := by
  have hbs := Below.refl (B := w.heap.size) w
  have hM := Mem.start w
  refine Calls.of_ends (vs := [.int .i64 n]) Try.func77 rfl Try.ntmps77 rfl ?_
  intro a hA
  replace hA : St 5 [(0, _)] a := hA
  refine Ends.seq (Ends.region ?_)
  refine S.val hA (R.assign rfl) rfl ?_; clear hA a; intro a hA
  refine S.done ?_
  replace hA : St 5 [(0, _)] a := hA.sub ((.cons rfl .nil))
  refine Ends.seq (Ends.region ?_)
  refine S.val hA (R.move rfl) rfl ?_; clear hA a; intro a hA
  refine S.val hA (R.lss rfl rfl) rfl ?_; clear hA a; intro a hA
  refine S.val hA (R.assign rfl) rfl ?_; clear hA a; intro a hA
  refine S.done ?_
  replace hA : St 5 [(2, _)] a := hA.sub ((.cons rfl .nil))
  refine Ends.ret1 Try.func77 Try.results77 hA rfl ?_
  exact ⟨rfl, rfl⟩
theorem dec_bool {p : Prop} [Decidable p] {b : Bool} (h : p ↔ b = true) : decide p = b := by cases b <;> simp_all
theorem callsNilq {P : Program} {f : FuncId} {vs : Array Value} {w : World} {R : Ending → World → Prop} (h : Calls P f vs w R) : Calls P f (vs ++ #[]) w R := by rwa [Array.append_empty]
set_option maxRecDepth 100000 in
set_option maxHeartbeats 400000 in
theorem index09 (ax : Option Addr) (X : List Int) (cx : Nat) (w : World) (hx : IntSl w (.slice ax X.length cx) X) :
  Calls Try.prog 84 #[.slice ax X.length cx, .func (.func 77) #[] #[]] w fun e w' => ∃ r : Int, e = .returned (.int .i64 r) ∧ (0 ≤ r ↔ hasNeg X = true) ∧ Below w.heap.size w w' := by
 have hbs := Below.refl (B := w.heap.size) w
 have hlX := hx.lenB
 have hM := Mem.start w
 refine Calls.of_ends (vs := [.slice ax X.length cx, .func (.func 77) #[] #[]]) Try.func84 rfl Try.ntmps84 rfl ?_
 intro a hA
 replace hA : St 19 [(0, _), (1, _)] a := hA
 refine Ends.seq (Ends.region ?_)
 refine S.val hA (R.assign rfl) rfl ?_; clear hA a; intro a hA
 refine S.done ?_
 replace hA : St 19 [(0, _), (1, _)] a := hA.sub ((.cons rfl (.cons rfl .nil)))
 refine Ends.seq (Ends.seq (Ends.region ?_))
 refine S.val hA (R.move rfl) rfl ?_; clear hA a; intro a hA
 refine S.val hA (R.lenS Try.underlying22 rfl rfl) rfl ?_; clear hA a; intro a hA
 refine S.val hA (R.move rfl) rfl ?_; clear hA a; intro a hA
 refine S.done ?_
 replace hA : St 19 [(0, _), (1, _), (7, _), (8, _)] a := hA.sub ((.cons rfl (.cons rfl (.cons rfl (.cons rfl .nil)))))
 refine Ends.block ?_
 refine Ends.loop (σ := Nat) (fun k (a : Act) (wv : World) => St 19 [(0, .slice ax X.length cx), (1, .func (.func 77) #[] #[]), (7, .int .i64 ((X.length : Int))), (8, .int .i64 ((k : Int)))] a ∧ Mem w nof [] wv ∧ (k ≤ X.length) ∧ (∀ j, j < k → 0 ≤ X.getD j 0)) (fun k => X.length - k) 0 ⟨hA.sub ((.cons rfl (.cons rfl (.cons rfl (.cons rfl .nil))))), hM, (Nat.zero_le _), (fun j hj => absurd hj (Nat.not_lt_zero _))⟩ ?_
 clear hA hM a
 rintro k a w1 ⟨hA, hM, hk, hk2⟩ hNext
 refine Ends.seq (Ends.region ?_)
 refine S.val hA (R.lss rfl rfl) rfl ?_; clear hA a; intro a hA
 refine S.done ?_
 replace hA : St 19 [(0, _), (1, _), (7, _), (8, _), (9, _)] a := hA.sub ((.cons rfl (.cons rfl (.cons rfl (.cons rfl (.cons rfl .nil))))))
 refine Ends.seq ?_
 refine Ends.ite hA rfl (fun hc1 => ?_) (fun hc1 => ?_)
 ·
  refine Ends.skip (Ends.seq (Ends.block (Ends.seq (Ends.region ?_))))
  refine S.val hA (R.move rfl) rfl ?_; clear hA a; intro a hA
  refine S.val hA (R.assign rfl) rfl ?_; clear hA a; intro a hA
  refine S.done ?_
  replace hA : St 19 [(0, _), (1, _), (5, _), (7, _), (8, _)] a := hA.sub ((.cons rfl (.cons rfl (.cons rfl (.cons rfl (.cons rfl .nil))))))
  refine Ends.seq (Ends.region ?_)
  refine S.val hA (R.move rfl) rfl ?_; clear hA a; intro a hA
  refine S.val hA (R.move rfl) rfl ?_; clear hA a; intro a hA
  refine S.val hA (R.move rfl) rfl ?_; clear hA a; intro a hA
  refine S.val hA (R.idxI hx (j := k) sl22 rfl rfl (by omega) (rfl)) rfl ?_; clear hA a; intro a hA
  refine S.val hA (R.loadI (hx.mem hM) sz3 rfl (by omega)) rfl ?_; clear hA a; intro a hA
  refine S.call hA (R.callV Try.func77 (by kernel_rfl) rfl rfl rfl) rfl (callsNilq (below09 (X.getD k 0) _)) ?_; clear hA a
  rintro e w2 ⟨rfl, rfl⟩
  refine ⟨.bool (decide (X.getD k 0 < 0)), rfl, fun a hA => ?_⟩
  refine S.done ?_
  replace hA : St 19 [(0, _), (1, _), (5, _), (7, _), (8, _), (16, _)] a := hA.sub ((.cons rfl (.cons rfl (.cons rfl (.cons rfl (.cons rfl (.cons rfl .nil)))))))
  refine Ends.ite hA rfl (fun hc2 => ?_) (fun hc2 => ?_)
  ·
   refine Ends.seq (Ends.region ?_)
   refine S.val hA (R.move rfl) rfl ?_; clear hA a; intro a hA
   refine S.val hA (R.assign rfl) rfl ?_; clear hA a; intro a hA
   refine S.done ?_
   replace hA : St 19 [(0, _), (1, _), (4, _), (7, _), (8, _)] a := hA.sub ((.cons rfl (.cons rfl (.cons rfl (.cons rfl (.cons rfl .nil))))))
   refine Ends.ret1 Try.func84 Try.results84 hA rfl ?_
   exact ⟨(k : Int), rfl, by rw [hasNeg_at (k := k) (by omega) (by omega)]; simp, Mem.trans0 hbs hM.nilL⟩
  ·
   refine Ends.skip (Ends.inBlock (Ends.region ?_))
   refine S.val hA (R.addI rfl rfl (r := ((k : Int)) + 1) rfl (by omega)) rfl ?_; clear hA a; intro a hA
   refine S.val hA (R.move rfl) rfl ?_; clear hA a; intro a hA
   refine S.done ?_
   replace hA : St 19 [(0, _), (1, _), (7, _), (8, _)] a := hA.sub ((.cons rfl (.cons rfl (.cons rfl (.cons rfl .nil)))))
   exact hNext ((k + 1)) _ _ ((by show X.length - (k + 1) < X.length - k; omega)) ⟨hA.sub ((.cons rfl (.cons rfl (.cons rfl (.cons rfl .nil))))), hM, (by omega), (fun j hj => (Nat.lt_or_ge j k).elim (fun g => hk2 j g) (fun g => by have e : j = k := (by omega); rw [e]; omega))⟩
 ·
  refine Ends.exit rfl ?_
  replace hA : St 19 [] a := hA.sub (.nil)
  refine Ends.seq (Ends.region ?_)
  refine S.val hA (R.assign rfl) rfl ?_; clear hA a; intro a hA
  refine S.done ?_
  replace hA : St 19 [(4, _)] a := hA.sub ((.cons rfl .nil))
  refine Ends.ret1 Try.func84 Try.results84 hA rfl ?_
  obtain rfl : k = X.length := by omega
  exact ⟨-1, rfl, by rw [hasNeg_no hk2]; simp, Mem.trans0 hbs hM.nilL⟩
set_option maxRecDepth 100000 in
set_option maxHeartbeats 400000 in
theorem contains09 (ax : Option Addr) (X : List Int) (cx : Nat) (w : World) (hx : IntSl w (.slice ax X.length cx) X) :
    Calls Try.prog 76 #[.slice ax X.length cx, .func (.func 77) #[] #[]] w fun e w' => e = .returned (.bool (hasNeg X)) ∧ Below w.heap.size w w' := by
  have hbs := Below.refl (B := w.heap.size) w
  have hM := Mem.start w
  refine Calls.of_ends (vs := [.slice ax X.length cx, .func (.func 77) #[] #[]]) Try.func76 rfl Try.ntmps76 rfl ?_
  intro a hA
  replace hA : St 9 [(0, _), (1, _)] a := hA
  refine Ends.seq (Ends.region ?_)
  refine S.val hA (R.assign rfl) rfl ?_; clear hA a; intro a hA
  refine S.done ?_
  replace hA : St 9 [(0, _), (1, _)] a := hA.sub ((.cons rfl (.cons rfl .nil)))
  refine Ends.seq (Ends.region ?_)
  refine S.val hA (R.move rfl) rfl ?_; clear hA a; intro a hA
  refine S.val hA (R.move rfl) rfl ?_; clear hA a; intro a hA
  refine S.call hA (R.callF Try.func84 rfl rfl rfl) rfl (index09 ax X cx _ (hx.mem hM)) ?_; clear hA a
  rintro e w1 ⟨ri1, rfl, hri2, hb⟩
  replace hM := hM.callB hb; clear hb
  refine ⟨.int .i64 ri1, rfl, fun a hA => ?_⟩
  refine S.val hA (R.geq rfl rfl) rfl ?_; clear hA a; intro a hA
  refine S.val hA (R.assign rfl) rfl ?_; clear hA a; intro a hA
  refine S.done ?_
  replace hA : St 9 [(4, _)] a := hA.sub ((.cons rfl .nil))
  refine Ends.ret1 Try.func76 Try.results76 hA rfl ?_
  exact ⟨by rw [dec_bool hri2], Mem.trans0 hbs hM.nilL⟩
theorem cmpI_pos (z : Int) : 0 < cmpI z ↔ 0 < z := by unfold cmpI; repeat' split; all_goals omega
def bdI (X : List Int) : Prop := ∀ z, -9223372036854775808 ≤ X.getD z 0 ∧ X.getD z 0 ≤ 9223372036854775807
set_option maxRecDepth 100000 in
set_option maxHeartbeats 400000 in
theorem byratio1 (bw bv : Nat) (au : Option Addr) (U : List Int) (cu : Nat) (av : Option Addr) (V : List Int) (cv : Nat) (x y : Int) (hvw : V.length = U.length) (hbv : bdI V) (hbw : bdI U) (hx : inRq V.length x) (hy : inRq V.length y) (w : World) (hqbw : w.heap[bw]? = some (.cells #[.slice au U.length cu] 22 (0, 0))) (hqbv : w.heap[bv]? = some (.cells #[.slice av V.length cv] 22 (0, 0))) (hu : IntSl w (.slice au U.length cu) U) (hv : IntSl w (.slice av V.length cv) V) :
  Calls Try.prog 79 #[.int .i64 x, .int .i64 y, .pointer (some ⟨bw, 0, none⟩), .pointer (some ⟨bv, 0, none⟩)] w fun e w' => e = .returned (.bool (ltq V U x y)) ∧ Below w.heap.size w w' := by
 have hbs := Below.refl (B := w.heap.size) w
 unfold inRq at hx hy
 have hM := Mem.start w
 refine Calls.of_ends (vs := [.int .i64 x, .int .i64 y, .pointer (some ⟨bw, 0, none⟩), .pointer (some ⟨bv, 0, none⟩)]) Try.func79 rfl Try.ntmps79 rfl ?_
 intro a hA
 replace hA : St 37 [(0, _), (1, _), (2, _), (3, _)] a := hA
 refine Ends.seq (Ends.region ?_)
 refine S.val hA (R.assign rfl) rfl ?_; clear hA a; intro a hA
 refine S.done ?_
 replace hA : St 37 [(0, _), (1, _), (2, _), (3, _)] a := hA.sub ((.cons rfl (.cons rfl (.cons rfl (.cons rfl .nil)))))
 refine Ends.seq (Ends.block (Ends.seq (Ends.region ?_)))
 refine S.val hA (R.load sz22 rfl (hM.cellB hqbw rfl)) rfl ?_; clear hA a; intro a hA
 refine S.val hA (R.move rfl) rfl ?_; clear hA a; intro a hA
 refine S.val hA (R.idxI hu (j := y.toNat) sl22 rfl rfl (by omega) (rfl)) rfl ?_; clear hA a; intro a hA
 refine S.val hA (R.loadI (hu.mem hM) sz3 rfl (by omega)) rfl ?_; clear hA a; intro a hA
 refine S.val hA (R.eql rfl rfl) rfl ?_; clear hA a; intro a hA
 refine S.val hA (R.assign rfl) rfl ?_; clear hA a; intro a hA
 refine S.done ?_
 replace hA : St 37 [(0, _), (1, _), (2, _), (3, _), (7, _)] a := hA.sub ((.cons rfl (.cons rfl (.cons rfl (.cons rfl (.cons rfl .nil))))))
 refine Ends.ite hA rfl (fun hc1 => ?_) (fun hc1 => ?_)
 ·
  refine Ends.seq (Ends.region ?_)
  refine S.val hA (R.assign rfl) rfl ?_; clear hA a; intro a hA
  refine S.done ?_
  replace hA : St 37 [(0, _), (1, _), (2, _), (3, _), (6, _)] a := hA.sub ((.cons rfl (.cons rfl (.cons rfl (.cons rfl (.cons rfl .nil))))))
  refine Ends.ret1 Try.func79 Try.results79 hA rfl ?_
  exact ⟨by unfold ltq; rw [if_pos (by omega)], Mem.trans0 hbs hM.nilL⟩
 ·
  refine Ends.seq (Ends.region ?_)
  refine S.val hA (R.load sz22 rfl (hM.cellB hqbw rfl)) rfl ?_; clear hA a; intro a hA
  refine S.val hA (R.move rfl) rfl ?_; clear hA a; intro a hA
  refine S.val hA (R.idxI hu (j := x.toNat) sl22 rfl rfl (by omega) (rfl)) rfl ?_; clear hA a; intro a hA
  refine S.val hA (R.loadI (hu.mem hM) sz3 rfl (by omega)) rfl ?_; clear hA a; intro a hA
  refine S.val hA (R.eql rfl rfl) rfl ?_; clear hA a; intro a hA
  refine S.val hA (R.assign rfl) rfl ?_; clear hA a; intro a hA
  refine S.done ?_
  replace hA : St 37 [(0, _), (1, _), (2, _), (3, _), (13, _)] a := hA.sub ((.cons rfl (.cons rfl (.cons rfl (.cons rfl (.cons rfl .nil))))))
  refine Ends.ite hA rfl (fun hc2 => ?_) (fun hc2 => ?_)
  ·
   refine Ends.seq (Ends.region ?_)
   refine S.val hA (R.assign rfl) rfl ?_; clear hA a; intro a hA
   refine S.done ?_
   replace hA : St 37 [(0, _), (1, _), (2, _), (3, _), (6, _)] a := hA.sub ((.cons rfl (.cons rfl (.cons rfl (.cons rfl (.cons rfl .nil))))))
   refine Ends.ret1 Try.func79 Try.results79 hA rfl ?_
   exact ⟨by unfold ltq; rw [if_neg (by omega), if_pos (by omega)], Mem.trans0 hbs hM.nilL⟩
  ·
   refine Ends.skip (Ends.inBlock (Ends.seq ?_))
   refine Ends.drawn (Mem w nof []) (.cons (0, true) (.cons (1, true) (.cons (2, true) (.cons (3, true) (.cons (4, true) (.cons (5, true) (.cons (6, true) (.cons (7, true) (.cons (8, true) (.cons (9, true) (.cons (10, true) (.cons (11, true) (.cons (12, true) (.cons (13, true) (.cons (14, true) (.cons (15, true) (.cons (16, false) (.cons (17, true) (.cons (18, true) .nil))))))))))))))))))) 19 mixed (by kernel_rfl) (by kernel_rfl) (by kernel_rfl) hM.drew ?_
   replace hM := hM.drew
   refine D.val hA rfl (by kernel_rfl) (fun _ hM => R.load sz22 rfl (hM.cellB hqbv rfl)) rfl ?_; clear hA a; intro a hA
   refine D.valF hA rfl (fun _ => R.move rfl) rfl ?_; clear hA a; intro a hA
   refine D.valF hA rfl (fun _ => R.idxI hv (j := x.toNat) sl22 rfl rfl (by omega) (rfl)) rfl ?_; clear hA a; intro a hA
   refine D.val hA rfl (by kernel_rfl) (fun _ hM => R.loadI (hv.mem hM) sz3 rfl (by omega)) rfl ?_; clear hA a; intro a hA
   refine D.val hA rfl (by kernel_rfl) (fun _ hM => R.load sz22 rfl (hM.cellB hqbw rfl)) rfl ?_; clear hA a; intro a hA
   refine D.valF hA rfl (fun _ => R.move rfl) rfl ?_; clear hA a; intro a hA
   refine D.valF hA rfl (fun _ => R.idxI hu (j := y.toNat) sl22 rfl rfl (by omega) (rfl)) rfl ?_; clear hA a; intro a hA
   refine D.val hA rfl (by kernel_rfl) (fun _ hM => R.loadI (hu.mem hM) sz3 rfl (by omega)) rfl ?_; clear hA a; intro a hA
   refine D.val hA rfl (by kernel_rfl) (fun _ hM => R.load sz22 rfl (hM.cellB hqbv rfl)) rfl ?_; clear hA a; intro a hA
   refine D.valF hA rfl (fun _ => R.move rfl) rfl ?_; clear hA a; intro a hA
   refine D.valF hA rfl (fun _ => R.idxI hv (j := y.toNat) sl22 rfl rfl (by omega) (rfl)) rfl ?_; clear hA a; intro a hA
   refine D.val hA rfl (by kernel_rfl) (fun _ hM => R.loadI (hv.mem hM) sz3 rfl (by omega)) rfl ?_; clear hA a; intro a hA
   refine D.val hA rfl (by kernel_rfl) (fun _ hM => R.load sz22 rfl (hM.cellB hqbw rfl)) rfl ?_; clear hA a; intro a hA
   refine D.valF hA rfl (fun _ => R.move rfl) rfl ?_; clear hA a; intro a hA
   refine D.valF hA rfl (fun _ => R.idxI hu (j := x.toNat) sl22 rfl rfl (by omega) (rfl)) rfl ?_; clear hA a; intro a hA
   refine D.val hA rfl (by kernel_rfl) (fun _ hM => R.loadI (hu.mem hM) sz3 rfl (by omega)) rfl ?_; clear hA a; intro a hA
   refine D.call hA rfl (R.callF Try.func80 rfl rfl rfl) rfl (cross_any (V.getD x.toNat 0) (U.getD y.toNat 0) (V.getD y.toNat 0) (U.getD x.toNat 0) (hbv _).1 (hbv _).2 (hbw _).1 (hbw _).2 (hbv _).1 (hbv _).2 (hbw _).1 (hbw _).2 _) ?_; clear hA a
   rintro e w1 ⟨rfl, hb⟩
   replace hM := hM.callB hb; clear hb
   refine ⟨.int .i64 (cmpI ((V.getD x.toNat 0) * (U.getD y.toNat 0) - (V.getD y.toNat 0) * (U.getD x.toNat 0))), rfl, hM, fun a hA => ?_⟩
   refine D.valF hA rfl (fun _ => R.gtr rfl rfl) rfl ?_; clear hA a; intro a hA
   refine D.valF hA rfl (fun _ => R.assign rfl) rfl ?_; clear hA a; intro a hA
   refine D.done ?_
   replace hA : St 37 [(6, _)] a := hA.sub ((.cons rfl .nil))
   refine Ends.ret1 Try.func79 Try.results79 hA rfl ?_
   exact ⟨by unfold ltq; rw [if_neg (by omega), if_neg (by omega)]; exact congrArg (fun z => Ending.returned (.bool z)) (decide_eq_decide.2 ((cmpI_pos _).trans (by omega))), Mem.trans0 hbs hM.nilL⟩
def badQ (v w : List Int) : Prop := ((v.length ≠ w.length ∨ 64 < v.length) ∨ hasNeg v = true) ∨ hasNeg w = true
instance (v w : List Int) : Decidable (badQ v w) := by unfold badQ; infer_instance
theorem badQ_iff {v w : List Int} : badQ v w ↔ ((((v.length : Int) ≠ (w.length : Int)) ∨ (64 : Int) < (v.length : Int)) ∨ (hasNeg v) = true) ∨ (hasNeg w) = true := by
  unfold badQ
  have e1 : ((v.length : Int) ≠ (w.length : Int)) ↔ v.length ≠ w.length := by omega
  have e2 : ((64 : Int) < (v.length : Int)) ↔ 64 < v.length := by omega
  rw [e1, e2]
def qL (v w : List Int) : List Int := if badQ v w then [] else byQ v w
def qE (v w : List Int) : Int := if badQ v w then 1 else 0
theorem not_bad {v w : List Int} (h : ¬ badQ v w) : v.length = w.length ∧ v.length ≤ 64 ∧ (∀ x ∈ v, 0 ≤ x) ∧ ∀ x ∈ w, 0 ≤ x := by
  unfold badQ at h
  simp only [not_or, Bool.not_eq_true, Decidable.not_not] at h
  exact ⟨h.1.1.1, by omega, nn_of h.1.2, nn_of h.2⟩
end Go.Proofs.Ytnikajkklocncaa
namespace Go.Proofs.Ytnikajkklocncaa
open Go.RowKit
def frs (B : Nat) (a : Option Addr) : Prop := ∀ p, a = some p → B ≤ p.block
theorem frs.mono {B C : Nat} {a : Option Addr} (h : frs C a) (hb : B ≤ C) : frs B a := fun p hp => Nat.le_trans hb (h p hp)
def rd (a : Option Addr) (c : Nat) (X : List Int) : Ck :=
  ⟨fun b => X ≠ [] ∧ ∃ p, a = some p ∧ p.block = b, fun w => IntSl w (.slice a X.length c) X, fun w w' h hw => by
    obtain ⟨a', c', he, h1, h2, h3, h4⟩ := hw
    refine ⟨a', c', he, h1, h2, h3, fun hne => ?_⟩
    obtain ⟨b, off, hb, hlt, hc⟩ := h4 hne
    cases he
    have hh := h b ⟨hne, _, hb, rfl⟩
    refine ⟨b, off, hb, ?_, fun i hi => ?_⟩
    · have h5 := Array.getElem?_eq_some_iff.1 (hh.trans (Array.getElem?_eq_getElem hlt))
      exact h5.1
    · rw [← hc i hi]; simp only [World.cell?, hh]⟩
theorem Mem.rd {w0 w : World} {F : Nat → Prop} {L : List Ck} {k c : Nat} {a : Option Addr} {X : List Int} (hM : Mem w0 F L w) (hk : ith L k = some (rd a c X)) : IntSl w (.slice a X.length c) X := hM.mem hk
theorem Mem.callRd {w0 w w' : World} {F : Nat → Prop} {L : List Ck} {c : Nat} {a : Option Addr} {X : List Int} (hM : Mem w0 F L w) (hb : Below w.heap.size w w') (h : IntSl w' (.slice a X.length c) X) (hf : frs w.heap.size a) : Mem w0 F (Go.Proofs.Ytnikajkklocncaa.rd a c X :: L) w' := by
  have h1 := hM.callB hb
  refine ⟨h1.os, h1.tape, h1.output, h1.size, h1.old, fun d hd => ?_, fun d hd b hdb => ?_, List.pairwise_cons.2 ⟨fun d hd b hab hdb => ?_, h1.apart⟩⟩
  · rcases List.mem_cons.1 hd with rfl | hd
    · exact h
    · exact h1.holds d hd
  · rcases List.mem_cons.1 hd with rfl | hd
    · obtain ⟨hne, p, hp, rfl⟩ := hdb
      obtain ⟨a', c', he, -, -, -, h4⟩ := h
      obtain ⟨b, off, hb', hlt, -⟩ := h4 hne
      cases he
      rw [hp] at hb'
      cases hb'
      have := hf _ hp
      have := hM.size
      exact ⟨hlt, fun g => absurd g (by simp only at *; omega)⟩
    · exact h1.inb d hd b hdb
  · obtain ⟨hne, p, hp, rfl⟩ := hab
    have h2 := hf _ hp
    have h3 := (hM.inb d hd _ hdb).1
    omega
theorem Mem.ptFresh {w0 w : World} {L : List Ck} {k b : Nat} {cs : Array Value} {t : TypeId} (hM : Mem w0 nof L w) (hk : ith L k = some (pt b cs t)) {o : Nat} : frs w0.heap.size (some ⟨b, o, none⟩) := fun p hp => by
  cases hp
  rw [ith_eq] at hk
  have hm := List.mem_of_getElem? hk
  exact Nat.le_of_not_lt fun h => (hM.inb _ hm b rfl).2 h
theorem Mem.ownFresh {w0 w : World} {L : List Ck} {k n m sz : Nat} {c : Nat} {e : TypeId} {a : Option Addr} {xs : List Value} (hM : Mem w0 nof L w) (hk : ith L k = some (own e sz (.slice a n c) m xs)) : frs w0.heap.size a := fun p hp => by
  subst hp
  rw [ith_eq] at hk
  have hm := List.mem_of_getElem? hk
  exact Nat.le_of_not_lt fun h => (hM.inb _ hm p.block rfl).2 h
end Go.Proofs.Ytnikajkklocncaa
namespace Go.Proofs.Ytnikajkklocncaa
open Go.RowKit
def MergeAtF (A : Int → Prop) (lt : Int → Int → Bool) (cf : FuncId) (cs : Array Value) (f : Nat) : Prop :=
  ∀ (ax : Option Addr) (X : List Int) (cx : Nat) (w : World), X.length ≤ f → X.length ≤ 1000 → (∀ x ∈ X, A x) → IntSl w (.slice ax X.length cx) X → AheadAt A lt cf cs w →
    Calls Try.prog 78 #[.slice ax X.length cx, .func (.func cf) #[] cs] w fun e w' => ∃ a c, e = .returned (.slice a (msort lt f X).length c) ∧ IntSl w' (.slice a (msort lt f X).length c) (msort lt f X) ∧ (a = ax ∨ frs w.heap.size a) ∧ Below w.heap.size w w'
theorem plain_nF (n : Nat) (hn : n ≤ 1000) (w : World) : Calls Try.prog 57 #[.int .i64 (n : Int)] w fun e w' => ∃ a c, e = .returned (.slice a (pl n).length c) ∧ IntSl w' (.slice a (pl n).length c) (pl n) ∧ frs w.heap.size a ∧ Below w.heap.size w w' :=
  (plain_own n (by omega) w).mono fun e w' ⟨g, c, he, hM⟩ => ⟨_, c, he, (rs_of hM).1, hM.ownFresh (k := 0) rfl, (rs_of hM).2⟩
set_option maxRecDepth 100000 in
set_option maxHeartbeats 400000 in
theorem merge_stepF {lt : Int → Int → Bool} {A : Int → Prop} {cf : FuncId} {cs : Array Value} {fn : Func} (hcf : Try.prog.funcs[cf]? = some fn) (hcn : (fn.name == "runtime.NumGoroutine") = false) (hcb : fn.body.isNone = false) (f : Nat) (ih : MergeAt A lt cf cs f) (ax : Option Addr) (X : List Int) (cx : Nat) (hXf : X.length ≤ f + 1) (hXm : X.length ≤ 1000) (hAX : ∀ x ∈ X, A x) (w : World) (hx : IntSl w (.slice ax X.length cx) X) (hah : AheadAt A lt cf cs w) :
  Calls Try.prog 78 #[.slice ax X.length cx, .func (.func cf) #[] cs] w fun e w' => ∃ a c, e = .returned (.slice a (msort lt (f + 1) X).length c) ∧ IntSl w' (.slice a (msort lt (f + 1) X).length c) (msort lt (f + 1) X) ∧ (a = ax ∨ frs w.heap.size a) ∧ Below w.heap.size w w' := by
 have hbs := Below.refl (B := w.heap.size) w
 have hM := Mem.start w
 refine Calls.of_ends (vs := [.slice ax X.length cx, .func (.func cf) #[] cs]) Try.func78 rfl Try.ntmps78 rfl ?_
 intro a hA
 replace hA : St 66 [(0, _), (1, _)] a := hA
 refine Ends.seq (Ends.region ?_)
 refine S.val hA (R.assign rfl) rfl ?_; clear hA a; intro a hA
 refine S.done ?_
 refine Ends.seq (Ends.seq (Ends.region ?_))
 refine S.val hA (R.move rfl) rfl ?_; clear hA a; intro a hA
 refine S.val hA (R.lenS Try.underlying22 rfl rfl) rfl ?_; clear hA a; intro a hA
 refine S.val hA (R.lss rfl rfl) rfl ?_; clear hA a; intro a hA
 refine S.done ?_
 refine Ends.ite hA rfl (fun hc1 => ?_) (fun hc1 => ?_)
 ·
  refine Ends.seq (Ends.region ?_)
  refine S.val hA (R.move rfl) rfl ?_; clear hA a; intro a hA
  refine S.val hA (R.assign rfl) rfl ?_; clear hA a; intro a hA
  refine S.done ?_
  replace hA : St 66 [(0, _), (1, _), (4, _)] a := hA.sub ((.cons rfl (.cons rfl (.cons rfl .nil))))
  refine Ends.ret1 Try.func78 Try.results78 hA rfl ?_
  rw [show msort lt (f + 1) X = X by rw [msort, if_pos (by omega)]]
  exact ⟨_, _, rfl, hx, .inl rfl, Mem.trans0 hbs hM.nilL⟩
 ·
  refine Ends.skip (Ends.seq (Ends.region ?_))
  refine S.val hA (R.move rfl) rfl ?_; clear hA a; intro a hA
  refine S.val hA (R.lenS Try.underlying22 rfl rfl) rfl ?_; clear hA a; intro a hA
  refine S.val hA (R.quoI rfl rfl rfl (by omega)) rfl ?_; clear hA a; intro a hA
  refine S.val hA (R.assign rfl) rfl ?_; clear hA a; intro a hA
  refine S.done ?_
  replace hA : St 66 [(0, _), (1, _), (5, _)] a := hA.sub ((.cons rfl (.cons rfl (.cons rfl .nil))))
  refine Ends.seq ?_
  refine Ends.drawn (fun _ => True) (.cons (0, true) (.cons (1, true) (.cons (2, true) (.cons (3, true) (.cons (5, true) (.cons (6, true) (.cons (7, true) (.cons (8, true) (.cons (4, false) (.cons (9, false) (.cons (10, true) (.cons (11, true) .nil)))))))))))) 12 mixed (by kernel_rfl) (by kernel_rfl) (by kernel_rfl) trivial ?_
  replace hM := hM.drew
  refine D.valF hA rfl (fun _ => R.move rfl) rfl ?_; clear hA a; intro a hA
  refine D.valF hA rfl (fun _ => R.move rfl) rfl ?_; clear hA a; intro a hA
  have hsl2 := hx.cutR ((X.length / 2)) (by omega)
  refine D.valF hA rfl (fun _ => R.sliceHI (h := (X.length / 2)) hx Try.underlying22 info3 rfl rfl (by omega) (by omega)) rfl ?_; clear hA a; intro a hA
  refine D.valF hA rfl (fun _ => R.move rfl) rfl ?_; clear hA a; intro a hA
  refine D.valF hA rfl (fun _ => R.move rfl) rfl ?_; clear hA a; intro a hA
  refine D.valF hA rfl (fun _ => R.move rfl) rfl ?_; clear hA a; intro a hA
  obtain ⟨as4, cs5, hsl3, hr6⟩ := hx.fromR ((X.length / 2)) (by omega) (by omega)
  refine D.valF hA rfl (fun _ => (hr6 _ _ _ _ _ _ _ _ _ _ _ Try.underlying22 info3 rfl rfl rfl (by omega))) rfl ?_; clear hA a; intro a hA
  refine D.valF hA rfl (fun _ => R.move rfl) rfl ?_; clear hA a; intro a hA
  refine D.call hA rfl (R.callF Try.func78 rfl rfl rfl) rfl (ih ax ((X.take ((X.length / 2)))) cx _ (by rw [List.length_take]; omega) (by rw [List.length_take]; omega) (fun x hx => hAX x (List.mem_of_mem_take hx)) (hsl2.mem hM) (hah.mem hM)) ?_; clear hA a
  rintro e w1 ⟨ra7, rc8, rfl, rh9, hb⟩
  replace hM := hM.callB hb; clear hb
  have hbs := hbs.trans (hM.below.mono hbs.size)
  have hx := hx.mem hM
  have hah := hah.mem hM
  have hsl2 := hsl2.mem hM
  have hsl3 := hsl3.mem hM
  replace hM := Mem.start w1
  refine ⟨.slice ra7 (((msort lt f ((X.take ((X.length / 2)))))).length) rc8, rfl, trivial, fun a hA => ?_⟩
  refine D.call hA rfl (R.callF Try.func78 rfl rfl rfl) rfl (ih as4 ((X.drop ((X.length / 2)))) cs5 _ (by rw [List.length_drop]; omega) (by rw [List.length_drop]; omega) (fun x hx => hAX x (List.mem_of_mem_drop hx)) (hsl3.mem hM) (hah.mem hM)) ?_; clear hA a
  rintro e w2 ⟨ra10, rc11, rfl, rh12, hb⟩
  replace hM := hM.callB hb; clear hb
  have hbs := hbs.trans (hM.below.mono hbs.size)
  have hx := hx.mem hM
  have hah := hah.mem hM
  have hsl2 := hsl2.mem hM
  have hsl3 := hsl3.mem hM
  have rh9 := rh9.mem hM
  replace hM := Mem.start w2
  refine ⟨.slice ra10 (((msort lt f ((X.drop ((X.length / 2)))))).length) rc11, rfl, trivial, fun a hA => ?_⟩
  refine D.valF hA rfl (fun _ => R.assign rfl) rfl ?_; clear hA a; intro a hA
  refine D.valF hA rfl (fun _ => R.assign rfl) rfl ?_; clear hA a; intro a hA
  refine D.done ?_
  replace hA : St 66 [(0, _), (1, _), (6, _), (7, _)] a := hA.sub ((.cons rfl (.cons rfl (.cons rfl (.cons rfl .nil)))))
  refine Ends.seq (Ends.region ?_)
  refine S.val hA (R.move rfl) rfl ?_; clear hA a; intro a hA
  refine S.val hA (R.lenS Try.underlying22 rfl rfl) rfl ?_; clear hA a; intro a hA
  refine S.makeC hA hM Try.underlying22 info3 rfl rfl rfl (by omega) (by show (8 : Int) * _ ≤ _; omega) (by omega) rfl ?_; clear hA hM a; intro b13 w3 hb14 hM a hA
  replace hM : Mem _ _ [pt b13 ((madeCells #[.int .i64 0] (X.length * 1))) 3] _ := hM
  refine S.val hA (R.assign rfl) rfl ?_; clear hA a; intro a hA
  refine S.done ?_
  replace hA : St 66 [(1, _), (6, _), (7, _), (8, _)] a := hA.sub ((.cons rfl (.cons rfl (.cons rfl (.cons rfl .nil)))))
  refine Ends.seq (Ends.block ?_)
  replace hM := hM.ownPt (cap := X.length) (n := 0) (sz := 1) (xs := []) (by simp [madeCells]) (by unfold maxLen; omega) (Nat.zero_le _) rfl
  replace hM : Mem _ _ [own 3 1 (.slice ((some ⟨b13, 0, none⟩)) ((([] : List Int)).length) X.length) ((([] : List Int)).length) ((([] : List Int)).map (Value.int .i64))] _ := hM
  refine Ends.loop (σ := Option Addr × List Int × Nat × Option Addr × List Int × Nat × Option Addr × List Int × Nat) (fun (la, U, lc, ra, V, rc, oa, Z, oc) (a : Act) (wv : World) => St 66 [(1, .func (.func cf) #[] cs), (6, .slice la U.length lc), (7, .slice ra V.length rc), (8, .slice oa Z.length oc)] a ∧ Mem w2 nof [own 3 1 (.slice oa Z.length oc) Z.length (Z.map (Value.int .i64))] wv ∧ (IntSl w2 (.slice la U.length lc) U) ∧ (IntSl w2 (.slice ra V.length rc) V) ∧ (Z ++ mrg lt U V = mrg lt ((msort lt f ((X.take ((X.length / 2)))))) ((msort lt f ((X.drop ((X.length / 2))))))) ∧ (U.length + V.length + Z.length = X.length) ∧ (∀ x ∈ U, A x) ∧ (∀ x ∈ V, A x)) (fun (la, U, lc, ra, V, rc, oa, Z, oc) => U.length + V.length) ((ra7, (msort lt f ((X.take ((X.length / 2))))), rc8, ra10, (msort lt f ((X.drop ((X.length / 2))))), rc11, (some ⟨b13, 0, none⟩), [], X.length)) ⟨hA.sub ((.cons rfl (.cons rfl (.cons rfl (.cons rfl .nil))))), hM, rh9, rh12, rfl, (by rw [msort_len, msort_len, List.length_take, List.length_drop]; simp only [List.length_nil]; omega), (fun x hx => hAX x (List.mem_of_mem_take ((msort_perm f _).mem_iff.1 hx))), (fun x hx => hAX x (List.mem_of_mem_drop ((msort_perm f _).mem_iff.1 hx)))⟩ ?_
  clear hA hM a
  rintro ⟨la, U, lc, ra, V, rc, oa, Z, oc⟩ a w4 ⟨hA, hM, hU, hV, hord, hlen, hAL, hAR⟩ hNext
  refine Ends.seq (Ends.seq ?_)
  refine Ends.cut (fun (a : Act) (wv : World) => St 66 [(1, .func (.func cf) #[] cs), (6, .slice la U.length lc), (7, .slice ra V.length rc), (8, .slice oa Z.length oc), (36, .bool (decide ((0 < ((U.length : Int)) ∧ 0 < ((V.length : Int))))))] a ∧ Mem w2 nof [own 3 1 (.slice oa Z.length oc) Z.length (Z.map (Value.int .i64))] wv) ?_ (fun k2 hJ => ?_)
  ·
   clear hA hM a; rintro a w5 ⟨hA, hM⟩
   refine Ends.ite hA rfl (fun hc15 => ?_) (fun hc15 => ?_)
   ·
    refine Ends.skip (Ends.block (Ends.seq ?_))
    refine Ends.drawn (Mem w2 nof [own 3 1 (.slice oa Z.length oc) Z.length (Z.map (Value.int .i64))]) (.cons (0, true) (.cons (1, true) (.cons (2, true) (.cons (3, true) (.cons (4, true) (.cons (5, true) (.cons (6, true) (.cons (7, false) .nil)))))))) 8 mixed (by kernel_rfl) (by kernel_rfl) (by kernel_rfl) hM.drew ?_
    replace hM := hM.drew
    refine D.valF hA rfl (fun _ => R.move rfl) rfl ?_; clear hA a; intro a hA
    refine D.valF hA rfl (fun _ => R.move rfl) rfl ?_; clear hA a; intro a hA
    refine D.valF hA rfl (fun _ => R.idxI hV (j := 0) sl22 rfl rfl (by omega) (rfl)) rfl ?_; clear hA a; intro a hA
    refine D.val hA rfl (by kernel_rfl) (fun _ hM => R.loadI (hV.mem hM) sz3 rfl (by omega)) rfl ?_; clear hA a; intro a hA
    refine D.valF hA rfl (fun _ => R.move rfl) rfl ?_; clear hA a; intro a hA
    refine D.valF hA rfl (fun _ => R.idxI hU (j := 0) sl22 rfl rfl (by omega) (rfl)) rfl ?_; clear hA a; intro a hA
    refine D.val hA rfl (by kernel_rfl) (fun _ hM => R.loadI (hU.mem hM) sz3 rfl (by omega)) rfl ?_; clear hA a; intro a hA
    refine D.call hA rfl (R.callV hcf hcn hcb rfl rfl) rfl (hah _ hM.nilL.below (V.getD 0 0) (U.getD 0 0) (hAR _ (getD_mem0 (by omega))) (hAL _ (getD_mem0 (by omega)))) ?_; clear hA a
    rintro e w6 ⟨rfl, hb⟩
    replace hM := hM.callB hb; clear hb
    refine ⟨.bool (lt (V.getD 0 0) (U.getD 0 0)), rfl, hM, fun a hA => ?_⟩
    refine D.done ?_
    replace hA : St 66 [(1, _), (6, _), (7, _), (8, _), (44, _)] a := hA.sub ((.cons rfl (.cons rfl (.cons rfl (.cons rfl (.cons rfl .nil))))))
    refine Ends.iteB hA rfl (fun hc16 => ?_) (fun hc16 => ?_)
    ·
     refine Ends.drawn (Mem w2 nof []) (.cons (0, true) (.cons (1, true) (.cons (2, true) (.cons (3, true) (.cons (6, true) (.cons (7, true) (.cons (4, false) (.cons (5, false) (.cons (8, true) (.cons (9, true) .nil)))))))))) 10 mixed (by kernel_rfl) (by kernel_rfl) (by kernel_rfl) (hM.drop 0).drew ?_
     replace hM := hM.drew
     refine D.valF hA rfl (fun _ => R.move rfl) rfl ?_; clear hA a; intro a hA
     refine D.valF hA rfl (fun _ => R.move rfl) rfl ?_; clear hA a; intro a hA
     refine D.valF hA rfl (fun _ => R.idxI hV (j := 0) sl22 rfl rfl (by omega) (rfl)) rfl ?_; clear hA a; intro a hA
     refine D.val hA rfl (by kernel_rfl) (fun _ hM => R.loadI (hV.mem hM) sz3 rfl (by omega)) rfl ?_; clear hA a; intro a hA
     refine D.valF hA rfl (fun _ => R.move rfl) rfl ?_; clear hA a; intro a hA
     obtain ⟨as18, cs19, hsl17, hr20⟩ := hV.fromR 1 (by omega) (by omega)
     refine D.valF hA rfl (fun _ => (hr20 _ _ _ _ _ _ _ _ _ _ _ Try.underlying22 info3 rfl rfl rfl (by omega))) rfl ?_; clear hA a; intro a hA
     refine D.buildSl (cells := #[.int .i64 (V.getD 0 0)]) hA hM rfl Try.underlying22 info3 rfl rfl rfl rfl (by kernel_rfl) rfl ?_; clear hA hM a; intro b21 w7 hb22 hM; refine ⟨(fun hM => (hM.drop 0)) hM.tail, fun a hA => ?_⟩
     replace hM : Mem _ _ [pt b21 #[.int .i64 (V.getD 0 0)] 3, own 3 1 (.slice oa Z.length oc) Z.length (Z.map (Value.int .i64))] _ := hM
     refine D.append (k := 1) (k2 := 0) hA hM rfl rfl rfl Try.underlying22 info3 rfl rfl rfl rfl rfl rfl rfl rfl rfl (by first | (unfold maxLen; omega) | (rw [List.length_append]; unfold maxLen; omega) | (show (_ + _) * 8 ≤ (140737488355328 : Nat); omega) | (rw [List.length_append]; show (_ + _) * 8 ≤ (140737488355328 : Nat); omega)) (by first | (unfold maxLen; omega) | (rw [List.length_append]; unfold maxLen; omega) | (show (_ + _) * 8 ≤ (140737488355328 : Nat); omega) | (rw [List.length_append]; show (_ + _) * 8 ≤ (140737488355328 : Nat); omega)) rfl ?_; clear hA hM a; intro a23 c24 w8 hM
     replace hM : Mem _ _ [pt b21 #[.int .i64 (V.getD 0 0)] 3, own 3 1 (.slice a23 (Z.length + 1) c24) (Z.length + 1) (Z.map (Value.int .i64) ++ [.int .i64 (V.getD 0 0)])] _ := hM
     have hl25 : Z.length + 1 = (Z ++ [V.getD 0 0]).length := by simp
     rw [hl25, show Z.map (Value.int .i64) ++ [.int .i64 (V.getD 0 0)] = (Z ++ [V.getD 0 0]).map (Value.int .i64) by simp] at hM
     replace hM := hM.drop 0
     replace hM : Mem _ _ [own 3 1 (.slice a23 (((Z ++ [V.getD 0 0])).length) c24) (((Z ++ [V.getD 0 0])).length) (((Z ++ [V.getD 0 0])).map (Value.int .i64))] _ := hM
     refine ⟨(hM.drop 0), fun a hA => ?_⟩; rw [hl25] at hA; clear hl25
     refine D.valF hA rfl (fun _ => R.assign rfl) rfl ?_; clear hA a; intro a hA
     refine D.valF hA rfl (fun _ => R.assign rfl) rfl ?_; clear hA a; intro a hA
     refine D.done ?_
     replace hA : St 66 [(1, _), (6, _), (7, _), (8, _)] a := hA.sub ((.cons rfl (.cons rfl (.cons rfl (.cons rfl .nil)))))
     refine Ends.inBlock ?_
     replace hM := hM.firstN 1
     exact hNext ((la, U, lc, as18, (V.drop 1), cs19, a23, (Z ++ [V.getD 0 0]), c24)) _ _ ((by show _ < _; simp only [List.length_drop]; omega)) ⟨hA.sub ((.cons rfl (.cons rfl (.cons rfl (.cons rfl .nil))))), hM, hU, hsl17, (by rw [← hord, mrg_stepR (by omega) (by omega) hc16]; simp), (by simp only [List.length_drop, List.length_append, List.length_cons, List.length_nil]; omega), hAL, (fun x hx => hAR x (List.mem_of_mem_drop hx))⟩
    ·
     refine Ends.drawn (Mem w2 nof []) (.cons (0, true) (.cons (1, true) (.cons (2, true) (.cons (3, true) (.cons (6, true) (.cons (7, true) (.cons (4, false) (.cons (5, false) (.cons (8, true) (.cons (9, true) .nil)))))))))) 10 mixed (by kernel_rfl) (by kernel_rfl) (by kernel_rfl) (hM.drop 0).drew ?_
     replace hM := hM.drew
     refine D.valF hA rfl (fun _ => R.move rfl) rfl ?_; clear hA a; intro a hA
     refine D.valF hA rfl (fun _ => R.move rfl) rfl ?_; clear hA a; intro a hA
     refine D.valF hA rfl (fun _ => R.idxI hU (j := 0) sl22 rfl rfl (by omega) (rfl)) rfl ?_; clear hA a; intro a hA
     refine D.val hA rfl (by kernel_rfl) (fun _ hM => R.loadI (hU.mem hM) sz3 rfl (by omega)) rfl ?_; clear hA a; intro a hA
     refine D.valF hA rfl (fun _ => R.move rfl) rfl ?_; clear hA a; intro a hA
     obtain ⟨as27, cs28, hsl26, hr29⟩ := hU.fromR 1 (by omega) (by omega)
     refine D.valF hA rfl (fun _ => (hr29 _ _ _ _ _ _ _ _ _ _ _ Try.underlying22 info3 rfl rfl rfl (by omega))) rfl ?_; clear hA a; intro a hA
     refine D.buildSl (cells := #[.int .i64 (U.getD 0 0)]) hA hM rfl Try.underlying22 info3 rfl rfl rfl rfl (by kernel_rfl) rfl ?_; clear hA hM a; intro b30 w9 hb31 hM; refine ⟨(fun hM => (hM.drop 0)) hM.tail, fun a hA => ?_⟩
     replace hM : Mem _ _ [pt b30 #[.int .i64 (U.getD 0 0)] 3, own 3 1 (.slice oa Z.length oc) Z.length (Z.map (Value.int .i64))] _ := hM
     refine D.append (k := 1) (k2 := 0) hA hM rfl rfl rfl Try.underlying22 info3 rfl rfl rfl rfl rfl rfl rfl rfl rfl (by first | (unfold maxLen; omega) | (rw [List.length_append]; unfold maxLen; omega) | (show (_ + _) * 8 ≤ (140737488355328 : Nat); omega) | (rw [List.length_append]; show (_ + _) * 8 ≤ (140737488355328 : Nat); omega)) (by first | (unfold maxLen; omega) | (rw [List.length_append]; unfold maxLen; omega) | (show (_ + _) * 8 ≤ (140737488355328 : Nat); omega) | (rw [List.length_append]; show (_ + _) * 8 ≤ (140737488355328 : Nat); omega)) rfl ?_; clear hA hM a; intro a32 c33 w10 hM
     replace hM : Mem _ _ [pt b30 #[.int .i64 (U.getD 0 0)] 3, own 3 1 (.slice a32 (Z.length + 1) c33) (Z.length + 1) (Z.map (Value.int .i64) ++ [.int .i64 (U.getD 0 0)])] _ := hM
     have hl34 : Z.length + 1 = (Z ++ [U.getD 0 0]).length := by simp
     rw [hl34, show Z.map (Value.int .i64) ++ [.int .i64 (U.getD 0 0)] = (Z ++ [U.getD 0 0]).map (Value.int .i64) by simp] at hM
     replace hM := hM.drop 0
     replace hM : Mem _ _ [own 3 1 (.slice a32 (((Z ++ [U.getD 0 0])).length) c33) (((Z ++ [U.getD 0 0])).length) (((Z ++ [U.getD 0 0])).map (Value.int .i64))] _ := hM
     refine ⟨(hM.drop 0), fun a hA => ?_⟩; rw [hl34] at hA; clear hl34
     refine D.valF hA rfl (fun _ => R.assign rfl) rfl ?_; clear hA a; intro a hA
     refine D.valF hA rfl (fun _ => R.assign rfl) rfl ?_; clear hA a; intro a hA
     refine D.done ?_
     replace hA : St 66 [(1, _), (6, _), (7, _), (8, _)] a := hA.sub ((.cons rfl (.cons rfl (.cons rfl (.cons rfl .nil)))))
     refine Ends.inBlock ?_
     replace hM := hM.firstN 1
     exact hNext ((as27, (U.drop 1), cs28, ra, V, rc, a32, (Z ++ [U.getD 0 0]), c33)) _ _ ((by show _ < _; simp only [List.length_drop]; omega)) ⟨hA.sub ((.cons rfl (.cons rfl (.cons rfl (.cons rfl .nil))))), hM, hsl26, hV, (by rw [← hord, mrg_stepL (by omega) (by omega) hc16]; simp), (by simp only [List.length_drop, List.length_append, List.length_cons, List.length_nil]; omega), (fun x hx => hAL x (List.mem_of_mem_drop hx)), hAR⟩
   ·
    refine Ends.exit rfl ?_
    refine Ends.seq (Ends.region ?_)
    refine S.val hA (R.move rfl) rfl ?_; clear hA a; intro a hA
    refine S.val hA (R.move rfl) rfl ?_; clear hA a; intro a hA
    refine S.appendI (k := 0) hA hM rfl (hU.mem hM) Try.underlying22 info3 rfl rfl rfl rfl rfl rfl (by first | (unfold maxLen; omega) | (rw [List.length_append]; unfold maxLen; omega) | (show (_ + _) * 8 ≤ (140737488355328 : Nat); omega) | (rw [List.length_append]; show (_ + _) * 8 ≤ (140737488355328 : Nat); omega)) (by first | (unfold maxLen; omega) | (rw [List.length_append]; unfold maxLen; omega) | (show (_ + _) * 8 ≤ (140737488355328 : Nat); omega) | (rw [List.length_append]; show (_ + _) * 8 ≤ (140737488355328 : Nat); omega)) rfl ?_; clear hA hM a; intro a35 c36 w11 hM a hA
    have hl37 : Z.length + U.length = ((Z ++ U)).length := by first | (simp; done) | simp only [List.length_append]
    rw [hl37, show Z.map (Value.int .i64) ++ U.map (Value.int .i64) = ((Z ++ U)).map (Value.int .i64) by simp] at hM; rw [hl37] at hA; clear hl37
    replace hM : Mem _ _ [own 3 1 (.slice a35 (((Z ++ U)).length) c36) (((Z ++ U)).length) (((Z ++ U)).map (Value.int .i64))] _ := hM
    refine S.val hA (R.move rfl) rfl ?_; clear hA a; intro a hA
    refine S.appendI (k := 0) hA hM rfl (hV.mem hM) Try.underlying22 info3 rfl rfl rfl rfl rfl rfl (by first | (unfold maxLen; omega) | (rw [List.length_append]; unfold maxLen; omega) | (show (_ + _) * 8 ≤ (140737488355328 : Nat); omega) | (rw [List.length_append]; show (_ + _) * 8 ≤ (140737488355328 : Nat); omega)) (by first | (unfold maxLen; omega) | (rw [List.length_append]; unfold maxLen; omega) | (show (_ + _) * 8 ≤ (140737488355328 : Nat); omega) | (rw [List.length_append]; show (_ + _) * 8 ≤ (140737488355328 : Nat); omega)) rfl ?_; clear hA hM a; intro a38 c39 w12 hM a hA
    have hl40 : (((Z ++ U)).length) + V.length = (((Z ++ U) ++ V)).length := by first | (simp; done) | simp only [List.length_append]
    rw [hl40, show ((Z ++ U)).map (Value.int .i64) ++ V.map (Value.int .i64) = (((Z ++ U) ++ V)).map (Value.int .i64) by simp] at hM; rw [hl40] at hA; clear hl40
    replace hM : Mem _ _ [own 3 1 (.slice a38 ((((Z ++ U) ++ V)).length) c39) ((((Z ++ U) ++ V)).length) ((((Z ++ U) ++ V)).map (Value.int .i64))] _ := hM
    refine S.val hA (R.assign rfl) rfl ?_; clear hA a; intro a hA
    refine S.done ?_
    replace hA : St 66 [(4, _)] a := hA.sub ((.cons rfl .nil))
    refine Ends.ret1 Try.func78 Try.results78 hA rfl ?_
    have hend := mrg_end (lt := lt) (X := U) (Y := V) (by omega)
    have hfin : msort lt (f + 1) X = (Z ++ U) ++ V := by rw [msort, if_neg (by omega), ← hord, hend, List.append_assoc]
    rw [hfin]
    have hr := hM.rsl (k := 0) rfl
    exact ⟨_, _, rfl, hr, .inr ((hM.ownFresh (k := 0) rfl).mono hbs.size), Mem.trans0 hbs hM.nilL⟩
  ·
   refine Ends.region ?_
   refine S.val hA (R.move rfl) rfl ?_; clear hA a; intro a hA
   refine S.val hA (R.lenS Try.underlying22 rfl rfl) rfl ?_; clear hA a; intro a hA
   refine S.val hA (R.gtr rfl rfl) rfl ?_; clear hA a; intro a hA
   refine S.val hA (R.move rfl) rfl ?_; clear hA a; intro a hA
   refine hA.split (d := 32) rfl ?_ ?_
   ·
    clear hA; intro hg41 hA
    refine S.valg (dj := 32) hA (by kernel_rfl) rfl (R.move rfl) rfl ?_; clear hA a; intro a hA
    refine S.valg (dj := 32) hA (by kernel_rfl) rfl (R.lenS Try.underlying22 rfl rfl) rfl ?_; clear hA a; intro a hA
    refine S.valg (dj := 32) hA (by kernel_rfl) rfl (R.gtr rfl rfl) rfl ?_; clear hA a; intro a hA
    refine S.val hA (R.pickT rfl rfl) rfl ?_; clear hA a; intro a hA
    refine S.done ?_
    replace hA : St 66 [(1, _), (6, _), (7, _), (8, _), (36, _)] a := hA.sub ((.cons rfl (.cons rfl (.cons rfl (.cons rfl (.cons rfl .nil))))))
    exact hJ _ _ ⟨hA.sub (.cons rfl (.cons rfl (.cons rfl (.cons rfl (.cons (by first | rfl | exact congrArg (fun b => some (Value.bool b)) (by first | exact decide_eq_decide.2 (by omega) | exact or_bool (by omega) | exact and_bool (by omega) | (simp; done) | (simp [hg41]; done) | (have h80 := hg41; (try simp at h80); simp [h80]; done) | exact (decide_eq_false (fun h9 => hg41 h9.1)).symm)) .nil))))), hM⟩
   ·
    clear hA; intro hg41 hA
    refine S.no (dj := 32) hA (by kernel_rfl) rfl rfl rfl ?_; clear hA a; intro a hA
    refine S.no (dj := 32) hA (by kernel_rfl) rfl rfl rfl ?_; clear hA a; intro a hA
    refine S.no (dj := 32) hA (by kernel_rfl) rfl rfl rfl ?_; clear hA a; intro a hA
    refine S.val hA (R.pickF rfl rfl) rfl ?_; clear hA a; intro a hA
    refine S.done ?_
    replace hA : St 66 [(1, _), (6, _), (7, _), (8, _), (36, _)] a := hA.sub ((.cons rfl (.cons rfl (.cons rfl (.cons rfl (.cons rfl .nil))))))
    exact hJ _ _ ⟨hA.sub (.cons rfl (.cons rfl (.cons rfl (.cons rfl (.cons (by first | rfl | exact congrArg (fun b => some (Value.bool b)) (by first | exact decide_eq_decide.2 (by omega) | exact or_bool (by omega) | exact and_bool (by omega) | (simp; done) | (simp [hg41]; done) | (have h80 := hg41; (try simp at h80); simp [h80]; done) | exact (decide_eq_false (fun h9 => hg41 h9.1)).symm)) .nil))))), hM⟩
theorem merge_anyF {lt : Int → Int → Bool} {A : Int → Prop} {cf : FuncId} {cs : Array Value} {fn : Func} (hcf : Try.prog.funcs[cf]? = some fn) (hcn : (fn.name == "runtime.NumGoroutine") = false) (hcb : fn.body.isNone = false) : ∀ f, MergeAtF A lt cf cs (f + 1)
  | 0 => fun ax X cx w h1 h2 h3 h4 h5 => merge_stepF hcf hcn hcb 0 (fun ax X cx w h1 _ _ h4 _ => merge_short cf cs ax X cx (by omega) w h4) ax X cx h1 h2 h3 w h4 h5
  | f + 1 => fun ax X cx w h1 h2 h3 h4 h5 => merge_stepF hcf hcn hcb (f + 1) (merge_any hcf hcn hcb f) ax X cx h1 h2 h3 w h4 h5
set_option maxRecDepth 100000 in
set_option maxHeartbeats 400000 in
theorem byratioF (av : Option Addr) (V : List Int) (cv : Nat) (au : Option Addr) (U : List Int) (cu : Nat) (hbv : bdI V) (hbu : bdI U) (w : World) (hv : IntSl w (.slice av V.length cv) V) (hu : IntSl w (.slice au U.length cu) U) :
  Calls Try.prog 71 #[.slice av V.length cv, .slice au U.length cu] w fun e w' => ∃ a c, e = .returned (.tuple #[.slice a (qL V U).length c, .int .i64 (qE V U)]) ∧ IntSl w' (.slice a (qL V U).length c) (qL V U) ∧ frs w.heap.size a ∧ Below w.heap.size w w' := by
 have hbs := Below.refl (B := w.heap.size) w
 have hlV := hv.lenB
 have hlU := hu.lenB
 have hM := Mem.start w
 refine Calls.of_ends (vs := [.slice av V.length cv, .slice au U.length cu]) Try.func71 rfl Try.ntmps71 rfl ?_
 intro a hA
 replace hA : St 29 [(0, _), (1, _)] a := hA
 refine Ends.seq (Ends.region ?_)
 refine S.box hA hM rfl rfl ?_; clear hA hM a; intro b1 w1 hb2 hM a hA
 replace hM : Mem _ _ [pt b1 #[.slice av V.length cv] 22] _ := hM
 refine S.box hA hM rfl rfl ?_; clear hA hM a; intro b3 w2 hb4 hM a hA
 replace hM : Mem _ _ [pt b3 #[.slice au U.length cu] 22, pt b1 #[.slice av V.length cv] 22] _ := hM
 refine S.val hA (R.assign rfl) rfl ?_; clear hA a; intro a hA
 refine S.val hA (R.assign rfl) rfl ?_; clear hA a; intro a hA
 refine S.done ?_
 replace hA : St 29 [(2, _), (3, _)] a := hA.sub ((.cons rfl (.cons rfl .nil)))
 refine Ends.seq (Ends.seq ?_)
 refine Ends.cut (fun (a : Act) (wv : World) => St 29 [(2, .pointer (some ⟨b1, 0, none⟩)), (3, .pointer (some ⟨b3, 0, none⟩)), (23, .bool (decide ((((((V.length : Int)) ≠ ((U.length : Int)) ∨ 64 < ((V.length : Int))) ∨ ((hasNeg V)) = true) ∨ ((hasNeg U)) = true))))] a ∧ Mem w nof [pt b3 #[.slice au U.length cu] 22, pt b1 #[.slice av V.length cv] 22] wv) ?_ (fun k2 hJ => ?_)
 ·
  clear hA hM a; rintro a w3 ⟨hA, hM⟩
  refine Ends.ite hA rfl (fun hc5 => ?_) (fun hc5 => ?_)
  ·
   have hnb : badQ V U := badQ_iff.2 hc5
   refine Ends.seq (Ends.region ?_)
   refine S.val hA (R.assign rfl) rfl ?_; clear hA a; intro a hA
   refine S.val hA (R.assign rfl) rfl ?_; clear hA a; intro a hA
   refine S.done ?_
   refine Ends.ret2 Try.func71 Try.results71 hA rfl rfl ?_
   rw [show qL V U = [] from if_pos hnb, show qE V U = 1 from if_pos hnb]
   exact ⟨none, 0, rfl, IntSl.nil _, (fun p hp => by cases hp), Mem.trans0 hbs hM.nilL⟩
  ·
   have hnb : ¬ badQ V U := fun h9 => hc5 (badQ_iff.1 h9)
   obtain ⟨hvw, h64, hnv, hnu⟩ := not_bad hnb
   refine Ends.skip (Ends.seq (Ends.region ?_))
   refine S.val hA (R.load sz22 rfl (hM.cell (k := 1) rfl rfl)) rfl ?_; clear hA a; intro a hA
   refine S.val hA (R.lenS Try.underlying22 rfl rfl) rfl ?_; clear hA a; intro a hA
   have hsz1 := Nat.le_trans hbs.size hM.size
   refine S.call hA (R.callF Try.func57 rfl rfl rfl) rfl (plain_nF V.length (by omega) _) ?_; clear hA a
   rintro e w4 ⟨ra6, rc7, rfl, rh8, hf1_, hb⟩
   replace hM := hM.callB hb; clear hb
   have hbx9 := hM.block (k := 0) rfl
   have hbx10 := hM.block (k := 1) rfl
   have hbs := hbs.trans (hM.below.mono hbs.size)
   have hv := hv.mem hM
   have hu := hu.mem hM
   replace hM := Mem.start w4
   have hf1 := hf1_.mono hsz1
   refine ⟨.slice ra6 (((pl V.length)).length) rc7, rfl, fun a hA => ?_⟩
   refine S.val hA (R.to (v := .func (.func 79) #[] #[.pointer (some ⟨b3, 0, none⟩), .pointer (some ⟨b1, 0, none⟩)]) (R.makeFunc rfl) rfl) rfl ?_; clear hA a; intro a hA
   have hah : AheadAt (inRq V.length) (ltq V U) 79 #[.pointer (some ⟨b3, 0, none⟩), .pointer (some ⟨b1, 0, none⟩)] w4 := fun w' hb x y hx hy => byratio1 b3 b1 au U cu av V cv x y hvw hbv hbu hx hy w' ((Mem.of_below hb).keepB hbx9) ((Mem.of_below hb).keepB hbx10) (hu.below hb (Nat.le_refl _)) (hv.below hb (Nat.le_refl _))
   have hsz2 := Nat.le_trans hbs.size hM.size
   refine S.call hA (R.callF Try.func78 rfl rfl rfl) rfl (merge_anyF Try.func79 (by kernel_rfl) rfl V.length ra6 ((pl V.length)) rc7 _ (by rw [pl_len]; omega) (by rw [pl_len]; omega) (fun x hx => mem_pl.1 hx) (rh8.mem hM) hah) ?_; clear hA a
   rintro e w5 ⟨ra11, rc12, rfl, rh13, hf2, hb⟩
   replace hM := hM.callB hb; clear hb
   have hbs := hbs.trans (hM.below.mono hbs.size)
   have hv := hv.mem hM
   have hu := hu.mem hM
   have rh8 := rh8.mem hM
   have hbx9 := hM.keepB hbx9
   have hbx10 := hM.keepB hbx10
   replace hM := Mem.start w5
   refine ⟨.slice ra11 (((byQ V U)).length) rc12, rfl, fun a hA => ?_⟩
   refine S.val hA (R.assign rfl) rfl ?_; clear hA a; intro a hA
   refine S.val hA (R.assign rfl) rfl ?_; clear hA a; intro a hA
   refine S.done ?_
   replace hA : St 29 [(4, _), (5, _)] a := hA.sub ((.cons rfl (.cons rfl .nil)))
   refine Ends.ret2 Try.func71 Try.results71 hA rfl rfl ?_
   rw [show qL V U = byQ V U from if_neg hnb, show qE V U = 0 from if_neg hnb]
   have hf9 : frs w.heap.size ra11 := by
    rcases hf2 with g | g
    · rw [g]; exact hf1
    · exact g.mono hsz2
   exact ⟨_, _, rfl, rh13, hf9, Mem.trans0 hbs hM.nilL⟩
 ·
  refine Ends.region ?_
  refine S.val hA (R.load sz22 rfl (hM.cell (k := 1) rfl rfl)) rfl ?_; clear hA a; intro a hA
  refine S.val hA (R.lenS Try.underlying22 rfl rfl) rfl ?_; clear hA a; intro a hA
  refine S.val hA (R.load sz22 rfl (hM.cell (k := 0) rfl rfl)) rfl ?_; clear hA a; intro a hA
  refine S.val hA (R.lenS Try.underlying22 rfl rfl) rfl ?_; clear hA a; intro a hA
  refine S.val hA (R.neq rfl rfl) rfl ?_; clear hA a; intro a hA
  refine S.val hA (R.move rfl) rfl ?_; clear hA a; intro a hA
  refine hA.split (d := 11) rfl ?_ ?_
  ·
   clear hA; intro hg14 hA
   refine S.no (dj := 11) hA (by kernel_rfl) rfl rfl rfl ?_; clear hA a; intro a hA
   refine S.no (dj := 11) hA (by kernel_rfl) rfl rfl rfl ?_; clear hA a; intro a hA
   refine S.no (dj := 11) hA (by kernel_rfl) rfl rfl rfl ?_; clear hA a; intro a hA
   refine S.val hA (R.pickT rfl rfl) rfl ?_; clear hA a; intro a hA
   refine S.val hA (R.move rfl) rfl ?_; clear hA a; intro a hA
   refine S.no (dj := 16) hA (by kernel_rfl) rfl rfl rfl ?_; clear hA a; intro a hA
   refine S.no (dj := 16) hA (by kernel_rfl) rfl rfl rfl ?_; clear hA a; intro a hA
   refine S.val hA (R.pickT rfl rfl) rfl ?_; clear hA a; intro a hA
   refine S.val hA (R.move rfl) rfl ?_; clear hA a; intro a hA
   refine S.no (dj := 20) hA (by kernel_rfl) rfl rfl rfl ?_; clear hA a; intro a hA
   refine S.no (dj := 20) hA (by kernel_rfl) rfl rfl rfl ?_; clear hA a; intro a hA
   refine S.val hA (R.pickT rfl rfl) rfl ?_; clear hA a; intro a hA
   refine S.done ?_
   replace hA : St 29 [(2, _), (3, _), (23, _)] a := hA.sub ((.cons rfl (.cons rfl (.cons rfl .nil))))
   exact hJ _ _ ⟨hA.sub (.cons rfl (.cons rfl (.cons (by first | rfl | exact congrArg (fun b => some (Value.bool b)) (by first | exact decide_eq_decide.2 (by omega) | exact or_bool (by omega) | exact and_bool (by omega) | (simp; done) | (simp [hg14]; done) | (have h80 := hg14; (try simp at h80); simp [h80]; done) | exact (decide_eq_false (fun h9 => hg14 h9.1)).symm)) .nil))), hM⟩
  ·
   clear hA; intro hg14 hA
   refine S.valg (dj := 11) hA (by kernel_rfl) rfl (R.load sz22 rfl (hM.cell (k := 1) rfl rfl)) rfl ?_; clear hA a; intro a hA
   refine S.valg (dj := 11) hA (by kernel_rfl) rfl (R.lenS Try.underlying22 rfl rfl) rfl ?_; clear hA a; intro a hA
   refine S.valg (dj := 11) hA (by kernel_rfl) rfl (R.gtr rfl rfl) rfl ?_; clear hA a; intro a hA
   refine S.val hA (R.pickF rfl rfl) rfl ?_; clear hA a; intro a hA
   refine S.val hA (R.move rfl) rfl ?_; clear hA a; intro a hA
   refine hA.split (d := 16) rfl ?_ ?_
   ·
    clear hA; intro hg15 hA
    refine S.no (dj := 16) hA (by kernel_rfl) rfl rfl rfl ?_; clear hA a; intro a hA
    refine S.no (dj := 16) hA (by kernel_rfl) rfl rfl rfl ?_; clear hA a; intro a hA
    refine S.val hA (R.pickT rfl rfl) rfl ?_; clear hA a; intro a hA
    refine S.val hA (R.move rfl) rfl ?_; clear hA a; intro a hA
    refine S.no (dj := 20) hA (by kernel_rfl) rfl rfl rfl ?_; clear hA a; intro a hA
    refine S.no (dj := 20) hA (by kernel_rfl) rfl rfl rfl ?_; clear hA a; intro a hA
    refine S.val hA (R.pickT rfl rfl) rfl ?_; clear hA a; intro a hA
    refine S.done ?_
    replace hA : St 29 [(2, _), (3, _), (23, _)] a := hA.sub ((.cons rfl (.cons rfl (.cons rfl .nil))))
    exact hJ _ _ ⟨hA.sub (.cons rfl (.cons rfl (.cons (by first | rfl | exact congrArg (fun b => some (Value.bool b)) (by first | exact decide_eq_decide.2 (by omega) | exact or_bool (by omega) | exact and_bool (by omega) | (simp; done) | (simp [hg14, hg15]; done) | (have h80 := hg14; (try simp at h80); have h81 := hg15; (try simp at h81); simp [h80, h81]; done) | exact (decide_eq_false (fun h9 => hg14 h9.1)).symm | exact (decide_eq_false (fun h9 => hg15 h9.1)).symm)) .nil))), hM⟩
   ·
    clear hA; intro hg15 hA
    refine S.valg (dj := 16) hA (by kernel_rfl) rfl (R.load sz22 rfl (hM.cell (k := 1) rfl rfl)) rfl ?_; clear hA a; intro a hA
    refine S.callg (dj := 16) hA (by kernel_rfl) rfl (R.callF Try.func76 rfl rfl rfl) rfl (contains09 av V cv _ (hv.mem hM)) ?_; clear hA a
    rintro e w6 ⟨rfl, hb⟩
    replace hM := hM.callB hb; clear hb
    refine ⟨.bool ((hasNeg V)), rfl, fun a hA => ?_⟩
    refine S.val hA (R.pickF rfl rfl) rfl ?_; clear hA a; intro a hA
    refine S.val hA (R.move rfl) rfl ?_; clear hA a; intro a hA
    refine hA.splitB (d := 20) rfl ?_ ?_
    ·
     clear hA; intro hg16 hA
     refine S.no (dj := 20) hA (by kernel_rfl) rfl rfl rfl ?_; clear hA a; intro a hA
     refine S.no (dj := 20) hA (by kernel_rfl) rfl rfl rfl ?_; clear hA a; intro a hA
     refine S.val hA (R.pickT rfl rfl) rfl ?_; clear hA a; intro a hA
     refine S.done ?_
     replace hA : St 29 [(2, _), (3, _), (23, _)] a := hA.sub ((.cons rfl (.cons rfl (.cons rfl .nil))))
     exact hJ _ _ ⟨hA.sub (.cons rfl (.cons rfl (.cons (by first | rfl | exact congrArg (fun b => some (Value.bool b)) (by first | exact decide_eq_decide.2 (by omega) | exact or_bool (by omega) | exact and_bool (by omega) | (simp; done) | (simp [hg14, hg15, hg16]; done) | (have h80 := hg14; (try simp at h80); have h81 := hg15; (try simp at h81); have h82 := hg16; (try simp at h82); simp [h80, h81, h82]; done) | exact (decide_eq_false (fun h9 => hg14 h9.1)).symm | exact (decide_eq_false (fun h9 => hg15 h9.1)).symm | exact (decide_eq_false (fun h9 => hg16 h9.1)).symm)) .nil))), hM⟩
    ·
     clear hA; intro hg16 hA
     refine S.valg (dj := 20) hA (by kernel_rfl) rfl (R.load sz22 rfl (hM.cell (k := 0) rfl rfl)) rfl ?_; clear hA a; intro a hA
     refine S.callg (dj := 20) hA (by kernel_rfl) rfl (R.callF Try.func76 rfl rfl rfl) rfl (contains09 au U cu _ (hu.mem hM)) ?_; clear hA a
     rintro e w7 ⟨rfl, hb⟩
     replace hM := hM.callB hb; clear hb
     refine ⟨.bool ((hasNeg U)), rfl, fun a hA => ?_⟩
     refine S.val hA (R.pickF rfl rfl) rfl ?_; clear hA a; intro a hA
     refine S.done ?_
     replace hA : St 29 [(2, _), (3, _), (23, _)] a := hA.sub ((.cons rfl (.cons rfl (.cons rfl .nil))))
     exact hJ _ _ ⟨hA.sub (.cons rfl (.cons rfl (.cons (by first | rfl | exact congrArg (fun b => some (Value.bool b)) (by first | exact decide_eq_decide.2 (by omega) | exact or_bool (by omega) | exact and_bool (by omega) | (simp; done) | (simp [hg14, hg15, hg16]; done) | (have h80 := hg14; (try simp at h80); have h81 := hg15; (try simp at h81); have h82 := hg16; (try simp at h82); simp [h80, h81, h82]; done) | exact (decide_eq_false (fun h9 => hg14 h9.1)).symm | exact (decide_eq_false (fun h9 => hg15 h9.1)).symm | exact (decide_eq_false (fun h9 => hg16 h9.1)).symm)) .nil))), hM⟩
end Go.Proofs.Ytnikajkklocncaa
namespace Go.Proofs.Ytnikajkklocncaa
def ScB (l : List UInt8) (T : List Tok) : Prop := ∀ r : List UInt8, Going (bs (l ++ r)) 0 [] l.length T
def okN (r : List UInt8) : Prop := kb (bs r) 0 ≠ 2 ∧ kb (bs r) 0 ≠ 3
def ScN (l : List UInt8) (T : List Tok) : Prop := ∀ r : List UInt8, okN r → Going (bs (l ++ r)) 0 [] l.length T
theorem ScB.nil : ScB [] [] := fun _ => Going.refl _ _ _
theorem kb_mid (l r : List UInt8) (j : Nat) : kb (bs (l ++ r)) (l.length + j) = kb (bs r) j := by
  rw [← bs_app, show l.length = (bs l).size from (bs_size l).symm, kb_r]
theorem kb_cons (c : UInt8) (r : List UInt8) : kb (bs (c :: r)) 0 = kindI (c.toNat : Int) := by
  rw [kb_in (by rw [bs_size]; simp), show bs (c :: r) = ⟨(c :: r).toArray⟩ from rfl, byt_mk (by simp)]; rfl
def blk1 (c : UInt8) : Prop := kindI (c.toNat : Int) = 1
theorem blk1_k {c : UInt8} (h : blk1 c) : kindI (c.toNat : Int) = 1 := h
theorem okN_blk {c : UInt8} (h : blk1 c) (r : List UInt8) : okN (c :: r) := by unfold okN; rw [kb_cons, blk1_k h]; decide
theorem ScN.blank {l : List UInt8} {T : List Tok} {c : UInt8} (h : ScN l T) (hc : blk1 c) : ScB (l ++ [c]) T := fun r => by
  have h1 := h (c :: r) (okN_blk hc r)
  have e : (l ++ [c]) ++ r = l ++ (c :: r) := by simp
  rw [e, List.length_append]
  refine h1.trans (Going.blank (by rw [bs_size]; simp) ?_)
  have := kb_mid l (c :: r) 0
  rw [Nat.add_zero] at this
  rw [this, kb_cons, blk1_k hc]
structure Pc where
  b : List UInt8
  k : Int
  x : ByteArray
  n : Int
  s : UInt8
def pz : Pc := ⟨[], 0, ⟨#[]⟩, 0, 0⟩
def wdP (b : List UInt8) (s : UInt8) : Pc := ⟨b, 1, bs b, 0, s⟩
def nuP (n : Int) (s : UInt8) : Pc := ⟨Lib.itoa n, 2, ⟨#[]⟩, n, s⟩
end Go.Proofs.Ytnikajkklocncaa
namespace Go.Proofs.Ytnikajkklocncaa
section
variable {w0 w : World} {F : Nat → Prop} {L : List Ck} {e : TypeId} {b n : Nat} {l : List Value}
theorem Mem.eqL {L2 : List Ck} (h : Mem w0 F L w) (he : L = L2) : Mem w0 F L2 w := he ▸ h
end
open Go.RowKit
section
variable {w0 w : World} {F : Nat → Prop} {c1 c2 : Ck} {ib : Nat} {t eI eR : TypeId} {G0 G : Ins} {aw av ac : Option Addr} {cw cv cc : Nat} {rs : List OwR}
end
end Go.Proofs.Ytnikajkklocncaa
namespace Go.Proofs.Ytnikajkklocncaa
def wKN : ByteArray := ⟨#[75, 78, 65, 80, 83, 65, 67, 75]⟩
def wAS : ByteArray := ⟨#[65, 83, 83, 73, 71, 78, 77, 69, 78, 84]⟩
def wTS : ByteArray := ⟨#[84, 83, 80]⟩
def wFU : ByteArray := ⟨#[70, 85, 76, 76]⟩
theorem Toks.one {X : List Tok} (h : Toks X) {j : Nat} (hj : j < X.length) (k3 : ¬ (X.getD j tz).k = 3) {y : ByteArray} (hx : (X.getD j tz).x = y) (hy : y ≠ ⟨#[]⟩) : (X.getD j tz).k = 1 := by
  rcases h.kinds j hj with g | g | g
  · exact g
  · exact absurd (hx ▸ h.two j g) hy
  · exact absurd g k3
end Go.Proofs.Ytnikajkklocncaa
namespace Go.Proofs.Ytnikajkklocncaa
def rowP : List Int → List Pc
  | [] => []
  | [x] => [nuP x 10]
  | x :: y :: l => nuP x 32 :: rowP (y :: l)
theorem rowP_len : ∀ l, (rowP l).length = l.length
  | [] => rfl
  | [_] => rfl
  | x :: y :: l => by rw [rowP, List.length_cons, rowP_len]; rfl
theorem rowP_get : ∀ (l : List Int) (c : Nat), c < l.length → ((rowP l).getD c pz).k = 2 ∧ ((rowP l).getD c pz).n = l.getD c 0
  | [], _, h => absurd h (Nat.not_lt_zero _)
  | [x], 0, _ => ⟨rfl, rfl⟩
  | [x], c + 1, h => absurd h (by simp)
  | x :: y :: l, 0, _ => ⟨rfl, rfl⟩
  | x :: y :: l, c + 1, h => by
    rw [rowP, List.getD_cons_succ, List.getD_cons_succ]
    exact rowP_get (y :: l) c (by simp at h ⊢; omega)
def itmP (i : Ins) (k : Nat) : List Pc := rowP [i.wt.getD k 0, i.vl.getD k 0]
def rwsP (i : Ins) (r : Nat) : List Pc := rowP (i.cost.getD r [])
theorem flat_len {f : Nat → List Pc} {L : Nat} : ∀ {R : Nat}, (∀ r, r < R → (f r).length = L) → ((List.range R).flatMap f).length = R * L
  | 0, _ => by simp
  | R + 1, h => by
    rw [List.range_succ, List.flatMap_append, List.length_append, flat_len (R := R) (fun r hr => h r (by omega)), Nat.add_mul, Nat.one_mul]
    simp [h R (by omega)]
theorem flat_get {f : Nat → List Pc} {L r c : Nat} (hc : c < L) : ∀ {R : Nat}, (∀ r, r < R → (f r).length = L) → r < R → ((List.range R).flatMap f).getD (r * L + c) pz = (f r).getD c pz
  | 0, _, h => absurd h (Nat.not_lt_zero _)
  | R + 1, h, hr => by
    have hl := flat_len (f := f) (L := L) (R := R) (fun r hr => h r (by omega))
    rw [List.range_succ, List.flatMap_append]
    have e1 : [R].flatMap f = f R := by simp
    rw [e1]
    simp only [List.getD_eq_getElem?_getD]
    rcases Nat.lt_succ_iff_lt_or_eq.1 hr with g | g
    · have h1 : r * L + c < R * L := by
        have : (r + 1) * L ≤ R * L := Nat.mul_le_mul_right L g
        rw [Nat.add_mul, Nat.one_mul] at this; omega
      rw [List.getElem?_append_left (by omega)]
      have := flat_get (f := f) hc (R := R) (fun r hr => h r (by omega)) g
      simpa only [List.getD_eq_getElem?_getD] using this
    · subst g
      rw [List.getElem?_append_right (by omega), hl, Nat.add_sub_cancel_left]
def hdP (i : Ins) : List Pc :=
  if i.kind = 1 then [wdP [75, 78, 65, 80, 83, 65, 67, 75] 32, nuP i.n 32, nuP i.cap 10]
  else if i.kind = 2 then [wdP [65, 83, 83, 73, 71, 78, 77, 69, 78, 84] 32, nuP i.n 10] else [wdP [84, 83, 80] 32, nuP i.n 32, wdP [70, 85, 76, 76] 10]
def pcs (i : Ins) : List Pc := hdP i ++ if i.kind = 1 then (List.range i.n.toNat).flatMap (itmP i) else (List.range i.n.toNat).flatMap (rwsP i)
def j0I (i : Ins) : Nat := if i.kind = 3 then 3 else 2
def mI (i : Ins) : Nat := if i.kind = 1 then 1 + 2 * i.n.toNat else i.n.toNat * i.n.toNat
def vN (i : Ins) (q : Nat) : Int := if i.kind = 1 then (if q = 0 then i.cap else if q % 2 = 1 then i.wt.getD (q / 2) 0 else i.vl.getD (q / 2 - 1) 0) else (i.cost.getD (q / i.n.toNat) []).getD (q % i.n.toNat) 0
theorem getD_app2P {a b : List Pc} {j : Nat} : (a ++ b).getD (a.length + j) pz = b.getD j pz := by
  rw [List.getD_eq_getElem?_getD, List.getD_eq_getElem?_getD, List.getElem?_append_right (by omega), Nat.add_sub_cancel_left]
theorem pcs_num {i : Ins} (h : InF i) {q : Nat} (hq : q < mI i) : ((pcs i).getD (j0I i + q) pz).k = 2 ∧ ((pcs i).getD (j0I i + q) pz).n = vN i q := by
  have hk := h.kind
  have hc := h.cost
  have hn := h.n1
  unfold mI at hq
  by_cases h1 : i.kind = 1
  · rw [if_pos h1] at hq
    unfold pcs hdP j0I vN
    rw [if_pos h1, if_pos h1, if_neg (by omega), if_pos h1]
    by_cases h0 : q = 0
    · subst h0; exact ⟨rfl, rfl⟩
    · rw [if_neg h0]
      have e0 : 2 + q = [wdP [75, 78, 65, 80, 83, 65, 67, 75] 32, nuP i.n 32, nuP i.cap 10].length + (q - 1) := by show _ = 3 + (q - 1); omega
      rw [e0, getD_app2P]
      have hL : ∀ r, r < i.n.toNat → (itmP i r).length = 2 := fun r _ => by rw [itmP, rowP_len]; rfl
      by_cases h2 : q % 2 = 1
      · rw [if_pos h2, show q - 1 = (q / 2) * 2 + 0 by omega, flat_get (by decide) hL (by omega)]
        exact rowP_get _ 0 (by simp)
      · rw [if_neg h2, show q - 1 = (q / 2 - 1) * 2 + 1 by omega, flat_get (by decide) hL (by omega)]
        exact rowP_get _ 1 (by simp)
  · rw [if_neg h1] at hq hc
    have hn0 : 0 < i.n.toNat := by omega
    have hdm := Nat.div_add_mod' q i.n.toNat
    have hdl : q / i.n.toNat < i.n.toNat := Nat.div_lt_of_lt_mul hq
    have hml := Nat.mod_lt q hn0
    have hL : ∀ r, r < i.n.toNat → (rwsP i r).length = i.n.toNat := fun r hr => by rw [rwsP, rowP_len]; exact h.row r (by omega)
    have key : ∀ hd : List Pc, ((hd ++ (List.range i.n.toNat).flatMap (rwsP i)).getD (hd.length + q) pz).k = 2 ∧ ((hd ++ (List.range i.n.toNat).flatMap (rwsP i)).getD (hd.length + q) pz).n = vN i q := fun hd => by
      rw [getD_app2P]
      have e1 : ((List.range i.n.toNat).flatMap (rwsP i)).getD q pz = (rwsP i (q / i.n.toNat)).getD (q % i.n.toNat) pz := by
        have := flat_get (f := rwsP i) (r := q / i.n.toNat) hml hL hdl
        rwa [hdm] at this
      rw [e1]
      unfold vN; rw [if_neg h1]
      exact rowP_get _ _ (by rw [h.row _ (by omega)]; exact hml)
    unfold pcs hdP j0I
    rw [if_neg h1, if_neg h1]
    by_cases h2 : i.kind = 2
    · rw [if_pos h2, if_neg (by omega)]; exact key _
    · rw [if_neg h2, if_pos (by omega)]; exact key _
theorem vN_bd {i : Ins} (h : InF i) (q : Nat) : 0 ≤ vN i q ∧ vN i q ≤ 2147483647 := by
  unfold vN
  split
  · split
    · exact h.cap
    · split
      · exact h.wtr _
      · exact h.vlr _
  · exact h.cell _ _
def Hd (X : List Tok) (i : Ins) (m : Nat) : Prop := ∀ j, j < j0I i + m → (X.getD j tz).k = ((pcs i).getD j pz).k ∧ (X.getD j tz).x = ((pcs i).getD j pz).x ∧ (X.getD j tz).n = ((pcs i).getD j pz).n
theorem Hd.num {X : List Tok} {i : Ins} {m : Nat} (hH : Hd X i m) (h : InF i) (hm : m ≤ mI i) {q : Nat} (hq : q < m) : (X.getD (j0I i + q) tz).k = 2 ∧ (X.getD (j0I i + q) tz).n = vN i q := by
  obtain ⟨h1, -, h3⟩ := hH (j0I i + q) (by omega)
  obtain ⟨g1, g2⟩ := pcs_num h (q := q) (by omega)
  exact ⟨h1.trans g1, h3.trans g2⟩
theorem Hd.ok {X : List Tok} {i : Ins} {m : Nat} (hH : Hd X i m) (h : InF i) (hm : m ≤ mI i) {f : Nat → Bool} (hf : ∀ q, f q = true → q < mI i → vN i q = 0) : ∀ q, q < m → nuE (f q) (X.getD (j0I i + q) tz) = 0 := fun q hq => by
  obtain ⟨h1, h2⟩ := hH.num h hm hq
  have hb := vN_bd h q
  obtain ⟨g1, g2⟩ := numR_ok (t := X.getD (j0I i + q) tz) (m := 2147483647) (by omega) (by omega) (by omega)
  exact nuE_ok g1 (fun g => g.2 (by rw [g2, h2]; exact hf q g.1 (by omega)))
theorem Hd.head {X : List Tok} {i : Ins} {m : Nat} (hH : Hd X i m) (hj : j0I i ≤ j0I i + m) : (X.getD 0 tz).k = 1 ∧ (X.getD 1 tz).k = 2 ∧ (X.getD 1 tz).n = i.n ∧ (i.kind = 1 → (X.getD 0 tz).x = wKN) ∧ (i.kind = 2 → (X.getD 0 tz).x = wAS) ∧ (¬ i.kind = 1 → ¬ i.kind = 2 → (X.getD 0 tz).x = wTS) ∧ (i.kind = 3 → (X.getD 2 tz).k = 1 ∧ (X.getD 2 tz).x = wFU) := by
  have hj2 : 2 ≤ j0I i := by unfold j0I; split <;> omega
  obtain ⟨a1, a2, a3⟩ := hH 0 (by omega)
  obtain ⟨b1, b2, b3⟩ := hH 1 (by omega)
  rw [a1, a2, b1, b3]
  unfold pcs hdP
  by_cases h1 : i.kind = 1
  · rw [if_pos h1]; exact ⟨rfl, rfl, rfl, fun _ => rfl, fun h => absurd h (by omega), fun h => absurd h1 h, fun h => absurd h (by omega)⟩
  · rw [if_neg h1]
    by_cases h2 : i.kind = 2
    · rw [if_pos h2]; exact ⟨rfl, rfl, rfl, fun h => absurd h h1, fun _ => rfl, fun _ h => absurd h2 h, fun h => absurd h (by omega)⟩
    · rw [if_neg h2]
      refine ⟨rfl, rfl, rfl, fun h => absurd h h1, fun h => absurd h h2, fun _ _ => rfl, fun h3 => ?_⟩
      obtain ⟨c1, c2, -⟩ := hH 2 (by unfold j0I; rw [if_pos h3]; omega)
      rw [c1, c2]
      unfold pcs hdP
      rw [if_neg h1, if_neg h2]
      exact ⟨rfl, rfl⟩
end Go.Proofs.Ytnikajkklocncaa
namespace Go.Proofs.Ytnikajkklocncaa
def flS (i : Ins) (l : List Int) : Nat → List Int × Int × Int
  | 0 => (List.replicate i.n.toNat 0, i.cap, 0)
  | m + 1 => if i.wt.getD (l.getD m 0).toNat 0 ≤ (flS i l m).2.1 then ((flS i l m).1.set (l.getD m 0).toNat 1, (flS i l m).2.1 - i.wt.getD (l.getD m 0).toNat 0, (flS i l m).2.2 + i.vl.getD (l.getD m 0).toNat 0) else flS i l m
theorem flS_take {i : Ins} {l : List Int} {m : Nat} (h : i.wt.getD (l.getD m 0).toNat 0 ≤ (flS i l m).2.1) : flS i l (m + 1) = ((flS i l m).1.set (l.getD m 0).toNat 1, (flS i l m).2.1 - i.wt.getD (l.getD m 0).toNat 0, (flS i l m).2.2 + i.vl.getD (l.getD m 0).toNat 0) := if_pos h
theorem flS_leave {i : Ins} {l : List Int} {m : Nat} (h : ¬ i.wt.getD (l.getD m 0).toNat 0 ≤ (flS i l m).2.1) : flS i l (m + 1) = flS i l m := if_neg h
theorem flS_len (i : Ins) (l : List Int) : ∀ m, (flS i l m).1.length = i.n.toNat
  | 0 => List.length_replicate
  | m + 1 => by
    by_cases h : i.wt.getD (l.getD m 0).toNat 0 ≤ (flS i l m).2.1
    · rw [flS_take h]; exact List.length_set.trans (flS_len i l m)
    · rw [flS_leave h]; exact flS_len i l m
theorem flS_room {i : Ins} (hF : InF i) (l : List Int) : ∀ m, 0 ≤ (flS i l m).2.1 ∧ (flS i l m).2.1 ≤ i.cap
  | 0 => ⟨hF.cap.1, Int.le_refl _⟩
  | m + 1 => by
    have ih := flS_room hF l m
    have hw := hF.wtr (l.getD m 0).toNat
    by_cases h : i.wt.getD (l.getD m 0).toNat 0 ≤ (flS i l m).2.1
    · rw [flS_take h]; simp only; omega
    · rw [flS_leave h]; exact ih
theorem flS_worth {i : Ins} (hF : InF i) (l : List Int) : ∀ m, 0 ≤ (flS i l m).2.2 ∧ (flS i l m).2.2 ≤ m * 2147483647
  | 0 => ⟨Int.le_refl _, Int.le_refl _⟩
  | m + 1 => by
    have ih := flS_worth hF l m
    have hw := hF.vlr (l.getD m 0).toNat
    by_cases h : i.wt.getD (l.getD m 0).toNat 0 ≤ (flS i l m).2.1
    · rw [flS_take h]; simp only; omega
    · rw [flS_leave h]; omega
def alI (i : Ins) : Nat → Int
  | 0 => -1
  | k + 1 => if i.wt.getD k 0 ≤ i.cap ∧ (alI i k < 0 ∨ i.vl.getD (alI i k).toNat 0 < i.vl.getD k 0) then (k : Int) else alI i k
theorem alI_bd (i : Ins) : ∀ k, -1 ≤ alI i k ∧ alI i k < k
  | 0 => by simp [alI]
  | k + 1 => by
    have ih := alI_bd i k
    unfold alI
    split <;> omega
theorem alI_wt (i : Ins) : ∀ k, 0 ≤ alI i k → i.wt.getD (alI i k).toNat 0 ≤ i.cap
  | 0 => fun h => absurd h (by simp [alI])
  | k + 1 => fun h => by
    unfold alI at h ⊢
    split at h
    · rename_i g; rw [if_pos g, Int.toNat_natCast]; exact g.1
    · rename_i g; rw [if_neg g]; exact alI_wt i k h
def knS (i : Ins) : List Int := if 0 ≤ alI i i.n.toNat ∧ (flS i (byQ i.vl i.wt) i.n.toNat).2.2 < i.vl.getD (alI i i.n.toNat).toNat 0 then (List.replicate i.n.toNat 0).set (alI i i.n.toNat).toNat 1 else (flS i (byQ i.vl i.wt) i.n.toNat).1
theorem getDS (x : List Int) (k q : Nat) (v : Int) : (x.set k v).getD q 0 = if k = q ∧ q < x.length then v else x.getD q 0 := by
  rw [List.getD_eq_getElem?_getD, List.getElem?_set, List.getD_eq_getElem?_getD]
  by_cases h : k = q
  · subst h
    by_cases g : k < x.length
    · simp [g]
    · simp [g, List.getElem?_eq_none (Nat.le_of_not_lt g)]
  · simp [h]
theorem sumF_upd {f g : Nat → Int} {k : Nat} (hf : f k = 0) (h : ∀ q, q ≠ k → g q = f q) : ∀ n, sumF g n = sumF f n + if k < n then g k else 0
  | 0 => by simp [sumF]
  | n + 1 => by
    rw [sumF, sumF, sumF_upd hf h n]
    rcases Nat.lt_trichotomy k n with e | e | e
    · rw [if_pos e, if_pos (by omega), h n (by omega)]; omega
    · subst e; rw [if_neg (Nat.lt_irrefl _), if_pos (Nat.lt_succ_self _), hf]
    · rw [if_neg (by omega), if_neg (by omega), h n (by omega)]; omega
theorem wt_set {i : Ins} {x : List Int} {k n : Nat} (hk : k < n) (hx : x.length = n) (h0 : x.getD k 0 = 0) : sumF (wtF i (x.set k 1)) n = sumF (wtF i x) n + i.wt.getD k 0 := by
  have e1 : ∀ q, q ≠ k → wtF i (x.set k 1) q = wtF i x q := fun q hq => by
    have e9 : (x.set k 1).getD q 0 = x.getD q 0 := by rw [getDS, if_neg (fun e => hq e.1.symm)]
    unfold wtF; rw [e9]
  have e2 : wtF i (x.set k 1) k = i.wt.getD k 0 := by
    have e9 : (x.set k 1).getD k 0 = 1 := by rw [getDS, if_pos ⟨rfl, by omega⟩]
    unfold wtF; rw [e9, if_pos rfl]
  rw [sumF_upd (f := wtF i x) (g := wtF i (x.set k 1)) (k := k) (by unfold wtF; rw [h0, if_neg (by decide)]) e1 n, if_pos hk, e2]
theorem rep0_get (n q : Nat) : (List.replicate n (0 : Int)).getD q 0 = 0 := by
  rw [List.getD_eq_getElem?_getD, List.getElem?_replicate]; split <;> rfl
theorem wt_rep (i : Ins) (m : Nat) : ∀ n, sumF (wtF i (List.replicate m 0)) n = 0
  | 0 => rfl
  | n + 1 => by rw [sumF, wt_rep i m n]; unfold wtF; rw [rep0_get, if_neg (by decide)]; rfl
theorem byQ_at {v w : List Int} {m : Nat} (h : m < v.length) : 0 ≤ (byQ v w).getD m 0 ∧ (byQ v w).getD m 0 < v.length := by
  have hl : m < (byQ v w).length := by rw [byQ_len]; exact h
  have e : (byQ v w).getD m 0 = (byQ v w)[m] := by simp [List.getD, hl]
  rw [e]
  exact mem_pl.1 ((byQ_perm v w).mem_iff.1 (List.getElem_mem hl))
theorem flS_ok {i : Ins} {l : List Int} (hnd : l.Nodup) (hin : ∀ m, m < l.length → 0 ≤ l.getD m 0 ∧ l.getD m 0 < (i.n.toNat : Int)) : ∀ m, m ≤ l.length → bitP (flS i l m).1 i.n.toNat ∧ (∀ q : Nat, (flS i l m).1.getD q 0 = 1 → (q : Int) ∈ l.take m) ∧ sumF (wtF i (flS i l m).1) i.n.toNat + (flS i l m).2.1 = i.cap
  | 0 => fun _ => ⟨fun q _ => .inl (rep0_get _ q), fun q h => (by have : (List.replicate i.n.toNat (0 : Int)).getD q 0 = 1 := h; rw [rep0_get] at this; cases this), by show sumF (wtF i (List.replicate i.n.toNat 0)) _ + i.cap = i.cap; rw [wt_rep]; omega⟩
  | m + 1 => fun hm => by
    obtain ⟨h1, h2, h3⟩ := flS_ok hnd hin m (by omega)
    have hlen := flS_len i l m
    have hat := hin m (by omega)
    have htk : l.take (m + 1) = l.take m ++ [l.getD m 0] := by
      rw [List.take_succ_eq_append_getElem (by omega)]; congr 2; simp [List.getD, show m < l.length by omega]
    have hni : l.getD m 0 ∉ l.take m := by
      have h4 : (l.take (m + 1)).Nodup := hnd.sublist (List.take_sublist _ _)
      rw [htk, List.nodup_append] at h4
      exact fun g => h4.2.2 _ g _ (List.mem_singleton.2 rfl) rfl
    rw [htk]
    obtain ⟨k, hk⟩ : ∃ k : Nat, l.getD m 0 = k := ⟨(l.getD m 0).toNat, by omega⟩
    by_cases h : i.wt.getD (l.getD m 0).toNat 0 ≤ (flS i l m).2.1
    · rw [flS_take h, hk, Int.toNat_natCast]; simp only
      rw [hk] at hni h
      rw [Int.toNat_natCast] at h
      have h0 : (flS i l m).1.getD k 0 = 0 := by
        rcases h1 k (by omega) with g | g
        · exact g
        · exact absurd (h2 k g) hni
      refine ⟨fun q hq => ?_, fun q hq => ?_, ?_⟩
      · rw [getDS]; split
        · exact .inr rfl
        · exact h1 q hq
      · rw [getDS] at hq; split at hq
        · rename_i e; rw [← e.1]; exact List.mem_append_right _ (List.mem_singleton.2 rfl)
        · exact List.mem_append_left _ (h2 q hq)
      · rw [wt_set (by omega) hlen h0]; omega
    · rw [flS_leave h]; exact ⟨h1, fun q hq => List.mem_append_left _ (h2 q hq), h3⟩
theorem byQ_nodup (v w : List Int) : (byQ v w).Nodup := (byQ_perm _ _).nodup_iff.2 (pl_nodup _)
theorem knS_len (i : Ins) : (knS i).length = i.n.toNat := by
  unfold knS; split
  · rw [List.length_set]; exact List.length_replicate
  · exact flS_len _ _ _
theorem knS_ok {i : Ins} (hF : InF i) (hk : i.kind = 1) : (knpI i (knS i)).2 = 0 := by
  have hv := hF.vl
  rw [if_pos hk] at hv
  have hn := hF.n1
  have hl := knS_len i
  suffices h : bitP (knS i) i.n.toNat ∧ sumF (wtF i (knS i)) i.n.toNat ≤ i.cap by
    unfold knpI
    rw [hl, if_neg (not_not_intro (show ((i.n.toNat : Nat) : Int) = i.n by omega)), if_neg (not_not_intro h.1), if_neg (by omega)]
  have hal := alI_bd i i.n.toNat
  have haw := alI_wt i i.n.toNat
  unfold knS
  split
  · rename_i g
    obtain ⟨k, hk'⟩ : ∃ k : Nat, alI i i.n.toNat = k := ⟨(alI i i.n.toNat).toNat, by omega⟩
    have haw := haw g.1
    rw [hk', Int.toNat_natCast] at haw ⊢
    refine ⟨fun q hq => ?_, ?_⟩
    · rw [getDS]; split
      · exact .inr rfl
      · exact .inl (rep0_get _ q)
    · rw [wt_set (by omega) List.length_replicate (rep0_get _ _), wt_rep]; omega
  · have h1 := flS_ok (i := i) (l := byQ i.vl i.wt) (byQ_nodup _ _) (fun m hm => by rw [byQ_len] at hm; have := byQ_at (v := i.vl) (w := i.wt) hm; omega) i.n.toNat (by rw [byQ_len]; omega)
    have h2 := flS_room hF (byQ i.vl i.wt) i.n.toNat
    exact ⟨h1.1, by omega⟩
def chI (row x : List Int) : Nat → Int
  | 0 => -1
  | c + 1 => if ¬ ((c : Int) ∈ x) ∧ (chI row x c < 0 ∨ row.getD c 0 < row.getD (chI row x c).toNat 0) then (c : Int) else chI row x c
theorem chI_bd (row x : List Int) : ∀ c, -1 ≤ chI row x c ∧ chI row x c < c
  | 0 => by simp [chI]
  | c + 1 => by
    have ih := chI_bd row x c
    unfold chI
    split <;> omega
theorem chI_free (row x : List Int) : ∀ c, 0 ≤ chI row x c → ¬ chI row x c ∈ x
  | 0 => fun h => absurd h (by simp [chI])
  | c + 1 => fun h => by
    unfold chI at h ⊢
    split at h
    · rename_i g; rw [if_pos g]; exact g.1
    · rename_i g; rw [if_neg g]; exact chI_free row x c h
theorem chI_pos (row x : List Int) : ∀ c, (∃ q : Nat, q < c ∧ ¬ (q : Int) ∈ x) → 0 ≤ chI row x c
  | 0 => fun ⟨q, hq, _⟩ => absurd hq (Nat.not_lt_zero _)
  | c + 1 => fun ⟨q, hq, hx⟩ => by
    unfold chI
    split
    · omega
    · rename_i g
      refine Classical.byContradiction fun h0 => ?_
      rcases Nat.lt_succ_iff_lt_or_eq.1 hq with e | e
      · exact h0 (chI_pos row x c ⟨q, e, hx⟩)
      · subst e; exact g ⟨hx, .inl (by omega)⟩
def rowOf (i : Ins) (x : List Int) : List Int := i.cost.getD (if i.kind = 3 then (x.getD (x.length - 1) 0).toNat else x.length) []
def rwA (i : Ins) : Nat → List Int
  | 0 => if i.kind = 3 then [0] else []
  | m + 1 => rwA i m ++ [chI (rowOf i (rwA i m)) (rwA i m) i.n.toNat]
def frm (i : Ins) : Nat := if i.kind = 3 then 1 else 0
theorem frm_le (i : Ins) : frm i ≤ 1 := by unfold frm; split <;> omega
theorem rwA_len (i : Ins) : ∀ m, (rwA i m).length = frm i + m
  | 0 => by unfold rwA frm; split <;> rfl
  | m + 1 => by rw [rwA, List.length_append, rwA_len i m]; rfl
theorem free_col {x : List Int} {n : Nat} (hl : x.length < n) : ∃ q : Nat, q < n ∧ ¬ (q : Int) ∈ x := by
  refine Classical.byContradiction fun h => ?_
  have hs : pl n ⊆ x := fun y hy => by
    have h1 := mem_pl.1 hy
    refine Classical.byContradiction fun g => h ⟨y.toNat, by omega, ?_⟩
    rwa [Int.toNat_of_nonneg h1.1]
  have := (perm_of_nodup (pl_nodup n) hs (by rw [pl_len]; omega)).length_eq
  rw [pl_len] at this
  omega
def inc (n : Nat) (x : List Int) : Prop := x.Nodup ∧ ∀ y ∈ x, 0 ≤ y ∧ y < (n : Int)
theorem rwA_inc {i : Ins} (hn : 1 ≤ i.n.toNat) : ∀ m, frm i + m ≤ i.n.toNat → inc i.n.toNat (rwA i m) ∧ (i.kind = 3 → (rwA i m).getD 0 0 = 0)
  | 0 => fun _ => by
    unfold rwA inc
    split
    · refine ⟨⟨by simp, fun y hy => ?_⟩, fun _ => rfl⟩
      rw [List.mem_singleton.1 hy]; omega
    · exact ⟨⟨List.nodup_nil, fun y hy => absurd hy (by simp)⟩, fun _ => rfl⟩
  | m + 1 => fun hm => by
    obtain ⟨⟨h1, h2⟩, h3⟩ := rwA_inc hn m (by omega)
    have hl := rwA_len i m
    have hp := chI_pos (rowOf i (rwA i m)) (rwA i m) i.n.toNat (free_col (by omega))
    have hf := chI_free (rowOf i (rwA i m)) (rwA i m) i.n.toNat hp
    have hb := chI_bd (rowOf i (rwA i m)) (rwA i m) i.n.toNat
    rw [rwA]
    refine ⟨⟨List.nodup_append.2 ⟨h1, by simp, fun a ha b hb' e => ?_⟩, fun y hy => ?_⟩, fun h => ?_⟩
    · rw [List.mem_singleton.1 hb'] at e; exact hf (e ▸ ha)
    · rcases List.mem_append.1 hy with g | g
      · exact h2 y g
      · rw [List.mem_singleton.1 g]; omega
    · have h4 := h3 h
      have h5 : 0 < (rwA i m).length := by rw [hl]; unfold frm; rw [if_pos h]; omega
      rw [List.getD_eq_getElem?_getD, List.getElem?_append_left h5, ← List.getD_eq_getElem?_getD]; exact h4
theorem inc_perm {n : Nat} {x : List Int} (hn : n ≤ 128) (h : inc n x) (hl : x.length = n) : permP x n := by
  have hp : x.Perm (pl n) := perm_of_nodup h.1 (fun y hy => mem_pl.2 (h.2 y hy)) (by rw [pl_len]; omega)
  exact perm_of (rng_perm hn) hp
theorem rwA_ord {i : Ins} (hF : InF i) : ordP i (rwA i (i.n.toNat - frm i)) := by
  have h1 := hF.n1
  have h2 := hF.n64
  have h3 := frm_le i
  obtain ⟨h4, h5⟩ := rwA_inc (i := i) (by omega) (i.n.toNat - frm i) (by omega)
  exact ⟨inc_perm (by omega) h4 (by rw [rwA_len]; omega), h5⟩
def rvS (x : List Int) (a b : Nat) : List Int := (List.range x.length).map fun q => if a ≤ q ∧ q ≤ b then x.getD (a + b - q) 0 else x.getD q 0
def chg (i : Ins) (x : List Int) (a b : Nat) : List Int := if i.kind = 3 then rvS x a b else (x.set a (x.getD b 0)).set b (x.getD a 0)
theorem chg_len (i : Ins) (x : List Int) (a b : Nat) : (chg i x a b).length = x.length := by
  unfold chg rvS; split
  · simp
  · simp
abbrev BS3 := List Int × Int × Bool
end Go.Proofs.Ytnikajkklocncaa
namespace Go.Proofs.Ytnikajkklocncaa
section
variable (C : List Int → Int × Int) (i : Ins)
def tr1 (s : BS3) (a b : Nat) : BS3 := if (C (chg i s.1 a b)).2 = 0 ∧ (C (chg i s.1 a b)).1 < s.2.1 then (chg i s.1 a b, (C (chg i s.1 a b)).1, true) else s
def innB (s : BS3) (a : Nat) : Nat → BS3
  | 0 => s
  | m + 1 => tr1 C i (innB s a m) a (a + 1 + m)
def othB (s : BS3) : Nat → BS3
  | 0 => (s.1, s.2.1, false)
  | m + 1 => innB C i (othB s m) (frm i + m) (i.n.toNat - 1 - (frm i + m))
def rndB (s : BS3) : BS3 := othB C i s (i.n.toNat - frm i)
def rndsB (s : BS3) : Nat → BS3
  | 0 => s
  | r + 1 => if (rndsB s r).2.2 = true then rndB C i (rndsB s r) else rndsB s r
def betB (x : List Int) : List Int := (rndsB C i (x, (C x).1, true) 50).1
variable {C : List Int → Int × Int} {i : Ins}
theorem tr1_yes {s : BS3} {a b : Nat} (h : (C (chg i s.1 a b)).2 = 0 ∧ (C (chg i s.1 a b)).1 < s.2.1) : tr1 C i s a b = (chg i s.1 a b, (C (chg i s.1 a b)).1, true) := if_pos h
theorem tr1_no {s : BS3} {a b : Nat} (h : ¬ ((C (chg i s.1 a b)).2 = 0 ∧ (C (chg i s.1 a b)).1 < s.2.1)) : tr1 C i s a b = s := if_neg h
def okB (C : List Int → Int × Int) (n : Nat) (c : Int) (s : BS3) : Prop := s.1.length = n ∧ C s.1 = (s.2.1, 0) ∧ s.2.1 ≤ c
theorem tr1_ok {s : BS3} {a b n : Nat} {c : Int} (h : okB C n c s) : okB C n c (tr1 C i s a b) := by
  obtain ⟨h1, h2, h3⟩ := h
  by_cases g : (C (chg i s.1 a b)).2 = 0 ∧ (C (chg i s.1 a b)).1 < s.2.1
  · rw [tr1_yes g]; exact ⟨by rw [chg_len]; exact h1, Prod.ext rfl g.1, by show (C (chg i s.1 a b)).1 ≤ c; omega⟩
  · rw [tr1_no g]; exact ⟨h1, h2, h3⟩
theorem innB_ok {s : BS3} {a n : Nat} {c : Int} (h : okB C n c s) : ∀ m, okB C n c (innB C i s a m)
  | 0 => h
  | m + 1 => tr1_ok (innB_ok h m)
theorem othB_ok {s : BS3} {n : Nat} {c : Int} (h : okB C n c s) : ∀ m, okB C n c (othB C i s m)
  | 0 => h
  | m + 1 => innB_ok (othB_ok h m) _
theorem rndB_ok {s : BS3} {n : Nat} {c : Int} (h : okB C n c s) : okB C n c (rndB C i s) := othB_ok h _
theorem rndsB_ok {s : BS3} {n : Nat} {c : Int} (h : okB C n c s) : ∀ r, okB C n c (rndsB C i s r)
  | 0 => h
  | r + 1 => by
    unfold rndsB; split
    · exact rndB_ok (rndsB_ok h r)
    · exact rndsB_ok h r
theorem rnds_go {s : BS3} {r : Nat} (h : (rndsB C i s r).2.2 = true) : rndsB C i s (r + 1) = rndB C i (rndsB C i s r) := if_pos h
theorem rnds_stop {s : BS3} {r : Nat} (h : ¬ (rndsB C i s r).2.2 = true) : ∀ d, rndsB C i s (r + d) = rndsB C i s r
  | 0 => rfl
  | d + 1 => by
    rw [← Nat.add_assoc, rndsB, rnds_stop h d, if_neg h]
theorem rndsB_fin {x : List Int} {n : Nat} (hl : x.length = n) (h : (C x).2 = 0) (r : Nat) : (rndsB C i (x, (C x).1, true) r).1.length = n ∧ (C (rndsB C i (x, (C x).1, true) r).1).2 = 0 ∧ (C (rndsB C i (x, (C x).1, true) r).1).1 ≤ (C x).1 := by
  have h0 := rndsB_ok (i := i) (s := (x, (C x).1, true)) (n := n) (c := (C x).1) ⟨hl, Prod.ext rfl h, Int.le_refl _⟩ r
  generalize rndsB C i (x, (C x).1, true) r = t at h0 ⊢
  obtain ⟨h1, h2, h3⟩ := h0
  rw [h2]
  exact ⟨h1, rfl, h3⟩
theorem betB_ok {x : List Int} {n : Nat} (hl : x.length = n) (h : (C x).2 = 0) : (betB C i x).length = n ∧ (C (betB C i x)).2 = 0 ∧ (C (betB C i x)).1 ≤ (C x).1 := rndsB_fin hl h 50
theorem rnds_all {s : BS3} {r : Nat} (h : r = 50 ∨ ¬ (rndsB C i s r).2.2 = true) (hr : r ≤ 50) : rndsB C i s r = rndsB C i s 50 := by
  rcases h with h | h
  · rw [h]
  · have := rnds_stop h (50 - r)
    rw [show r + (50 - r) = 50 by omega] at this
    exact this.symm
end
theorem ext0 {x y : List Int} (hl : x.length = y.length) (h : ∀ q, q < x.length → x.getD q 0 = y.getD q 0) : x = y := by
  refine List.ext_getElem hl fun q h1 h2 => ?_
  have := h q h1
  simpa [List.getD, h1, h2] using this
theorem rvS_get {x : List Int} {a b q : Nat} (h : q < x.length) : (rvS x a b).getD q 0 = if a ≤ q ∧ q ≤ b then x.getD (a + b - q) 0 else x.getD q 0 := by
  unfold rvS
  rw [List.getD_eq_getElem?_getD, List.getElem?_map, List.getElem?_range h]; rfl
theorem rvS_at {x : List Int} {a b : Nat} (hab : a ≤ b) (hb : b < x.length) : x.take a ++ ((x.drop a).take (b + 1 - a)).reverse ++ x.drop (a + (b + 1 - a)) = rvS x a b := by
  have hl1 : (x.take a).length = a := by rw [List.length_take]; omega
  have hl2 : ((x.drop a).take (b + 1 - a)).reverse.length = b + 1 - a := by rw [List.length_reverse, List.length_take, List.length_drop]; omega
  refine ext0 (by simp [rvS]; omega) fun q hq => ?_
  have hq' : q < x.length := by simp only [List.length_append, hl1, hl2, List.length_drop] at hq; omega
  rw [rvS_get hq']
  by_cases h1 : q < a
  · rw [if_neg (by omega), List.append_assoc, List.getD_eq_getElem?_getD, List.getElem?_append_left (by omega), List.getElem?_take, if_pos h1, ← List.getD_eq_getElem?_getD]
  · by_cases h2 : q ≤ b
    · rw [if_pos ⟨by omega, h2⟩, List.append_assoc, List.getD_eq_getElem?_getD, List.getElem?_append_right (by omega), hl1, List.getElem?_append_left (by omega), List.getElem?_reverse (by rw [List.length_reverse] at hl2; omega)]
      rw [List.length_reverse] at hl2
      rw [hl2, List.getElem?_take, if_pos (by omega), List.getElem?_drop, ← List.getD_eq_getElem?_getD]
      congr 1; omega
    · rw [if_neg (by omega), List.getD_eq_getElem?_getD, List.getElem?_append_right (by rw [List.length_append]; omega), List.length_append, hl1, hl2, List.getElem?_drop, ← List.getD_eq_getElem?_getD]
      congr 1; omega
end Go.Proofs.Ytnikajkklocncaa
namespace Go.Proofs.Ytnikajkklocncaa
open Go.RowKit
theorem D.appendI {P : Program} {a : Act} {w w0 : World} {nn : Nat} {l : List (Nat × Value)} {Q : Exit → Act → World → Prop} {F : Nat → Prop} {L : List Ck} {S : World → Prop} {os : List Oper} {is : Ordt} {i last : Nat} {b0 : Bool} {d : Nat} {t e ty : TypeId} {x y : Operand} {pos : String} {aft : Array Edge}
    {k n bytes cap : Nat} {v z : Value} {xs : List Value} {X : List Int} {ad : Option Addr} {j : TypeInfo} (hA : St nn l a) (hM : Mem w0 F L w) (ho : ith os i = some { dst := some d, op := .call { callee := .builtin .append, args := #[x, y], argTypes := #[t, t] }, type := ty, pos, after := aft, guard := none })
    (hk : ith L k = some (own e 1 v n xs)) (hX : IntSl w (.slice ad X.length cap) X) (hpos : 0 < X.length) (ht : P.underlying t = some (.slice e)) (hi : P.info? e = some j) (hz : j.zero = some z) (hsz : j.size = 1) (hby : j.bytes = bytes) (hzs : z.cells.size = 1)
    (hx : opv l x = some v) (hy : opv l y = some (.slice ad X.length cap)) (hmax : n + X.length ≤ maxLen) (hbs : (n + X.length) * bytes ≤ 140737488355328) (hd : Nat.blt d nn = true)
    (h : ∀ a' cap' w', Mem w0 F (setAt L k (own e 1 (.slice a' (n + X.length) cap') (n + X.length) (xs ++ X.map (Value.int .i64)))) w' → S w' ∧ ∀ a, St nn ((d, .slice a' (n + X.length) cap') :: l) a → wpOrd P last os Q S b0 is a w') : wpOrd P last os Q S b0 (.cons (i, false) is) a w := by
  obtain ⟨ad', cap', he, hle, hmx, hnn, hc⟩ := hX
  injection he with he1 he2 he3
  subst he1 he3
  cases ad with
  | none => exact absurd (hnn rfl) (by omega)
  | some p =>
    refine D.appendG hA hM ho hk ht hi hz hsz hby hzs (by decide) hx hy (by simp) (fun j u hu => ?_) (allOne_ints X) hmax hbs hd h
    obtain ⟨hj, rfl⟩ := mapi_take X j u hu
    obtain ⟨b, off, hb, hlt, hcell⟩ := hc (by intro e0; rw [e0] at hj; simp at hj)
    cases hb
    rw [Addr.add_lit]; exact hcell j hj
end Go.Proofs.Ytnikajkklocncaa
