/-
  Scans of texts that are alike all over; strings of lists. It holds of every program; nothing is assumed.
-/
import Derived.Test.YtdbbigjoloinpaaDoorLex1
import Derived.Test.YtdbbigjoloinpaaDoorDig3
namespace Go.Proofs.YtdbbigjoloinpaaDoor
open Go.RowKit
theorem scF_blank {s : ByteArray} (hb : ∀ p, p < s.size → kb s p = 1) : ∀ f p X, s.size ≤ p + f → scF s f p X = (X ++ [tend s], 0, 0)
  | 0, p, X, _ => rfl
  | f + 1, p, X, h => by
    by_cases hp : p < s.size
    · have e := lst_1 (hb p hp)
      rw [scF_go hp (Nat.succ_pos f) (by rw [e]), e]
      simp only [List.append_nil]
      exact scF_blank hb f (p + 1) X (by omega)
    · exact scF_end hp _ _
theorem byt_rep {pre : List UInt8} {c : UInt8} {m j : Nat} (h : pre.length ≤ j) (h2 : j < pre.length + m) : byt ⟨(pre ++ List.replicate m c).toArray⟩ j = (c.toNat : Int) := by
  rw [byt_mk (by rw [List.length_append, List.length_replicate]; exact h2), List.getElem_append_right h, List.getElem_replicate]
theorem size_rep (pre : List UInt8) (c : UInt8) (m : Nat) : (⟨(pre ++ List.replicate m c).toArray⟩ : ByteArray).size = pre.length + m := by
  rw [size_mk, List.length_append, List.length_replicate]
theorem scan_sp (N : Nat) : scan ⟨(List.replicate N 32).toArray⟩ = if 65536 < N then ([], 0, 5) else ([tend ⟨(List.replicate N 32).toArray⟩], 0, 0) := by
  have hs : (⟨(List.replicate N (32 : UInt8)).toArray⟩ : ByteArray).size = N := by rw [size_mk, List.length_replicate]
  unfold scan
  rw [hs]
  split
  · rfl
  · refine scF_blank (fun p hp => ?_) _ _ _ (by omega)
    rw [hs] at hp
    rw [kb_in (by omega), byt_mk (by rw [List.length_replicate]; exact hp), List.getElem_replicate]
    rfl
def wrdS (m : Nat) : ByteArray := ⟨(([32] : List UInt8) ++ List.replicate m (107 : UInt8)).toArray⟩
def numS (m : Nat) : ByteArray := ⟨(([32, 32] : List UInt8) ++ List.replicate m (55 : UInt8)).toArray⟩
theorem kb_mk {l : List UInt8} {j : Nat} (h : j < l.length) : kb ⟨l.toArray⟩ j = kindI (l[j].toNat : Int) := by
  rw [kb_in (by rw [size_mk]; exact h), byt_mk h]
theorem wrdS_size (m : Nat) : (wrdS m).size = m + 1 := by unfold wrdS; rw [size_rep]; simp; omega
theorem numS_size (m : Nat) : (numS m).size = m + 2 := by unfold numS; rw [size_rep]; simp; omega
theorem wrdS_ltrs {m : Nat} : ltrs (wrdS m) 1 = m := by
  refine ltrs_uniq (fun j hj => ?_) ?_
  · rw [kb_in (by rw [wrdS_size]; omega)]
    unfold wrdS
    rw [byt_rep (by simp) (by simp; omega)]; rfl
  · rw [kb_out (by rw [wrdS_size]; omega)]; decide
theorem numS_dgs {m : Nat} : dgs (numS m) 2 = m := by
  refine dgs_uniq (fun j hj => ?_) (fun h => ?_)
  · refine ⟨by rw [numS_size]; omega, ?_⟩
    unfold numS
    rw [byt_rep (by simp) (by simp; omega)]; decide
  · have := h.1; rw [numS_size] at this; omega
theorem scan_wrd {m : Nat} (h : 1 ≤ m) (h2 : m ≤ 100) : (16 < m → scan (wrdS m) = ([], 1, 5)) ∧ (m ≤ 16 → ∃ X, scan (wrdS m) = (X, 0, 0)) := by
  have hs := wrdS_size m
  have h0 : lst (wrdS m) 0 = (0, 1, []) := lst_1 (by rw [kb_in (by omega)]; unfold wrdS; rw [byt_mk (by simp)]; rfl)
  have hk1 : kb (wrdS m) 1 = 3 := by rw [kb_in (by omega)]; unfold wrdS; rw [byt_rep (by simp) (by simp; omega)]; rfl
  have h1 := lst_3 hk1
  rw [wrdS_ltrs] at h1
  have e0 : scan (wrdS m) = scF (wrdS m) m 1 [] := by
    unfold scan
    rw [if_neg (by omega), hs, scF_go (by omega) (by omega) (by rw [h0]), h0]; rfl
  refine ⟨fun hm => ?_, fun hm => ?_⟩
  · rw [if_pos hm] at h1
    rw [e0, scF_err (by omega) (by omega) (by rw [h1]; decide), h1]; rfl
  · rw [if_neg (by omega), if_neg (by rw [kb_out (by omega)]; decide)] at h1
    rw [e0, scF_go (by omega) (by omega) (by rw [h1]), h1, scF_end (by simp only; omega)]
    exact ⟨_, rfl⟩
theorem scan_num {m : Nat} (h : 1 ≤ m) (h2 : m ≤ 100) : (18 < m → scan (numS m) = ([], 2, 5)) ∧ (m ≤ 18 → ∃ X, scan (numS m) = (X, 0, 0)) := by
  have hs := numS_size m
  have h0 : lst (numS m) 0 = (0, 1, []) := lst_1 (by rw [kb_in (by omega)]; unfold numS; rw [byt_mk (by simp)]; rfl)
  have h00 : lst (numS m) 1 = (0, 2, []) := lst_1 (by rw [kb_in (by omega)]; unfold numS; rw [byt_mk (by simp)]; rfl)
  have hb : byt (numS m) 2 = 55 := by unfold numS; rw [byt_rep (by simp) (by simp; omega)]; rfl
  have hk1 : kb (numS m) 2 = 2 := by rw [kb_in (by omega), hb]; rfl
  have h1 := lst_2 hk1
  rw [numS_dgs, if_neg (by rw [hb]; omega)] at h1
  have e0 : scan (numS m) = scF (numS m) m 2 [] := by
    unfold scan
    rw [if_neg (by omega), hs, scF_go (by omega) (by omega) (by rw [h0]), h0, scF_go (by simp only; omega) (by omega) (by simp only; rw [h00])]; simp only [h00]; rfl
  refine ⟨fun hm => ?_, fun hm => ?_⟩
  · rw [if_pos hm] at h1
    rw [e0, scF_err (by omega) (by omega) (by rw [h1]; decide), h1]; rfl
  · rw [if_neg (by omega), if_neg (by rw [kb_out (by omega)]; decide)] at h1
    rw [e0, scF_go (by omega) (by omega) (by rw [h1]), h1, scF_end (by simp only; omega)]
    exact ⟨_, rfl⟩
theorem ba_snoc (l : List UInt8) (c : UInt8) : (⟨l.toArray⟩ : ByteArray) ++ ⟨#[c]⟩ = ⟨(l ++ [c]).toArray⟩ := by
  apply ByteArray.ext
  rw [ByteArray.data_append]
  apply Array.toList_inj.1
  simp
theorem ba_snocR (c : UInt8) (i : Nat) : (⟨(List.replicate i c).toArray⟩ : ByteArray) ++ ⟨#[c]⟩ = ⟨(List.replicate (i + 1) c).toArray⟩ := by
  rw [ba_snoc, List.replicate_succ']
theorem ba_wrd (m : Nat) : (⟨#[32]⟩ : ByteArray) ++ ⟨(List.replicate m 107).toArray⟩ = wrdS m := ba_cons 32 _
theorem ba_num (m : Nat) : (⟨#[32, 32]⟩ : ByteArray) ++ ⟨(List.replicate m 55).toArray⟩ = numS m := by
  apply ByteArray.ext
  rw [ByteArray.data_append]
  apply Array.toList_inj.1
  simp [numS]
theorem push_list (ns : List Int) : ∀ r : ByteArray, ns.foldl (fun r n => r.push (UInt8.ofNat n.toNat)) r = ⟨(r.data.toList ++ ns.map fun n => UInt8.ofNat n.toNat).toArray⟩ := by
  induction ns with
  | nil => intro r; simp
  | cons n ns ih =>
    intro r
    rw [List.foldl_cons, ih]
    congr 1
    simp [ByteArray.push]
/-- Cells that are bytes. -/
def bys (l : List Int) : Array Value := (l.map (Value.int .u8)).toArray
theorem bys_get (l : List Int) (o : Nat) (h : o < l.length) : (bys l)[o]? = some (.int .u8 (l.getD o 0)) := by simp [bys, h]
theorem bys_set (l : List Int) (o : Nat) (v : Int) : (bys l).setIfInBounds o (.int .u8 v) = bys (l.set o v) := by simp [bys, List.map_set]
theorem made_bys (n : Nat) : madeCells #[.int .u8 0] n = bys (List.replicate n 0) := by
  apply Array.toList_inj.1
  rw [toList_madeCells_one]; simp [bys]
theorem rep_set (x y : Int) (i N : Nat) (h : i < N) : (List.replicate i x ++ List.replicate (N - i) y).set i x = List.replicate (i + 1) x ++ List.replicate (N - (i + 1)) y := by
  rw [List.set_append_right _ _ (by simp)]
  simp only [List.length_replicate, Nat.sub_self]
  rw [show N - i = (N - (i + 1)) + 1 by omega, List.replicate_succ (n := N - (i + 1)), List.set_cons_zero, List.replicate_succ', List.append_assoc]
  rfl
section
variable {P : Program} {l : List (Nat × Value)} {w w0 : World} {F : Nat → Prop} {L : List Ck} {ty src dst : TypeId} {x : Operand}
/-- string(b) of a block of bytes that is known whole. -/
theorem R.bytesStr {e t' : TypeId} {b k : Nat} {ns : List Int} (hM : Mem w0 F L w) (hk : ith L k = some (pt b (ns.map (Value.int .u8)).toArray t')) (hs : P.underlying src = some (.slice e)) (he : P.underlying e = some (.int .u8)) (hd : P.underlying dst = some .string) (hx : opv l x = some (.slice (some ⟨b, 0, none⟩) ns.length ns.length)) :
    Run P l w (.convert src dst x) ty (.string ⟨(ns.map fun n => UInt8.ofNat n.toNat).toArray⟩) w := fun ev h _ _ _ _ => by
  have h1 := run_convert_bytes_string (P := P) w src dst e (some ⟨b, 0, none⟩) ns.length ns.length hs he hd
  have h2 : (Conv.bytesToString (.slice (some ⟨b, 0, none⟩) ns.length ns.length)).run P w = .ok (.string ⟨(ns.map fun n => UInt8.ofNat n.toNat).toArray⟩) w := by
    have hb := hM.block hk
    have h3 : (loadCells ⟨b, 0, none⟩ ns.length).run P w = .ok (ns.map (Value.int .u8)).toArray w := by
      have := run_loadCells_list (P := P) w ⟨b, 0, none⟩ (ns.map (Value.int .u8)) (fun j v hj => by
        rw [Addr.add_lit, Nat.zero_add]
        simp [World.cell?, hb]
        simpa using hj)
      rwa [List.length_map] at this
    have h4 := run_bytesToString w ⟨b, 0, none⟩ ns.length ns.length ns h3
    rw [h4, push_list]
    rfl
  simp [execOp, h _ _ hx, h1, h2]
end
end Go.Proofs.YtdbbigjoloinpaaDoor
