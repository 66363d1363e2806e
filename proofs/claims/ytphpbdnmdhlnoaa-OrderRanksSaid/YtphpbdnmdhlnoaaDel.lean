/-
  slices.Delete of one number out of a slice of the call's own (over the shelf's contract).
-/
import Derived.Test.YtphpbdnmdhlnoaaEngX
import Derived.Test.YtphpbdnmdhlnoaaOrd5
import Derived.Test.YtphpbdnmdhlnoaaShelf
namespace Go.Proofs.Ytphpbdnmdhlnoaa
open Go.RowKit
section
variable {w0 w : World} {F : Nat → Prop} {L : List Ck} {e : TypeId} {g cap : Nat}
theorem Mem.ahead (h : Mem w0 F L w) (q : Nat) : Mem w0 F L (Sort.ahead w q) := ⟨h.os, h.tape, h.output, h.size, h.old, fun c hc => c.loc w (Sort.ahead w q) (fun _ _ => rfl) (h.holds c hc), h.inb, h.apart⟩
theorem Mem.holdsI {X : List Int} {k : Nat} (h : Mem w0 F L w) (hk : ith L k = some (own e 1 (.slice (some ⟨g, 0, none⟩) X.length cap) X.length (X.map (Value.int .i64)))) : Sort.Holds (Value.int .i64) w g 0 X.toArray := fun j hj => by
  have hj' : j < X.length := by simpa using hj
  rw [Nat.zero_add]
  refine ⟨?_, h.ownFree hk j⟩
  rw [h.ownCell hk (mapi_get X j hj')]
  simp [List.getD, hj', getElem!_pos]
theorem Mem.putRow {X Y : List Int} (h : Mem w0 F (own e 1 (.slice (some ⟨g, 0, none⟩) X.length cap) X.length (X.map (Value.int .i64)) :: L) w) (hl : Y.length = X.length) :
    Mem w0 F (own e 1 (.slice (some ⟨g, 0, none⟩) Y.length cap) Y.length (Y.map (Value.int .i64)) :: L) (Sort.putRow (Value.int .i64) w g 0 Y.toArray) := by
  have key : ∀ j, j ≤ X.length → Mem w0 F (own e 1 (.slice (some ⟨g, 0, none⟩) X.length cap) X.length ((Y.take j ++ X.drop j).map (Value.int .i64)) :: L) (Sort.putRow (Value.int .i64) w g 0 (Y.take j ++ X.drop j).toArray) := by
    intro j
    induction j with
    | zero =>
      intro _
      rw [List.take_zero, List.nil_append, List.drop_zero, Sort.putRow_self _ _ _ _ _ (h.holdsI (k := 0) rfl)]
      exact h
    | succ j ih =>
      intro hj
      have h1 := (ih (by omega)).ownStore (k := 0) rfl j (.int .i64 (Y.getD j 0))
      have hlj : (Y.take j).length = j := by rw [List.length_take]; omega
      have e1 : (Y.take j ++ X.drop j).set j (Y.getD j 0) = Y.take (j + 1) ++ X.drop (j + 1) := by
        rw [List.set_append_right _ _ (by omega), hlj, Nat.sub_self, List.drop_eq_getElem_cons (show j < X.length by omega), List.set_cons_zero, take_snoc (show j < Y.length by omega), List.append_assoc]
        rfl
      have e2 := Sort.putRow_set (Value.int .i64) w g 0 (Y.take j ++ X.drop j).toArray j (Y.getD j 0) (by simp; omega)
      rw [Nat.zero_add] at e2
      rw [e2] at h1
      have e3 : (Y.take j ++ X.drop j).toArray.setIfInBounds j (Y.getD j 0) = (Y.take (j + 1) ++ X.drop (j + 1)).toArray := by rw [← e1]; simp
      rw [e3] at h1
      rw [← e1, List.map_set]
      rw [← e1] at h1
      exact h1
  have h1 := key X.length (Nat.le_refl _)
  rw [List.drop_length, List.append_nil, List.take_of_length_le (by omega)] at h1
  rw [hl]
  exact h1
theorem Mem.ownCut {X : List Int} {m : Nat} (h : Mem w0 F (own e 1 (.slice (some ⟨g, 0, none⟩) X.length cap) X.length (X.map (Value.int .i64)) :: L) w) (hm : m ≤ X.length) :
    Mem w0 F (own e 1 (.slice (some ⟨g, 0, none⟩) (X.take m).length cap) (X.take m).length ((X.take m).map (Value.int .i64)) :: L) w := by
  refine h.head ?_ (fun b hb => hb)
  have ho : w.ownsRow 0 e 1 (.slice (some ⟨g, 0, none⟩) X.length cap) X.length (X.map (Value.int .i64)) := h.mem (k := 0) rfl
  rcases ho with ⟨h1, ⟨h2, -⟩ | ⟨g', cap', cur, h2, h3, h4, h5, h6, h7, h8⟩⟩
  · cases h2
  · cases h2
    refine ⟨by simp, .inr ⟨g, cap, cur, rfl, h3, h4, by rw [List.length_take]; omega, h6, h7, ?_⟩⟩
    rw [List.length_take, Nat.min_eq_left hm, List.map_take, ← h8, List.take_take]
    congr 1
    omega
end
set_option maxHeartbeats 400000 in
theorem del09 (g cap i : Nat) (X : List Int) (hi : i < X.length) (w : World) (hM : Mem w (feet [own 3 1 (.slice (some ⟨g, 0, none⟩) X.length cap) X.length (X.map (Value.int .i64))]) [own 3 1 (.slice (some ⟨g, 0, none⟩) X.length cap) X.length (X.map (Value.int .i64))] w) :
    Calls Try.prog 35 #[.slice (some ⟨g, 0, none⟩) X.length cap, .int .i64 (i : Int), .int .i64 ((i : Int) + 1)] w fun e w' => e = .returned (.slice (some ⟨g, 0, none⟩) (X.eraseIdx i).length cap) ∧
      Mem w (feet [own 3 1 (.slice (some ⟨g, 0, none⟩) X.length cap) X.length (X.map (Value.int .i64))]) [own 3 1 (.slice (some ⟨g, 0, none⟩) (X.eraseIdx i).length cap) (X.eraseIdx i).length ((X.eraseIdx i).map (Value.int .i64))] w' := by
  have hle := hM.ownLe (k := 0) rfl
  have hc := Try.slices_Delete_int g 0 cap i (i + 1) X w (hM.holdsI (k := 0) rfl) hle.1 (by have := hle.2; unfold maxLen at this; exact this) (by omega) (by omega)
  have e0 : ((i + 1 : Nat) : Int) = (i : Int) + 1 := by omega
  rw [e0] at hc
  refine hc.mono fun e w' ⟨he, q, hw⟩ => ?_
  have hlE : (X.eraseIdx i).length = X.length - 1 := by rw [List.length_eraseIdx_of_lt hi]
  have h1 := (hM.ahead q).putRow (Y := X.take i ++ X.drop (i + 1) ++ List.replicate (i + 1 - i) 0) (by simp only [List.length_append, List.length_take, List.length_drop, List.length_replicate]; omega)
  have h2 := h1.ownCut (m := X.length - 1) (by simp only [List.length_append, List.length_take, List.length_drop, List.length_replicate]; omega)
  have e1 : (X.take i ++ X.drop (i + 1) ++ List.replicate (i + 1 - i) 0).take (X.length - 1) = X.eraseIdx i := by
    rw [← List.eraseIdx_eq_take_drop_succ, ← hlE, List.take_left']
    rfl
  rw [e1] at h2
  subst hw
  refine ⟨?_, h2⟩
  rw [he, hlE, show i + 1 - i = 1 by omega]
end Go.Proofs.Ytphpbdnmdhlnoaa
