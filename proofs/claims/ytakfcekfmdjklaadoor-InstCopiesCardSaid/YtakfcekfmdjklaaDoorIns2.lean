/-
  Problems that are read. It holds of every program; nothing is assumed.
-/
import Derived.Test.YtakfcekfmdjklaaDoorIns1
import Derived.Test.YtakfcekfmdjklaaDoorEngV
namespace Go.Proofs.YtakfcekfmdjklaaDoor
open Go.RowKit
theorem Ins.ext {i j : Ins} (g1 : i.kind = j.kind) (g2 : i.n = j.n) (g3 : i.cap = j.cap) (g4 : i.wt = j.wt) (g5 : i.vl = j.vl) (g6 : i.cost = j.cost) : i = j := by cases i; cases j; cases g1; cases g2; cases g3; cases g4; cases g5; cases g6; rfl
instance (i j : Ins) : Decidable (i = j) :=
  if h : ((((i.kind = j.kind ∧ i.n = j.n) ∧ i.cap = j.cap) ∧ i.wt = j.wt) ∧ i.vl = j.vl) ∧ i.cost = j.cost then .isTrue (Ins.ext h.1.1.1.1.1 h.1.1.1.1.2 h.1.1.1.2 h.1.1.2 h.1.2 h.2)
  else .isFalse (fun e => h (by subst e; exact ⟨⟨⟨⟨⟨rfl, rfl⟩, rfl⟩, rfl⟩, rfl⟩, rfl⟩))
section
variable {P : Program} {l : List (Nat × Value)} {w w0 : World} {ty : TypeId} {x y z : Operand} {k k' : IntKind} {m n : Int} {t yt e : TypeId}
theorem R.idxR {a : Option Addr} {cap j : Nat} {g : Bool} {i : Int} {Rs : List (List Int)} (hX : RowsV w0 (.slice a Rs.length cap) Rs) (hi : slInfo P t = some (g, 1)) (hx : opv l x = some (.slice a Rs.length cap)) (hy : opv l y = some (.int k i)) (h0 : 0 ≤ i ∧ i < (Rs.length : Int)) (hj : i.toNat = j) :
    Run P l w (.indexAddr t x y) ty (pI a j) w := by
  obtain ⟨b, off, ra, rc, rfl, -⟩ := hX.at (i := i.toNat) (by omega)
  exact R.indexAddr hi hx hy h0 (by rw [Nat.mul_one, hj])
theorem RowsV.atP {a : Option Addr} {cap : Nat} {Rs : List (List Int)} (hX : RowsV w0 (.slice a Rs.length cap) Rs) {i : Nat} (hi : i < Rs.length) :
    ∃ ra rc, IntSl w0 (.slice ra (Rs.getD i []).length rc) (Rs.getD i []) ∧ ∀ (P : Program) (l : List (Nat × Value)) (x : Operand) (ty t : TypeId) (L : List Ck) {w : World}, Mem w0 nof L w → szOf P t = some (false, 1) → opv l x = some (pI a i) → Run P l w (.load t x) ty (.slice ra (Rs.getD i []).length rc) w := by
  obtain ⟨b, off, ra, rc, rfl, hc, hr⟩ := hX.at hi
  exact ⟨ra, rc, hr, fun P l x ty t L w hM hs hx => R.load hs hx (hM.cell0 hc (fun h => h))⟩
theorem RowsV.mem {v : Value} {Rs : List (List Int)} {L : List Ck} (h : RowsV w0 v Rs) (hM : Mem w0 nof L w) : RowsV w v Rs := h.below hM.nilL.below (Nat.le_refl _)
theorem RowsV.lenB {a : Option Addr} {n cap : Nat} {Rs : List (List Int)} (h : RowsV w (.slice a n cap) Rs) : Rs.length ≤ 9223372036854775807 := by
  obtain ⟨a', cap', he, h1, h2, -⟩ := h
  unfold maxLen at h2; omega
theorem RowsV.nil (w : World) : RowsV w (.slice none ([] : List (List Int)).length 0) [] := ⟨none, 0, rfl, Nat.le_refl _, Nat.zero_le _, fun _ => rfl, fun h => absurd rfl h⟩
end
/-- Where the lists of a problem lie. -/
structure Lies where
  aw : Option Addr
  cw : Nat
  av : Option Addr
  cv : Nat
  ac : Option Addr
  cc : Nat
def insR (w : World) (i : Ins) (aw : Option Addr) (cw : Nat) (av : Option Addr) (cv : Nat) (ac : Option Addr) (cc : Nat) : Prop :=
  IntSl w (.slice aw i.wt.length cw) i.wt ∧ IntSl w (.slice av i.vl.length cv) i.vl ∧ RowsV w (.slice ac i.cost.length cc) i.cost
def insG (i : Ins) (aw : Option Addr) (cw : Nat) (av : Option Addr) (cv : Nat) (ac : Option Addr) (cc : Nat) : Value :=
  .agg #[.int .i64 i.kind, .int .i64 i.n, .int .i64 i.cap, .slice aw i.wt.length cw, .slice av i.vl.length cv, .slice ac i.cost.length cc]
theorem InsV.parts {w : World} {v : Value} {i : Ins} (h : InsV w v i) : ∃ aw cw av cv ac cc, v = insG i aw cw av cv ac cc ∧ insR w i aw cw av cv ac cc := by
  obtain ⟨vw, vv, vc, rfl, h1, h2, h3⟩ := h
  obtain ⟨aw, cw, rfl⟩ := h1.form
  obtain ⟨av, cv, rfl⟩ := h2.form
  obtain ⟨ac, cc, rfl⟩ := h3.form
  exact ⟨aw, cw, av, cv, ac, cc, rfl, h1, h2, h3⟩
theorem insR.toV {w : World} {i : Ins} {aw : Option Addr} {cw : Nat} {av : Option Addr} {cv : Nat} {ac : Option Addr} {cc : Nat} (h : insR w i aw cw av cv ac cc) : InsV w (insG i aw cw av cv ac cc) i := ⟨_, _, _, rfl, h.1, h.2.1, h.2.2⟩
/-- Problems that a call has made, read. -/
theorem insR_of {w w' : World} {L : List Ck} {eI eR : TypeId} {i : Ins} {aw : Option Addr} {cw : Nat} {av : Option Addr} {cv : Nat} {ac : Option Addr} {cc : Nat} {rs : List OwR} (hM : Mem w nof L w') {k : Nat} (hk : ith L k = some (bundle (insL eI eR i aw cw av cv ac cc rs))) (hc : rs.map (·.Y) = i.cost) :
    insA i aw cw av cv ac cc rs = insG i aw cw av cv ac cc ∧ insR w' i aw cw av cv ac cc := by
  have h := hM.insV hk hc
  have e : insA i aw cw av cv ac cc rs = insG i aw cw av cv ac cc := by unfold insA insG; rw [← hc, List.length_map]
  obtain ⟨vw, vv, vc, e2, h1, h2, h3⟩ := h
  rw [e] at e2
  unfold insG at e2
  injection e2 with e3
  have e4 := congrArg Array.toList e3
  simp only [List.cons.injEq] at e4
  obtain ⟨-, -, -, rfl, rfl, rfl, -⟩ := e4
  exact ⟨e, h1, h2, h3⟩
end Go.Proofs.YtakfcekfmdjklaaDoor
