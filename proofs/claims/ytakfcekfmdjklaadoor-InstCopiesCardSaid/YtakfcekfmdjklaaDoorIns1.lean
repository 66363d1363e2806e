/-
  A problem in memory: as what is read, and as what a call has made. It holds of every program; nothing is assumed.
-/
import Derived.Test.YtakfcekfmdjklaaDoorBundle
import Derived.Test.YtakfcekfmdjklaaDoorIsl
namespace Go.Proofs.YtakfcekfmdjklaaDoor
open Go.RowKit
structure Ins where
  kind : Int
  n : Int
  cap : Int
  wt : List Int
  vl : List Int
  cost : List (List Int)
def RowsV (w : World) (v : Value) (rows : List (List Int)) : Prop :=
  ∃ a cap, v = .slice a rows.length cap ∧ rows.length ≤ cap ∧ cap ≤ maxLen ∧ (a = none → cap = 0) ∧ (rows ≠ [] → ∃ b off, a = some ⟨b, off, none⟩ ∧ b < w.heap.size ∧ ∀ i, i < rows.length → ∃ u, w.cell? ⟨b, off + i, none⟩ = some u ∧ IntSl w u (rows.getD i []))
theorem RowsV.below {B : Nat} {w w' : World} {v : Value} {rows : List (List Int)} (h : RowsV w v rows) (hb : Below B w w') (hB : w.heap.size ≤ B) : RowsV w' v rows := by
  obtain ⟨a, cap, rfl, hle, hmx, hnn, h⟩ := h
  refine ⟨a, cap, rfl, hle, hmx, hnn, fun hn => ?_⟩
  obtain ⟨b, off, rfl, hlt, hc⟩ := h hn
  refine ⟨b, off, rfl, Nat.lt_of_lt_of_le hlt hb.size, fun i hi => ?_⟩
  obtain ⟨u, h1, h2⟩ := hc i hi
  exact ⟨u, by rw [(bcell hb).1 _ _ (by omega)]; exact h1, h2.below hb hB⟩
theorem RowsV.form {w : World} {v : Value} {rows : List (List Int)} (h : RowsV w v rows) : ∃ a cap, v = .slice a rows.length cap := by
  obtain ⟨a, cap, he, -⟩ := h; exact ⟨a, cap, he⟩
theorem RowsV.at {w : World} {a : Option Addr} {n cap : Nat} {rows : List (List Int)} (h : RowsV w (.slice a n cap) rows) {i : Nat} (hi : i < rows.length) :
    ∃ b off ra rc, a = some ⟨b, off, none⟩ ∧ w.cell? ⟨b, off + i, none⟩ = some (.slice ra (rows.getD i []).length rc) ∧ IntSl w (.slice ra (rows.getD i []).length rc) (rows.getD i []) := by
  obtain ⟨a', cap', he, h1, h2, h3, h4⟩ := h
  cases he
  obtain ⟨b, off, rfl, -, hc⟩ := h4 (by intro e; rw [e] at hi; simp at hi)
  obtain ⟨u, g1, g2⟩ := hc i hi
  have hf : ∃ a c, u = .slice a (rows.getD i []).length c := by obtain ⟨a, c, e, -⟩ := g2; exact ⟨a, c, e⟩
  obtain ⟨ra, rc, rfl⟩ := hf
  exact ⟨b, off, ra, rc, rfl, g1, g2⟩
def InsV (w : World) (v : Value) (i : Ins) : Prop :=
  ∃ vw vv vc, v = .agg #[.int .i64 i.kind, .int .i64 i.n, .int .i64 i.cap, vw, vv, vc] ∧ IntSl w vw i.wt ∧ IntSl w vv i.vl ∧ RowsV w vc i.cost
theorem InsV.below {B : Nat} {w w' : World} {v : Value} {i : Ins} (h : InsV w v i) (hb : Below B w w') (hB : w.heap.size ≤ B) : InsV w' v i := by
  obtain ⟨vw, vv, vc, e, h1, h2, h3⟩ := h
  exact ⟨vw, vv, vc, e, h1.below hb hB, h2.below hb hB, h3.below hb hB⟩
/-! ### what a call has made -/
structure OwR where
  Y : List Int
  a : Option Addr
  c : Nat
def orV (o : OwR) : Value := .slice o.a o.Y.length o.c
def orC (e : TypeId) (o : OwR) : Ck := own e 1 (.slice o.a o.Y.length o.c) o.Y.length (o.Y.map (Value.int .i64))
def insA (i : Ins) (aw : Option Addr) (cw : Nat) (av : Option Addr) (cv : Nat) (ac : Option Addr) (cc : Nat) (rs : List OwR) : Value :=
  .agg #[.int .i64 i.kind, .int .i64 i.n, .int .i64 i.cap, .slice aw i.wt.length cw, .slice av i.vl.length cv, .slice ac rs.length cc]
def insL (eI eR : TypeId) (i : Ins) (aw : Option Addr) (cw : Nat) (av : Option Addr) (cv : Nat) (ac : Option Addr) (cc : Nat) (rs : List OwR) : List Ck :=
  [own eI 1 (.slice aw i.wt.length cw) i.wt.length (i.wt.map (Value.int .i64)), own eI 1 (.slice av i.vl.length cv) i.vl.length (i.vl.map (Value.int .i64)), own eR 1 (.slice ac rs.length cc) rs.length (rs.map orV), bundle (rs.map (orC eI))]
section
variable {w0 w w' : World} {F : Nat → Prop} {L : List Ck} {e t : TypeId} {k : Nat}
theorem Mem.bundleSnoc {o : OwR} {rs : List OwR} (h : Mem w0 F (orC e o :: bundle (rs.map (orC e)) :: L) w) : Mem w0 F (bundle ((rs ++ [o]).map (orC e)) :: L) w := by
  have h0 : Mem w0 F (bundle (rs.map (orC e)) :: orC e o :: L) w := h.front (k := 1) rfl
  have h1 := h0.unpack
  refine Mem.pack ?_
  rw [List.map_append, List.append_assoc]
  exact h1
theorem Mem.bundleNil (h : Mem w0 F L w) : Mem w0 F (bundle (([] : List OwR).map (orC e)) :: L) w := Mem.pack (cs := []) h
theorem own_intSl {v : Value} {X : List Int} {sz : Nat} (hs : sz = X.length) (ho : w.ownsRow 0 e 1 v sz (X.map (Value.int .i64))) (hin : ∀ b, v.ownBlock = some b → b < w.heap.size) : IntSl w v X := by
  subst hs
  have ho2 := ho
  obtain ⟨a, cap, rfl, hn, hm, -, h1, h2⟩ := own_form ho
  refine ⟨a, cap, rfl, hn, hm, fun hna => ?_, fun hne => ?_⟩
  · subst hna
    rcases ho.2 with ⟨h, -⟩ | ⟨g, c, cur, h, -⟩
    · injection h
    · cases h
  · have hpos : 0 < X.length := List.length_pos_iff.2 hne
    cases a with
    | none => have := h1 rfl; omega
    | some p =>
      obtain ⟨g, rfl⟩ := h2 p rfl
      refine ⟨g, 0, rfl, hin g rfl, fun i hi => ?_⟩
      have := ho.cells (g := g) rfl i _ (mapi_get X i hi)
      rw [Addr.add_lit, Nat.zero_add] at this
      rw [Nat.zero_add]; exact this
theorem Mem.rowsV {eR : TypeId} {ac : Option Addr} {cc : Nat} {rs : List OwR} (hM : Mem w0 F L w) (hk : ith L k = some (own eR 1 (.slice ac rs.length cc) rs.length (rs.map orV))) {k2 : Nat} (hk2 : ith L k2 = some (bundle (rs.map (orC e)))) : RowsV w (.slice ac rs.length cc) (rs.map (·.Y)) := by
  obtain ⟨a', cap', he, hn, hm, -, h1, h2⟩ := hM.ownForm hk
  cases he
  have ho : w.ownsRow 0 eR 1 (.slice ac rs.length cc) rs.length (rs.map orV) := hM.mem hk
  have hbd : (bundle (rs.map (orC e))).holds w := hM.mem hk2
  have hb2 : bundle (rs.map (orC e)) ∈ L := List.mem_of_getElem? (by rwa [ith_eq] at hk2)
  refine ⟨ac, cc, by rw [List.length_map], by rw [List.length_map]; exact hn, hm, fun hna => ?_, fun hne => ?_⟩
  · subst hna
    rcases ho.2 with ⟨h, -⟩ | ⟨g, c, cur, h, -⟩
    · injection h
    · cases h
  · have hpos : 0 < rs.length := by rcases rs with _ | ⟨r, rs⟩; simp at hne; simp
    obtain ⟨g, rfl⟩ := hM.ownAt hk hpos
    refine ⟨g, 0, rfl, (hM.inb _ (List.mem_of_getElem? (by rwa [ith_eq] at hk)) g rfl).1, fun i hi => ?_⟩
    rw [List.length_map] at hi
    refine ⟨orV rs[i], ?_, ?_⟩
    · rw [Nat.zero_add]
      exact hM.ownCell hk (by rw [List.getElem?_map, List.getElem?_eq_getElem hi]; rfl)
    · have hmem : orC e rs[i] ∈ rs.map (orC e) := List.mem_map.2 ⟨_, List.getElem_mem hi, rfl⟩
      have e1 : (rs.map (·.Y)).getD i [] = rs[i].Y := by simp [List.getD, hi]
      rw [e1]
      exact own_intSl rfl (hbd.1 _ hmem) (fun b hb => (hM.inb _ hb2 b ⟨_, hmem, hb⟩).1)
theorem Mem.insV {eI eR : TypeId} {i : Ins} {aw : Option Addr} {cw : Nat} {av : Option Addr} {cv : Nat} {ac : Option Addr} {cc : Nat} {rs : List OwR} (hM : Mem w0 F L w) (hk : ith L k = some (bundle (insL eI eR i aw cw av cv ac cc rs))) (hc : rs.map (·.Y) = i.cost) : InsV w (insA i aw cw av cv ac cc rs) i := by
  have h1 := (hM.front hk).unpack
  refine ⟨_, _, _, rfl, ?_, ?_, ?_⟩
  · exact own_intSl rfl (h1.mem (k := 0) rfl) (fun b hb => (h1.inb _ (.head _) b hb).1)
  · exact own_intSl rfl (h1.mem (k := 1) rfl) (fun b hb => (h1.inb _ (.tail _ (.head _)) b hb).1)
  · rw [← hc]; exact h1.rowsV (k := 2) (k2 := 3) rfl rfl
end
end Go.Proofs.YtakfcekfmdjklaaDoor
