/-
  Copies are their own: the law InstCopies.
-/
import Derived.Test.YtakfcekfmdjklaaDoorInsH
namespace Go.Proofs.YtakfcekfmdjklaaDoor
open Go.RowKit
theorem copyOwnS (i : Ins) (ax3 : Option Addr) (cx3 : Nat) (ax4 : Option Addr) (cx4 : Nat) (ax5 : Option Addr) (cx5 : Nat) (hi : cutI i = i) (w : World) (hx3 : IntSl w (.slice ax3 i.wt.length cx3) i.wt) (hx4 : IntSl w (.slice ax4 i.vl.length cx4) i.vl) (hx5 : RowsV w (.slice ax5 i.cost.length cx5) i.cost) : Calls Tryd.prog 16 #[.agg #[.int .i64 i.kind, .int .i64 i.n, .int .i64 i.cap, .slice ax3 i.wt.length cx3, .slice ax4 i.vl.length cx4, .slice ax5 i.cost.length cx5]] w fun e w' => ∃ aw cw av cv ac cc rs, e = .returned (insA i aw cw av cv ac cc rs) ∧ rs.map (·.Y) = i.cost ∧ Mem w nof [bundle (insL 3 22 i aw cw av cv ac cc rs)] w' := by
  have h := copy05_own i ax3 cx3 ax4 cx4 ax5 cx5 w hx3 hx4 hx5
  rwa [hi] at h
theorem iSame_eq (i : Ins) (ax3 : Option Addr) (cx3 : Nat) (ax4 : Option Addr) (cx4 : Nat) (ax5 : Option Addr) (cx5 : Nat) (ay3 : Option Addr) (cy3 : Nat) (ay4 : Option Addr) (cy4 : Nat) (ay5 : Option Addr) (cy5 : Nat) (w : World) (hx3 : IntSl w (.slice ax3 i.wt.length cx3) i.wt) (hx4 : IntSl w (.slice ax4 i.vl.length cx4) i.vl) (hx5 : RowsV w (.slice ax5 i.cost.length cx5) i.cost) (hy3 : IntSl w (.slice ay3 i.wt.length cy3) i.wt) (hy4 : IntSl w (.slice ay4 i.vl.length cy4) i.vl) (hy5 : RowsV w (.slice ay5 i.cost.length cy5) i.cost) :
    Calls Tryd.prog 26 #[.agg #[.int .i64 i.kind, .int .i64 i.n, .int .i64 i.cap, .slice ax3 i.wt.length cx3, .slice ax4 i.vl.length cx4, .slice ax5 i.cost.length cx5], .agg #[.int .i64 i.kind, .int .i64 i.n, .int .i64 i.cap, .slice ay3 i.wt.length cy3, .slice ay4 i.vl.length cy4, .slice ay5 i.cost.length cy5]] w fun e w' => e = .returned (.bool true) ∧ Below w.heap.size w w' :=
  (iSame i ax3 cx3 ax4 cx4 ax5 cx5 i ay3 cy3 ay4 cy4 ay5 cy5 w hx3 hx4 hx5 hy3 hy4 hy5).mono fun e w' h => ⟨by rw [h.1, decide_eq_true rfl], h.2⟩
set_option maxRecDepth 100000 in
set_option maxHeartbeats 1000000 in
theorem instCopies_w (i : Ins) (ax3 : Option Addr) (cx3 : Nat) (ax4 : Option Addr) (cx4 : Nat) (ax5 : Option Addr) (cx5 : Nat) (j : Ins) (ay3 : Option Addr) (cy3 : Nat) (ay4 : Option Addr) (cy4 : Nat) (ay5 : Option Addr) (cy5 : Nat) (q : Int) (w : World) (hx3 : IntSl w (.slice ax3 i.wt.length cx3) i.wt) (hx4 : IntSl w (.slice ax4 i.vl.length cx4) i.vl) (hx5 : RowsV w (.slice ax5 i.cost.length cx5) i.cost) (hy3 : IntSl w (.slice ay3 j.wt.length cy3) j.wt) (hy4 : IntSl w (.slice ay4 j.vl.length cy4) j.vl) (hy5 : RowsV w (.slice ay5 j.cost.length cy5) j.cost) (htab : Lib.TabIs Tryd.prog w "internal/strconv.uint64pow10" .u64 Lib.pow10Tab) :
    Calls Tryd.prog 7 #[.agg #[.int .i64 i.kind, .int .i64 i.n, .int .i64 i.cap, .slice ax3 i.wt.length cx3, .slice ax4 i.vl.length cx4, .slice ax5 i.cost.length cx5], .agg #[.int .i64 j.kind, .int .i64 j.n, .int .i64 j.cap, .slice ay3 j.wt.length cy3, .slice ay4 j.vl.length cy4, .slice ay5 j.cost.length cy5], .int .i64 q] w fun e w' => e = .returned (.bool true) ∧ Below w.heap.size w w' := by
  have hbs := Below.refl (B := w.heap.size) w
  have hM := Mem.start w
  refine Calls.of_ends (vs := [.agg #[.int .i64 i.kind, .int .i64 i.n, .int .i64 i.cap, .slice ax3 i.wt.length cx3, .slice ax4 i.vl.length cx4, .slice ax5 i.cost.length cx5], .agg #[.int .i64 j.kind, .int .i64 j.n, .int .i64 j.cap, .slice ay3 j.wt.length cy3, .slice ay4 j.vl.length cy4, .slice ay5 j.cost.length cy5], .int .i64 q]) Tryd.func7 rfl Tryd.ntmps7 rfl ?_
  intro a hA
  replace hA : St 104 [(0, _), (1, _), (2, _)] a := hA
  refine Ends.seq ?_
  refine Ends.region ?_
  refine S.box hA hM rfl rfl ?_; clear hA hM a; intro b1 w1 hb2 hM a hA
  replace hM : Mem _ _ [pt b1 #[.int .i64 i.kind, .int .i64 i.n, .int .i64 i.cap, .slice ax3 i.wt.length cx3, .slice ax4 i.vl.length cx4, .slice ax5 i.cost.length cx5] 25] _ := hM
  refine S.box hA hM rfl rfl ?_; clear hA hM a; intro b3 w2 hb4 hM a hA
  replace hM : Mem _ _ [pt b3 #[.int .i64 j.kind, .int .i64 j.n, .int .i64 j.cap, .slice ay3 j.wt.length cy3, .slice ay4 j.vl.length cy4, .slice ay5 j.cost.length cy5] 25, pt b1 #[.int .i64 i.kind, .int .i64 i.n, .int .i64 i.cap, .slice ax3 i.wt.length cx3, .slice ax4 i.vl.length cx4, .slice ax5 i.cost.length cx5] 25] _ := hM
  refine S.val hA (R.assign rfl) rfl ?_; clear hA a; intro a hA
  refine S.done ?_
  replace hA : St 104 [(2, _), (3, _), (4, _)] a := hA.sub ((.cons rfl (.cons rfl (.cons rfl .nil))))
  refine Ends.seq ?_
  refine Ends.drawn (Mem w nof [pt b3 #[.int .i64 j.kind, .int .i64 j.n, .int .i64 j.cap, .slice ay3 j.wt.length cy3, .slice ay4 j.vl.length cy4, .slice ay5 j.cost.length cy5] 25]) (.cons (2, true) (.cons (0, false) (.cons (1, false) (.cons (3, false) (.cons (4, false) (.cons (5, false) .nil)))))) 5 mixed (by kernel_rfl) (by kernel_rfl) (by kernel_rfl) (hM.drop 1).drew ?_
  replace hM := hM.drew
  refine D.val hA rfl (by kernel_rfl) (fun _ hM => R.loadA sz25 rfl (hM.range (k := 0) rfl) rfl) rfl ?_; clear hA a; intro a hA
  refine D.eff hA rfl (R.loadA sz25 rfl (hM.range (k := 1) rfl) rfl) rfl (hM.drop 1) ?_; clear hA a; intro a hA
  obtain ⟨Ga, hGp⟩ : ∃ Ga, Ga = cutI i := ⟨_, rfl⟩
  have hsmp : smallI Ga := by rw [hGp]; exact cutI_small _
  have hscp := cutI_of_small hsmp
  have hsp1 := hsmp.1
  have hsp2 := hsmp.2.1
  have hsp3 := hsmp.2.2.1
  refine D.call hA rfl (R.callF Tryd.func16 rfl rfl rfl) rfl (copyG i ax3 cx3 ax4 cx4 ax5 cx5 Ga hGp _ (hx3.mem hM) (hx4.mem hM) (hx5.mem hM)) ?_; clear hA a
  rintro e w3 ⟨ap3, cp3, ap4, cp4, ap5, cp5, rsp, rfl, hYp, hn⟩
  replace hM : Mem _ _ [bundle (insL 3 22 Ga ap3 cp3 ap4 cp4 ap5 cp5 rsp), pt b3 #[.int .i64 j.kind, .int .i64 j.n, .int .i64 j.cap, .slice ay3 j.wt.length cy3, .slice ay4 j.vl.length cy4, .slice ay5 j.cost.length cy5] 25, pt b1 #[.int .i64 i.kind, .int .i64 i.n, .int .i64 i.cap, .slice ax3 i.wt.length cx3, .slice ax4 i.vl.length cx4, .slice ax5 i.cost.length cx5] 25] _ := hM.call hn; clear hn
  refine ⟨.agg #[.int .i64 Ga.kind, .int .i64 Ga.n, .int .i64 Ga.cap, .slice ap3 Ga.wt.length cp3, .slice ap4 Ga.vl.length cp4, .slice ap5 rsp.length cp5], rfl, ((hM.drop 2).drop 0), fun a hA => ?_⟩
  obtain ⟨Gb, hGr⟩ : ∃ Gb, Gb = cutI j := ⟨_, rfl⟩
  have hsmr : smallI Gb := by rw [hGr]; exact cutI_small _
  have hscr := cutI_of_small hsmr
  have hsr1 := hsmr.1
  have hsr2 := hsmr.2.1
  have hsr3 := hsmr.2.2.1
  refine D.call hA rfl (R.callF Tryd.func16 rfl rfl rfl) rfl (copyG j ay3 cy3 ay4 cy4 ay5 cy5 Gb hGr _ (hy3.mem hM) (hy4.mem hM) (hy5.mem hM)) ?_; clear hA a
  rintro e w4 ⟨ar3, cr3, ar4, cr4, ar5, cr5, rsr, rfl, hYr, hn⟩
  replace hM : Mem _ _ [bundle (insL 3 22 Gb ar3 cr3 ar4 cr4 ar5 cr5 rsr), bundle (insL 3 22 Ga ap3 cp3 ap4 cp4 ap5 cp5 rsp), pt b3 #[.int .i64 j.kind, .int .i64 j.n, .int .i64 j.cap, .slice ay3 j.wt.length cy3, .slice ay4 j.vl.length cy4, .slice ay5 j.cost.length cy5] 25, pt b1 #[.int .i64 i.kind, .int .i64 i.n, .int .i64 i.cap, .slice ax3 i.wt.length cx3, .slice ax4 i.vl.length cx4, .slice ax5 i.cost.length cx5] 25] _ := hM.call hn; clear hn
  refine ⟨.agg #[.int .i64 Gb.kind, .int .i64 Gb.n, .int .i64 Gb.cap, .slice ar3 Gb.wt.length cr3, .slice ar4 Gb.vl.length cr4, .slice ar5 rsr.length cr5], rfl, (((hM.drop 3).drop 1).drop 0), fun a hA => ?_⟩
  refine D.storeA (k := 3) hA hM rfl sz25 rfl rfl rfl rfl rfl rfl ?_; clear hM
  intro w5 hM; refine ⟨fun _ _ => (((hM.drop 3).drop 1).drop 0), ?_⟩
  replace hM : Mem _ _ [bundle (insL 3 22 Gb ar3 cr3 ar4 cr4 ar5 cr5 rsr), bundle (insL 3 22 Ga ap3 cp3 ap4 cp4 ap5 cp5 rsp), pt b3 #[.int .i64 j.kind, .int .i64 j.n, .int .i64 j.cap, .slice ay3 j.wt.length cy3, .slice ay4 j.vl.length cy4, .slice ay5 j.cost.length cy5] 25, pt b1 #[.int .i64 Ga.kind, .int .i64 Ga.n, .int .i64 Ga.cap, .slice ap3 Ga.wt.length cp3, .slice ap4 Ga.vl.length cp4, .slice ap5 rsp.length cp5] 25] _ := hM
  refine D.storeA (k := 2) hA hM rfl sz25 rfl rfl rfl rfl rfl rfl ?_; clear hM
  intro w6 hM; refine ⟨fun _ hne => absurd rfl hne, ?_⟩
  replace hM : Mem _ _ [bundle (insL 3 22 Gb ar3 cr3 ar4 cr4 ar5 cr5 rsr), bundle (insL 3 22 Ga ap3 cp3 ap4 cp4 ap5 cp5 rsp), pt b3 #[.int .i64 Gb.kind, .int .i64 Gb.n, .int .i64 Gb.cap, .slice ar3 Gb.wt.length cr3, .slice ar4 Gb.vl.length cr4, .slice ar5 rsr.length cr5] 25, pt b1 #[.int .i64 Ga.kind, .int .i64 Ga.n, .int .i64 Ga.cap, .slice ap3 Ga.wt.length cp3, .slice ap4 Ga.vl.length cp4, .slice ap5 rsp.length cp5] 25] _ := hM
  refine D.done ?_
  replace hA : St 104 [(2, _), (3, _), (4, _)] a := hA.sub ((.cons rfl (.cons rfl (.cons rfl .nil))))
  refine Ends.seq ?_
  obtain ⟨-, hp3, hp4, hp5⟩ := insR_of hM (k := 1) rfl hYp
  have hlcp : rsp.length = Ga.cost.length := by rw [← hYp, List.length_map]
  replace hM := hM.drop 1
  rw [hlcp] at hM
  replace hM : Mem _ _ [bundle (insL 3 22 Gb ar3 cr3 ar4 cr4 ar5 cr5 rsr), pt b3 #[.int .i64 Gb.kind, .int .i64 Gb.n, .int .i64 Gb.cap, .slice ar3 Gb.wt.length cr3, .slice ar4 Gb.vl.length cr4, .slice ar5 rsr.length cr5] 25, pt b1 #[.int .i64 Ga.kind, .int .i64 Ga.n, .int .i64 Ga.cap, .slice ap3 Ga.wt.length cp3, .slice ap4 Ga.vl.length cp4, .slice ap5 Ga.cost.length cp5] 25] _ := hM
  obtain ⟨-, hr3, hr4, hr5⟩ := insR_of hM (k := 0) rfl hYr
  have hlcr : rsr.length = Gb.cost.length := by rw [← hYr, List.length_map]
  replace hM := hM.drop 0
  rw [hlcr] at hM
  replace hM : Mem _ _ [pt b3 #[.int .i64 Gb.kind, .int .i64 Gb.n, .int .i64 Gb.cap, .slice ar3 Gb.wt.length cr3, .slice ar4 Gb.vl.length cr4, .slice ar5 Gb.cost.length cr5] 25, pt b1 #[.int .i64 Ga.kind, .int .i64 Ga.n, .int .i64 Ga.cap, .slice ap3 Ga.wt.length cp3, .slice ap4 Ga.vl.length cp4, .slice ap5 Ga.cost.length cp5] 25] _ := hM
  have hbx5 := hM.block (k := 0) rfl
  have hbx6 := hM.block (k := 1) rfl
  have hbs := hbs.trans (hM.below.mono hbs.size)
  have hx3 := hx3.mem hM
  have hx4 := hx4.mem hM
  have hx5 := hx5.mem hM
  have hy3 := hy3.mem hM
  have hy4 := hy4.mem hM
  have hy5 := hy5.mem hM
  replace hM := Mem.start w6
  refine Ends.region ?_
  refine S.val hA (R.loadA sz25 rfl (hM.oldRange hbx6) rfl) rfl ?_; clear hA a; intro a hA
  refine S.call hA (R.callF Tryd.func25 rfl rfl rfl) rfl (icopy05 Ga ap3 cp3 ap4 cp4 ap5 cp5 hsmp _ (hp3.mem hM) (hp4.mem hM) (hp5.mem hM)) ?_; clear hA a
  rintro e w7 ⟨ac3, cc3, ac4, cc4, ac5, cc5, rsc, rfl, hYc, hn⟩
  replace hM : Mem _ _ [bundle (insL 3 22 Ga ac3 cc3 ac4 cc4 ac5 cc5 rsc)] _ := hM.call hn; clear hn
  refine ⟨.agg #[.int .i64 Ga.kind, .int .i64 Ga.n, .int .i64 Ga.cap, .slice ac3 Ga.wt.length cc3, .slice ac4 Ga.vl.length cc4, .slice ac5 rsc.length cc5], rfl, fun a hA => ?_⟩
  refine S.alloc hA hM info25 rfl rfl ?_; clear hA hM a; intro b7 w8 hb8 hM a hA
  replace hM : Mem _ _ [pt b7 #[.int .i64 0, .int .i64 0, .int .i64 0, .slice none 0 0, .slice none 0 0, .slice none 0 0] 25, bundle (insL 3 22 Ga ac3 cc3 ac4 cc4 ac5 cc5 rsc)] _ := hM
  refine S.storeA (k := 0) hA hM sz25 rfl rfl rfl rfl rfl rfl ?_; clear hM
  intro w9 hM
  replace hM : Mem _ _ [pt b7 #[.int .i64 Ga.kind, .int .i64 Ga.n, .int .i64 Ga.cap, .slice ac3 Ga.wt.length cc3, .slice ac4 Ga.vl.length cc4, .slice ac5 rsc.length cc5] 25, bundle (insL 3 22 Ga ac3 cc3 ac4 cc4 ac5 cc5 rsc)] _ := hM
  refine S.done ?_
  replace hA : St 104 [(2, _), (3, _), (4, _), (7, _)] a := hA.sub ((.cons rfl (.cons rfl (.cons rfl (.cons rfl .nil)))))
  refine Ends.seq ?_
  refine Ends.seq ?_
  have hlcc : rsc.length = Ga.cost.length := by rw [← hYc, List.length_map]
  rw [hlcc] at hM
  replace hM : Mem _ _ [pt b7 #[.int .i64 Ga.kind, .int .i64 Ga.n, .int .i64 Ga.cap, .slice ac3 Ga.wt.length cc3, .slice ac4 Ga.vl.length cc4, .slice ac5 Ga.cost.length cc5] 25, bundle (insL 3 22 Ga ac3 cc3 ac4 cc4 ac5 cc5 rsc)] _ := hM
  refine Ends.drawn (Mem w6 nof [pt b7 #[.int .i64 Ga.kind, .int .i64 Ga.n, .int .i64 Ga.cap, .slice ac3 Ga.wt.length cc3, .slice ac4 Ga.vl.length cc4, .slice ac5 Ga.cost.length cc5] 25]) (.cons (0, false) (.cons (1, true) (.cons (2, true) (.cons (3, true) (.cons (4, true) (.cons (5, false) (.cons (6, true) (.cons (7, true) (.cons (8, true) (.cons (9, true) (.cons (10, true) (.cons (11, false) (.cons (12, true) (.cons (13, true) (.cons (14, true) (.cons (15, true) (.cons (16, true) (.cons (18, true) (.cons (19, true) (.cons (17, false) (.cons (20, false) (.cons (21, true) (.cons (22, true) .nil))))))))))))))))))))))) 23 mixed (by kernel_rfl) (by kernel_rfl) (by kernel_rfl) (hM.drop 1).drew ?_
  replace hM := hM.drew
  refine D.call hA rfl (R.callF Tryd.func17 rfl rfl rfl) rfl (insts_any _ (tab_below htab (Mem.trans0 hbs hM.nilL))) ?_; clear hA a
  rintro e w10 ⟨rfl, hb⟩
  replace hM := hM.callB hb; clear hb
  refine ⟨.bool true, rfl, (hM.drop 1), fun a hA => ?_⟩
  refine D.valF hA rfl (fun _ => R.not rfl) rfl ?_; clear hA a; intro a hA
  refine D.valF hA rfl (fun _ => R.move rfl) rfl ?_; clear hA a; intro a hA
  refine D.valg (dj := 18) hA rfl (by kernel_rfl) (by kernel_rfl) rfl (fun _ hM => R.loadA sz25 rfl (hM.oldRange hbx6) rfl) rfl ?_; clear hA a; intro a hA
  refine D.valg (dj := 18) hA rfl (by kernel_rfl) (by kernel_rfl) rfl (fun _ hM => R.loadA sz25 rfl (hM.range (k := 0) rfl) rfl) rfl ?_; clear hA a; intro a hA
  refine D.callg (dj := 18) hA rfl (by kernel_rfl) rfl (R.callF Tryd.func22 rfl rfl rfl) rfl (rSame_eq Ga ap3 cp3 ap4 cp4 ap5 cp5 ac3 cc3 ac4 cc4 ac5 cc5 _ (hp3.mem hM) (hp4.mem hM) (hp5.mem hM) (insR_of hM (k := 1) rfl hYc).2.1 (insR_of hM (k := 1) rfl hYc).2.2.1 (insR_of hM (k := 1) rfl hYc).2.2.2) ?_; clear hA a
  rintro e w11 ⟨rfl, hb⟩
  replace hM := hM.callB hb; clear hb
  refine ⟨.bool true, rfl, (hM.drop 1), fun a hA => ?_⟩
  refine D.valgF (dj := 18) hA rfl (by kernel_rfl) rfl (fun _ => R.not rfl) rfl ?_; clear hA a; intro a hA
  refine D.valF hA rfl (fun _ => R.pickF rfl rfl) rfl ?_; clear hA a; intro a hA
  refine D.valF hA rfl (fun _ => R.move rfl) rfl ?_; clear hA a; intro a hA
  refine D.valg (dj := 24) hA rfl (by kernel_rfl) (by kernel_rfl) rfl (fun _ hM => R.loadA sz25 rfl (hM.oldRange hbx6) rfl) rfl ?_; clear hA a; intro a hA
  refine D.valg (dj := 24) hA rfl (by kernel_rfl) (by kernel_rfl) rfl (fun _ hM => R.loadA sz25 rfl (hM.range (k := 0) rfl) rfl) rfl ?_; clear hA a; intro a hA
  refine D.callg (dj := 24) hA rfl (by kernel_rfl) rfl (R.callF Tryd.func26 rfl rfl rfl) rfl (iSame_eq Ga ap3 cp3 ap4 cp4 ap5 cp5 ac3 cc3 ac4 cc4 ac5 cc5 _ (hp3.mem hM) (hp4.mem hM) (hp5.mem hM) (insR_of hM (k := 1) rfl hYc).2.1 (insR_of hM (k := 1) rfl hYc).2.2.1 (insR_of hM (k := 1) rfl hYc).2.2.2) ?_; clear hA a
  rintro e w12 ⟨rfl, hb⟩
  replace hM := hM.callB hb; clear hb
  refine ⟨.bool true, rfl, (hM.drop 1), fun a hA => ?_⟩
  refine D.valgF (dj := 24) hA rfl (by kernel_rfl) rfl (fun _ => R.not rfl) rfl ?_; clear hA a; intro a hA
  refine D.valF hA rfl (fun _ => R.pickF rfl rfl) rfl ?_; clear hA a; intro a hA
  refine D.valF hA rfl (fun _ => R.move rfl) rfl ?_; clear hA a; intro a hA
  refine D.valg (dj := 30) hA rfl (by kernel_rfl) (by kernel_rfl) rfl (fun _ hM => R.loadA sz25 rfl (hM.oldRange hbx6) rfl) rfl ?_; clear hA a; intro a hA
  refine D.valg (dj := 30) hA rfl (by kernel_rfl) (by kernel_rfl) rfl (fun _ hM => R.loadA sz25 rfl (hM.oldRange hbx5) rfl) rfl ?_; clear hA a; intro a hA
  refine D.valg (dj := 30) hA rfl (by kernel_rfl) (by kernel_rfl) rfl (fun _ hM => R.loadA sz25 rfl (hM.oldRange hbx6) rfl) rfl ?_; clear hA a; intro a hA
  refine D.valg (dj := 30) hA rfl (by kernel_rfl) (by kernel_rfl) rfl (fun _ hM => R.loadA sz25 rfl (hM.oldRange hbx5) rfl) rfl ?_; clear hA a; intro a hA
  refine D.callg (dj := 30) hA rfl (by kernel_rfl) rfl (R.callF Tryd.func26 rfl rfl rfl) rfl (iSame Ga ap3 cp3 ap4 cp4 ap5 cp5 Gb ar3 cr3 ar4 cr4 ar5 cr5 _ (hp3.mem hM) (hp4.mem hM) (hp5.mem hM) (hr3.mem hM) (hr4.mem hM) (hr5.mem hM)) ?_; clear hA a
  rintro e w13 ⟨rfl, hb⟩
  replace hM := hM.callB hb; clear hb
  refine ⟨.bool (decide (Ga = Gb)), rfl, (hM.drop 1), fun a hA => ?_⟩
  refine D.callg (dj := 30) hA rfl (by kernel_rfl) rfl (R.callF Tryd.func22 rfl rfl rfl) rfl (rSame Ga ap3 cp3 ap4 cp4 ap5 cp5 Gb ar3 cr3 ar4 cr4 ar5 cr5 _ (hp3.mem hM) (hp4.mem hM) (hp5.mem hM) (hr3.mem hM) (hr4.mem hM) (hr5.mem hM)) ?_; clear hA a
  rintro e w14 ⟨rfl, hb⟩
  replace hM := hM.callB hb; clear hb
  refine ⟨.bool (decide (Ga = Gb)), rfl, (hM.drop 1), fun a hA => ?_⟩
  refine D.valgF (dj := 30) hA rfl (by kernel_rfl) rfl (fun _ => R.to (v := .bool false) (R.neqB Tryd.underlying4 rfl rfl) (congrArg Value.bool (by simp))) rfl ?_; clear hA a; intro a hA
  refine D.valF hA rfl (fun _ => R.pickF rfl rfl) rfl ?_; clear hA a; intro a hA
  refine D.done ?_
  replace hA : St 104 [(2, _), (3, _), (7, _), (38, _)] a := hA.sub ((.cons rfl (.cons rfl (.cons rfl (.cons rfl .nil)))))
  refine Ends.condF hA rfl ?_
  refine Ends.skip ?_
  refine Ends.seq ?_
  refine Ends.region ?_
  refine S.val hA (R.loadA sz25 rfl (hM.oldRange hbx6) rfl) rfl ?_; clear hA a; intro a hA
  refine S.call hA (R.callF Tryd.func16 rfl rfl rfl) rfl (copyOwnS Ga ap3 cp3 ap4 cp4 ap5 cp5 hscp _ (hp3.mem hM) (hp4.mem hM) (hp5.mem hM)) ?_; clear hA a
  rintro e w15 ⟨as3, cs3, as4, cs4, as5, cs5, rss, rfl, hYs, hn⟩
  replace hM : Mem _ _ [bundle (insL 3 22 Ga as3 cs3 as4 cs4 as5 cs5 rss), pt b7 #[.int .i64 Ga.kind, .int .i64 Ga.n, .int .i64 Ga.cap, .slice ac3 Ga.wt.length cc3, .slice ac4 Ga.vl.length cc4, .slice ac5 Ga.cost.length cc5] 25, bundle (insL 3 22 Ga ac3 cc3 ac4 cc4 ac5 cc5 rsc)] _ := hM.call hn; clear hn
  refine ⟨.agg #[.int .i64 Ga.kind, .int .i64 Ga.n, .int .i64 Ga.cap, .slice as3 Ga.wt.length cs3, .slice as4 Ga.vl.length cs4, .slice as5 rss.length cs5], rfl, fun a hA => ?_⟩
  refine S.alloc hA hM info25 rfl rfl ?_; clear hA hM a; intro b9 w16 hb10 hM a hA
  replace hM : Mem _ _ [pt b9 #[.int .i64 0, .int .i64 0, .int .i64 0, .slice none 0 0, .slice none 0 0, .slice none 0 0] 25, bundle (insL 3 22 Ga as3 cs3 as4 cs4 as5 cs5 rss), pt b7 #[.int .i64 Ga.kind, .int .i64 Ga.n, .int .i64 Ga.cap, .slice ac3 Ga.wt.length cc3, .slice ac4 Ga.vl.length cc4, .slice ac5 Ga.cost.length cc5] 25, bundle (insL 3 22 Ga ac3 cc3 ac4 cc4 ac5 cc5 rsc)] _ := hM
  refine S.storeA (k := 0) hA hM sz25 rfl rfl rfl rfl rfl rfl ?_; clear hM
  intro w17 hM
  replace hM : Mem _ _ [pt b9 #[.int .i64 Ga.kind, .int .i64 Ga.n, .int .i64 Ga.cap, .slice as3 Ga.wt.length cs3, .slice as4 Ga.vl.length cs4, .slice as5 rss.length cs5] 25, bundle (insL 3 22 Ga as3 cs3 as4 cs4 as5 cs5 rss), pt b7 #[.int .i64 Ga.kind, .int .i64 Ga.n, .int .i64 Ga.cap, .slice ac3 Ga.wt.length cc3, .slice ac4 Ga.vl.length cc4, .slice ac5 Ga.cost.length cc5] 25, bundle (insL 3 22 Ga ac3 cc3 ac4 cc4 ac5 cc5 rsc)] _ := hM
  refine S.done ?_
  replace hA : St 104 [(2, _), (3, _), (7, _), (8, _)] a := hA.sub ((.cons rfl (.cons rfl (.cons rfl (.cons rfl .nil)))))
  refine Ends.seq ?_
  refine Ends.region ?_
  refine S.val hA (R.move rfl) rfl ?_; clear hA a; intro a hA
  refine S.val hA (R.conv Tryd.underlying38 Tryd.underlying3 rfl) rfl ?_; clear hA a; intro a hA
  refine S.val hA (R.remI rfl rfl rfl ⟨u64_nn _, by decide⟩) rfl ?_; clear hA a; intro a hA
  obtain ⟨n11, hn12, en13⟩ := umod_ex q 64 (by decide)
  refine S.val hA (R.to (v := .int .i64 (n11 : Int)) (R.conv Tryd.underlying3 Tryd.underlying38 rfl) (congrArg (Value.int .i64) en13)) rfl ?_; clear hA a; intro a hA
  refine S.val hA (R.assign rfl) rfl ?_; clear hA a; intro a hA
  refine S.done ?_
  replace hA : St 104 [(3, _), (7, _), (8, _), (9, _)] a := hA.sub ((.cons rfl (.cons rfl (.cons rfl (.cons rfl .nil)))))
  refine Ends.seq ?_
  refine Ends.seq ?_
  replace hM : Mem w6 nof [pt b9 #[.int .i64 Ga.kind, .int .i64 Ga.n, .int .i64 Ga.cap, .slice as3 Ga.wt.length cs3, .slice as4 Ga.vl.length cs4, .slice as5 rss.length cs5] 25, bundle (insL 3 22 Ga as3 cs3 as4 cs4 as5 cs5 rss), pt b7 #[.int .i64 Ga.kind, .int .i64 Ga.n, .int .i64 Ga.cap, .slice ac3 Ga.wt.length cc3, .slice ac4 Ga.vl.length cc4, .slice ac5 rsc.length cc5] 25, bundle (insL 3 22 Ga ac3 cc3 ac4 cc4 ac5 cc5 rsc)] w17 := by rw [hlcc]; exact hM
  replace hM := hM.front (k := 2) rfl
  replace hM := hM.front (k := 3) rfl
  replace hM := hM.unpack
  replace hM : Mem _ _ [own 3 1 (.slice ac3 Ga.wt.length cc3) Ga.wt.length (Ga.wt.map (Value.int .i64)), own 3 1 (.slice ac4 Ga.vl.length cc4) Ga.vl.length (Ga.vl.map (Value.int .i64)), own 22 1 (.slice ac5 rsc.length cc5) rsc.length ((rsc.map orV)), bundle (rsc.map (orC 3)), pt b7 #[.int .i64 Ga.kind, .int .i64 Ga.n, .int .i64 Ga.cap, .slice ac3 Ga.wt.length cc3, .slice ac4 Ga.vl.length cc4, .slice ac5 rsc.length cc5] 25, pt b9 #[.int .i64 Ga.kind, .int .i64 Ga.n, .int .i64 Ga.cap, .slice as3 Ga.wt.length cs3, .slice as4 Ga.vl.length cs4, .slice as5 rss.length cs5] 25, bundle (insL 3 22 Ga as3 cs3 as4 cs4 as5 cs5 rss)] _ := hM
  refine Ends.region ?_
  refine S.val hA (R.move rfl) rfl ?_; clear hA a; intro a hA
  refine S.val hA (R.fieldAddr (q := 3) fi25_3 rfl rfl rfl) rfl ?_; clear hA a; intro a hA
  refine S.val hA (R.load sz22 rfl (hM.cell (k := 4) rfl rfl)) rfl ?_; clear hA a; intro a hA
  refine S.val hA (R.lenS Tryd.underlying22 rfl rfl) rfl ?_; clear hA a; intro a hA
  refine S.val hA (R.lss rfl rfl) rfl ?_; clear hA a; intro a hA
  refine S.done ?_
  replace hA : St 104 [(3, _), (7, _), (8, _), (9, _), (49, _)] a := hA.sub ((.cons rfl (.cons rfl (.cons rfl (.cons rfl (.cons rfl .nil))))))
  refine Ends.ite hA rfl (fun hc14 => ?_) (fun hc14 => ?_)
  ·
    obtain ⟨g3, hg3⟩ := hM.ownAt (k := 0) rfl (by omega)
    rw [hg3] at hM
    replace hM : Mem _ _ [own 3 1 (.slice ((some ⟨g3, 0, none⟩)) Ga.wt.length cc3) Ga.wt.length (Ga.wt.map (Value.int .i64)), own 3 1 (.slice ac4 Ga.vl.length cc4) Ga.vl.length (Ga.vl.map (Value.int .i64)), own 22 1 (.slice ac5 rsc.length cc5) rsc.length ((rsc.map orV)), bundle (rsc.map (orC 3)), pt b7 #[.int .i64 Ga.kind, .int .i64 Ga.n, .int .i64 Ga.cap, .slice ((some ⟨g3, 0, none⟩)) Ga.wt.length cc3, .slice ac4 Ga.vl.length cc4, .slice ac5 rsc.length cc5] 25, pt b9 #[.int .i64 Ga.kind, .int .i64 Ga.n, .int .i64 Ga.cap, .slice as3 Ga.wt.length cs3, .slice as4 Ga.vl.length cs4, .slice as5 rss.length cs5] 25, bundle (insL 3 22 Ga as3 cs3 as4 cs4 as5 cs5 rss)] _ := hM
    refine Ends.region ?_
    refine S.val hA (R.fieldAddr (q := 3) fi25_3 rfl rfl rfl) rfl ?_; clear hA a; intro a hA
    refine S.val hA (R.load sz22 rfl (hM.cell (k := 4) rfl rfl)) rfl ?_; clear hA a; intro a hA
    refine S.val hA (R.move rfl) rfl ?_; clear hA a; intro a hA
    refine S.val hA (R.indexAddr (q := n11) sl22 rfl rfl (by omega) (by omega)) rfl ?_; clear hA a; intro a hA
    refine S.val hA (R.load sz3 rfl (hM.ownCell (k := 0) rfl (mapi_get _ _ (by omega)))) rfl ?_; clear hA a; intro a hA
    refine S.val hA (R.bits (by simp) rfl rfl) rfl ?_; clear hA a; intro a hA
    refine S.val hA (R.indexAddr (q := n11) sl22 rfl rfl (by omega) (by omega)) rfl ?_; clear hA a; intro a hA
    refine S.storeO (k := 0) hA hM sz3 rfl rfl rfl rfl (mapi_get Ga.wt n11 (by first | omega | (simp only [List.length_set]; omega) | (simp; done))) ?_; clear hM; intro w18 hM; rw [mapi_set] at hM
    replace hM : Mem _ _ [own 3 1 (.slice ((some ⟨g3, 0, none⟩)) Ga.wt.length cc3) Ga.wt.length (((Ga.wt.set n11 (bits .xor .i64 (Ga.wt.getD n11 0) 1))).map (Value.int .i64)), own 3 1 (.slice ac4 Ga.vl.length cc4) Ga.vl.length (Ga.vl.map (Value.int .i64)), own 22 1 (.slice ac5 rsc.length cc5) rsc.length ((rsc.map orV)), bundle (rsc.map (orC 3)), pt b7 #[.int .i64 Ga.kind, .int .i64 Ga.n, .int .i64 Ga.cap, .slice ((some ⟨g3, 0, none⟩)) Ga.wt.length cc3, .slice ac4 Ga.vl.length cc4, .slice ac5 rsc.length cc5] 25, pt b9 #[.int .i64 Ga.kind, .int .i64 Ga.n, .int .i64 Ga.cap, .slice as3 Ga.wt.length cs3, .slice as4 Ga.vl.length cs4, .slice as5 rss.length cs5] 25, bundle (insL 3 22 Ga as3 cs3 as4 cs4 as5 cs5 rss)] _ := hM
    refine S.done ?_
    obtain ⟨W1, hW1⟩ : ∃ W1, W1 = (Ga.wt.set n11 (bits .xor .i64 (Ga.wt.getD n11 0) 1)) := ⟨_, rfl⟩
    have hlW1 : W1.length = Ga.wt.length := by rw [hW1]; exact List.length_set
    rw [← hW1, ← hg3] at hM
    replace hM : Mem w6 nof [own 3 1 (.slice ac3 W1.length cc3) W1.length (W1.map (Value.int .i64)), own 3 1 (.slice ac4 Ga.vl.length cc4) Ga.vl.length (Ga.vl.map (Value.int .i64)), own 22 1 (.slice ac5 rsc.length cc5) rsc.length ((rsc.map orV)), bundle (rsc.map (orC 3)), pt b7 #[.int .i64 Ga.kind, .int .i64 Ga.n, .int .i64 Ga.cap, .slice ac3 W1.length cc3, .slice ac4 Ga.vl.length cc4, .slice ac5 rsc.length cc5] 25, pt b9 #[.int .i64 Ga.kind, .int .i64 Ga.n, .int .i64 Ga.cap, .slice as3 Ga.wt.length cs3, .slice as4 Ga.vl.length cs4, .slice as5 rss.length cs5] 25, bundle (insL 3 22 Ga as3 cs3 as4 cs4 as5 cs5 rss)] w18 := by rw [hlW1]; exact hM
    replace hA : St 104 [(3, _), (7, _), (8, _), (9, _)] a := hA.sub ((.cons rfl (.cons rfl (.cons rfl (.cons rfl .nil)))))
    refine Ends.seq ?_
    refine Ends.seq ?_
    refine Ends.region ?_
    refine S.val hA (R.move rfl) rfl ?_; clear hA a; intro a hA
    refine S.val hA (R.fieldAddr (q := 4) fi25_4 rfl rfl rfl) rfl ?_; clear hA a; intro a hA
    refine S.val hA (R.load sz22 rfl (hM.cell (k := 4) rfl rfl)) rfl ?_; clear hA a; intro a hA
    refine S.val hA (R.lenS Tryd.underlying22 rfl rfl) rfl ?_; clear hA a; intro a hA
    refine S.val hA (R.lss rfl rfl) rfl ?_; clear hA a; intro a hA
    refine S.done ?_
    replace hA : St 104 [(3, _), (7, _), (8, _), (9, _), (61, _)] a := hA.sub ((.cons rfl (.cons rfl (.cons rfl (.cons rfl (.cons rfl .nil))))))
    refine Ends.ite hA rfl (fun hc15 => ?_) (fun hc15 => ?_)
    ·
      obtain ⟨g4, hg4⟩ := hM.ownAt (k := 1) rfl (by omega)
      rw [hg4] at hM
      replace hM : Mem _ _ [own 3 1 (.slice ac3 W1.length cc3) W1.length (W1.map (Value.int .i64)), own 3 1 (.slice ((some ⟨g4, 0, none⟩)) Ga.vl.length cc4) Ga.vl.length (Ga.vl.map (Value.int .i64)), own 22 1 (.slice ac5 rsc.length cc5) rsc.length ((rsc.map orV)), bundle (rsc.map (orC 3)), pt b7 #[.int .i64 Ga.kind, .int .i64 Ga.n, .int .i64 Ga.cap, .slice ac3 W1.length cc3, .slice ((some ⟨g4, 0, none⟩)) Ga.vl.length cc4, .slice ac5 rsc.length cc5] 25, pt b9 #[.int .i64 Ga.kind, .int .i64 Ga.n, .int .i64 Ga.cap, .slice as3 Ga.wt.length cs3, .slice as4 Ga.vl.length cs4, .slice as5 rss.length cs5] 25, bundle (insL 3 22 Ga as3 cs3 as4 cs4 as5 cs5 rss)] _ := hM
      refine Ends.region ?_
      refine S.val hA (R.fieldAddr (q := 4) fi25_4 rfl rfl rfl) rfl ?_; clear hA a; intro a hA
      refine S.val hA (R.load sz22 rfl (hM.cell (k := 4) rfl rfl)) rfl ?_; clear hA a; intro a hA
      refine S.val hA (R.move rfl) rfl ?_; clear hA a; intro a hA
      refine S.val hA (R.indexAddr (q := n11) sl22 rfl rfl (by omega) (by omega)) rfl ?_; clear hA a; intro a hA
      refine S.val hA (R.load sz3 rfl (hM.ownCell (k := 1) rfl (mapi_get _ _ (by omega)))) rfl ?_; clear hA a; intro a hA
      refine S.val hA (R.bits (by simp) rfl rfl) rfl ?_; clear hA a; intro a hA
      refine S.val hA (R.indexAddr (q := n11) sl22 rfl rfl (by omega) (by omega)) rfl ?_; clear hA a; intro a hA
      refine S.storeO (k := 1) hA hM sz3 rfl rfl rfl rfl (mapi_get Ga.vl n11 (by first | omega | (simp only [List.length_set]; omega) | (simp; done))) ?_; clear hM; intro w19 hM; rw [mapi_set] at hM
      replace hM : Mem _ _ [own 3 1 (.slice ac3 W1.length cc3) W1.length (W1.map (Value.int .i64)), own 3 1 (.slice ((some ⟨g4, 0, none⟩)) Ga.vl.length cc4) Ga.vl.length (((Ga.vl.set n11 (bits .xor .i64 (Ga.vl.getD n11 0) 1))).map (Value.int .i64)), own 22 1 (.slice ac5 rsc.length cc5) rsc.length ((rsc.map orV)), bundle (rsc.map (orC 3)), pt b7 #[.int .i64 Ga.kind, .int .i64 Ga.n, .int .i64 Ga.cap, .slice ac3 W1.length cc3, .slice ((some ⟨g4, 0, none⟩)) Ga.vl.length cc4, .slice ac5 rsc.length cc5] 25, pt b9 #[.int .i64 Ga.kind, .int .i64 Ga.n, .int .i64 Ga.cap, .slice as3 Ga.wt.length cs3, .slice as4 Ga.vl.length cs4, .slice as5 rss.length cs5] 25, bundle (insL 3 22 Ga as3 cs3 as4 cs4 as5 cs5 rss)] _ := hM
      refine S.done ?_
      obtain ⟨V1, hV1⟩ : ∃ V1, V1 = (Ga.vl.set n11 (bits .xor .i64 (Ga.vl.getD n11 0) 1)) := ⟨_, rfl⟩
      have hlV1 : V1.length = Ga.vl.length := by rw [hV1]; exact List.length_set
      rw [← hV1, ← hg4] at hM
      replace hM : Mem w6 nof [own 3 1 (.slice ac3 W1.length cc3) W1.length (W1.map (Value.int .i64)), own 3 1 (.slice ac4 V1.length cc4) V1.length (V1.map (Value.int .i64)), own 22 1 (.slice ac5 rsc.length cc5) rsc.length ((rsc.map orV)), bundle (rsc.map (orC 3)), pt b7 #[.int .i64 Ga.kind, .int .i64 Ga.n, .int .i64 Ga.cap, .slice ac3 W1.length cc3, .slice ac4 V1.length cc4, .slice ac5 rsc.length cc5] 25, pt b9 #[.int .i64 Ga.kind, .int .i64 Ga.n, .int .i64 Ga.cap, .slice as3 Ga.wt.length cs3, .slice as4 Ga.vl.length cs4, .slice as5 rss.length cs5] 25, bundle (insL 3 22 Ga as3 cs3 as4 cs4 as5 cs5 rss)] w19 := by rw [hlV1]; exact hM
      replace hA : St 104 [(3, _), (7, _), (8, _), (9, _)] a := hA.sub ((.cons rfl (.cons rfl (.cons rfl (.cons rfl .nil)))))
      refine Ends.seq ?_
      refine Ends.seq ?_
      refine Ends.cut (fun (a : Act) (wv : World) => St 104 [(3, .pointer (some ⟨b1, 0, none⟩)), (7, .pointer (some ⟨b7, 0, none⟩)), (8, .pointer (some ⟨b9, 0, none⟩)), (9, .int .i64 ((n11 : Int))), (82, .bool (decide ((((n11 : Int)) < ((rsc.length : Int)) ∧ 0 < ((((((rsc.map (·.Y))).getD n11 [])).length : Int))))))] a ∧ Mem w6 nof [own 3 1 (.slice ac3 W1.length cc3) W1.length (W1.map (Value.int .i64)), own 3 1 (.slice ac4 V1.length cc4) V1.length (V1.map (Value.int .i64)), own 22 1 (.slice ac5 rsc.length cc5) rsc.length ((rsc.map orV)), bundle (rsc.map (orC 3)), pt b7 #[.int .i64 Ga.kind, .int .i64 Ga.n, .int .i64 Ga.cap, .slice ac3 W1.length cc3, .slice ac4 V1.length cc4, .slice ac5 rsc.length cc5] 25, pt b9 #[.int .i64 Ga.kind, .int .i64 Ga.n, .int .i64 Ga.cap, .slice as3 Ga.wt.length cs3, .slice as4 Ga.vl.length cs4, .slice as5 rss.length cs5] 25, bundle (insL 3 22 Ga as3 cs3 as4 cs4 as5 cs5 rss)] wv) ?_ (fun k2 hJ => ?_)
      · clear hA hM a; rintro a w20 ⟨hA, hM⟩
        refine Ends.ite hA rfl (fun hc16 => ?_) (fun hc16 => ?_)
        ·
          obtain ⟨Yr, ar, cr, hxr⟩ := or_at (rs := rsc) (i := n11) (by omega)
          have hyr : (rsc.map (·.Y)).getD n11 [] = Yr := rowY hxr
          have hif := hc16
          rw [hyr] at hif
          replace hM := hM.front (k := 3) rfl
          replace hM := hM.openB hxr
          replace hM : Mem _ _ [own 3 1 (.slice ar Yr.length cr) Yr.length (Yr.map (Value.int .i64)), bundle ((rsc.eraseIdx n11).map (orC 3)), own 3 1 (.slice ac3 W1.length cc3) W1.length (W1.map (Value.int .i64)), own 3 1 (.slice ac4 V1.length cc4) V1.length (V1.map (Value.int .i64)), own 22 1 (.slice ac5 rsc.length cc5) rsc.length ((rsc.map orV)), pt b7 #[.int .i64 Ga.kind, .int .i64 Ga.n, .int .i64 Ga.cap, .slice ac3 W1.length cc3, .slice ac4 V1.length cc4, .slice ac5 rsc.length cc5] 25, pt b9 #[.int .i64 Ga.kind, .int .i64 Ga.n, .int .i64 Ga.cap, .slice as3 Ga.wt.length cs3, .slice as4 Ga.vl.length cs4, .slice as5 rss.length cs5] 25, bundle (insL 3 22 Ga as3 cs3 as4 cs4 as5 cs5 rss)] _ := hM
          obtain ⟨gr, hgr⟩ := hM.ownAt (k := 0) rfl (by omega)
          obtain ⟨gb, hgb⟩ := hM.ownAt (k := 4) rfl (by omega)
          subst hgr
          rw [hgb] at hM
          replace hM : Mem _ _ [own 3 1 (.slice ((some ⟨gr, 0, none⟩)) Yr.length cr) Yr.length (Yr.map (Value.int .i64)), bundle ((rsc.eraseIdx n11).map (orC 3)), own 3 1 (.slice ac3 W1.length cc3) W1.length (W1.map (Value.int .i64)), own 3 1 (.slice ac4 V1.length cc4) V1.length (V1.map (Value.int .i64)), own 22 1 (.slice ((some ⟨gb, 0, none⟩)) rsc.length cc5) rsc.length ((rsc.map orV)), pt b7 #[.int .i64 Ga.kind, .int .i64 Ga.n, .int .i64 Ga.cap, .slice ac3 W1.length cc3, .slice ac4 V1.length cc4, .slice ((some ⟨gb, 0, none⟩)) rsc.length cc5] 25, pt b9 #[.int .i64 Ga.kind, .int .i64 Ga.n, .int .i64 Ga.cap, .slice as3 Ga.wt.length cs3, .slice as4 Ga.vl.length cs4, .slice as5 rss.length cs5] 25, bundle (insL 3 22 Ga as3 cs3 as4 cs4 as5 cs5 rss)] _ := hM
          refine Ends.region ?_
          refine S.val hA (R.fieldAddr (q := 5) fi25_5 rfl rfl rfl) rfl ?_; clear hA a; intro a hA
          refine S.val hA (R.load sz23 rfl (hM.cell (k := 5) rfl rfl)) rfl ?_; clear hA a; intro a hA
          refine S.val hA (R.move rfl) rfl ?_; clear hA a; intro a hA
          refine S.val hA (R.indexAddr (q := n11) sl23 rfl rfl (by omega) (by omega)) rfl ?_; clear hA a; intro a hA
          refine S.val hA (R.load sz22 rfl (hM.ownCell (k := 4) rfl (orV_at hxr))) rfl ?_; clear hA a; intro a hA
          refine S.val hA (R.indexAddr (q := 0) sl22 rfl rfl (by omega) (rfl)) rfl ?_; clear hA a; intro a hA
          refine S.val hA (R.load sz3 rfl (hM.ownCell (k := 0) rfl (mapi_get _ _ (by omega)))) rfl ?_; clear hA a; intro a hA
          refine S.val hA (R.bits (by simp) rfl rfl) rfl ?_; clear hA a; intro a hA
          refine S.val hA (R.indexAddr (q := 0) sl22 rfl rfl (by omega) (rfl)) rfl ?_; clear hA a; intro a hA
          refine S.storeO (k := 0) hA hM sz3 rfl rfl rfl rfl (mapi_get Yr 0 (by first | omega | (simp only [List.length_set]; omega) | (simp; done))) ?_; clear hM; intro w21 hM; rw [mapi_set] at hM
          replace hM : Mem _ _ [own 3 1 (.slice ((some ⟨gr, 0, none⟩)) Yr.length cr) Yr.length (((Yr.set 0 (bits .xor .i64 (Yr.getD 0 0) 1))).map (Value.int .i64)), bundle ((rsc.eraseIdx n11).map (orC 3)), own 3 1 (.slice ac3 W1.length cc3) W1.length (W1.map (Value.int .i64)), own 3 1 (.slice ac4 V1.length cc4) V1.length (V1.map (Value.int .i64)), own 22 1 (.slice ((some ⟨gb, 0, none⟩)) rsc.length cc5) rsc.length ((rsc.map orV)), pt b7 #[.int .i64 Ga.kind, .int .i64 Ga.n, .int .i64 Ga.cap, .slice ac3 W1.length cc3, .slice ac4 V1.length cc4, .slice ((some ⟨gb, 0, none⟩)) rsc.length cc5] 25, pt b9 #[.int .i64 Ga.kind, .int .i64 Ga.n, .int .i64 Ga.cap, .slice as3 Ga.wt.length cs3, .slice as4 Ga.vl.length cs4, .slice as5 rss.length cs5] 25, bundle (insL 3 22 Ga as3 cs3 as4 cs4 as5 cs5 rss)] _ := hM
          refine S.done ?_
          replace hM := hM.front (k := 1) rfl
          replace hM := hM.front (k := 1) rfl
          have hsl : ((Yr.set 0 (bits .xor .i64 (Yr.getD 0 0) 1))).length = Yr.length := List.length_set
          rw [← hsl] at hM
          replace hM := Mem.closeB (f := orC 3) (y := (⟨(Yr.set 0 (bits .xor .i64 (Yr.getD 0 0) 1)), (some ⟨gr, 0, none⟩), cr⟩ : OwR)) hM hxr
          rw [← set_orV hxr (u := (⟨(Yr.set 0 (bits .xor .i64 (Yr.getD 0 0) 1)), (some ⟨gr, 0, none⟩), cr⟩ : OwR)) (by show Value.slice _ _ _ = Value.slice _ _ _; rw [hsl]), ← hgb, show rsc.length = (rsc.set n11 (⟨(Yr.set 0 (bits .xor .i64 (Yr.getD 0 0) 1)), (some ⟨gr, 0, none⟩), cr⟩ : OwR)).length from List.length_set.symm] at hM
          obtain ⟨R1, hR1⟩ : ∃ R1, R1 = rsc.set n11 (⟨(Yr.set 0 (bits .xor .i64 (Yr.getD 0 0) 1)), (some ⟨gr, 0, none⟩), cr⟩ : OwR) := ⟨_, rfl⟩
          rw [← hR1] at hM
          replace hM : Mem _ _ [bundle (R1.map (orC 3)), own 3 1 (.slice ac3 W1.length cc3) W1.length (W1.map (Value.int .i64)), own 3 1 (.slice ac4 V1.length cc4) V1.length (V1.map (Value.int .i64)), own 22 1 (.slice ac5 R1.length cc5) R1.length ((R1.map orV)), pt b7 #[.int .i64 Ga.kind, .int .i64 Ga.n, .int .i64 Ga.cap, .slice ac3 W1.length cc3, .slice ac4 V1.length cc4, .slice ac5 R1.length cc5] 25, pt b9 #[.int .i64 Ga.kind, .int .i64 Ga.n, .int .i64 Ga.cap, .slice as3 Ga.wt.length cs3, .slice as4 Ga.vl.length cs4, .slice as5 rss.length cs5] 25, bundle (insL 3 22 Ga as3 cs3 as4 cs4 as5 cs5 rss)] _ := hM
          replace hA : St 104 [(3, _), (7, _), (8, _)] a := hA.sub ((.cons rfl (.cons rfl (.cons rfl .nil))))
          refine Ends.seq ?_
          replace hM := hM.front (k := 4) rfl
          replace hM := hM.front (k := 1) rfl
          replace hM := hM.front (k := 4) rfl
          replace hM := hM.front (k := 4) rfl
          replace hM := hM.front (k := 4) rfl
          replace hM := Mem.pack (cs := insL 3 22 (⟨Ga.kind, Ga.n, Ga.cap, W1, V1, R1.map (·.Y)⟩ : Ins) ac3 cc3 ac4 cc4 ac5 cc5 R1) (L := [pt b7 #[.int .i64 Ga.kind, .int .i64 Ga.n, .int .i64 Ga.cap, .slice ac3 W1.length cc3, .slice ac4 V1.length cc4, .slice ac5 R1.length cc5] 25, pt b9 #[.int .i64 Ga.kind, .int .i64 Ga.n, .int .i64 Ga.cap, .slice as3 Ga.wt.length cs3, .slice as4 Ga.vl.length cs4, .slice as5 rss.length cs5] 25, bundle (insL 3 22 Ga as3 cs3 as4 cs4 as5 cs5 rss)]) hM
          obtain ⟨-, hc3, hc4, hc5⟩ := insR_of hM (k := 0) rfl rfl
          obtain ⟨-, hs3, hs4, hs5⟩ := insR_of hM (k := 3) rfl hYs
          replace hM := (hM.drop 3).drop 0
          have hlcs : rss.length = Ga.cost.length := by rw [← hYs, List.length_map]
          rw [hlcs] at hM
          have hlct : R1.length = (⟨Ga.kind, Ga.n, Ga.cap, W1, V1, R1.map (·.Y)⟩ : Ins).cost.length := (List.length_map ..).symm
          rw [hlct] at hM
          replace hM : Mem _ _ [pt b7 #[.int .i64 ((⟨Ga.kind, Ga.n, Ga.cap, W1, V1, R1.map (·.Y)⟩ : Ins).kind), .int .i64 ((⟨Ga.kind, Ga.n, Ga.cap, W1, V1, R1.map (·.Y)⟩ : Ins).n), .int .i64 ((⟨Ga.kind, Ga.n, Ga.cap, W1, V1, R1.map (·.Y)⟩ : Ins).cap), .slice ac3 (((⟨Ga.kind, Ga.n, Ga.cap, W1, V1, R1.map (·.Y)⟩ : Ins).wt).length) cc3, .slice ac4 (((⟨Ga.kind, Ga.n, Ga.cap, W1, V1, R1.map (·.Y)⟩ : Ins).vl).length) cc4, .slice ac5 (((⟨Ga.kind, Ga.n, Ga.cap, W1, V1, R1.map (·.Y)⟩ : Ins).cost).length) cc5] 25, pt b9 #[.int .i64 Ga.kind, .int .i64 Ga.n, .int .i64 Ga.cap, .slice as3 Ga.wt.length cs3, .slice as4 Ga.vl.length cs4, .slice as5 Ga.cost.length cs5] 25] _ := hM
          generalize (⟨Ga.kind, Ga.n, Ga.cap, W1, V1, R1.map (·.Y)⟩ : Ins) = T at hM hc3 hc4 hc5
          replace hM : Mem _ _ [pt b7 #[.int .i64 T.kind, .int .i64 T.n, .int .i64 T.cap, .slice ac3 T.wt.length cc3, .slice ac4 T.vl.length cc4, .slice ac5 T.cost.length cc5] 25, pt b9 #[.int .i64 Ga.kind, .int .i64 Ga.n, .int .i64 Ga.cap, .slice as3 Ga.wt.length cs3, .slice as4 Ga.vl.length cs4, .slice as5 Ga.cost.length cs5] 25] _ := hM
          have hbx17 := hM.block (k := 0) rfl
          have hbx18 := hM.block (k := 1) rfl
          have hbs := hbs.trans (hM.below.mono hbs.size)
          have hx3 := hx3.mem hM
          have hx4 := hx4.mem hM
          have hx5 := hx5.mem hM
          have hy3 := hy3.mem hM
          have hy4 := hy4.mem hM
          have hy5 := hy5.mem hM
          have hp3 := hp3.mem hM
          have hp4 := hp4.mem hM
          have hp5 := hp5.mem hM
          have hr3 := hr3.mem hM
          have hr4 := hr4.mem hM
          have hr5 := hr5.mem hM
          have hbx5 := hM.keepB hbx5
          have hbx6 := hM.keepB hbx6
          replace hM := Mem.start w21
          refine Ends.drawn (Mem w21 nof []) (.cons (0, true) (.cons (1, true) (.cons (2, false) (.cons (3, true) (.cons (4, true) (.cons (5, true) (.cons (7, true) (.cons (8, true) (.cons (6, false) (.cons (9, false) (.cons (10, true) (.cons (11, true) (.cons (12, true) .nil))))))))))))) 13 mixed (by kernel_rfl) (by kernel_rfl) (by kernel_rfl) hM.drew ?_
          replace hM := hM.drew
          refine D.val hA rfl (by kernel_rfl) (fun _ hM => R.loadA sz25 rfl (hM.oldRange hbx6) rfl) rfl ?_; clear hA a; intro a hA
          refine D.val hA rfl (by kernel_rfl) (fun _ hM => R.loadA sz25 rfl (hM.oldRange hbx18) rfl) rfl ?_; clear hA a; intro a hA
          refine D.call hA rfl (R.callF Tryd.func22 rfl rfl rfl) rfl (rSame_eq Ga ap3 cp3 ap4 cp4 ap5 cp5 as3 cs3 as4 cs4 as5 cs5 _ (hp3.mem hM) (hp4.mem hM) (hp5.mem hM) (hs3.mem hM) (hs4.mem hM) (hs5.mem hM)) ?_; clear hA a
          rintro e w22 ⟨rfl, hb⟩
          replace hM := hM.callB hb; clear hb
          refine ⟨.bool true, rfl, hM, fun a hA => ?_⟩
          refine D.valF hA rfl (fun _ => R.move rfl) rfl ?_; clear hA a; intro a hA
          refine D.valg (dj := 95) hA rfl (by kernel_rfl) (by kernel_rfl) rfl (fun _ hM => R.loadA sz25 rfl (hM.oldRange hbx6) rfl) rfl ?_; clear hA a; intro a hA
          refine D.valg (dj := 95) hA rfl (by kernel_rfl) (by kernel_rfl) rfl (fun _ hM => R.loadA sz25 rfl (hM.oldRange hbx17) rfl) rfl ?_; clear hA a; intro a hA
          refine D.valg (dj := 95) hA rfl (by kernel_rfl) (by kernel_rfl) rfl (fun _ hM => R.loadA sz25 rfl (hM.oldRange hbx6) rfl) rfl ?_; clear hA a; intro a hA
          refine D.valg (dj := 95) hA rfl (by kernel_rfl) (by kernel_rfl) rfl (fun _ hM => R.loadA sz25 rfl (hM.oldRange hbx17) rfl) rfl ?_; clear hA a; intro a hA
          refine D.callg (dj := 95) hA rfl (by kernel_rfl) rfl (R.callF Tryd.func26 rfl rfl rfl) rfl (iSame Ga ap3 cp3 ap4 cp4 ap5 cp5 T ac3 cc3 ac4 cc4 ac5 cc5 _ (hp3.mem hM) (hp4.mem hM) (hp5.mem hM) (hc3.mem hM) (hc4.mem hM) (hc5.mem hM)) ?_; clear hA a
          rintro e w23 ⟨rfl, hb⟩
          replace hM := hM.callB hb; clear hb
          refine ⟨.bool (decide (Ga = T)), rfl, hM, fun a hA => ?_⟩
          refine D.callg (dj := 95) hA rfl (by kernel_rfl) rfl (R.callF Tryd.func22 rfl rfl rfl) rfl (rSame Ga ap3 cp3 ap4 cp4 ap5 cp5 T ac3 cc3 ac4 cc4 ac5 cc5 _ (hp3.mem hM) (hp4.mem hM) (hp5.mem hM) (hc3.mem hM) (hc4.mem hM) (hc5.mem hM)) ?_; clear hA a
          rintro e w24 ⟨rfl, hb⟩
          replace hM := hM.callB hb; clear hb
          refine ⟨.bool (decide (Ga = T)), rfl, hM, fun a hA => ?_⟩
          refine D.valgF (dj := 95) hA rfl (by kernel_rfl) rfl (fun _ => R.to (v := .bool true) (R.eqlB Tryd.underlying4 rfl rfl) (congrArg Value.bool (by simp))) rfl ?_; clear hA a; intro a hA
          refine D.valF hA rfl (fun _ => R.pickT rfl rfl) rfl ?_; clear hA a; intro a hA
          refine D.valF hA rfl (fun _ => R.assign rfl) rfl ?_; clear hA a; intro a hA
          refine D.done ?_
          replace hA : St 104 [(6, _)] a := hA.sub ((.cons rfl .nil))
          refine Ends.ret1 Tryd.func7 Tryd.results7 hA rfl ?_
          exact ⟨rfl, Mem.trans0 hbs hM.nilL⟩
        ·
          refine Ends.skip ?_
          refine Ends.seq ?_
          replace hM := hM.front (k := 4) rfl
          replace hM := hM.front (k := 4) rfl
          replace hM := hM.front (k := 4) rfl
          replace hM := hM.front (k := 4) rfl
          replace hM := hM.front (k := 4) rfl
          replace hM := Mem.pack (cs := insL 3 22 (⟨Ga.kind, Ga.n, Ga.cap, W1, V1, rsc.map (·.Y)⟩ : Ins) ac3 cc3 ac4 cc4 ac5 cc5 rsc) (L := [pt b7 #[.int .i64 Ga.kind, .int .i64 Ga.n, .int .i64 Ga.cap, .slice ac3 W1.length cc3, .slice ac4 V1.length cc4, .slice ac5 rsc.length cc5] 25, pt b9 #[.int .i64 Ga.kind, .int .i64 Ga.n, .int .i64 Ga.cap, .slice as3 Ga.wt.length cs3, .slice as4 Ga.vl.length cs4, .slice as5 rss.length cs5] 25, bundle (insL 3 22 Ga as3 cs3 as4 cs4 as5 cs5 rss)]) hM
          obtain ⟨-, hc3, hc4, hc5⟩ := insR_of hM (k := 0) rfl rfl
          obtain ⟨-, hs3, hs4, hs5⟩ := insR_of hM (k := 3) rfl hYs
          replace hM := (hM.drop 3).drop 0
          have hlcs : rss.length = Ga.cost.length := by rw [← hYs, List.length_map]
          rw [hlcs] at hM
          have hlct : rsc.length = (⟨Ga.kind, Ga.n, Ga.cap, W1, V1, rsc.map (·.Y)⟩ : Ins).cost.length := (List.length_map ..).symm
          rw [hlct] at hM
          replace hM : Mem _ _ [pt b7 #[.int .i64 ((⟨Ga.kind, Ga.n, Ga.cap, W1, V1, rsc.map (·.Y)⟩ : Ins).kind), .int .i64 ((⟨Ga.kind, Ga.n, Ga.cap, W1, V1, rsc.map (·.Y)⟩ : Ins).n), .int .i64 ((⟨Ga.kind, Ga.n, Ga.cap, W1, V1, rsc.map (·.Y)⟩ : Ins).cap), .slice ac3 (((⟨Ga.kind, Ga.n, Ga.cap, W1, V1, rsc.map (·.Y)⟩ : Ins).wt).length) cc3, .slice ac4 (((⟨Ga.kind, Ga.n, Ga.cap, W1, V1, rsc.map (·.Y)⟩ : Ins).vl).length) cc4, .slice ac5 (((⟨Ga.kind, Ga.n, Ga.cap, W1, V1, rsc.map (·.Y)⟩ : Ins).cost).length) cc5] 25, pt b9 #[.int .i64 Ga.kind, .int .i64 Ga.n, .int .i64 Ga.cap, .slice as3 Ga.wt.length cs3, .slice as4 Ga.vl.length cs4, .slice as5 Ga.cost.length cs5] 25] _ := hM
          generalize (⟨Ga.kind, Ga.n, Ga.cap, W1, V1, rsc.map (·.Y)⟩ : Ins) = T at hM hc3 hc4 hc5
          replace hM : Mem _ _ [pt b7 #[.int .i64 T.kind, .int .i64 T.n, .int .i64 T.cap, .slice ac3 T.wt.length cc3, .slice ac4 T.vl.length cc4, .slice ac5 T.cost.length cc5] 25, pt b9 #[.int .i64 Ga.kind, .int .i64 Ga.n, .int .i64 Ga.cap, .slice as3 Ga.wt.length cs3, .slice as4 Ga.vl.length cs4, .slice as5 Ga.cost.length cs5] 25] _ := hM
          have hbx19 := hM.block (k := 0) rfl
          have hbx20 := hM.block (k := 1) rfl
          have hbs := hbs.trans (hM.below.mono hbs.size)
          have hx3 := hx3.mem hM
          have hx4 := hx4.mem hM
          have hx5 := hx5.mem hM
          have hy3 := hy3.mem hM
          have hy4 := hy4.mem hM
          have hy5 := hy5.mem hM
          have hp3 := hp3.mem hM
          have hp4 := hp4.mem hM
          have hp5 := hp5.mem hM
          have hr3 := hr3.mem hM
          have hr4 := hr4.mem hM
          have hr5 := hr5.mem hM
          have hbx5 := hM.keepB hbx5
          have hbx6 := hM.keepB hbx6
          replace hM := Mem.start w20
          refine Ends.drawn (Mem w20 nof []) (.cons (0, true) (.cons (1, true) (.cons (2, false) (.cons (3, true) (.cons (4, true) (.cons (5, true) (.cons (7, true) (.cons (8, true) (.cons (6, false) (.cons (9, false) (.cons (10, true) (.cons (11, true) (.cons (12, true) .nil))))))))))))) 13 mixed (by kernel_rfl) (by kernel_rfl) (by kernel_rfl) hM.drew ?_
          replace hM := hM.drew
          refine D.val hA rfl (by kernel_rfl) (fun _ hM => R.loadA sz25 rfl (hM.oldRange hbx6) rfl) rfl ?_; clear hA a; intro a hA
          refine D.val hA rfl (by kernel_rfl) (fun _ hM => R.loadA sz25 rfl (hM.oldRange hbx20) rfl) rfl ?_; clear hA a; intro a hA
          refine D.call hA rfl (R.callF Tryd.func22 rfl rfl rfl) rfl (rSame_eq Ga ap3 cp3 ap4 cp4 ap5 cp5 as3 cs3 as4 cs4 as5 cs5 _ (hp3.mem hM) (hp4.mem hM) (hp5.mem hM) (hs3.mem hM) (hs4.mem hM) (hs5.mem hM)) ?_; clear hA a
          rintro e w25 ⟨rfl, hb⟩
          replace hM := hM.callB hb; clear hb
          refine ⟨.bool true, rfl, hM, fun a hA => ?_⟩
          refine D.valF hA rfl (fun _ => R.move rfl) rfl ?_; clear hA a; intro a hA
          refine D.valg (dj := 95) hA rfl (by kernel_rfl) (by kernel_rfl) rfl (fun _ hM => R.loadA sz25 rfl (hM.oldRange hbx6) rfl) rfl ?_; clear hA a; intro a hA
          refine D.valg (dj := 95) hA rfl (by kernel_rfl) (by kernel_rfl) rfl (fun _ hM => R.loadA sz25 rfl (hM.oldRange hbx19) rfl) rfl ?_; clear hA a; intro a hA
          refine D.valg (dj := 95) hA rfl (by kernel_rfl) (by kernel_rfl) rfl (fun _ hM => R.loadA sz25 rfl (hM.oldRange hbx6) rfl) rfl ?_; clear hA a; intro a hA
          refine D.valg (dj := 95) hA rfl (by kernel_rfl) (by kernel_rfl) rfl (fun _ hM => R.loadA sz25 rfl (hM.oldRange hbx19) rfl) rfl ?_; clear hA a; intro a hA
          refine D.callg (dj := 95) hA rfl (by kernel_rfl) rfl (R.callF Tryd.func26 rfl rfl rfl) rfl (iSame Ga ap3 cp3 ap4 cp4 ap5 cp5 T ac3 cc3 ac4 cc4 ac5 cc5 _ (hp3.mem hM) (hp4.mem hM) (hp5.mem hM) (hc3.mem hM) (hc4.mem hM) (hc5.mem hM)) ?_; clear hA a
          rintro e w26 ⟨rfl, hb⟩
          replace hM := hM.callB hb; clear hb
          refine ⟨.bool (decide (Ga = T)), rfl, hM, fun a hA => ?_⟩
          refine D.callg (dj := 95) hA rfl (by kernel_rfl) rfl (R.callF Tryd.func22 rfl rfl rfl) rfl (rSame Ga ap3 cp3 ap4 cp4 ap5 cp5 T ac3 cc3 ac4 cc4 ac5 cc5 _ (hp3.mem hM) (hp4.mem hM) (hp5.mem hM) (hc3.mem hM) (hc4.mem hM) (hc5.mem hM)) ?_; clear hA a
          rintro e w27 ⟨rfl, hb⟩
          replace hM := hM.callB hb; clear hb
          refine ⟨.bool (decide (Ga = T)), rfl, hM, fun a hA => ?_⟩
          refine D.valgF (dj := 95) hA rfl (by kernel_rfl) rfl (fun _ => R.to (v := .bool true) (R.eqlB Tryd.underlying4 rfl rfl) (congrArg Value.bool (by simp))) rfl ?_; clear hA a; intro a hA
          refine D.valF hA rfl (fun _ => R.pickT rfl rfl) rfl ?_; clear hA a; intro a hA
          refine D.valF hA rfl (fun _ => R.assign rfl) rfl ?_; clear hA a; intro a hA
          refine D.done ?_
          replace hA : St 104 [(6, _)] a := hA.sub ((.cons rfl .nil))
          refine Ends.ret1 Tryd.func7 Tryd.results7 hA rfl ?_
          exact ⟨rfl, Mem.trans0 hbs hM.nilL⟩
      ·
        refine Ends.region ?_
        refine S.val hA (R.move rfl) rfl ?_; clear hA a; intro a hA
        refine S.val hA (R.fieldAddr (q := 5) fi25_5 rfl rfl rfl) rfl ?_; clear hA a; intro a hA
        refine S.val hA (R.load sz23 rfl (hM.cell (k := 4) rfl rfl)) rfl ?_; clear hA a; intro a hA
        refine S.val hA (R.lenS Tryd.underlying23 rfl rfl) rfl ?_; clear hA a; intro a hA
        refine S.val hA (R.lss rfl rfl) rfl ?_; clear hA a; intro a hA
        refine S.val hA (R.move rfl) rfl ?_; clear hA a; intro a hA
        refine hA.split (d := 74) rfl ?_ ?_
        · clear hA; intro hg21 hA
          refine S.valg (dj := 74) hA (by kernel_rfl) rfl (R.fieldAddr (q := 5) fi25_5 rfl rfl rfl) rfl ?_; clear hA a; intro a hA
          refine S.valg (dj := 74) hA (by kernel_rfl) rfl (R.load sz23 rfl (hM.cell (k := 4) rfl rfl)) rfl ?_; clear hA a; intro a hA
          refine S.valg (dj := 74) hA (by kernel_rfl) rfl (R.move rfl) rfl ?_; clear hA a; intro a hA
          refine S.valg (dj := 74) hA (by kernel_rfl) rfl (R.idxRn (hM.rowsV (k := 2) rfl (k2 := 3) rfl) (j := n11) sl23 rfl rfl (by omega) (rfl)) rfl ?_; clear hA a; intro a hA
          obtain ⟨ra22, rc23, hrow24, hld25⟩ := (hM.rowsV_ (k := 2) rfl (k2 := 3) rfl).atP (i := n11) (by rw [List.length_map]; omega)
          refine S.valg (dj := 74) hA (by kernel_rfl) rfl (hld25 _ _ _ _ _ _ (Mem.start _) sz22 rfl) rfl ?_; clear hA a; intro a hA
          refine S.valg (dj := 74) hA (by kernel_rfl) rfl (R.lenS Tryd.underlying22 rfl rfl) rfl ?_; clear hA a; intro a hA
          refine S.valg (dj := 74) hA (by kernel_rfl) rfl (R.gtr rfl rfl) rfl ?_; clear hA a; intro a hA
          refine S.val hA (R.pickT rfl rfl) rfl ?_; clear hA a; intro a hA
          refine S.done ?_
          replace hA : St 104 [(3, _), (7, _), (8, _), (9, _), (82, _)] a := hA.sub ((.cons rfl (.cons rfl (.cons rfl (.cons rfl (.cons rfl .nil))))))
          exact hJ _ _ ⟨hA.sub (.cons rfl (.cons rfl (.cons rfl (.cons rfl (.cons (by first | rfl | exact congrArg (fun b => some (Value.bool b)) (by first | exact decide_eq_decide.2 (by omega) | exact or_bool (by omega) | exact and_bool (by omega) | (simp; done) | (simp [hg21]; done) | (have h80 := hg21; (try simp at h80); simp [h80]; done) | exact (decide_eq_false (fun h9 => hg21 h9.1)).symm)) .nil))))), hM⟩
        · clear hA; intro hg21 hA
          refine S.no (dj := 74) hA (by kernel_rfl) rfl rfl rfl ?_; clear hA a; intro a hA
          refine S.no (dj := 74) hA (by kernel_rfl) rfl rfl rfl ?_; clear hA a; intro a hA
          refine S.no (dj := 74) hA (by kernel_rfl) rfl rfl rfl ?_; clear hA a; intro a hA
          refine S.no (dj := 74) hA (by kernel_rfl) rfl rfl rfl ?_; clear hA a; intro a hA
          refine S.no (dj := 74) hA (by kernel_rfl) rfl rfl rfl ?_; clear hA a; intro a hA
          refine S.no (dj := 74) hA (by kernel_rfl) rfl rfl rfl ?_; clear hA a; intro a hA
          refine S.no (dj := 74) hA (by kernel_rfl) rfl rfl rfl ?_; clear hA a; intro a hA
          refine S.val hA (R.pickF rfl rfl) rfl ?_; clear hA a; intro a hA
          refine S.done ?_
          replace hA : St 104 [(3, _), (7, _), (8, _), (9, _), (82, _)] a := hA.sub ((.cons rfl (.cons rfl (.cons rfl (.cons rfl (.cons rfl .nil))))))
          exact hJ _ _ ⟨hA.sub (.cons rfl (.cons rfl (.cons rfl (.cons rfl (.cons (by first | rfl | exact congrArg (fun b => some (Value.bool b)) (by first | exact decide_eq_decide.2 (by omega) | exact or_bool (by omega) | exact and_bool (by omega) | (simp; done) | (simp [hg21]; done) | (have h80 := hg21; (try simp at h80); simp [h80]; done) | exact (decide_eq_false (fun h9 => hg21 h9.1)).symm)) .nil))))), hM⟩
    ·
      refine Ends.skip ?_
      refine Ends.seq ?_
      refine Ends.seq ?_
      refine Ends.cut (fun (a : Act) (wv : World) => St 104 [(3, .pointer (some ⟨b1, 0, none⟩)), (7, .pointer (some ⟨b7, 0, none⟩)), (8, .pointer (some ⟨b9, 0, none⟩)), (9, .int .i64 ((n11 : Int))), (82, .bool (decide ((((n11 : Int)) < ((rsc.length : Int)) ∧ 0 < ((((((rsc.map (·.Y))).getD n11 [])).length : Int))))))] a ∧ Mem w6 nof [own 3 1 (.slice ac3 W1.length cc3) W1.length (W1.map (Value.int .i64)), own 3 1 (.slice ac4 Ga.vl.length cc4) Ga.vl.length (Ga.vl.map (Value.int .i64)), own 22 1 (.slice ac5 rsc.length cc5) rsc.length ((rsc.map orV)), bundle (rsc.map (orC 3)), pt b7 #[.int .i64 Ga.kind, .int .i64 Ga.n, .int .i64 Ga.cap, .slice ac3 W1.length cc3, .slice ac4 Ga.vl.length cc4, .slice ac5 rsc.length cc5] 25, pt b9 #[.int .i64 Ga.kind, .int .i64 Ga.n, .int .i64 Ga.cap, .slice as3 Ga.wt.length cs3, .slice as4 Ga.vl.length cs4, .slice as5 rss.length cs5] 25, bundle (insL 3 22 Ga as3 cs3 as4 cs4 as5 cs5 rss)] wv) ?_ (fun k2 hJ => ?_)
      · clear hA hM a; rintro a w28 ⟨hA, hM⟩
        refine Ends.ite hA rfl (fun hc26 => ?_) (fun hc26 => ?_)
        ·
          obtain ⟨Yr, ar, cr, hxr⟩ := or_at (rs := rsc) (i := n11) (by omega)
          have hyr : (rsc.map (·.Y)).getD n11 [] = Yr := rowY hxr
          have hif := hc26
          rw [hyr] at hif
          replace hM := hM.front (k := 3) rfl
          replace hM := hM.openB hxr
          replace hM : Mem _ _ [own 3 1 (.slice ar Yr.length cr) Yr.length (Yr.map (Value.int .i64)), bundle ((rsc.eraseIdx n11).map (orC 3)), own 3 1 (.slice ac3 W1.length cc3) W1.length (W1.map (Value.int .i64)), own 3 1 (.slice ac4 Ga.vl.length cc4) Ga.vl.length (Ga.vl.map (Value.int .i64)), own 22 1 (.slice ac5 rsc.length cc5) rsc.length ((rsc.map orV)), pt b7 #[.int .i64 Ga.kind, .int .i64 Ga.n, .int .i64 Ga.cap, .slice ac3 W1.length cc3, .slice ac4 Ga.vl.length cc4, .slice ac5 rsc.length cc5] 25, pt b9 #[.int .i64 Ga.kind, .int .i64 Ga.n, .int .i64 Ga.cap, .slice as3 Ga.wt.length cs3, .slice as4 Ga.vl.length cs4, .slice as5 rss.length cs5] 25, bundle (insL 3 22 Ga as3 cs3 as4 cs4 as5 cs5 rss)] _ := hM
          obtain ⟨gr, hgr⟩ := hM.ownAt (k := 0) rfl (by omega)
          obtain ⟨gb, hgb⟩ := hM.ownAt (k := 4) rfl (by omega)
          subst hgr
          rw [hgb] at hM
          replace hM : Mem _ _ [own 3 1 (.slice ((some ⟨gr, 0, none⟩)) Yr.length cr) Yr.length (Yr.map (Value.int .i64)), bundle ((rsc.eraseIdx n11).map (orC 3)), own 3 1 (.slice ac3 W1.length cc3) W1.length (W1.map (Value.int .i64)), own 3 1 (.slice ac4 Ga.vl.length cc4) Ga.vl.length (Ga.vl.map (Value.int .i64)), own 22 1 (.slice ((some ⟨gb, 0, none⟩)) rsc.length cc5) rsc.length ((rsc.map orV)), pt b7 #[.int .i64 Ga.kind, .int .i64 Ga.n, .int .i64 Ga.cap, .slice ac3 W1.length cc3, .slice ac4 Ga.vl.length cc4, .slice ((some ⟨gb, 0, none⟩)) rsc.length cc5] 25, pt b9 #[.int .i64 Ga.kind, .int .i64 Ga.n, .int .i64 Ga.cap, .slice as3 Ga.wt.length cs3, .slice as4 Ga.vl.length cs4, .slice as5 rss.length cs5] 25, bundle (insL 3 22 Ga as3 cs3 as4 cs4 as5 cs5 rss)] _ := hM
          refine Ends.region ?_
          refine S.val hA (R.fieldAddr (q := 5) fi25_5 rfl rfl rfl) rfl ?_; clear hA a; intro a hA
          refine S.val hA (R.load sz23 rfl (hM.cell (k := 5) rfl rfl)) rfl ?_; clear hA a; intro a hA
          refine S.val hA (R.move rfl) rfl ?_; clear hA a; intro a hA
          refine S.val hA (R.indexAddr (q := n11) sl23 rfl rfl (by omega) (by omega)) rfl ?_; clear hA a; intro a hA
          refine S.val hA (R.load sz22 rfl (hM.ownCell (k := 4) rfl (orV_at hxr))) rfl ?_; clear hA a; intro a hA
          refine S.val hA (R.indexAddr (q := 0) sl22 rfl rfl (by omega) (rfl)) rfl ?_; clear hA a; intro a hA
          refine S.val hA (R.load sz3 rfl (hM.ownCell (k := 0) rfl (mapi_get _ _ (by omega)))) rfl ?_; clear hA a; intro a hA
          refine S.val hA (R.bits (by simp) rfl rfl) rfl ?_; clear hA a; intro a hA
          refine S.val hA (R.indexAddr (q := 0) sl22 rfl rfl (by omega) (rfl)) rfl ?_; clear hA a; intro a hA
          refine S.storeO (k := 0) hA hM sz3 rfl rfl rfl rfl (mapi_get Yr 0 (by first | omega | (simp only [List.length_set]; omega) | (simp; done))) ?_; clear hM; intro w29 hM; rw [mapi_set] at hM
          replace hM : Mem _ _ [own 3 1 (.slice ((some ⟨gr, 0, none⟩)) Yr.length cr) Yr.length (((Yr.set 0 (bits .xor .i64 (Yr.getD 0 0) 1))).map (Value.int .i64)), bundle ((rsc.eraseIdx n11).map (orC 3)), own 3 1 (.slice ac3 W1.length cc3) W1.length (W1.map (Value.int .i64)), own 3 1 (.slice ac4 Ga.vl.length cc4) Ga.vl.length (Ga.vl.map (Value.int .i64)), own 22 1 (.slice ((some ⟨gb, 0, none⟩)) rsc.length cc5) rsc.length ((rsc.map orV)), pt b7 #[.int .i64 Ga.kind, .int .i64 Ga.n, .int .i64 Ga.cap, .slice ac3 W1.length cc3, .slice ac4 Ga.vl.length cc4, .slice ((some ⟨gb, 0, none⟩)) rsc.length cc5] 25, pt b9 #[.int .i64 Ga.kind, .int .i64 Ga.n, .int .i64 Ga.cap, .slice as3 Ga.wt.length cs3, .slice as4 Ga.vl.length cs4, .slice as5 rss.length cs5] 25, bundle (insL 3 22 Ga as3 cs3 as4 cs4 as5 cs5 rss)] _ := hM
          refine S.done ?_
          replace hM := hM.front (k := 1) rfl
          replace hM := hM.front (k := 1) rfl
          have hsl : ((Yr.set 0 (bits .xor .i64 (Yr.getD 0 0) 1))).length = Yr.length := List.length_set
          rw [← hsl] at hM
          replace hM := Mem.closeB (f := orC 3) (y := (⟨(Yr.set 0 (bits .xor .i64 (Yr.getD 0 0) 1)), (some ⟨gr, 0, none⟩), cr⟩ : OwR)) hM hxr
          rw [← set_orV hxr (u := (⟨(Yr.set 0 (bits .xor .i64 (Yr.getD 0 0) 1)), (some ⟨gr, 0, none⟩), cr⟩ : OwR)) (by show Value.slice _ _ _ = Value.slice _ _ _; rw [hsl]), ← hgb, show rsc.length = (rsc.set n11 (⟨(Yr.set 0 (bits .xor .i64 (Yr.getD 0 0) 1)), (some ⟨gr, 0, none⟩), cr⟩ : OwR)).length from List.length_set.symm] at hM
          obtain ⟨R1, hR1⟩ : ∃ R1, R1 = rsc.set n11 (⟨(Yr.set 0 (bits .xor .i64 (Yr.getD 0 0) 1)), (some ⟨gr, 0, none⟩), cr⟩ : OwR) := ⟨_, rfl⟩
          rw [← hR1] at hM
          replace hM : Mem _ _ [bundle (R1.map (orC 3)), own 3 1 (.slice ac3 W1.length cc3) W1.length (W1.map (Value.int .i64)), own 3 1 (.slice ac4 Ga.vl.length cc4) Ga.vl.length (Ga.vl.map (Value.int .i64)), own 22 1 (.slice ac5 R1.length cc5) R1.length ((R1.map orV)), pt b7 #[.int .i64 Ga.kind, .int .i64 Ga.n, .int .i64 Ga.cap, .slice ac3 W1.length cc3, .slice ac4 Ga.vl.length cc4, .slice ac5 R1.length cc5] 25, pt b9 #[.int .i64 Ga.kind, .int .i64 Ga.n, .int .i64 Ga.cap, .slice as3 Ga.wt.length cs3, .slice as4 Ga.vl.length cs4, .slice as5 rss.length cs5] 25, bundle (insL 3 22 Ga as3 cs3 as4 cs4 as5 cs5 rss)] _ := hM
          replace hA : St 104 [(3, _), (7, _), (8, _)] a := hA.sub ((.cons rfl (.cons rfl (.cons rfl .nil))))
          refine Ends.seq ?_
          replace hM := hM.front (k := 4) rfl
          replace hM := hM.front (k := 1) rfl
          replace hM := hM.front (k := 4) rfl
          replace hM := hM.front (k := 4) rfl
          replace hM := hM.front (k := 4) rfl
          replace hM := Mem.pack (cs := insL 3 22 (⟨Ga.kind, Ga.n, Ga.cap, W1, Ga.vl, R1.map (·.Y)⟩ : Ins) ac3 cc3 ac4 cc4 ac5 cc5 R1) (L := [pt b7 #[.int .i64 Ga.kind, .int .i64 Ga.n, .int .i64 Ga.cap, .slice ac3 W1.length cc3, .slice ac4 Ga.vl.length cc4, .slice ac5 R1.length cc5] 25, pt b9 #[.int .i64 Ga.kind, .int .i64 Ga.n, .int .i64 Ga.cap, .slice as3 Ga.wt.length cs3, .slice as4 Ga.vl.length cs4, .slice as5 rss.length cs5] 25, bundle (insL 3 22 Ga as3 cs3 as4 cs4 as5 cs5 rss)]) hM
          obtain ⟨-, hc3, hc4, hc5⟩ := insR_of hM (k := 0) rfl rfl
          obtain ⟨-, hs3, hs4, hs5⟩ := insR_of hM (k := 3) rfl hYs
          replace hM := (hM.drop 3).drop 0
          have hlcs : rss.length = Ga.cost.length := by rw [← hYs, List.length_map]
          rw [hlcs] at hM
          have hlct : R1.length = (⟨Ga.kind, Ga.n, Ga.cap, W1, Ga.vl, R1.map (·.Y)⟩ : Ins).cost.length := (List.length_map ..).symm
          rw [hlct] at hM
          replace hM : Mem _ _ [pt b7 #[.int .i64 ((⟨Ga.kind, Ga.n, Ga.cap, W1, Ga.vl, R1.map (·.Y)⟩ : Ins).kind), .int .i64 ((⟨Ga.kind, Ga.n, Ga.cap, W1, Ga.vl, R1.map (·.Y)⟩ : Ins).n), .int .i64 ((⟨Ga.kind, Ga.n, Ga.cap, W1, Ga.vl, R1.map (·.Y)⟩ : Ins).cap), .slice ac3 (((⟨Ga.kind, Ga.n, Ga.cap, W1, Ga.vl, R1.map (·.Y)⟩ : Ins).wt).length) cc3, .slice ac4 (((⟨Ga.kind, Ga.n, Ga.cap, W1, Ga.vl, R1.map (·.Y)⟩ : Ins).vl).length) cc4, .slice ac5 (((⟨Ga.kind, Ga.n, Ga.cap, W1, Ga.vl, R1.map (·.Y)⟩ : Ins).cost).length) cc5] 25, pt b9 #[.int .i64 Ga.kind, .int .i64 Ga.n, .int .i64 Ga.cap, .slice as3 Ga.wt.length cs3, .slice as4 Ga.vl.length cs4, .slice as5 Ga.cost.length cs5] 25] _ := hM
          generalize (⟨Ga.kind, Ga.n, Ga.cap, W1, Ga.vl, R1.map (·.Y)⟩ : Ins) = T at hM hc3 hc4 hc5
          replace hM : Mem _ _ [pt b7 #[.int .i64 T.kind, .int .i64 T.n, .int .i64 T.cap, .slice ac3 T.wt.length cc3, .slice ac4 T.vl.length cc4, .slice ac5 T.cost.length cc5] 25, pt b9 #[.int .i64 Ga.kind, .int .i64 Ga.n, .int .i64 Ga.cap, .slice as3 Ga.wt.length cs3, .slice as4 Ga.vl.length cs4, .slice as5 Ga.cost.length cs5] 25] _ := hM
          have hbx27 := hM.block (k := 0) rfl
          have hbx28 := hM.block (k := 1) rfl
          have hbs := hbs.trans (hM.below.mono hbs.size)
          have hx3 := hx3.mem hM
          have hx4 := hx4.mem hM
          have hx5 := hx5.mem hM
          have hy3 := hy3.mem hM
          have hy4 := hy4.mem hM
          have hy5 := hy5.mem hM
          have hp3 := hp3.mem hM
          have hp4 := hp4.mem hM
          have hp5 := hp5.mem hM
          have hr3 := hr3.mem hM
          have hr4 := hr4.mem hM
          have hr5 := hr5.mem hM
          have hbx5 := hM.keepB hbx5
          have hbx6 := hM.keepB hbx6
          replace hM := Mem.start w29
          refine Ends.drawn (Mem w29 nof []) (.cons (0, true) (.cons (1, true) (.cons (2, false) (.cons (3, true) (.cons (4, true) (.cons (5, true) (.cons (7, true) (.cons (8, true) (.cons (6, false) (.cons (9, false) (.cons (10, true) (.cons (11, true) (.cons (12, true) .nil))))))))))))) 13 mixed (by kernel_rfl) (by kernel_rfl) (by kernel_rfl) hM.drew ?_
          replace hM := hM.drew
          refine D.val hA rfl (by kernel_rfl) (fun _ hM => R.loadA sz25 rfl (hM.oldRange hbx6) rfl) rfl ?_; clear hA a; intro a hA
          refine D.val hA rfl (by kernel_rfl) (fun _ hM => R.loadA sz25 rfl (hM.oldRange hbx28) rfl) rfl ?_; clear hA a; intro a hA
          refine D.call hA rfl (R.callF Tryd.func22 rfl rfl rfl) rfl (rSame_eq Ga ap3 cp3 ap4 cp4 ap5 cp5 as3 cs3 as4 cs4 as5 cs5 _ (hp3.mem hM) (hp4.mem hM) (hp5.mem hM) (hs3.mem hM) (hs4.mem hM) (hs5.mem hM)) ?_; clear hA a
          rintro e w30 ⟨rfl, hb⟩
          replace hM := hM.callB hb; clear hb
          refine ⟨.bool true, rfl, hM, fun a hA => ?_⟩
          refine D.valF hA rfl (fun _ => R.move rfl) rfl ?_; clear hA a; intro a hA
          refine D.valg (dj := 95) hA rfl (by kernel_rfl) (by kernel_rfl) rfl (fun _ hM => R.loadA sz25 rfl (hM.oldRange hbx6) rfl) rfl ?_; clear hA a; intro a hA
          refine D.valg (dj := 95) hA rfl (by kernel_rfl) (by kernel_rfl) rfl (fun _ hM => R.loadA sz25 rfl (hM.oldRange hbx27) rfl) rfl ?_; clear hA a; intro a hA
          refine D.valg (dj := 95) hA rfl (by kernel_rfl) (by kernel_rfl) rfl (fun _ hM => R.loadA sz25 rfl (hM.oldRange hbx6) rfl) rfl ?_; clear hA a; intro a hA
          refine D.valg (dj := 95) hA rfl (by kernel_rfl) (by kernel_rfl) rfl (fun _ hM => R.loadA sz25 rfl (hM.oldRange hbx27) rfl) rfl ?_; clear hA a; intro a hA
          refine D.callg (dj := 95) hA rfl (by kernel_rfl) rfl (R.callF Tryd.func26 rfl rfl rfl) rfl (iSame Ga ap3 cp3 ap4 cp4 ap5 cp5 T ac3 cc3 ac4 cc4 ac5 cc5 _ (hp3.mem hM) (hp4.mem hM) (hp5.mem hM) (hc3.mem hM) (hc4.mem hM) (hc5.mem hM)) ?_; clear hA a
          rintro e w31 ⟨rfl, hb⟩
          replace hM := hM.callB hb; clear hb
          refine ⟨.bool (decide (Ga = T)), rfl, hM, fun a hA => ?_⟩
          refine D.callg (dj := 95) hA rfl (by kernel_rfl) rfl (R.callF Tryd.func22 rfl rfl rfl) rfl (rSame Ga ap3 cp3 ap4 cp4 ap5 cp5 T ac3 cc3 ac4 cc4 ac5 cc5 _ (hp3.mem hM) (hp4.mem hM) (hp5.mem hM) (hc3.mem hM) (hc4.mem hM) (hc5.mem hM)) ?_; clear hA a
          rintro e w32 ⟨rfl, hb⟩
          replace hM := hM.callB hb; clear hb
          refine ⟨.bool (decide (Ga = T)), rfl, hM, fun a hA => ?_⟩
          refine D.valgF (dj := 95) hA rfl (by kernel_rfl) rfl (fun _ => R.to (v := .bool true) (R.eqlB Tryd.underlying4 rfl rfl) (congrArg Value.bool (by simp))) rfl ?_; clear hA a; intro a hA
          refine D.valF hA rfl (fun _ => R.pickT rfl rfl) rfl ?_; clear hA a; intro a hA
          refine D.valF hA rfl (fun _ => R.assign rfl) rfl ?_; clear hA a; intro a hA
          refine D.done ?_
          replace hA : St 104 [(6, _)] a := hA.sub ((.cons rfl .nil))
          refine Ends.ret1 Tryd.func7 Tryd.results7 hA rfl ?_
          exact ⟨rfl, Mem.trans0 hbs hM.nilL⟩
        ·
          refine Ends.skip ?_
          refine Ends.seq ?_
          replace hM := hM.front (k := 4) rfl
          replace hM := hM.front (k := 4) rfl
          replace hM := hM.front (k := 4) rfl
          replace hM := hM.front (k := 4) rfl
          replace hM := hM.front (k := 4) rfl
          replace hM := Mem.pack (cs := insL 3 22 (⟨Ga.kind, Ga.n, Ga.cap, W1, Ga.vl, rsc.map (·.Y)⟩ : Ins) ac3 cc3 ac4 cc4 ac5 cc5 rsc) (L := [pt b7 #[.int .i64 Ga.kind, .int .i64 Ga.n, .int .i64 Ga.cap, .slice ac3 W1.length cc3, .slice ac4 Ga.vl.length cc4, .slice ac5 rsc.length cc5] 25, pt b9 #[.int .i64 Ga.kind, .int .i64 Ga.n, .int .i64 Ga.cap, .slice as3 Ga.wt.length cs3, .slice as4 Ga.vl.length cs4, .slice as5 rss.length cs5] 25, bundle (insL 3 22 Ga as3 cs3 as4 cs4 as5 cs5 rss)]) hM
          obtain ⟨-, hc3, hc4, hc5⟩ := insR_of hM (k := 0) rfl rfl
          obtain ⟨-, hs3, hs4, hs5⟩ := insR_of hM (k := 3) rfl hYs
          replace hM := (hM.drop 3).drop 0
          have hlcs : rss.length = Ga.cost.length := by rw [← hYs, List.length_map]
          rw [hlcs] at hM
          have hlct : rsc.length = (⟨Ga.kind, Ga.n, Ga.cap, W1, Ga.vl, rsc.map (·.Y)⟩ : Ins).cost.length := (List.length_map ..).symm
          rw [hlct] at hM
          replace hM : Mem _ _ [pt b7 #[.int .i64 ((⟨Ga.kind, Ga.n, Ga.cap, W1, Ga.vl, rsc.map (·.Y)⟩ : Ins).kind), .int .i64 ((⟨Ga.kind, Ga.n, Ga.cap, W1, Ga.vl, rsc.map (·.Y)⟩ : Ins).n), .int .i64 ((⟨Ga.kind, Ga.n, Ga.cap, W1, Ga.vl, rsc.map (·.Y)⟩ : Ins).cap), .slice ac3 (((⟨Ga.kind, Ga.n, Ga.cap, W1, Ga.vl, rsc.map (·.Y)⟩ : Ins).wt).length) cc3, .slice ac4 (((⟨Ga.kind, Ga.n, Ga.cap, W1, Ga.vl, rsc.map (·.Y)⟩ : Ins).vl).length) cc4, .slice ac5 (((⟨Ga.kind, Ga.n, Ga.cap, W1, Ga.vl, rsc.map (·.Y)⟩ : Ins).cost).length) cc5] 25, pt b9 #[.int .i64 Ga.kind, .int .i64 Ga.n, .int .i64 Ga.cap, .slice as3 Ga.wt.length cs3, .slice as4 Ga.vl.length cs4, .slice as5 Ga.cost.length cs5] 25] _ := hM
          generalize (⟨Ga.kind, Ga.n, Ga.cap, W1, Ga.vl, rsc.map (·.Y)⟩ : Ins) = T at hM hc3 hc4 hc5
          replace hM : Mem _ _ [pt b7 #[.int .i64 T.kind, .int .i64 T.n, .int .i64 T.cap, .slice ac3 T.wt.length cc3, .slice ac4 T.vl.length cc4, .slice ac5 T.cost.length cc5] 25, pt b9 #[.int .i64 Ga.kind, .int .i64 Ga.n, .int .i64 Ga.cap, .slice as3 Ga.wt.length cs3, .slice as4 Ga.vl.length cs4, .slice as5 Ga.cost.length cs5] 25] _ := hM
          have hbx29 := hM.block (k := 0) rfl
          have hbx30 := hM.block (k := 1) rfl
          have hbs := hbs.trans (hM.below.mono hbs.size)
          have hx3 := hx3.mem hM
          have hx4 := hx4.mem hM
          have hx5 := hx5.mem hM
          have hy3 := hy3.mem hM
          have hy4 := hy4.mem hM
          have hy5 := hy5.mem hM
          have hp3 := hp3.mem hM
          have hp4 := hp4.mem hM
          have hp5 := hp5.mem hM
          have hr3 := hr3.mem hM
          have hr4 := hr4.mem hM
          have hr5 := hr5.mem hM
          have hbx5 := hM.keepB hbx5
          have hbx6 := hM.keepB hbx6
          replace hM := Mem.start w28
          refine Ends.drawn (Mem w28 nof []) (.cons (0, true) (.cons (1, true) (.cons (2, false) (.cons (3, true) (.cons (4, true) (.cons (5, true) (.cons (7, true) (.cons (8, true) (.cons (6, false) (.cons (9, false) (.cons (10, true) (.cons (11, true) (.cons (12, true) .nil))))))))))))) 13 mixed (by kernel_rfl) (by kernel_rfl) (by kernel_rfl) hM.drew ?_
          replace hM := hM.drew
          refine D.val hA rfl (by kernel_rfl) (fun _ hM => R.loadA sz25 rfl (hM.oldRange hbx6) rfl) rfl ?_; clear hA a; intro a hA
          refine D.val hA rfl (by kernel_rfl) (fun _ hM => R.loadA sz25 rfl (hM.oldRange hbx30) rfl) rfl ?_; clear hA a; intro a hA
          refine D.call hA rfl (R.callF Tryd.func22 rfl rfl rfl) rfl (rSame_eq Ga ap3 cp3 ap4 cp4 ap5 cp5 as3 cs3 as4 cs4 as5 cs5 _ (hp3.mem hM) (hp4.mem hM) (hp5.mem hM) (hs3.mem hM) (hs4.mem hM) (hs5.mem hM)) ?_; clear hA a
          rintro e w33 ⟨rfl, hb⟩
          replace hM := hM.callB hb; clear hb
          refine ⟨.bool true, rfl, hM, fun a hA => ?_⟩
          refine D.valF hA rfl (fun _ => R.move rfl) rfl ?_; clear hA a; intro a hA
          refine D.valg (dj := 95) hA rfl (by kernel_rfl) (by kernel_rfl) rfl (fun _ hM => R.loadA sz25 rfl (hM.oldRange hbx6) rfl) rfl ?_; clear hA a; intro a hA
          refine D.valg (dj := 95) hA rfl (by kernel_rfl) (by kernel_rfl) rfl (fun _ hM => R.loadA sz25 rfl (hM.oldRange hbx29) rfl) rfl ?_; clear hA a; intro a hA
          refine D.valg (dj := 95) hA rfl (by kernel_rfl) (by kernel_rfl) rfl (fun _ hM => R.loadA sz25 rfl (hM.oldRange hbx6) rfl) rfl ?_; clear hA a; intro a hA
          refine D.valg (dj := 95) hA rfl (by kernel_rfl) (by kernel_rfl) rfl (fun _ hM => R.loadA sz25 rfl (hM.oldRange hbx29) rfl) rfl ?_; clear hA a; intro a hA
          refine D.callg (dj := 95) hA rfl (by kernel_rfl) rfl (R.callF Tryd.func26 rfl rfl rfl) rfl (iSame Ga ap3 cp3 ap4 cp4 ap5 cp5 T ac3 cc3 ac4 cc4 ac5 cc5 _ (hp3.mem hM) (hp4.mem hM) (hp5.mem hM) (hc3.mem hM) (hc4.mem hM) (hc5.mem hM)) ?_; clear hA a
          rintro e w34 ⟨rfl, hb⟩
          replace hM := hM.callB hb; clear hb
          refine ⟨.bool (decide (Ga = T)), rfl, hM, fun a hA => ?_⟩
          refine D.callg (dj := 95) hA rfl (by kernel_rfl) rfl (R.callF Tryd.func22 rfl rfl rfl) rfl (rSame Ga ap3 cp3 ap4 cp4 ap5 cp5 T ac3 cc3 ac4 cc4 ac5 cc5 _ (hp3.mem hM) (hp4.mem hM) (hp5.mem hM) (hc3.mem hM) (hc4.mem hM) (hc5.mem hM)) ?_; clear hA a
          rintro e w35 ⟨rfl, hb⟩
          replace hM := hM.callB hb; clear hb
          refine ⟨.bool (decide (Ga = T)), rfl, hM, fun a hA => ?_⟩
          refine D.valgF (dj := 95) hA rfl (by kernel_rfl) rfl (fun _ => R.to (v := .bool true) (R.eqlB Tryd.underlying4 rfl rfl) (congrArg Value.bool (by simp))) rfl ?_; clear hA a; intro a hA
          refine D.valF hA rfl (fun _ => R.pickT rfl rfl) rfl ?_; clear hA a; intro a hA
          refine D.valF hA rfl (fun _ => R.assign rfl) rfl ?_; clear hA a; intro a hA
          refine D.done ?_
          replace hA : St 104 [(6, _)] a := hA.sub ((.cons rfl .nil))
          refine Ends.ret1 Tryd.func7 Tryd.results7 hA rfl ?_
          exact ⟨rfl, Mem.trans0 hbs hM.nilL⟩
      ·
        refine Ends.region ?_
        refine S.val hA (R.move rfl) rfl ?_; clear hA a; intro a hA
        refine S.val hA (R.fieldAddr (q := 5) fi25_5 rfl rfl rfl) rfl ?_; clear hA a; intro a hA
        refine S.val hA (R.load sz23 rfl (hM.cell (k := 4) rfl rfl)) rfl ?_; clear hA a; intro a hA
        refine S.val hA (R.lenS Tryd.underlying23 rfl rfl) rfl ?_; clear hA a; intro a hA
        refine S.val hA (R.lss rfl rfl) rfl ?_; clear hA a; intro a hA
        refine S.val hA (R.move rfl) rfl ?_; clear hA a; intro a hA
        refine hA.split (d := 74) rfl ?_ ?_
        · clear hA; intro hg31 hA
          refine S.valg (dj := 74) hA (by kernel_rfl) rfl (R.fieldAddr (q := 5) fi25_5 rfl rfl rfl) rfl ?_; clear hA a; intro a hA
          refine S.valg (dj := 74) hA (by kernel_rfl) rfl (R.load sz23 rfl (hM.cell (k := 4) rfl rfl)) rfl ?_; clear hA a; intro a hA
          refine S.valg (dj := 74) hA (by kernel_rfl) rfl (R.move rfl) rfl ?_; clear hA a; intro a hA
          refine S.valg (dj := 74) hA (by kernel_rfl) rfl (R.idxRn (hM.rowsV (k := 2) rfl (k2 := 3) rfl) (j := n11) sl23 rfl rfl (by omega) (rfl)) rfl ?_; clear hA a; intro a hA
          obtain ⟨ra32, rc33, hrow34, hld35⟩ := (hM.rowsV_ (k := 2) rfl (k2 := 3) rfl).atP (i := n11) (by rw [List.length_map]; omega)
          refine S.valg (dj := 74) hA (by kernel_rfl) rfl (hld35 _ _ _ _ _ _ (Mem.start _) sz22 rfl) rfl ?_; clear hA a; intro a hA
          refine S.valg (dj := 74) hA (by kernel_rfl) rfl (R.lenS Tryd.underlying22 rfl rfl) rfl ?_; clear hA a; intro a hA
          refine S.valg (dj := 74) hA (by kernel_rfl) rfl (R.gtr rfl rfl) rfl ?_; clear hA a; intro a hA
          refine S.val hA (R.pickT rfl rfl) rfl ?_; clear hA a; intro a hA
          refine S.done ?_
          replace hA : St 104 [(3, _), (7, _), (8, _), (9, _), (82, _)] a := hA.sub ((.cons rfl (.cons rfl (.cons rfl (.cons rfl (.cons rfl .nil))))))
          exact hJ _ _ ⟨hA.sub (.cons rfl (.cons rfl (.cons rfl (.cons rfl (.cons (by first | rfl | exact congrArg (fun b => some (Value.bool b)) (by first | exact decide_eq_decide.2 (by omega) | exact or_bool (by omega) | exact and_bool (by omega) | (simp; done) | (simp [hg31]; done) | (have h80 := hg31; (try simp at h80); simp [h80]; done) | exact (decide_eq_false (fun h9 => hg31 h9.1)).symm)) .nil))))), hM⟩
        · clear hA; intro hg31 hA
          refine S.no (dj := 74) hA (by kernel_rfl) rfl rfl rfl ?_; clear hA a; intro a hA
          refine S.no (dj := 74) hA (by kernel_rfl) rfl rfl rfl ?_; clear hA a; intro a hA
          refine S.no (dj := 74) hA (by kernel_rfl) rfl rfl rfl ?_; clear hA a; intro a hA
          refine S.no (dj := 74) hA (by kernel_rfl) rfl rfl rfl ?_; clear hA a; intro a hA
          refine S.no (dj := 74) hA (by kernel_rfl) rfl rfl rfl ?_; clear hA a; intro a hA
          refine S.no (dj := 74) hA (by kernel_rfl) rfl rfl rfl ?_; clear hA a; intro a hA
          refine S.no (dj := 74) hA (by kernel_rfl) rfl rfl rfl ?_; clear hA a; intro a hA
          refine S.val hA (R.pickF rfl rfl) rfl ?_; clear hA a; intro a hA
          refine S.done ?_
          replace hA : St 104 [(3, _), (7, _), (8, _), (9, _), (82, _)] a := hA.sub ((.cons rfl (.cons rfl (.cons rfl (.cons rfl (.cons rfl .nil))))))
          exact hJ _ _ ⟨hA.sub (.cons rfl (.cons rfl (.cons rfl (.cons rfl (.cons (by first | rfl | exact congrArg (fun b => some (Value.bool b)) (by first | exact decide_eq_decide.2 (by omega) | exact or_bool (by omega) | exact and_bool (by omega) | (simp; done) | (simp [hg31]; done) | (have h80 := hg31; (try simp at h80); simp [h80]; done) | exact (decide_eq_false (fun h9 => hg31 h9.1)).symm)) .nil))))), hM⟩
  ·
    refine Ends.skip ?_
    refine Ends.seq ?_
    refine Ends.seq ?_
    refine Ends.region ?_
    refine S.val hA (R.move rfl) rfl ?_; clear hA a; intro a hA
    refine S.val hA (R.fieldAddr (q := 4) fi25_4 rfl rfl rfl) rfl ?_; clear hA a; intro a hA
    refine S.val hA (R.load sz22 rfl (hM.cell (k := 4) rfl rfl)) rfl ?_; clear hA a; intro a hA
    refine S.val hA (R.lenS Tryd.underlying22 rfl rfl) rfl ?_; clear hA a; intro a hA
    refine S.val hA (R.lss rfl rfl) rfl ?_; clear hA a; intro a hA
    refine S.done ?_
    replace hA : St 104 [(3, _), (7, _), (8, _), (9, _), (61, _)] a := hA.sub ((.cons rfl (.cons rfl (.cons rfl (.cons rfl (.cons rfl .nil))))))
    refine Ends.ite hA rfl (fun hc36 => ?_) (fun hc36 => ?_)
    ·
      obtain ⟨g4, hg4⟩ := hM.ownAt (k := 1) rfl (by omega)
      rw [hg4] at hM
      replace hM : Mem _ _ [own 3 1 (.slice ac3 Ga.wt.length cc3) Ga.wt.length (Ga.wt.map (Value.int .i64)), own 3 1 (.slice ((some ⟨g4, 0, none⟩)) Ga.vl.length cc4) Ga.vl.length (Ga.vl.map (Value.int .i64)), own 22 1 (.slice ac5 rsc.length cc5) rsc.length ((rsc.map orV)), bundle (rsc.map (orC 3)), pt b7 #[.int .i64 Ga.kind, .int .i64 Ga.n, .int .i64 Ga.cap, .slice ac3 Ga.wt.length cc3, .slice ((some ⟨g4, 0, none⟩)) Ga.vl.length cc4, .slice ac5 rsc.length cc5] 25, pt b9 #[.int .i64 Ga.kind, .int .i64 Ga.n, .int .i64 Ga.cap, .slice as3 Ga.wt.length cs3, .slice as4 Ga.vl.length cs4, .slice as5 rss.length cs5] 25, bundle (insL 3 22 Ga as3 cs3 as4 cs4 as5 cs5 rss)] _ := hM
      refine Ends.region ?_
      refine S.val hA (R.fieldAddr (q := 4) fi25_4 rfl rfl rfl) rfl ?_; clear hA a; intro a hA
      refine S.val hA (R.load sz22 rfl (hM.cell (k := 4) rfl rfl)) rfl ?_; clear hA a; intro a hA
      refine S.val hA (R.move rfl) rfl ?_; clear hA a; intro a hA
      refine S.val hA (R.indexAddr (q := n11) sl22 rfl rfl (by omega) (by omega)) rfl ?_; clear hA a; intro a hA
      refine S.val hA (R.load sz3 rfl (hM.ownCell (k := 1) rfl (mapi_get _ _ (by omega)))) rfl ?_; clear hA a; intro a hA
      refine S.val hA (R.bits (by simp) rfl rfl) rfl ?_; clear hA a; intro a hA
      refine S.val hA (R.indexAddr (q := n11) sl22 rfl rfl (by omega) (by omega)) rfl ?_; clear hA a; intro a hA
      refine S.storeO (k := 1) hA hM sz3 rfl rfl rfl rfl (mapi_get Ga.vl n11 (by first | omega | (simp only [List.length_set]; omega) | (simp; done))) ?_; clear hM; intro w36 hM; rw [mapi_set] at hM
      replace hM : Mem _ _ [own 3 1 (.slice ac3 Ga.wt.length cc3) Ga.wt.length (Ga.wt.map (Value.int .i64)), own 3 1 (.slice ((some ⟨g4, 0, none⟩)) Ga.vl.length cc4) Ga.vl.length (((Ga.vl.set n11 (bits .xor .i64 (Ga.vl.getD n11 0) 1))).map (Value.int .i64)), own 22 1 (.slice ac5 rsc.length cc5) rsc.length ((rsc.map orV)), bundle (rsc.map (orC 3)), pt b7 #[.int .i64 Ga.kind, .int .i64 Ga.n, .int .i64 Ga.cap, .slice ac3 Ga.wt.length cc3, .slice ((some ⟨g4, 0, none⟩)) Ga.vl.length cc4, .slice ac5 rsc.length cc5] 25, pt b9 #[.int .i64 Ga.kind, .int .i64 Ga.n, .int .i64 Ga.cap, .slice as3 Ga.wt.length cs3, .slice as4 Ga.vl.length cs4, .slice as5 rss.length cs5] 25, bundle (insL 3 22 Ga as3 cs3 as4 cs4 as5 cs5 rss)] _ := hM
      refine S.done ?_
      obtain ⟨V1, hV1⟩ : ∃ V1, V1 = (Ga.vl.set n11 (bits .xor .i64 (Ga.vl.getD n11 0) 1)) := ⟨_, rfl⟩
      have hlV1 : V1.length = Ga.vl.length := by rw [hV1]; exact List.length_set
      rw [← hV1, ← hg4] at hM
      replace hM : Mem w6 nof [own 3 1 (.slice ac3 Ga.wt.length cc3) Ga.wt.length (Ga.wt.map (Value.int .i64)), own 3 1 (.slice ac4 V1.length cc4) V1.length (V1.map (Value.int .i64)), own 22 1 (.slice ac5 rsc.length cc5) rsc.length ((rsc.map orV)), bundle (rsc.map (orC 3)), pt b7 #[.int .i64 Ga.kind, .int .i64 Ga.n, .int .i64 Ga.cap, .slice ac3 Ga.wt.length cc3, .slice ac4 V1.length cc4, .slice ac5 rsc.length cc5] 25, pt b9 #[.int .i64 Ga.kind, .int .i64 Ga.n, .int .i64 Ga.cap, .slice as3 Ga.wt.length cs3, .slice as4 Ga.vl.length cs4, .slice as5 rss.length cs5] 25, bundle (insL 3 22 Ga as3 cs3 as4 cs4 as5 cs5 rss)] w36 := by rw [hlV1]; exact hM
      replace hA : St 104 [(3, _), (7, _), (8, _), (9, _)] a := hA.sub ((.cons rfl (.cons rfl (.cons rfl (.cons rfl .nil)))))
      refine Ends.seq ?_
      refine Ends.seq ?_
      refine Ends.cut (fun (a : Act) (wv : World) => St 104 [(3, .pointer (some ⟨b1, 0, none⟩)), (7, .pointer (some ⟨b7, 0, none⟩)), (8, .pointer (some ⟨b9, 0, none⟩)), (9, .int .i64 ((n11 : Int))), (82, .bool (decide ((((n11 : Int)) < ((rsc.length : Int)) ∧ 0 < ((((((rsc.map (·.Y))).getD n11 [])).length : Int))))))] a ∧ Mem w6 nof [own 3 1 (.slice ac3 Ga.wt.length cc3) Ga.wt.length (Ga.wt.map (Value.int .i64)), own 3 1 (.slice ac4 V1.length cc4) V1.length (V1.map (Value.int .i64)), own 22 1 (.slice ac5 rsc.length cc5) rsc.length ((rsc.map orV)), bundle (rsc.map (orC 3)), pt b7 #[.int .i64 Ga.kind, .int .i64 Ga.n, .int .i64 Ga.cap, .slice ac3 Ga.wt.length cc3, .slice ac4 V1.length cc4, .slice ac5 rsc.length cc5] 25, pt b9 #[.int .i64 Ga.kind, .int .i64 Ga.n, .int .i64 Ga.cap, .slice as3 Ga.wt.length cs3, .slice as4 Ga.vl.length cs4, .slice as5 rss.length cs5] 25, bundle (insL 3 22 Ga as3 cs3 as4 cs4 as5 cs5 rss)] wv) ?_ (fun k2 hJ => ?_)
      · clear hA hM a; rintro a w37 ⟨hA, hM⟩
        refine Ends.ite hA rfl (fun hc37 => ?_) (fun hc37 => ?_)
        ·
          obtain ⟨Yr, ar, cr, hxr⟩ := or_at (rs := rsc) (i := n11) (by omega)
          have hyr : (rsc.map (·.Y)).getD n11 [] = Yr := rowY hxr
          have hif := hc37
          rw [hyr] at hif
          replace hM := hM.front (k := 3) rfl
          replace hM := hM.openB hxr
          replace hM : Mem _ _ [own 3 1 (.slice ar Yr.length cr) Yr.length (Yr.map (Value.int .i64)), bundle ((rsc.eraseIdx n11).map (orC 3)), own 3 1 (.slice ac3 Ga.wt.length cc3) Ga.wt.length (Ga.wt.map (Value.int .i64)), own 3 1 (.slice ac4 V1.length cc4) V1.length (V1.map (Value.int .i64)), own 22 1 (.slice ac5 rsc.length cc5) rsc.length ((rsc.map orV)), pt b7 #[.int .i64 Ga.kind, .int .i64 Ga.n, .int .i64 Ga.cap, .slice ac3 Ga.wt.length cc3, .slice ac4 V1.length cc4, .slice ac5 rsc.length cc5] 25, pt b9 #[.int .i64 Ga.kind, .int .i64 Ga.n, .int .i64 Ga.cap, .slice as3 Ga.wt.length cs3, .slice as4 Ga.vl.length cs4, .slice as5 rss.length cs5] 25, bundle (insL 3 22 Ga as3 cs3 as4 cs4 as5 cs5 rss)] _ := hM
          obtain ⟨gr, hgr⟩ := hM.ownAt (k := 0) rfl (by omega)
          obtain ⟨gb, hgb⟩ := hM.ownAt (k := 4) rfl (by omega)
          subst hgr
          rw [hgb] at hM
          replace hM : Mem _ _ [own 3 1 (.slice ((some ⟨gr, 0, none⟩)) Yr.length cr) Yr.length (Yr.map (Value.int .i64)), bundle ((rsc.eraseIdx n11).map (orC 3)), own 3 1 (.slice ac3 Ga.wt.length cc3) Ga.wt.length (Ga.wt.map (Value.int .i64)), own 3 1 (.slice ac4 V1.length cc4) V1.length (V1.map (Value.int .i64)), own 22 1 (.slice ((some ⟨gb, 0, none⟩)) rsc.length cc5) rsc.length ((rsc.map orV)), pt b7 #[.int .i64 Ga.kind, .int .i64 Ga.n, .int .i64 Ga.cap, .slice ac3 Ga.wt.length cc3, .slice ac4 V1.length cc4, .slice ((some ⟨gb, 0, none⟩)) rsc.length cc5] 25, pt b9 #[.int .i64 Ga.kind, .int .i64 Ga.n, .int .i64 Ga.cap, .slice as3 Ga.wt.length cs3, .slice as4 Ga.vl.length cs4, .slice as5 rss.length cs5] 25, bundle (insL 3 22 Ga as3 cs3 as4 cs4 as5 cs5 rss)] _ := hM
          refine Ends.region ?_
          refine S.val hA (R.fieldAddr (q := 5) fi25_5 rfl rfl rfl) rfl ?_; clear hA a; intro a hA
          refine S.val hA (R.load sz23 rfl (hM.cell (k := 5) rfl rfl)) rfl ?_; clear hA a; intro a hA
          refine S.val hA (R.move rfl) rfl ?_; clear hA a; intro a hA
          refine S.val hA (R.indexAddr (q := n11) sl23 rfl rfl (by omega) (by omega)) rfl ?_; clear hA a; intro a hA
          refine S.val hA (R.load sz22 rfl (hM.ownCell (k := 4) rfl (orV_at hxr))) rfl ?_; clear hA a; intro a hA
          refine S.val hA (R.indexAddr (q := 0) sl22 rfl rfl (by omega) (rfl)) rfl ?_; clear hA a; intro a hA
          refine S.val hA (R.load sz3 rfl (hM.ownCell (k := 0) rfl (mapi_get _ _ (by omega)))) rfl ?_; clear hA a; intro a hA
          refine S.val hA (R.bits (by simp) rfl rfl) rfl ?_; clear hA a; intro a hA
          refine S.val hA (R.indexAddr (q := 0) sl22 rfl rfl (by omega) (rfl)) rfl ?_; clear hA a; intro a hA
          refine S.storeO (k := 0) hA hM sz3 rfl rfl rfl rfl (mapi_get Yr 0 (by first | omega | (simp only [List.length_set]; omega) | (simp; done))) ?_; clear hM; intro w38 hM; rw [mapi_set] at hM
          replace hM : Mem _ _ [own 3 1 (.slice ((some ⟨gr, 0, none⟩)) Yr.length cr) Yr.length (((Yr.set 0 (bits .xor .i64 (Yr.getD 0 0) 1))).map (Value.int .i64)), bundle ((rsc.eraseIdx n11).map (orC 3)), own 3 1 (.slice ac3 Ga.wt.length cc3) Ga.wt.length (Ga.wt.map (Value.int .i64)), own 3 1 (.slice ac4 V1.length cc4) V1.length (V1.map (Value.int .i64)), own 22 1 (.slice ((some ⟨gb, 0, none⟩)) rsc.length cc5) rsc.length ((rsc.map orV)), pt b7 #[.int .i64 Ga.kind, .int .i64 Ga.n, .int .i64 Ga.cap, .slice ac3 Ga.wt.length cc3, .slice ac4 V1.length cc4, .slice ((some ⟨gb, 0, none⟩)) rsc.length cc5] 25, pt b9 #[.int .i64 Ga.kind, .int .i64 Ga.n, .int .i64 Ga.cap, .slice as3 Ga.wt.length cs3, .slice as4 Ga.vl.length cs4, .slice as5 rss.length cs5] 25, bundle (insL 3 22 Ga as3 cs3 as4 cs4 as5 cs5 rss)] _ := hM
          refine S.done ?_
          replace hM := hM.front (k := 1) rfl
          replace hM := hM.front (k := 1) rfl
          have hsl : ((Yr.set 0 (bits .xor .i64 (Yr.getD 0 0) 1))).length = Yr.length := List.length_set
          rw [← hsl] at hM
          replace hM := Mem.closeB (f := orC 3) (y := (⟨(Yr.set 0 (bits .xor .i64 (Yr.getD 0 0) 1)), (some ⟨gr, 0, none⟩), cr⟩ : OwR)) hM hxr
          rw [← set_orV hxr (u := (⟨(Yr.set 0 (bits .xor .i64 (Yr.getD 0 0) 1)), (some ⟨gr, 0, none⟩), cr⟩ : OwR)) (by show Value.slice _ _ _ = Value.slice _ _ _; rw [hsl]), ← hgb, show rsc.length = (rsc.set n11 (⟨(Yr.set 0 (bits .xor .i64 (Yr.getD 0 0) 1)), (some ⟨gr, 0, none⟩), cr⟩ : OwR)).length from List.length_set.symm] at hM
          obtain ⟨R1, hR1⟩ : ∃ R1, R1 = rsc.set n11 (⟨(Yr.set 0 (bits .xor .i64 (Yr.getD 0 0) 1)), (some ⟨gr, 0, none⟩), cr⟩ : OwR) := ⟨_, rfl⟩
          rw [← hR1] at hM
          replace hM : Mem _ _ [bundle (R1.map (orC 3)), own 3 1 (.slice ac3 Ga.wt.length cc3) Ga.wt.length (Ga.wt.map (Value.int .i64)), own 3 1 (.slice ac4 V1.length cc4) V1.length (V1.map (Value.int .i64)), own 22 1 (.slice ac5 R1.length cc5) R1.length ((R1.map orV)), pt b7 #[.int .i64 Ga.kind, .int .i64 Ga.n, .int .i64 Ga.cap, .slice ac3 Ga.wt.length cc3, .slice ac4 V1.length cc4, .slice ac5 R1.length cc5] 25, pt b9 #[.int .i64 Ga.kind, .int .i64 Ga.n, .int .i64 Ga.cap, .slice as3 Ga.wt.length cs3, .slice as4 Ga.vl.length cs4, .slice as5 rss.length cs5] 25, bundle (insL 3 22 Ga as3 cs3 as4 cs4 as5 cs5 rss)] _ := hM
          replace hA : St 104 [(3, _), (7, _), (8, _)] a := hA.sub ((.cons rfl (.cons rfl (.cons rfl .nil))))
          refine Ends.seq ?_
          replace hM := hM.front (k := 4) rfl
          replace hM := hM.front (k := 1) rfl
          replace hM := hM.front (k := 4) rfl
          replace hM := hM.front (k := 4) rfl
          replace hM := hM.front (k := 4) rfl
          replace hM := Mem.pack (cs := insL 3 22 (⟨Ga.kind, Ga.n, Ga.cap, Ga.wt, V1, R1.map (·.Y)⟩ : Ins) ac3 cc3 ac4 cc4 ac5 cc5 R1) (L := [pt b7 #[.int .i64 Ga.kind, .int .i64 Ga.n, .int .i64 Ga.cap, .slice ac3 Ga.wt.length cc3, .slice ac4 V1.length cc4, .slice ac5 R1.length cc5] 25, pt b9 #[.int .i64 Ga.kind, .int .i64 Ga.n, .int .i64 Ga.cap, .slice as3 Ga.wt.length cs3, .slice as4 Ga.vl.length cs4, .slice as5 rss.length cs5] 25, bundle (insL 3 22 Ga as3 cs3 as4 cs4 as5 cs5 rss)]) hM
          obtain ⟨-, hc3, hc4, hc5⟩ := insR_of hM (k := 0) rfl rfl
          obtain ⟨-, hs3, hs4, hs5⟩ := insR_of hM (k := 3) rfl hYs
          replace hM := (hM.drop 3).drop 0
          have hlcs : rss.length = Ga.cost.length := by rw [← hYs, List.length_map]
          rw [hlcs] at hM
          have hlct : R1.length = (⟨Ga.kind, Ga.n, Ga.cap, Ga.wt, V1, R1.map (·.Y)⟩ : Ins).cost.length := (List.length_map ..).symm
          rw [hlct] at hM
          replace hM : Mem _ _ [pt b7 #[.int .i64 ((⟨Ga.kind, Ga.n, Ga.cap, Ga.wt, V1, R1.map (·.Y)⟩ : Ins).kind), .int .i64 ((⟨Ga.kind, Ga.n, Ga.cap, Ga.wt, V1, R1.map (·.Y)⟩ : Ins).n), .int .i64 ((⟨Ga.kind, Ga.n, Ga.cap, Ga.wt, V1, R1.map (·.Y)⟩ : Ins).cap), .slice ac3 (((⟨Ga.kind, Ga.n, Ga.cap, Ga.wt, V1, R1.map (·.Y)⟩ : Ins).wt).length) cc3, .slice ac4 (((⟨Ga.kind, Ga.n, Ga.cap, Ga.wt, V1, R1.map (·.Y)⟩ : Ins).vl).length) cc4, .slice ac5 (((⟨Ga.kind, Ga.n, Ga.cap, Ga.wt, V1, R1.map (·.Y)⟩ : Ins).cost).length) cc5] 25, pt b9 #[.int .i64 Ga.kind, .int .i64 Ga.n, .int .i64 Ga.cap, .slice as3 Ga.wt.length cs3, .slice as4 Ga.vl.length cs4, .slice as5 Ga.cost.length cs5] 25] _ := hM
          generalize (⟨Ga.kind, Ga.n, Ga.cap, Ga.wt, V1, R1.map (·.Y)⟩ : Ins) = T at hM hc3 hc4 hc5
          replace hM : Mem _ _ [pt b7 #[.int .i64 T.kind, .int .i64 T.n, .int .i64 T.cap, .slice ac3 T.wt.length cc3, .slice ac4 T.vl.length cc4, .slice ac5 T.cost.length cc5] 25, pt b9 #[.int .i64 Ga.kind, .int .i64 Ga.n, .int .i64 Ga.cap, .slice as3 Ga.wt.length cs3, .slice as4 Ga.vl.length cs4, .slice as5 Ga.cost.length cs5] 25] _ := hM
          have hbx38 := hM.block (k := 0) rfl
          have hbx39 := hM.block (k := 1) rfl
          have hbs := hbs.trans (hM.below.mono hbs.size)
          have hx3 := hx3.mem hM
          have hx4 := hx4.mem hM
          have hx5 := hx5.mem hM
          have hy3 := hy3.mem hM
          have hy4 := hy4.mem hM
          have hy5 := hy5.mem hM
          have hp3 := hp3.mem hM
          have hp4 := hp4.mem hM
          have hp5 := hp5.mem hM
          have hr3 := hr3.mem hM
          have hr4 := hr4.mem hM
          have hr5 := hr5.mem hM
          have hbx5 := hM.keepB hbx5
          have hbx6 := hM.keepB hbx6
          replace hM := Mem.start w38
          refine Ends.drawn (Mem w38 nof []) (.cons (0, true) (.cons (1, true) (.cons (2, false) (.cons (3, true) (.cons (4, true) (.cons (5, true) (.cons (7, true) (.cons (8, true) (.cons (6, false) (.cons (9, false) (.cons (10, true) (.cons (11, true) (.cons (12, true) .nil))))))))))))) 13 mixed (by kernel_rfl) (by kernel_rfl) (by kernel_rfl) hM.drew ?_
          replace hM := hM.drew
          refine D.val hA rfl (by kernel_rfl) (fun _ hM => R.loadA sz25 rfl (hM.oldRange hbx6) rfl) rfl ?_; clear hA a; intro a hA
          refine D.val hA rfl (by kernel_rfl) (fun _ hM => R.loadA sz25 rfl (hM.oldRange hbx39) rfl) rfl ?_; clear hA a; intro a hA
          refine D.call hA rfl (R.callF Tryd.func22 rfl rfl rfl) rfl (rSame_eq Ga ap3 cp3 ap4 cp4 ap5 cp5 as3 cs3 as4 cs4 as5 cs5 _ (hp3.mem hM) (hp4.mem hM) (hp5.mem hM) (hs3.mem hM) (hs4.mem hM) (hs5.mem hM)) ?_; clear hA a
          rintro e w39 ⟨rfl, hb⟩
          replace hM := hM.callB hb; clear hb
          refine ⟨.bool true, rfl, hM, fun a hA => ?_⟩
          refine D.valF hA rfl (fun _ => R.move rfl) rfl ?_; clear hA a; intro a hA
          refine D.valg (dj := 95) hA rfl (by kernel_rfl) (by kernel_rfl) rfl (fun _ hM => R.loadA sz25 rfl (hM.oldRange hbx6) rfl) rfl ?_; clear hA a; intro a hA
          refine D.valg (dj := 95) hA rfl (by kernel_rfl) (by kernel_rfl) rfl (fun _ hM => R.loadA sz25 rfl (hM.oldRange hbx38) rfl) rfl ?_; clear hA a; intro a hA
          refine D.valg (dj := 95) hA rfl (by kernel_rfl) (by kernel_rfl) rfl (fun _ hM => R.loadA sz25 rfl (hM.oldRange hbx6) rfl) rfl ?_; clear hA a; intro a hA
          refine D.valg (dj := 95) hA rfl (by kernel_rfl) (by kernel_rfl) rfl (fun _ hM => R.loadA sz25 rfl (hM.oldRange hbx38) rfl) rfl ?_; clear hA a; intro a hA
          refine D.callg (dj := 95) hA rfl (by kernel_rfl) rfl (R.callF Tryd.func26 rfl rfl rfl) rfl (iSame Ga ap3 cp3 ap4 cp4 ap5 cp5 T ac3 cc3 ac4 cc4 ac5 cc5 _ (hp3.mem hM) (hp4.mem hM) (hp5.mem hM) (hc3.mem hM) (hc4.mem hM) (hc5.mem hM)) ?_; clear hA a
          rintro e w40 ⟨rfl, hb⟩
          replace hM := hM.callB hb; clear hb
          refine ⟨.bool (decide (Ga = T)), rfl, hM, fun a hA => ?_⟩
          refine D.callg (dj := 95) hA rfl (by kernel_rfl) rfl (R.callF Tryd.func22 rfl rfl rfl) rfl (rSame Ga ap3 cp3 ap4 cp4 ap5 cp5 T ac3 cc3 ac4 cc4 ac5 cc5 _ (hp3.mem hM) (hp4.mem hM) (hp5.mem hM) (hc3.mem hM) (hc4.mem hM) (hc5.mem hM)) ?_; clear hA a
          rintro e w41 ⟨rfl, hb⟩
          replace hM := hM.callB hb; clear hb
          refine ⟨.bool (decide (Ga = T)), rfl, hM, fun a hA => ?_⟩
          refine D.valgF (dj := 95) hA rfl (by kernel_rfl) rfl (fun _ => R.to (v := .bool true) (R.eqlB Tryd.underlying4 rfl rfl) (congrArg Value.bool (by simp))) rfl ?_; clear hA a; intro a hA
          refine D.valF hA rfl (fun _ => R.pickT rfl rfl) rfl ?_; clear hA a; intro a hA
          refine D.valF hA rfl (fun _ => R.assign rfl) rfl ?_; clear hA a; intro a hA
          refine D.done ?_
          replace hA : St 104 [(6, _)] a := hA.sub ((.cons rfl .nil))
          refine Ends.ret1 Tryd.func7 Tryd.results7 hA rfl ?_
          exact ⟨rfl, Mem.trans0 hbs hM.nilL⟩
        ·
          refine Ends.skip ?_
          refine Ends.seq ?_
          replace hM := hM.front (k := 4) rfl
          replace hM := hM.front (k := 4) rfl
          replace hM := hM.front (k := 4) rfl
          replace hM := hM.front (k := 4) rfl
          replace hM := hM.front (k := 4) rfl
          replace hM := Mem.pack (cs := insL 3 22 (⟨Ga.kind, Ga.n, Ga.cap, Ga.wt, V1, rsc.map (·.Y)⟩ : Ins) ac3 cc3 ac4 cc4 ac5 cc5 rsc) (L := [pt b7 #[.int .i64 Ga.kind, .int .i64 Ga.n, .int .i64 Ga.cap, .slice ac3 Ga.wt.length cc3, .slice ac4 V1.length cc4, .slice ac5 rsc.length cc5] 25, pt b9 #[.int .i64 Ga.kind, .int .i64 Ga.n, .int .i64 Ga.cap, .slice as3 Ga.wt.length cs3, .slice as4 Ga.vl.length cs4, .slice as5 rss.length cs5] 25, bundle (insL 3 22 Ga as3 cs3 as4 cs4 as5 cs5 rss)]) hM
          obtain ⟨-, hc3, hc4, hc5⟩ := insR_of hM (k := 0) rfl rfl
          obtain ⟨-, hs3, hs4, hs5⟩ := insR_of hM (k := 3) rfl hYs
          replace hM := (hM.drop 3).drop 0
          have hlcs : rss.length = Ga.cost.length := by rw [← hYs, List.length_map]
          rw [hlcs] at hM
          have hlct : rsc.length = (⟨Ga.kind, Ga.n, Ga.cap, Ga.wt, V1, rsc.map (·.Y)⟩ : Ins).cost.length := (List.length_map ..).symm
          rw [hlct] at hM
          replace hM : Mem _ _ [pt b7 #[.int .i64 ((⟨Ga.kind, Ga.n, Ga.cap, Ga.wt, V1, rsc.map (·.Y)⟩ : Ins).kind), .int .i64 ((⟨Ga.kind, Ga.n, Ga.cap, Ga.wt, V1, rsc.map (·.Y)⟩ : Ins).n), .int .i64 ((⟨Ga.kind, Ga.n, Ga.cap, Ga.wt, V1, rsc.map (·.Y)⟩ : Ins).cap), .slice ac3 (((⟨Ga.kind, Ga.n, Ga.cap, Ga.wt, V1, rsc.map (·.Y)⟩ : Ins).wt).length) cc3, .slice ac4 (((⟨Ga.kind, Ga.n, Ga.cap, Ga.wt, V1, rsc.map (·.Y)⟩ : Ins).vl).length) cc4, .slice ac5 (((⟨Ga.kind, Ga.n, Ga.cap, Ga.wt, V1, rsc.map (·.Y)⟩ : Ins).cost).length) cc5] 25, pt b9 #[.int .i64 Ga.kind, .int .i64 Ga.n, .int .i64 Ga.cap, .slice as3 Ga.wt.length cs3, .slice as4 Ga.vl.length cs4, .slice as5 Ga.cost.length cs5] 25] _ := hM
          generalize (⟨Ga.kind, Ga.n, Ga.cap, Ga.wt, V1, rsc.map (·.Y)⟩ : Ins) = T at hM hc3 hc4 hc5
          replace hM : Mem _ _ [pt b7 #[.int .i64 T.kind, .int .i64 T.n, .int .i64 T.cap, .slice ac3 T.wt.length cc3, .slice ac4 T.vl.length cc4, .slice ac5 T.cost.length cc5] 25, pt b9 #[.int .i64 Ga.kind, .int .i64 Ga.n, .int .i64 Ga.cap, .slice as3 Ga.wt.length cs3, .slice as4 Ga.vl.length cs4, .slice as5 Ga.cost.length cs5] 25] _ := hM
          have hbx40 := hM.block (k := 0) rfl
          have hbx41 := hM.block (k := 1) rfl
          have hbs := hbs.trans (hM.below.mono hbs.size)
          have hx3 := hx3.mem hM
          have hx4 := hx4.mem hM
          have hx5 := hx5.mem hM
          have hy3 := hy3.mem hM
          have hy4 := hy4.mem hM
          have hy5 := hy5.mem hM
          have hp3 := hp3.mem hM
          have hp4 := hp4.mem hM
          have hp5 := hp5.mem hM
          have hr3 := hr3.mem hM
          have hr4 := hr4.mem hM
          have hr5 := hr5.mem hM
          have hbx5 := hM.keepB hbx5
          have hbx6 := hM.keepB hbx6
          replace hM := Mem.start w37
          refine Ends.drawn (Mem w37 nof []) (.cons (0, true) (.cons (1, true) (.cons (2, false) (.cons (3, true) (.cons (4, true) (.cons (5, true) (.cons (7, true) (.cons (8, true) (.cons (6, false) (.cons (9, false) (.cons (10, true) (.cons (11, true) (.cons (12, true) .nil))))))))))))) 13 mixed (by kernel_rfl) (by kernel_rfl) (by kernel_rfl) hM.drew ?_
          replace hM := hM.drew
          refine D.val hA rfl (by kernel_rfl) (fun _ hM => R.loadA sz25 rfl (hM.oldRange hbx6) rfl) rfl ?_; clear hA a; intro a hA
          refine D.val hA rfl (by kernel_rfl) (fun _ hM => R.loadA sz25 rfl (hM.oldRange hbx41) rfl) rfl ?_; clear hA a; intro a hA
          refine D.call hA rfl (R.callF Tryd.func22 rfl rfl rfl) rfl (rSame_eq Ga ap3 cp3 ap4 cp4 ap5 cp5 as3 cs3 as4 cs4 as5 cs5 _ (hp3.mem hM) (hp4.mem hM) (hp5.mem hM) (hs3.mem hM) (hs4.mem hM) (hs5.mem hM)) ?_; clear hA a
          rintro e w42 ⟨rfl, hb⟩
          replace hM := hM.callB hb; clear hb
          refine ⟨.bool true, rfl, hM, fun a hA => ?_⟩
          refine D.valF hA rfl (fun _ => R.move rfl) rfl ?_; clear hA a; intro a hA
          refine D.valg (dj := 95) hA rfl (by kernel_rfl) (by kernel_rfl) rfl (fun _ hM => R.loadA sz25 rfl (hM.oldRange hbx6) rfl) rfl ?_; clear hA a; intro a hA
          refine D.valg (dj := 95) hA rfl (by kernel_rfl) (by kernel_rfl) rfl (fun _ hM => R.loadA sz25 rfl (hM.oldRange hbx40) rfl) rfl ?_; clear hA a; intro a hA
          refine D.valg (dj := 95) hA rfl (by kernel_rfl) (by kernel_rfl) rfl (fun _ hM => R.loadA sz25 rfl (hM.oldRange hbx6) rfl) rfl ?_; clear hA a; intro a hA
          refine D.valg (dj := 95) hA rfl (by kernel_rfl) (by kernel_rfl) rfl (fun _ hM => R.loadA sz25 rfl (hM.oldRange hbx40) rfl) rfl ?_; clear hA a; intro a hA
          refine D.callg (dj := 95) hA rfl (by kernel_rfl) rfl (R.callF Tryd.func26 rfl rfl rfl) rfl (iSame Ga ap3 cp3 ap4 cp4 ap5 cp5 T ac3 cc3 ac4 cc4 ac5 cc5 _ (hp3.mem hM) (hp4.mem hM) (hp5.mem hM) (hc3.mem hM) (hc4.mem hM) (hc5.mem hM)) ?_; clear hA a
          rintro e w43 ⟨rfl, hb⟩
          replace hM := hM.callB hb; clear hb
          refine ⟨.bool (decide (Ga = T)), rfl, hM, fun a hA => ?_⟩
          refine D.callg (dj := 95) hA rfl (by kernel_rfl) rfl (R.callF Tryd.func22 rfl rfl rfl) rfl (rSame Ga ap3 cp3 ap4 cp4 ap5 cp5 T ac3 cc3 ac4 cc4 ac5 cc5 _ (hp3.mem hM) (hp4.mem hM) (hp5.mem hM) (hc3.mem hM) (hc4.mem hM) (hc5.mem hM)) ?_; clear hA a
          rintro e w44 ⟨rfl, hb⟩
          replace hM := hM.callB hb; clear hb
          refine ⟨.bool (decide (Ga = T)), rfl, hM, fun a hA => ?_⟩
          refine D.valgF (dj := 95) hA rfl (by kernel_rfl) rfl (fun _ => R.to (v := .bool true) (R.eqlB Tryd.underlying4 rfl rfl) (congrArg Value.bool (by simp))) rfl ?_; clear hA a; intro a hA
          refine D.valF hA rfl (fun _ => R.pickT rfl rfl) rfl ?_; clear hA a; intro a hA
          refine D.valF hA rfl (fun _ => R.assign rfl) rfl ?_; clear hA a; intro a hA
          refine D.done ?_
          replace hA : St 104 [(6, _)] a := hA.sub ((.cons rfl .nil))
          refine Ends.ret1 Tryd.func7 Tryd.results7 hA rfl ?_
          exact ⟨rfl, Mem.trans0 hbs hM.nilL⟩
      ·
        refine Ends.region ?_
        refine S.val hA (R.move rfl) rfl ?_; clear hA a; intro a hA
        refine S.val hA (R.fieldAddr (q := 5) fi25_5 rfl rfl rfl) rfl ?_; clear hA a; intro a hA
        refine S.val hA (R.load sz23 rfl (hM.cell (k := 4) rfl rfl)) rfl ?_; clear hA a; intro a hA
        refine S.val hA (R.lenS Tryd.underlying23 rfl rfl) rfl ?_; clear hA a; intro a hA
        refine S.val hA (R.lss rfl rfl) rfl ?_; clear hA a; intro a hA
        refine S.val hA (R.move rfl) rfl ?_; clear hA a; intro a hA
        refine hA.split (d := 74) rfl ?_ ?_
        · clear hA; intro hg42 hA
          refine S.valg (dj := 74) hA (by kernel_rfl) rfl (R.fieldAddr (q := 5) fi25_5 rfl rfl rfl) rfl ?_; clear hA a; intro a hA
          refine S.valg (dj := 74) hA (by kernel_rfl) rfl (R.load sz23 rfl (hM.cell (k := 4) rfl rfl)) rfl ?_; clear hA a; intro a hA
          refine S.valg (dj := 74) hA (by kernel_rfl) rfl (R.move rfl) rfl ?_; clear hA a; intro a hA
          refine S.valg (dj := 74) hA (by kernel_rfl) rfl (R.idxRn (hM.rowsV (k := 2) rfl (k2 := 3) rfl) (j := n11) sl23 rfl rfl (by omega) (rfl)) rfl ?_; clear hA a; intro a hA
          obtain ⟨ra43, rc44, hrow45, hld46⟩ := (hM.rowsV_ (k := 2) rfl (k2 := 3) rfl).atP (i := n11) (by rw [List.length_map]; omega)
          refine S.valg (dj := 74) hA (by kernel_rfl) rfl (hld46 _ _ _ _ _ _ (Mem.start _) sz22 rfl) rfl ?_; clear hA a; intro a hA
          refine S.valg (dj := 74) hA (by kernel_rfl) rfl (R.lenS Tryd.underlying22 rfl rfl) rfl ?_; clear hA a; intro a hA
          refine S.valg (dj := 74) hA (by kernel_rfl) rfl (R.gtr rfl rfl) rfl ?_; clear hA a; intro a hA
          refine S.val hA (R.pickT rfl rfl) rfl ?_; clear hA a; intro a hA
          refine S.done ?_
          replace hA : St 104 [(3, _), (7, _), (8, _), (9, _), (82, _)] a := hA.sub ((.cons rfl (.cons rfl (.cons rfl (.cons rfl (.cons rfl .nil))))))
          exact hJ _ _ ⟨hA.sub (.cons rfl (.cons rfl (.cons rfl (.cons rfl (.cons (by first | rfl | exact congrArg (fun b => some (Value.bool b)) (by first | exact decide_eq_decide.2 (by omega) | exact or_bool (by omega) | exact and_bool (by omega) | (simp; done) | (simp [hg42]; done) | (have h80 := hg42; (try simp at h80); simp [h80]; done) | exact (decide_eq_false (fun h9 => hg42 h9.1)).symm)) .nil))))), hM⟩
        · clear hA; intro hg42 hA
          refine S.no (dj := 74) hA (by kernel_rfl) rfl rfl rfl ?_; clear hA a; intro a hA
          refine S.no (dj := 74) hA (by kernel_rfl) rfl rfl rfl ?_; clear hA a; intro a hA
          refine S.no (dj := 74) hA (by kernel_rfl) rfl rfl rfl ?_; clear hA a; intro a hA
          refine S.no (dj := 74) hA (by kernel_rfl) rfl rfl rfl ?_; clear hA a; intro a hA
          refine S.no (dj := 74) hA (by kernel_rfl) rfl rfl rfl ?_; clear hA a; intro a hA
          refine S.no (dj := 74) hA (by kernel_rfl) rfl rfl rfl ?_; clear hA a; intro a hA
          refine S.no (dj := 74) hA (by kernel_rfl) rfl rfl rfl ?_; clear hA a; intro a hA
          refine S.val hA (R.pickF rfl rfl) rfl ?_; clear hA a; intro a hA
          refine S.done ?_
          replace hA : St 104 [(3, _), (7, _), (8, _), (9, _), (82, _)] a := hA.sub ((.cons rfl (.cons rfl (.cons rfl (.cons rfl (.cons rfl .nil))))))
          exact hJ _ _ ⟨hA.sub (.cons rfl (.cons rfl (.cons rfl (.cons rfl (.cons (by first | rfl | exact congrArg (fun b => some (Value.bool b)) (by first | exact decide_eq_decide.2 (by omega) | exact or_bool (by omega) | exact and_bool (by omega) | (simp; done) | (simp [hg42]; done) | (have h80 := hg42; (try simp at h80); simp [h80]; done) | exact (decide_eq_false (fun h9 => hg42 h9.1)).symm)) .nil))))), hM⟩
    ·
      refine Ends.skip ?_
      refine Ends.seq ?_
      refine Ends.seq ?_
      refine Ends.cut (fun (a : Act) (wv : World) => St 104 [(3, .pointer (some ⟨b1, 0, none⟩)), (7, .pointer (some ⟨b7, 0, none⟩)), (8, .pointer (some ⟨b9, 0, none⟩)), (9, .int .i64 ((n11 : Int))), (82, .bool (decide ((((n11 : Int)) < ((rsc.length : Int)) ∧ 0 < ((((((rsc.map (·.Y))).getD n11 [])).length : Int))))))] a ∧ Mem w6 nof [own 3 1 (.slice ac3 Ga.wt.length cc3) Ga.wt.length (Ga.wt.map (Value.int .i64)), own 3 1 (.slice ac4 Ga.vl.length cc4) Ga.vl.length (Ga.vl.map (Value.int .i64)), own 22 1 (.slice ac5 rsc.length cc5) rsc.length ((rsc.map orV)), bundle (rsc.map (orC 3)), pt b7 #[.int .i64 Ga.kind, .int .i64 Ga.n, .int .i64 Ga.cap, .slice ac3 Ga.wt.length cc3, .slice ac4 Ga.vl.length cc4, .slice ac5 rsc.length cc5] 25, pt b9 #[.int .i64 Ga.kind, .int .i64 Ga.n, .int .i64 Ga.cap, .slice as3 Ga.wt.length cs3, .slice as4 Ga.vl.length cs4, .slice as5 rss.length cs5] 25, bundle (insL 3 22 Ga as3 cs3 as4 cs4 as5 cs5 rss)] wv) ?_ (fun k2 hJ => ?_)
      · clear hA hM a; rintro a w45 ⟨hA, hM⟩
        refine Ends.ite hA rfl (fun hc47 => ?_) (fun hc47 => ?_)
        ·
          obtain ⟨Yr, ar, cr, hxr⟩ := or_at (rs := rsc) (i := n11) (by omega)
          have hyr : (rsc.map (·.Y)).getD n11 [] = Yr := rowY hxr
          have hif := hc47
          rw [hyr] at hif
          replace hM := hM.front (k := 3) rfl
          replace hM := hM.openB hxr
          replace hM : Mem _ _ [own 3 1 (.slice ar Yr.length cr) Yr.length (Yr.map (Value.int .i64)), bundle ((rsc.eraseIdx n11).map (orC 3)), own 3 1 (.slice ac3 Ga.wt.length cc3) Ga.wt.length (Ga.wt.map (Value.int .i64)), own 3 1 (.slice ac4 Ga.vl.length cc4) Ga.vl.length (Ga.vl.map (Value.int .i64)), own 22 1 (.slice ac5 rsc.length cc5) rsc.length ((rsc.map orV)), pt b7 #[.int .i64 Ga.kind, .int .i64 Ga.n, .int .i64 Ga.cap, .slice ac3 Ga.wt.length cc3, .slice ac4 Ga.vl.length cc4, .slice ac5 rsc.length cc5] 25, pt b9 #[.int .i64 Ga.kind, .int .i64 Ga.n, .int .i64 Ga.cap, .slice as3 Ga.wt.length cs3, .slice as4 Ga.vl.length cs4, .slice as5 rss.length cs5] 25, bundle (insL 3 22 Ga as3 cs3 as4 cs4 as5 cs5 rss)] _ := hM
          obtain ⟨gr, hgr⟩ := hM.ownAt (k := 0) rfl (by omega)
          obtain ⟨gb, hgb⟩ := hM.ownAt (k := 4) rfl (by omega)
          subst hgr
          rw [hgb] at hM
          replace hM : Mem _ _ [own 3 1 (.slice ((some ⟨gr, 0, none⟩)) Yr.length cr) Yr.length (Yr.map (Value.int .i64)), bundle ((rsc.eraseIdx n11).map (orC 3)), own 3 1 (.slice ac3 Ga.wt.length cc3) Ga.wt.length (Ga.wt.map (Value.int .i64)), own 3 1 (.slice ac4 Ga.vl.length cc4) Ga.vl.length (Ga.vl.map (Value.int .i64)), own 22 1 (.slice ((some ⟨gb, 0, none⟩)) rsc.length cc5) rsc.length ((rsc.map orV)), pt b7 #[.int .i64 Ga.kind, .int .i64 Ga.n, .int .i64 Ga.cap, .slice ac3 Ga.wt.length cc3, .slice ac4 Ga.vl.length cc4, .slice ((some ⟨gb, 0, none⟩)) rsc.length cc5] 25, pt b9 #[.int .i64 Ga.kind, .int .i64 Ga.n, .int .i64 Ga.cap, .slice as3 Ga.wt.length cs3, .slice as4 Ga.vl.length cs4, .slice as5 rss.length cs5] 25, bundle (insL 3 22 Ga as3 cs3 as4 cs4 as5 cs5 rss)] _ := hM
          refine Ends.region ?_
          refine S.val hA (R.fieldAddr (q := 5) fi25_5 rfl rfl rfl) rfl ?_; clear hA a; intro a hA
          refine S.val hA (R.load sz23 rfl (hM.cell (k := 5) rfl rfl)) rfl ?_; clear hA a; intro a hA
          refine S.val hA (R.move rfl) rfl ?_; clear hA a; intro a hA
          refine S.val hA (R.indexAddr (q := n11) sl23 rfl rfl (by omega) (by omega)) rfl ?_; clear hA a; intro a hA
          refine S.val hA (R.load sz22 rfl (hM.ownCell (k := 4) rfl (orV_at hxr))) rfl ?_; clear hA a; intro a hA
          refine S.val hA (R.indexAddr (q := 0) sl22 rfl rfl (by omega) (rfl)) rfl ?_; clear hA a; intro a hA
          refine S.val hA (R.load sz3 rfl (hM.ownCell (k := 0) rfl (mapi_get _ _ (by omega)))) rfl ?_; clear hA a; intro a hA
          refine S.val hA (R.bits (by simp) rfl rfl) rfl ?_; clear hA a; intro a hA
          refine S.val hA (R.indexAddr (q := 0) sl22 rfl rfl (by omega) (rfl)) rfl ?_; clear hA a; intro a hA
          refine S.storeO (k := 0) hA hM sz3 rfl rfl rfl rfl (mapi_get Yr 0 (by first | omega | (simp only [List.length_set]; omega) | (simp; done))) ?_; clear hM; intro w46 hM; rw [mapi_set] at hM
          replace hM : Mem _ _ [own 3 1 (.slice ((some ⟨gr, 0, none⟩)) Yr.length cr) Yr.length (((Yr.set 0 (bits .xor .i64 (Yr.getD 0 0) 1))).map (Value.int .i64)), bundle ((rsc.eraseIdx n11).map (orC 3)), own 3 1 (.slice ac3 Ga.wt.length cc3) Ga.wt.length (Ga.wt.map (Value.int .i64)), own 3 1 (.slice ac4 Ga.vl.length cc4) Ga.vl.length (Ga.vl.map (Value.int .i64)), own 22 1 (.slice ((some ⟨gb, 0, none⟩)) rsc.length cc5) rsc.length ((rsc.map orV)), pt b7 #[.int .i64 Ga.kind, .int .i64 Ga.n, .int .i64 Ga.cap, .slice ac3 Ga.wt.length cc3, .slice ac4 Ga.vl.length cc4, .slice ((some ⟨gb, 0, none⟩)) rsc.length cc5] 25, pt b9 #[.int .i64 Ga.kind, .int .i64 Ga.n, .int .i64 Ga.cap, .slice as3 Ga.wt.length cs3, .slice as4 Ga.vl.length cs4, .slice as5 rss.length cs5] 25, bundle (insL 3 22 Ga as3 cs3 as4 cs4 as5 cs5 rss)] _ := hM
          refine S.done ?_
          replace hM := hM.front (k := 1) rfl
          replace hM := hM.front (k := 1) rfl
          have hsl : ((Yr.set 0 (bits .xor .i64 (Yr.getD 0 0) 1))).length = Yr.length := List.length_set
          rw [← hsl] at hM
          replace hM := Mem.closeB (f := orC 3) (y := (⟨(Yr.set 0 (bits .xor .i64 (Yr.getD 0 0) 1)), (some ⟨gr, 0, none⟩), cr⟩ : OwR)) hM hxr
          rw [← set_orV hxr (u := (⟨(Yr.set 0 (bits .xor .i64 (Yr.getD 0 0) 1)), (some ⟨gr, 0, none⟩), cr⟩ : OwR)) (by show Value.slice _ _ _ = Value.slice _ _ _; rw [hsl]), ← hgb, show rsc.length = (rsc.set n11 (⟨(Yr.set 0 (bits .xor .i64 (Yr.getD 0 0) 1)), (some ⟨gr, 0, none⟩), cr⟩ : OwR)).length from List.length_set.symm] at hM
          obtain ⟨R1, hR1⟩ : ∃ R1, R1 = rsc.set n11 (⟨(Yr.set 0 (bits .xor .i64 (Yr.getD 0 0) 1)), (some ⟨gr, 0, none⟩), cr⟩ : OwR) := ⟨_, rfl⟩
          rw [← hR1] at hM
          replace hM : Mem _ _ [bundle (R1.map (orC 3)), own 3 1 (.slice ac3 Ga.wt.length cc3) Ga.wt.length (Ga.wt.map (Value.int .i64)), own 3 1 (.slice ac4 Ga.vl.length cc4) Ga.vl.length (Ga.vl.map (Value.int .i64)), own 22 1 (.slice ac5 R1.length cc5) R1.length ((R1.map orV)), pt b7 #[.int .i64 Ga.kind, .int .i64 Ga.n, .int .i64 Ga.cap, .slice ac3 Ga.wt.length cc3, .slice ac4 Ga.vl.length cc4, .slice ac5 R1.length cc5] 25, pt b9 #[.int .i64 Ga.kind, .int .i64 Ga.n, .int .i64 Ga.cap, .slice as3 Ga.wt.length cs3, .slice as4 Ga.vl.length cs4, .slice as5 rss.length cs5] 25, bundle (insL 3 22 Ga as3 cs3 as4 cs4 as5 cs5 rss)] _ := hM
          replace hA : St 104 [(3, _), (7, _), (8, _)] a := hA.sub ((.cons rfl (.cons rfl (.cons rfl .nil))))
          refine Ends.seq ?_
          replace hM := hM.front (k := 4) rfl
          replace hM := hM.front (k := 1) rfl
          replace hM := hM.front (k := 4) rfl
          replace hM := hM.front (k := 4) rfl
          replace hM := hM.front (k := 4) rfl
          replace hM := Mem.pack (cs := insL 3 22 (⟨Ga.kind, Ga.n, Ga.cap, Ga.wt, Ga.vl, R1.map (·.Y)⟩ : Ins) ac3 cc3 ac4 cc4 ac5 cc5 R1) (L := [pt b7 #[.int .i64 Ga.kind, .int .i64 Ga.n, .int .i64 Ga.cap, .slice ac3 Ga.wt.length cc3, .slice ac4 Ga.vl.length cc4, .slice ac5 R1.length cc5] 25, pt b9 #[.int .i64 Ga.kind, .int .i64 Ga.n, .int .i64 Ga.cap, .slice as3 Ga.wt.length cs3, .slice as4 Ga.vl.length cs4, .slice as5 rss.length cs5] 25, bundle (insL 3 22 Ga as3 cs3 as4 cs4 as5 cs5 rss)]) hM
          obtain ⟨-, hc3, hc4, hc5⟩ := insR_of hM (k := 0) rfl rfl
          obtain ⟨-, hs3, hs4, hs5⟩ := insR_of hM (k := 3) rfl hYs
          replace hM := (hM.drop 3).drop 0
          have hlcs : rss.length = Ga.cost.length := by rw [← hYs, List.length_map]
          rw [hlcs] at hM
          have hlct : R1.length = (⟨Ga.kind, Ga.n, Ga.cap, Ga.wt, Ga.vl, R1.map (·.Y)⟩ : Ins).cost.length := (List.length_map ..).symm
          rw [hlct] at hM
          replace hM : Mem _ _ [pt b7 #[.int .i64 ((⟨Ga.kind, Ga.n, Ga.cap, Ga.wt, Ga.vl, R1.map (·.Y)⟩ : Ins).kind), .int .i64 ((⟨Ga.kind, Ga.n, Ga.cap, Ga.wt, Ga.vl, R1.map (·.Y)⟩ : Ins).n), .int .i64 ((⟨Ga.kind, Ga.n, Ga.cap, Ga.wt, Ga.vl, R1.map (·.Y)⟩ : Ins).cap), .slice ac3 (((⟨Ga.kind, Ga.n, Ga.cap, Ga.wt, Ga.vl, R1.map (·.Y)⟩ : Ins).wt).length) cc3, .slice ac4 (((⟨Ga.kind, Ga.n, Ga.cap, Ga.wt, Ga.vl, R1.map (·.Y)⟩ : Ins).vl).length) cc4, .slice ac5 (((⟨Ga.kind, Ga.n, Ga.cap, Ga.wt, Ga.vl, R1.map (·.Y)⟩ : Ins).cost).length) cc5] 25, pt b9 #[.int .i64 Ga.kind, .int .i64 Ga.n, .int .i64 Ga.cap, .slice as3 Ga.wt.length cs3, .slice as4 Ga.vl.length cs4, .slice as5 Ga.cost.length cs5] 25] _ := hM
          generalize (⟨Ga.kind, Ga.n, Ga.cap, Ga.wt, Ga.vl, R1.map (·.Y)⟩ : Ins) = T at hM hc3 hc4 hc5
          replace hM : Mem _ _ [pt b7 #[.int .i64 T.kind, .int .i64 T.n, .int .i64 T.cap, .slice ac3 T.wt.length cc3, .slice ac4 T.vl.length cc4, .slice ac5 T.cost.length cc5] 25, pt b9 #[.int .i64 Ga.kind, .int .i64 Ga.n, .int .i64 Ga.cap, .slice as3 Ga.wt.length cs3, .slice as4 Ga.vl.length cs4, .slice as5 Ga.cost.length cs5] 25] _ := hM
          have hbx48 := hM.block (k := 0) rfl
          have hbx49 := hM.block (k := 1) rfl
          have hbs := hbs.trans (hM.below.mono hbs.size)
          have hx3 := hx3.mem hM
          have hx4 := hx4.mem hM
          have hx5 := hx5.mem hM
          have hy3 := hy3.mem hM
          have hy4 := hy4.mem hM
          have hy5 := hy5.mem hM
          have hp3 := hp3.mem hM
          have hp4 := hp4.mem hM
          have hp5 := hp5.mem hM
          have hr3 := hr3.mem hM
          have hr4 := hr4.mem hM
          have hr5 := hr5.mem hM
          have hbx5 := hM.keepB hbx5
          have hbx6 := hM.keepB hbx6
          replace hM := Mem.start w46
          refine Ends.drawn (Mem w46 nof []) (.cons (0, true) (.cons (1, true) (.cons (2, false) (.cons (3, true) (.cons (4, true) (.cons (5, true) (.cons (7, true) (.cons (8, true) (.cons (6, false) (.cons (9, false) (.cons (10, true) (.cons (11, true) (.cons (12, true) .nil))))))))))))) 13 mixed (by kernel_rfl) (by kernel_rfl) (by kernel_rfl) hM.drew ?_
          replace hM := hM.drew
          refine D.val hA rfl (by kernel_rfl) (fun _ hM => R.loadA sz25 rfl (hM.oldRange hbx6) rfl) rfl ?_; clear hA a; intro a hA
          refine D.val hA rfl (by kernel_rfl) (fun _ hM => R.loadA sz25 rfl (hM.oldRange hbx49) rfl) rfl ?_; clear hA a; intro a hA
          refine D.call hA rfl (R.callF Tryd.func22 rfl rfl rfl) rfl (rSame_eq Ga ap3 cp3 ap4 cp4 ap5 cp5 as3 cs3 as4 cs4 as5 cs5 _ (hp3.mem hM) (hp4.mem hM) (hp5.mem hM) (hs3.mem hM) (hs4.mem hM) (hs5.mem hM)) ?_; clear hA a
          rintro e w47 ⟨rfl, hb⟩
          replace hM := hM.callB hb; clear hb
          refine ⟨.bool true, rfl, hM, fun a hA => ?_⟩
          refine D.valF hA rfl (fun _ => R.move rfl) rfl ?_; clear hA a; intro a hA
          refine D.valg (dj := 95) hA rfl (by kernel_rfl) (by kernel_rfl) rfl (fun _ hM => R.loadA sz25 rfl (hM.oldRange hbx6) rfl) rfl ?_; clear hA a; intro a hA
          refine D.valg (dj := 95) hA rfl (by kernel_rfl) (by kernel_rfl) rfl (fun _ hM => R.loadA sz25 rfl (hM.oldRange hbx48) rfl) rfl ?_; clear hA a; intro a hA
          refine D.valg (dj := 95) hA rfl (by kernel_rfl) (by kernel_rfl) rfl (fun _ hM => R.loadA sz25 rfl (hM.oldRange hbx6) rfl) rfl ?_; clear hA a; intro a hA
          refine D.valg (dj := 95) hA rfl (by kernel_rfl) (by kernel_rfl) rfl (fun _ hM => R.loadA sz25 rfl (hM.oldRange hbx48) rfl) rfl ?_; clear hA a; intro a hA
          refine D.callg (dj := 95) hA rfl (by kernel_rfl) rfl (R.callF Tryd.func26 rfl rfl rfl) rfl (iSame Ga ap3 cp3 ap4 cp4 ap5 cp5 T ac3 cc3 ac4 cc4 ac5 cc5 _ (hp3.mem hM) (hp4.mem hM) (hp5.mem hM) (hc3.mem hM) (hc4.mem hM) (hc5.mem hM)) ?_; clear hA a
          rintro e w48 ⟨rfl, hb⟩
          replace hM := hM.callB hb; clear hb
          refine ⟨.bool (decide (Ga = T)), rfl, hM, fun a hA => ?_⟩
          refine D.callg (dj := 95) hA rfl (by kernel_rfl) rfl (R.callF Tryd.func22 rfl rfl rfl) rfl (rSame Ga ap3 cp3 ap4 cp4 ap5 cp5 T ac3 cc3 ac4 cc4 ac5 cc5 _ (hp3.mem hM) (hp4.mem hM) (hp5.mem hM) (hc3.mem hM) (hc4.mem hM) (hc5.mem hM)) ?_; clear hA a
          rintro e w49 ⟨rfl, hb⟩
          replace hM := hM.callB hb; clear hb
          refine ⟨.bool (decide (Ga = T)), rfl, hM, fun a hA => ?_⟩
          refine D.valgF (dj := 95) hA rfl (by kernel_rfl) rfl (fun _ => R.to (v := .bool true) (R.eqlB Tryd.underlying4 rfl rfl) (congrArg Value.bool (by simp))) rfl ?_; clear hA a; intro a hA
          refine D.valF hA rfl (fun _ => R.pickT rfl rfl) rfl ?_; clear hA a; intro a hA
          refine D.valF hA rfl (fun _ => R.assign rfl) rfl ?_; clear hA a; intro a hA
          refine D.done ?_
          replace hA : St 104 [(6, _)] a := hA.sub ((.cons rfl .nil))
          refine Ends.ret1 Tryd.func7 Tryd.results7 hA rfl ?_
          exact ⟨rfl, Mem.trans0 hbs hM.nilL⟩
        ·
          refine Ends.skip ?_
          refine Ends.seq ?_
          replace hM := hM.front (k := 4) rfl
          replace hM := hM.front (k := 4) rfl
          replace hM := hM.front (k := 4) rfl
          replace hM := hM.front (k := 4) rfl
          replace hM := hM.front (k := 4) rfl
          replace hM := Mem.pack (cs := insL 3 22 (⟨Ga.kind, Ga.n, Ga.cap, Ga.wt, Ga.vl, rsc.map (·.Y)⟩ : Ins) ac3 cc3 ac4 cc4 ac5 cc5 rsc) (L := [pt b7 #[.int .i64 Ga.kind, .int .i64 Ga.n, .int .i64 Ga.cap, .slice ac3 Ga.wt.length cc3, .slice ac4 Ga.vl.length cc4, .slice ac5 rsc.length cc5] 25, pt b9 #[.int .i64 Ga.kind, .int .i64 Ga.n, .int .i64 Ga.cap, .slice as3 Ga.wt.length cs3, .slice as4 Ga.vl.length cs4, .slice as5 rss.length cs5] 25, bundle (insL 3 22 Ga as3 cs3 as4 cs4 as5 cs5 rss)]) hM
          obtain ⟨-, hc3, hc4, hc5⟩ := insR_of hM (k := 0) rfl rfl
          obtain ⟨-, hs3, hs4, hs5⟩ := insR_of hM (k := 3) rfl hYs
          replace hM := (hM.drop 3).drop 0
          have hlcs : rss.length = Ga.cost.length := by rw [← hYs, List.length_map]
          rw [hlcs] at hM
          have hlct : rsc.length = (⟨Ga.kind, Ga.n, Ga.cap, Ga.wt, Ga.vl, rsc.map (·.Y)⟩ : Ins).cost.length := (List.length_map ..).symm
          rw [hlct] at hM
          replace hM : Mem _ _ [pt b7 #[.int .i64 ((⟨Ga.kind, Ga.n, Ga.cap, Ga.wt, Ga.vl, rsc.map (·.Y)⟩ : Ins).kind), .int .i64 ((⟨Ga.kind, Ga.n, Ga.cap, Ga.wt, Ga.vl, rsc.map (·.Y)⟩ : Ins).n), .int .i64 ((⟨Ga.kind, Ga.n, Ga.cap, Ga.wt, Ga.vl, rsc.map (·.Y)⟩ : Ins).cap), .slice ac3 (((⟨Ga.kind, Ga.n, Ga.cap, Ga.wt, Ga.vl, rsc.map (·.Y)⟩ : Ins).wt).length) cc3, .slice ac4 (((⟨Ga.kind, Ga.n, Ga.cap, Ga.wt, Ga.vl, rsc.map (·.Y)⟩ : Ins).vl).length) cc4, .slice ac5 (((⟨Ga.kind, Ga.n, Ga.cap, Ga.wt, Ga.vl, rsc.map (·.Y)⟩ : Ins).cost).length) cc5] 25, pt b9 #[.int .i64 Ga.kind, .int .i64 Ga.n, .int .i64 Ga.cap, .slice as3 Ga.wt.length cs3, .slice as4 Ga.vl.length cs4, .slice as5 Ga.cost.length cs5] 25] _ := hM
          generalize (⟨Ga.kind, Ga.n, Ga.cap, Ga.wt, Ga.vl, rsc.map (·.Y)⟩ : Ins) = T at hM hc3 hc4 hc5
          replace hM : Mem _ _ [pt b7 #[.int .i64 T.kind, .int .i64 T.n, .int .i64 T.cap, .slice ac3 T.wt.length cc3, .slice ac4 T.vl.length cc4, .slice ac5 T.cost.length cc5] 25, pt b9 #[.int .i64 Ga.kind, .int .i64 Ga.n, .int .i64 Ga.cap, .slice as3 Ga.wt.length cs3, .slice as4 Ga.vl.length cs4, .slice as5 Ga.cost.length cs5] 25] _ := hM
          have hbx50 := hM.block (k := 0) rfl
          have hbx51 := hM.block (k := 1) rfl
          have hbs := hbs.trans (hM.below.mono hbs.size)
          have hx3 := hx3.mem hM
          have hx4 := hx4.mem hM
          have hx5 := hx5.mem hM
          have hy3 := hy3.mem hM
          have hy4 := hy4.mem hM
          have hy5 := hy5.mem hM
          have hp3 := hp3.mem hM
          have hp4 := hp4.mem hM
          have hp5 := hp5.mem hM
          have hr3 := hr3.mem hM
          have hr4 := hr4.mem hM
          have hr5 := hr5.mem hM
          have hbx5 := hM.keepB hbx5
          have hbx6 := hM.keepB hbx6
          replace hM := Mem.start w45
          refine Ends.drawn (Mem w45 nof []) (.cons (0, true) (.cons (1, true) (.cons (2, false) (.cons (3, true) (.cons (4, true) (.cons (5, true) (.cons (7, true) (.cons (8, true) (.cons (6, false) (.cons (9, false) (.cons (10, true) (.cons (11, true) (.cons (12, true) .nil))))))))))))) 13 mixed (by kernel_rfl) (by kernel_rfl) (by kernel_rfl) hM.drew ?_
          replace hM := hM.drew
          refine D.val hA rfl (by kernel_rfl) (fun _ hM => R.loadA sz25 rfl (hM.oldRange hbx6) rfl) rfl ?_; clear hA a; intro a hA
          refine D.val hA rfl (by kernel_rfl) (fun _ hM => R.loadA sz25 rfl (hM.oldRange hbx51) rfl) rfl ?_; clear hA a; intro a hA
          refine D.call hA rfl (R.callF Tryd.func22 rfl rfl rfl) rfl (rSame_eq Ga ap3 cp3 ap4 cp4 ap5 cp5 as3 cs3 as4 cs4 as5 cs5 _ (hp3.mem hM) (hp4.mem hM) (hp5.mem hM) (hs3.mem hM) (hs4.mem hM) (hs5.mem hM)) ?_; clear hA a
          rintro e w50 ⟨rfl, hb⟩
          replace hM := hM.callB hb; clear hb
          refine ⟨.bool true, rfl, hM, fun a hA => ?_⟩
          refine D.valF hA rfl (fun _ => R.move rfl) rfl ?_; clear hA a; intro a hA
          refine D.valg (dj := 95) hA rfl (by kernel_rfl) (by kernel_rfl) rfl (fun _ hM => R.loadA sz25 rfl (hM.oldRange hbx6) rfl) rfl ?_; clear hA a; intro a hA
          refine D.valg (dj := 95) hA rfl (by kernel_rfl) (by kernel_rfl) rfl (fun _ hM => R.loadA sz25 rfl (hM.oldRange hbx50) rfl) rfl ?_; clear hA a; intro a hA
          refine D.valg (dj := 95) hA rfl (by kernel_rfl) (by kernel_rfl) rfl (fun _ hM => R.loadA sz25 rfl (hM.oldRange hbx6) rfl) rfl ?_; clear hA a; intro a hA
          refine D.valg (dj := 95) hA rfl (by kernel_rfl) (by kernel_rfl) rfl (fun _ hM => R.loadA sz25 rfl (hM.oldRange hbx50) rfl) rfl ?_; clear hA a; intro a hA
          refine D.callg (dj := 95) hA rfl (by kernel_rfl) rfl (R.callF Tryd.func26 rfl rfl rfl) rfl (iSame Ga ap3 cp3 ap4 cp4 ap5 cp5 T ac3 cc3 ac4 cc4 ac5 cc5 _ (hp3.mem hM) (hp4.mem hM) (hp5.mem hM) (hc3.mem hM) (hc4.mem hM) (hc5.mem hM)) ?_; clear hA a
          rintro e w51 ⟨rfl, hb⟩
          replace hM := hM.callB hb; clear hb
          refine ⟨.bool (decide (Ga = T)), rfl, hM, fun a hA => ?_⟩
          refine D.callg (dj := 95) hA rfl (by kernel_rfl) rfl (R.callF Tryd.func22 rfl rfl rfl) rfl (rSame Ga ap3 cp3 ap4 cp4 ap5 cp5 T ac3 cc3 ac4 cc4 ac5 cc5 _ (hp3.mem hM) (hp4.mem hM) (hp5.mem hM) (hc3.mem hM) (hc4.mem hM) (hc5.mem hM)) ?_; clear hA a
          rintro e w52 ⟨rfl, hb⟩
          replace hM := hM.callB hb; clear hb
          refine ⟨.bool (decide (Ga = T)), rfl, hM, fun a hA => ?_⟩
          refine D.valgF (dj := 95) hA rfl (by kernel_rfl) rfl (fun _ => R.to (v := .bool true) (R.eqlB Tryd.underlying4 rfl rfl) (congrArg Value.bool (by simp))) rfl ?_; clear hA a; intro a hA
          refine D.valF hA rfl (fun _ => R.pickT rfl rfl) rfl ?_; clear hA a; intro a hA
          refine D.valF hA rfl (fun _ => R.assign rfl) rfl ?_; clear hA a; intro a hA
          refine D.done ?_
          replace hA : St 104 [(6, _)] a := hA.sub ((.cons rfl .nil))
          refine Ends.ret1 Tryd.func7 Tryd.results7 hA rfl ?_
          exact ⟨rfl, Mem.trans0 hbs hM.nilL⟩
      ·
        refine Ends.region ?_
        refine S.val hA (R.move rfl) rfl ?_; clear hA a; intro a hA
        refine S.val hA (R.fieldAddr (q := 5) fi25_5 rfl rfl rfl) rfl ?_; clear hA a; intro a hA
        refine S.val hA (R.load sz23 rfl (hM.cell (k := 4) rfl rfl)) rfl ?_; clear hA a; intro a hA
        refine S.val hA (R.lenS Tryd.underlying23 rfl rfl) rfl ?_; clear hA a; intro a hA
        refine S.val hA (R.lss rfl rfl) rfl ?_; clear hA a; intro a hA
        refine S.val hA (R.move rfl) rfl ?_; clear hA a; intro a hA
        refine hA.split (d := 74) rfl ?_ ?_
        · clear hA; intro hg52 hA
          refine S.valg (dj := 74) hA (by kernel_rfl) rfl (R.fieldAddr (q := 5) fi25_5 rfl rfl rfl) rfl ?_; clear hA a; intro a hA
          refine S.valg (dj := 74) hA (by kernel_rfl) rfl (R.load sz23 rfl (hM.cell (k := 4) rfl rfl)) rfl ?_; clear hA a; intro a hA
          refine S.valg (dj := 74) hA (by kernel_rfl) rfl (R.move rfl) rfl ?_; clear hA a; intro a hA
          refine S.valg (dj := 74) hA (by kernel_rfl) rfl (R.idxRn (hM.rowsV (k := 2) rfl (k2 := 3) rfl) (j := n11) sl23 rfl rfl (by omega) (rfl)) rfl ?_; clear hA a; intro a hA
          obtain ⟨ra53, rc54, hrow55, hld56⟩ := (hM.rowsV_ (k := 2) rfl (k2 := 3) rfl).atP (i := n11) (by rw [List.length_map]; omega)
          refine S.valg (dj := 74) hA (by kernel_rfl) rfl (hld56 _ _ _ _ _ _ (Mem.start _) sz22 rfl) rfl ?_; clear hA a; intro a hA
          refine S.valg (dj := 74) hA (by kernel_rfl) rfl (R.lenS Tryd.underlying22 rfl rfl) rfl ?_; clear hA a; intro a hA
          refine S.valg (dj := 74) hA (by kernel_rfl) rfl (R.gtr rfl rfl) rfl ?_; clear hA a; intro a hA
          refine S.val hA (R.pickT rfl rfl) rfl ?_; clear hA a; intro a hA
          refine S.done ?_
          replace hA : St 104 [(3, _), (7, _), (8, _), (9, _), (82, _)] a := hA.sub ((.cons rfl (.cons rfl (.cons rfl (.cons rfl (.cons rfl .nil))))))
          exact hJ _ _ ⟨hA.sub (.cons rfl (.cons rfl (.cons rfl (.cons rfl (.cons (by first | rfl | exact congrArg (fun b => some (Value.bool b)) (by first | exact decide_eq_decide.2 (by omega) | exact or_bool (by omega) | exact and_bool (by omega) | (simp; done) | (simp [hg52]; done) | (have h80 := hg52; (try simp at h80); simp [h80]; done) | exact (decide_eq_false (fun h9 => hg52 h9.1)).symm)) .nil))))), hM⟩
        · clear hA; intro hg52 hA
          refine S.no (dj := 74) hA (by kernel_rfl) rfl rfl rfl ?_; clear hA a; intro a hA
          refine S.no (dj := 74) hA (by kernel_rfl) rfl rfl rfl ?_; clear hA a; intro a hA
          refine S.no (dj := 74) hA (by kernel_rfl) rfl rfl rfl ?_; clear hA a; intro a hA
          refine S.no (dj := 74) hA (by kernel_rfl) rfl rfl rfl ?_; clear hA a; intro a hA
          refine S.no (dj := 74) hA (by kernel_rfl) rfl rfl rfl ?_; clear hA a; intro a hA
          refine S.no (dj := 74) hA (by kernel_rfl) rfl rfl rfl ?_; clear hA a; intro a hA
          refine S.no (dj := 74) hA (by kernel_rfl) rfl rfl rfl ?_; clear hA a; intro a hA
          refine S.val hA (R.pickF rfl rfl) rfl ?_; clear hA a; intro a hA
          refine S.done ?_
          replace hA : St 104 [(3, _), (7, _), (8, _), (9, _), (82, _)] a := hA.sub ((.cons rfl (.cons rfl (.cons rfl (.cons rfl (.cons rfl .nil))))))
          exact hJ _ _ ⟨hA.sub (.cons rfl (.cons rfl (.cons rfl (.cons rfl (.cons (by first | rfl | exact congrArg (fun b => some (Value.bool b)) (by first | exact decide_eq_decide.2 (by omega) | exact or_bool (by omega) | exact and_bool (by omega) | (simp; done) | (simp [hg52]; done) | (have h80 := hg52; (try simp at h80); simp [h80]; done) | exact (decide_eq_false (fun h9 => hg52 h9.1)).symm)) .nil))))), hM⟩
theorem instCopies_any (v : Value) (i : Ins) (u : Value) (j : Ins) (q : Int) (w : World) (h1 : InsV w v i) (_h2 : wfI i) (g1 : InsV w u j) (_g2 : wfI j) (_hq : (Lit.int .i64 q).wf = true) (htab : Lib.TabIs Tryd.prog w "internal/strconv.uint64pow10" .u64 Lib.pow10Tab) :
    Calls Tryd.prog 7 #[v, u, .int .i64 q] w fun e w' => e = .returned (.bool true) ∧ Below w.heap.size w w' := by
  obtain ⟨aw, cw, av, cv, ac, cc, rfl, h3, h4, h5⟩ := h1.parts
  obtain ⟨bw, dw, bv, dv, bc, dc, rfl, g3, g4, g5⟩ := g1.parts
  exact instCopies_w i aw cw av cv ac cc j bw dw bv dv bc dc q w h3 h4 h5 g3 g4 g5 htab
end Go.Proofs.YtakfcekfmdjklaaDoor
