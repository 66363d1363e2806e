/-
  ParseCuts, part 5 of 5: what the code computes, and plain laws; no condition beside those that each theorem tells.
-/
import Derived.Test.YtakfcekfmdjklaaDoorParseCutsD
namespace Go.Proofs.YtakfcekfmdjklaaDoor
open Go.RowKit
theorem items06_bad (g rb ib j cap : Nat) (at0 : Int) (X : List Tok) (hX : Toks X) (hj : j < X.length) (hcap : X.length ≤ cap) (kd : Int) (hE : (itR X j).1 ≠ 0) (w : World) (hM : Mem w (feet [pt rb #[.slice (some ⟨g, j * 4, none⟩) (X.length - j) (cap - j), .int .i64 at0] 62, own 77 4 (.slice ((some ⟨g, 0, none⟩)) X.length cap) X.length (tokv X), pt ib #[.int .i64 kd, .int .i64 0, .int .i64 0, .slice none 0 0, .slice none 0 0, .slice none 0 0] 25]) [pt rb #[.slice (some ⟨g, j * 4, none⟩) (X.length - j) (cap - j), .int .i64 at0] 62, own 77 4 (.slice ((some ⟨g, 0, none⟩)) X.length cap) X.length (tokv X), pt ib #[.int .i64 kd, .int .i64 0, .int .i64 0, .slice none 0 0, .slice none 0 0, .slice none 0 0] 25] w) :
    Calls Tryd.prog 62 #[.pointer (some ⟨rb, 0, none⟩), .pointer (some ⟨ib, 0, none⟩)] w fun e w' => e = .returned (.int .i64 (itR X j).1) ∧ ∃ jx, Mem w (feet [pt rb #[.slice (some ⟨g, j * 4, none⟩) (X.length - j) (cap - j), .int .i64 at0] 62, own 77 4 (.slice ((some ⟨g, 0, none⟩)) X.length cap) X.length (tokv X), pt ib #[.int .i64 kd, .int .i64 0, .int .i64 0, .slice none 0 0, .slice none 0 0, .slice none 0 0] 25]) [pt rb #[.slice (some ⟨g, jx * 4, none⟩) (X.length - jx) (cap - jx), .int .i64 (((X.getD (itR X j).2 tz).a))] 62, own 77 4 (.slice ((some ⟨g, 0, none⟩)) X.length cap) X.length (tokv X)] w' :=
  (items06 g rb ib j cap at0 X hX hj hcap kd w hM).mono (by rintro e w' ⟨h1, h2 | h2⟩; exact ⟨h1, h2.2⟩; exact absurd h2.1 hE)
theorem items06_ok (g rb ib j cap : Nat) (at0 : Int) (X : List Tok) (hX : Toks X) (hj : j < X.length) (hcap : X.length ≤ cap) (kd : Int) (hE : (itR X j).1 = 0) (w : World) (hM : Mem w (feet [pt rb #[.slice (some ⟨g, j * 4, none⟩) (X.length - j) (cap - j), .int .i64 at0] 62, own 77 4 (.slice ((some ⟨g, 0, none⟩)) X.length cap) X.length (tokv X), pt ib #[.int .i64 kd, .int .i64 0, .int .i64 0, .slice none 0 0, .slice none 0 0, .slice none 0 0] 25]) [pt rb #[.slice (some ⟨g, j * 4, none⟩) (X.length - j) (cap - j), .int .i64 at0] 62, own 77 4 (.slice ((some ⟨g, 0, none⟩)) X.length cap) X.length (tokv X), pt ib #[.int .i64 kd, .int .i64 0, .int .i64 0, .slice none 0 0, .slice none 0 0, .slice none 0 0] 25] w) :
    Calls Tryd.prog 62 #[.pointer (some ⟨rb, 0, none⟩), .pointer (some ⟨ib, 0, none⟩)] w fun e w' => e = .returned (.int .i64 0) ∧ ∃ at1 wa wc va vc, ∃ n : Nat, ctN X j 64 = n ∧ 1 ≤ n ∧ (n : Int) ≤ 64 ∧ Mem w (feet [pt rb #[.slice (some ⟨g, j * 4, none⟩) (X.length - j) (cap - j), .int .i64 at0] 62, own 77 4 (.slice ((some ⟨g, 0, none⟩)) X.length cap) X.length (tokv X), pt ib #[.int .i64 kd, .int .i64 0, .int .i64 0, .slice none 0 0, .slice none 0 0, .slice none 0 0] 25]) [pt rb #[.slice (some ⟨g, (itR X j).2 * 4, none⟩) (X.length - (itR X j).2) (cap - (itR X j).2), .int .i64 at1] 62, own 77 4 (.slice ((some ⟨g, 0, none⟩)) X.length cap) X.length (tokv X), pt ib #[.int .i64 kd, .int .i64 ((n : Int)), .int .i64 ((X.getD (j + 1) tz).n), .slice wa ((itI X (j + 2) n).length) wc, .slice va ((itI X (j + 3) n).length) vc, .slice none 0 0] 25, own 3 1 (.slice wa (((itI X (j + 2) n)).length) wc) (((itI X (j + 2) n)).length) (((itI X (j + 2) n)).map (Value.int .i64)), own 3 1 (.slice va (((itI X (j + 3) n)).length) vc) (((itI X (j + 3) n)).length) (((itI X (j + 3) n)).map (Value.int .i64))] w' :=
  (items06 g rb ib j cap at0 X hX hj hcap kd w hM).mono (by rintro e w' ⟨h1, h2 | h2⟩; exact absurd hE h2.1; exact ⟨by rw [h1, hE], h2.2⟩)
theorem rows06_bad (g rb ib j cap : Nat) (at0 : Int) (X : List Tok) (hX : Toks X) (hj : j < X.length) (hcap : X.length ≤ cap) (kd : Int) (n : Nat) (hn1 : 1 ≤ n) (hn24 : n ≤ 24) (hE : (nuR (dgk kd n) X j (n * n)).1 ≠ 0) (w : World) (hM : Mem w (feet [pt rb #[.slice (some ⟨g, j * 4, none⟩) (X.length - j) (cap - j), .int .i64 at0] 62, own 77 4 (.slice ((some ⟨g, 0, none⟩)) X.length cap) X.length (tokv X), pt ib #[.int .i64 kd, .int .i64 ((n : Int)), .int .i64 0, .slice none 0 0, .slice none 0 0, .slice none 0 0] 25]) [pt rb #[.slice (some ⟨g, j * 4, none⟩) (X.length - j) (cap - j), .int .i64 at0] 62, own 77 4 (.slice ((some ⟨g, 0, none⟩)) X.length cap) X.length (tokv X), pt ib #[.int .i64 kd, .int .i64 ((n : Int)), .int .i64 0, .slice none 0 0, .slice none 0 0, .slice none 0 0] 25] w) :
    Calls Tryd.prog 65 #[.pointer (some ⟨rb, 0, none⟩), .pointer (some ⟨ib, 0, none⟩)] w fun e w' => e = .returned (.int .i64 (nuR (dgk kd n) X j (n * n)).1) ∧ ∃ jx, Mem w (feet [pt rb #[.slice (some ⟨g, j * 4, none⟩) (X.length - j) (cap - j), .int .i64 at0] 62, own 77 4 (.slice ((some ⟨g, 0, none⟩)) X.length cap) X.length (tokv X), pt ib #[.int .i64 kd, .int .i64 ((n : Int)), .int .i64 0, .slice none 0 0, .slice none 0 0, .slice none 0 0] 25]) [pt rb #[.slice (some ⟨g, jx * 4, none⟩) (X.length - jx) (cap - jx), .int .i64 (((X.getD (nuR (dgk kd n) X j (n * n)).2 tz).a))] 62, own 77 4 (.slice ((some ⟨g, 0, none⟩)) X.length cap) X.length (tokv X)] w' :=
  (rows06 g rb ib j cap at0 X hX hj hcap kd n hn1 hn24 w hM).mono (by rintro e w' ⟨h1, h2 | h2⟩; exact ⟨h1, h2.2⟩; exact absurd h2.1 hE)
theorem rows06_ok (g rb ib j cap : Nat) (at0 : Int) (X : List Tok) (hX : Toks X) (hj : j < X.length) (hcap : X.length ≤ cap) (kd : Int) (n : Nat) (hn1 : 1 ≤ n) (hn24 : n ≤ 24) (hE : (nuR (dgk kd n) X j (n * n)).1 = 0) (w : World) (hM : Mem w (feet [pt rb #[.slice (some ⟨g, j * 4, none⟩) (X.length - j) (cap - j), .int .i64 at0] 62, own 77 4 (.slice ((some ⟨g, 0, none⟩)) X.length cap) X.length (tokv X), pt ib #[.int .i64 kd, .int .i64 ((n : Int)), .int .i64 0, .slice none 0 0, .slice none 0 0, .slice none 0 0] 25]) [pt rb #[.slice (some ⟨g, j * 4, none⟩) (X.length - j) (cap - j), .int .i64 at0] 62, own 77 4 (.slice ((some ⟨g, 0, none⟩)) X.length cap) X.length (tokv X), pt ib #[.int .i64 kd, .int .i64 ((n : Int)), .int .i64 0, .slice none 0 0, .slice none 0 0, .slice none 0 0] 25] w) :
    Calls Tryd.prog 65 #[.pointer (some ⟨rb, 0, none⟩), .pointer (some ⟨ib, 0, none⟩)] w fun e w' => e = .returned (.int .i64 0) ∧ ∃ (at1 : Int) (gb : Nat) (rs : List OwR), rs.map (·.Y) = mat n (rwI X j n) ∧ Mem w (feet [pt rb #[.slice (some ⟨g, j * 4, none⟩) (X.length - j) (cap - j), .int .i64 at0] 62, own 77 4 (.slice ((some ⟨g, 0, none⟩)) X.length cap) X.length (tokv X), pt ib #[.int .i64 kd, .int .i64 ((n : Int)), .int .i64 0, .slice none 0 0, .slice none 0 0, .slice none 0 0] 25]) [pt rb #[.slice (some ⟨g, (nuR (dgk kd n) X j (n * n)).2 * 4, none⟩) (X.length - (nuR (dgk kd n) X j (n * n)).2) (cap - (nuR (dgk kd n) X j (n * n)).2), .int .i64 at1] 62, own 77 4 (.slice ((some ⟨g, 0, none⟩)) X.length cap) X.length (tokv X), pt ib #[.int .i64 kd, .int .i64 ((n : Int)), .int .i64 0, .slice none 0 0, .slice none 0 0, .slice ((some ⟨gb, 0, none⟩)) n n] 25, own 22 1 (.slice ((some ⟨gb, 0, none⟩)) n n) n ((rs.map orV)), bundle (rs.map (orC 3))] w' :=
  (rows06 g rb ib j cap at0 X hX hj hcap kd n hn1 hn24 w hM).mono (by rintro e w' ⟨h1, h2 | h2⟩; exact absurd hE h2.1; exact ⟨by rw [h1, hE], h2.2⟩)
theorem half06_bad (g rb ib j cap : Nat) (at0 : Int) (X : List Tok) (hX : Toks X) (hj : j < X.length) (hcap : X.length ≤ cap) (kd : Int) (n : Nat) (hn1 : 1 ≤ n) (hn24 : n ≤ 24) (hE : (nuR ff X j (hlf n)).1 ≠ 0) (w : World) (hM : Mem w (feet [pt rb #[.slice (some ⟨g, j * 4, none⟩) (X.length - j) (cap - j), .int .i64 at0] 62, own 77 4 (.slice ((some ⟨g, 0, none⟩)) X.length cap) X.length (tokv X), pt ib #[.int .i64 kd, .int .i64 ((n : Int)), .int .i64 0, .slice none 0 0, .slice none 0 0, .slice none 0 0] 25]) [pt rb #[.slice (some ⟨g, j * 4, none⟩) (X.length - j) (cap - j), .int .i64 at0] 62, own 77 4 (.slice ((some ⟨g, 0, none⟩)) X.length cap) X.length (tokv X), pt ib #[.int .i64 kd, .int .i64 ((n : Int)), .int .i64 0, .slice none 0 0, .slice none 0 0, .slice none 0 0] 25] w) :
    Calls Tryd.prog 82 #[.pointer (some ⟨rb, 0, none⟩), .pointer (some ⟨ib, 0, none⟩)] w fun e w' => e = .returned (.int .i64 (nuR ff X j (hlf n)).1) ∧ ∃ jx, Mem w (feet [pt rb #[.slice (some ⟨g, j * 4, none⟩) (X.length - j) (cap - j), .int .i64 at0] 62, own 77 4 (.slice ((some ⟨g, 0, none⟩)) X.length cap) X.length (tokv X), pt ib #[.int .i64 kd, .int .i64 ((n : Int)), .int .i64 0, .slice none 0 0, .slice none 0 0, .slice none 0 0] 25]) [pt rb #[.slice (some ⟨g, jx * 4, none⟩) (X.length - jx) (cap - jx), .int .i64 (((X.getD (nuR ff X j (hlf n)).2 tz).a))] 62, own 77 4 (.slice ((some ⟨g, 0, none⟩)) X.length cap) X.length (tokv X)] w' :=
  (half06 g rb ib j cap at0 X hX hj hcap kd n hn1 hn24 w hM).mono (by rintro e w' ⟨h1, h2 | h2⟩; exact ⟨h1, h2.2⟩; exact absurd h2.1 hE)
theorem half06_ok (g rb ib j cap : Nat) (at0 : Int) (X : List Tok) (hX : Toks X) (hj : j < X.length) (hcap : X.length ≤ cap) (kd : Int) (n : Nat) (hn1 : 1 ≤ n) (hn24 : n ≤ 24) (hE : (nuR ff X j (hlf n)).1 = 0) (w : World) (hM : Mem w (feet [pt rb #[.slice (some ⟨g, j * 4, none⟩) (X.length - j) (cap - j), .int .i64 at0] 62, own 77 4 (.slice ((some ⟨g, 0, none⟩)) X.length cap) X.length (tokv X), pt ib #[.int .i64 kd, .int .i64 ((n : Int)), .int .i64 0, .slice none 0 0, .slice none 0 0, .slice none 0 0] 25]) [pt rb #[.slice (some ⟨g, j * 4, none⟩) (X.length - j) (cap - j), .int .i64 at0] 62, own 77 4 (.slice ((some ⟨g, 0, none⟩)) X.length cap) X.length (tokv X), pt ib #[.int .i64 kd, .int .i64 ((n : Int)), .int .i64 0, .slice none 0 0, .slice none 0 0, .slice none 0 0] 25] w) :
    Calls Tryd.prog 82 #[.pointer (some ⟨rb, 0, none⟩), .pointer (some ⟨ib, 0, none⟩)] w fun e w' => e = .returned (.int .i64 0) ∧ ∃ (at1 : Int) (gb : Nat) (rs : List OwR), rs.map (·.Y) = mat n (hfI X j n) ∧ Mem w (feet [pt rb #[.slice (some ⟨g, j * 4, none⟩) (X.length - j) (cap - j), .int .i64 at0] 62, own 77 4 (.slice ((some ⟨g, 0, none⟩)) X.length cap) X.length (tokv X), pt ib #[.int .i64 kd, .int .i64 ((n : Int)), .int .i64 0, .slice none 0 0, .slice none 0 0, .slice none 0 0] 25]) [pt rb #[.slice (some ⟨g, (nuR ff X j (hlf n)).2 * 4, none⟩) (X.length - (nuR ff X j (hlf n)).2) (cap - (nuR ff X j (hlf n)).2), .int .i64 at1] 62, own 77 4 (.slice ((some ⟨g, 0, none⟩)) X.length cap) X.length (tokv X), pt ib #[.int .i64 kd, .int .i64 ((n : Int)), .int .i64 0, .slice none 0 0, .slice none 0 0, .slice ((some ⟨gb, 0, none⟩)) n n] 25, own 22 1 (.slice ((some ⟨gb, 0, none⟩)) n n) n ((rs.map orV)), bundle (rs.map (orC 3))] w' :=
  (half06 g rb ib j cap at0 X hX hj hcap kd n hn1 hn24 w hM).mono (by rintro e w' ⟨h1, h2 | h2⟩; exact absurd hE h2.1; exact ⟨by rw [h1, hE], h2.2⟩)
theorem Toks.wok {X : List Tok} (h : Toks X) {j : Nat} (hj : j < X.length) {l : List ByteArray} (e : (wordR (X.getD j tz) l).2 = 0) : j + 1 < X.length :=
  h.next j hj (fun k => by rw [wordR_end k] at e; cases e)
set_option maxRecDepth 100000 in
set_option maxHeartbeats 400000 in
theorem tour06 (g rb ib j cap : Nat) (at0 : Int) (X : List Tok) (hX : Toks X) (hj : j < X.length) (hcap : X.length ≤ cap) (w : World) (hM : Mem w (feet [pt rb #[.slice (some ⟨g, j * 4, none⟩) (X.length - j) (cap - j), .int .i64 at0] 62, own 77 4 (.slice ((some ⟨g, 0, none⟩)) X.length cap) X.length (tokv X), pt ib #[.int .i64 3, .int .i64 0, .int .i64 0, .slice none 0 0, .slice none 0 0, .slice none 0 0] 25]) [pt rb #[.slice (some ⟨g, j * 4, none⟩) (X.length - j) (cap - j), .int .i64 at0] 62, own 77 4 (.slice ((some ⟨g, 0, none⟩)) X.length cap) X.length (tokv X), pt ib #[.int .i64 3, .int .i64 0, .int .i64 0, .slice none 0 0, .slice none 0 0, .slice none 0 0] 25] w) :
  Calls Tryd.prog 63 #[.pointer (some ⟨rb, 0, none⟩), .pointer (some ⟨ib, 0, none⟩)] w fun e w' => e = .returned (.int .i64 (toR X j).1) ∧ (((toR X j).1 ≠ 0 ∧ ∃ jx, Mem w (feet [pt rb #[.slice (some ⟨g, j * 4, none⟩) (X.length - j) (cap - j), .int .i64 at0] 62, own 77 4 (.slice ((some ⟨g, 0, none⟩)) X.length cap) X.length (tokv X), pt ib #[.int .i64 3, .int .i64 0, .int .i64 0, .slice none 0 0, .slice none 0 0, .slice none 0 0] 25]) [pt rb #[.slice (some ⟨g, jx * 4, none⟩) (X.length - jx) (cap - jx), .int .i64 (((X.getD (toR X j).2 tz).a))] 62, own 77 4 (.slice ((some ⟨g, 0, none⟩)) X.length cap) X.length (tokv X)] w') ∨ ((toR X j).1 = 0 ∧ ∃ (at1 : Int) (gb : Nat) (rs : List OwR), ∃ n : Nat, ctN X j 24 = n ∧ 1 ≤ n ∧ n ≤ 24 ∧ rs.map (·.Y) = mat n (if (wordR (X.getD (j + 1) tz) W2).1 = 0 then rwI X (j + 2) n else hfI X (j + 2) n) ∧ Mem w (feet [pt rb #[.slice (some ⟨g, j * 4, none⟩) (X.length - j) (cap - j), .int .i64 at0] 62, own 77 4 (.slice ((some ⟨g, 0, none⟩)) X.length cap) X.length (tokv X), pt ib #[.int .i64 3, .int .i64 0, .int .i64 0, .slice none 0 0, .slice none 0 0, .slice none 0 0] 25]) [pt rb #[.slice (some ⟨g, (toR X j).2 * 4, none⟩) (X.length - (toR X j).2) (cap - (toR X j).2), .int .i64 at1] 62, own 77 4 (.slice ((some ⟨g, 0, none⟩)) X.length cap) X.length (tokv X), pt ib #[.int .i64 3, .int .i64 ((n : Int)), .int .i64 0, .slice none 0 0, .slice none 0 0, .slice ((some ⟨gb, 0, none⟩)) n n] 25, own 22 1 (.slice ((some ⟨gb, 0, none⟩)) n n) n ((rs.map orV)), bundle (rs.map (orC 3))] w')) := by
 have hbs := Below.refl (B := w.heap.size) w
 have hlX := hX.len
 refine Calls.of_ends (vs := [.pointer (some ⟨rb, 0, none⟩), .pointer (some ⟨ib, 0, none⟩)]) Tryd.func63 rfl Tryd.ntmps63 rfl ?_
 intro a hA
 replace hA : St 37 [(0, _), (1, _)] a := hA
 refine Ends.seq (Ends.region ?_)
 refine S.val hA (R.assign rfl) rfl ?_; clear hA a; intro a hA
 refine S.done ?_
 refine Ends.seq (Ends.region ?_)
 refine S.val hA (R.assign rfl) rfl ?_; clear hA a; intro a hA
 refine S.done ?_
 refine Ends.seq (Ends.seq (Ends.region ?_))
 refine S.val hA (R.move rfl) rfl ?_; clear hA a; intro a hA
 refine S.val hA (R.move rfl) rfl ?_; clear hA a; intro a hA
 refine S.call hA (R.callF Tryd.func64 rfl rfl rfl) rfl (count06 g rb j cap at0 X hX (by omega) hcap 24 _ (hM.hereN 2)) ?_; clear hA a
 rintro e w1 ⟨rfl, hn⟩
 replace hM : Mem _ _ [pt rb #[.slice (some ⟨g, (nxJ j (numR (X.getD j tz) 24)) * 4, none⟩) (X.length - (nxJ j (numR (X.getD j tz) 24))) (cap - (nxJ j (numR (X.getD j tz) 24))), .int .i64 ((X.getD j tz).a)] 62, own 77 4 (.slice ((some ⟨g, 0, none⟩)) X.length cap) X.length (tokv X), pt ib #[.int .i64 3, .int .i64 0, .int .i64 0, .slice none 0 0, .slice none 0 0, .slice none 0 0] 25] _ := hM.callL 2 hn; clear hn
 refine ⟨.tuple #[.int .i64 ((numN (X.getD j tz) 24)), .int .i64 ((cntR (X.getD j tz) 24))], rfl, fun a hA => ?_⟩
 refine S.val hA (R.move rfl) rfl ?_; clear hA a; intro a hA
 refine S.val hA (R.extract (v := .int .i64 ((numN (X.getD j tz) 24))) rfl rfl) rfl ?_; clear hA a; intro a hA
 refine S.val hA (R.extract (v := .int .i64 ((cntR (X.getD j tz) 24))) rfl rfl) rfl ?_; clear hA a; intro a hA
 refine S.val hA (R.nilCheck rfl) rfl ?_; clear hA a; intro a hA
 refine S.val hA (R.fieldAddr (q := 1) fi25_1 rfl rfl rfl) rfl ?_; clear hA a; intro a hA
 refine S.store (k := 2) hA hM sz3 rfl rfl rfl rfl rfl ?_; clear hM
 intro w2 hM
 replace hM : Mem _ _ [pt rb #[.slice (some ⟨g, (nxJ j (numR (X.getD j tz) 24)) * 4, none⟩) (X.length - (nxJ j (numR (X.getD j tz) 24))) (cap - (nxJ j (numR (X.getD j tz) 24))), .int .i64 ((X.getD j tz).a)] 62, own 77 4 (.slice ((some ⟨g, 0, none⟩)) X.length cap) X.length (tokv X), pt ib #[.int .i64 3, .int .i64 ((numN (X.getD j tz) 24)), .int .i64 0, .slice none 0 0, .slice none 0 0, .slice none 0 0] 25] _ := hM
 refine S.val hA (R.assign rfl) rfl ?_; clear hA a; intro a hA
 refine S.done ?_
 replace hA : St 37 [(0, _), (1, _), (5, _)] a := hA.sub ((.cons rfl (.cons rfl (.cons rfl .nil))))
 refine Ends.seq (Ends.region ?_)
 refine S.val hA (R.move rfl) rfl ?_; clear hA a; intro a hA
 refine S.val hA (R.neq rfl rfl) rfl ?_; clear hA a; intro a hA
 refine S.done ?_
 refine Ends.ite hA rfl (fun hc1 => ?_) (fun hc1 => ?_)
 ·
  refine Ends.seq (Ends.region ?_)
  refine S.val hA (R.move rfl) rfl ?_; clear hA a; intro a hA
  refine S.val hA (R.assign rfl) rfl ?_; clear hA a; intro a hA
  refine S.done ?_
  replace hA : St 37 [(0, _), (1, _), (4, _)] a := hA.sub ((.cons rfl (.cons rfl (.cons rfl .nil))))
  refine Ends.ret1 Tryd.func63 Tryd.results63 hA rfl ?_
  replace hM := hM.firstN 2
  replace hM : Mem _ _ [pt rb #[.slice (some ⟨g, (nxJ j (numR (X.getD j tz) 24)) * 4, none⟩) (X.length - (nxJ j (numR (X.getD j tz) 24))) (cap - (nxJ j (numR (X.getD j tz) 24))), .int .i64 ((X.getD j tz).a)] 62, own 77 4 (.slice ((some ⟨g, 0, none⟩)) X.length cap) X.length (tokv X)] _ := hM
  have e1 := toR_cnt hc1
  exact ⟨by rw [e1], .inl ⟨by rw [e1]; exact hc1, _, by rw [e1]; exact hM⟩⟩
 ·
  obtain ⟨n, hn, hcn, hn1, hn24_, hr0⟩ := hX.ct (Decidable.not_not.1 hc1)
  have hc0 := Decidable.not_not.1 hc1
  have hj1 := hX.ok hj hr0
  have hn24 : n ≤ 24 := by omega
  rw [hn] at hM
  rw [nxJ_ok hr0] at hM
  replace hM : Mem _ _ [pt rb #[.slice (some ⟨g, (j + 1) * 4, none⟩) (X.length - (j + 1)) (cap - (j + 1)), .int .i64 ((X.getD j tz).a)] 62, own 77 4 (.slice ((some ⟨g, 0, none⟩)) X.length cap) X.length (tokv X), pt ib #[.int .i64 3, .int .i64 ((n : Int)), .int .i64 0, .slice none 0 0, .slice none 0 0, .slice none 0 0] 25] _ := hM
  refine Ends.skip (Ends.seq (Ends.region ?_))
  refine S.val hA (R.move rfl) rfl ?_; clear hA a; intro a hA
  refine S.buildSl (cells := #[.string (⟨#[70, 85, 76, 76]⟩), .string (⟨#[85, 80, 80, 69, 82]⟩)]) hA hM Tryd.underlying34 info9 rfl rfl rfl rfl (by kernel_rfl) rfl ?_; clear hA hM a; intro b2 w3 hb3 hM a hA
  replace hM : Mem _ _ [pt b2 #[.string (⟨#[70, 85, 76, 76]⟩), .string (⟨#[85, 80, 80, 69, 82]⟩)] 9, pt rb #[.slice (some ⟨g, (j + 1) * 4, none⟩) (X.length - (j + 1)) (cap - (j + 1)), .int .i64 ((X.getD j tz).a)] 62, own 77 4 (.slice ((some ⟨g, 0, none⟩)) X.length cap) X.length (tokv X), pt ib #[.int .i64 3, .int .i64 ((n : Int)), .int .i64 0, .slice none 0 0, .slice none 0 0, .slice none 0 0] 25] _ := hM
  replace hM := hM.front (k := 2) rfl
  replace hM := hM.front (k := 2) rfl
  replace hM : Mem _ _ [pt rb #[.slice (some ⟨g, (j + 1) * 4, none⟩) (X.length - (j + 1)) (cap - (j + 1)), .int .i64 ((X.getD j tz).a)] 62, own 77 4 (.slice ((some ⟨g, 0, none⟩)) X.length cap) X.length (tokv X), pt b2 #[.string (⟨#[70, 85, 76, 76]⟩), .string (⟨#[85, 80, 80, 69, 82]⟩)] 9, pt ib #[.int .i64 3, .int .i64 ((n : Int)), .int .i64 0, .slice none 0 0, .slice none 0 0, .slice none 0 0] 25] _ := hM
  refine S.call hA (R.callF Tryd.func61 rfl rfl rfl) rfl (word06_2 g rb ((j + 1)) cap ((X.getD j tz).a) X hX (by omega) hcap b2 (⟨#[70, 85, 76, 76]⟩) (⟨#[85, 80, 80, 69, 82]⟩) _ (hM.hereN 3)) ?_; clear hA a
  rintro e w4 ⟨rfl, hn⟩
  replace hM : Mem _ _ [pt rb #[.slice (some ⟨g, (nxJ ((j + 1)) (wordR (X.getD ((j + 1)) tz) W2).2) * 4, none⟩) (X.length - (nxJ ((j + 1)) (wordR (X.getD ((j + 1)) tz) W2).2)) (cap - (nxJ ((j + 1)) (wordR (X.getD ((j + 1)) tz) W2).2)), .int .i64 ((X.getD ((j + 1)) tz).a)] 62, own 77 4 (.slice ((some ⟨g, 0, none⟩)) X.length cap) X.length (tokv X), pt b2 #[.string (⟨#[70, 85, 76, 76]⟩), .string (⟨#[85, 80, 80, 69, 82]⟩)] 9, pt ib #[.int .i64 3, .int .i64 ((n : Int)), .int .i64 0, .slice none 0 0, .slice none 0 0, .slice none 0 0] 25] _ := hM.callL 3 hn; clear hn
  refine ⟨.tuple #[.int .i64 ((wordR (X.getD ((j + 1)) tz) W2).1), .int .i64 ((wordR (X.getD ((j + 1)) tz) W2).2)], rfl, fun a hA => ?_⟩
  refine S.val hA (R.move rfl) rfl ?_; clear hA a; intro a hA
  refine S.val hA (R.extract (v := .int .i64 ((wordR (X.getD ((j + 1)) tz) W2).1)) rfl rfl) rfl ?_; clear hA a; intro a hA
  refine S.val hA (R.extract (v := .int .i64 ((wordR (X.getD ((j + 1)) tz) W2).2)) rfl rfl) rfl ?_; clear hA a; intro a hA
  refine S.val hA (R.assign rfl) rfl ?_; clear hA a; intro a hA
  refine S.val hA (R.assign rfl) rfl ?_; clear hA a; intro a hA
  refine S.done ?_
  replace hA : St 37 [(0, _), (1, _), (5, _), (6, _)] a := hA.sub ((.cons rfl (.cons rfl (.cons rfl (.cons rfl .nil)))))
  refine Ends.seq (Ends.block (Ends.seq (Ends.region ?_)))
  refine S.val hA (R.move rfl) rfl ?_; clear hA a; intro a hA
  refine S.val hA (R.neq rfl rfl) rfl ?_; clear hA a; intro a hA
  refine S.val hA (R.assign rfl) rfl ?_; clear hA a; intro a hA
  refine S.done ?_
  refine Ends.ite hA rfl (fun hc4 => ?_) (fun hc4 => ?_)
  ·
   refine Ends.seq (Ends.region ?_)
   refine S.val hA (R.move rfl) rfl ?_; clear hA a; intro a hA
   refine S.val hA (R.assign rfl) rfl ?_; clear hA a; intro a hA
   refine S.done ?_
   replace hA : St 37 [(0, _), (1, _), (4, _)] a := hA.sub ((.cons rfl (.cons rfl (.cons rfl .nil))))
   refine Ends.ret1 Tryd.func63 Tryd.results63 hA rfl ?_
   replace hM := hM.firstN 2
   replace hM : Mem _ _ [pt rb #[.slice (some ⟨g, (nxJ ((j + 1)) (wordR (X.getD ((j + 1)) tz) W2).2) * 4, none⟩) (X.length - (nxJ ((j + 1)) (wordR (X.getD ((j + 1)) tz) W2).2)) (cap - (nxJ ((j + 1)) (wordR (X.getD ((j + 1)) tz) W2).2)), .int .i64 ((X.getD ((j + 1)) tz).a)] 62, own 77 4 (.slice ((some ⟨g, 0, none⟩)) X.length cap) X.length (tokv X)] _ := hM
   have e1 := toR_word hc0 hc4
   exact ⟨by rw [e1], .inl ⟨by rw [e1]; exact hc4, _, by rw [e1]; exact hM⟩⟩
  ·
   have hw0 := Decidable.not_not.1 hc4
   have hj2 := hX.wok hj1 hw0
   rw [nxJ_ok hw0] at hM
   replace hM : Mem _ _ [pt rb #[.slice (some ⟨g, (j + 2) * 4, none⟩) (X.length - (j + 2)) (cap - (j + 2)), .int .i64 ((X.getD ((j + 1)) tz).a)] 62, own 77 4 (.slice ((some ⟨g, 0, none⟩)) X.length cap) X.length (tokv X), pt b2 #[.string (⟨#[70, 85, 76, 76]⟩), .string (⟨#[85, 80, 80, 69, 82]⟩)] 9, pt ib #[.int .i64 3, .int .i64 ((n : Int)), .int .i64 0, .slice none 0 0, .slice none 0 0, .slice none 0 0] 25] _ := hM
   refine Ends.seq (Ends.region ?_)
   refine S.val hA (R.move rfl) rfl ?_; clear hA a; intro a hA
   refine S.val hA (R.eql rfl rfl) rfl ?_; clear hA a; intro a hA
   refine S.val hA (R.assign rfl) rfl ?_; clear hA a; intro a hA
   refine S.done ?_
   replace hA : St 37 [(0, _), (1, _), (28, _)] a := hA.sub ((.cons rfl (.cons rfl (.cons rfl .nil))))
   refine Ends.ite hA rfl (fun hc5 => ?_) (fun hc5 => ?_)
   ·
    refine Ends.seq ?_
    by_cases hs6 : (nuR (dgk 3 n) X (j + 2) (n * n)).1 = 0
    ·
     refine Ends.region ?_
     refine S.val hA (R.move rfl) rfl ?_; clear hA a; intro a hA
     refine S.val hA (R.move rfl) rfl ?_; clear hA a; intro a hA
     replace hM := hM.front (k := 3) rfl
     replace hM := hM.front (k := 2) rfl
     replace hM := hM.front (k := 2) rfl
     replace hM : Mem _ _ [pt rb #[.slice (some ⟨g, (j + 2) * 4, none⟩) (X.length - (j + 2)) (cap - (j + 2)), .int .i64 ((X.getD ((j + 1)) tz).a)] 62, own 77 4 (.slice ((some ⟨g, 0, none⟩)) X.length cap) X.length (tokv X), pt ib #[.int .i64 3, .int .i64 ((n : Int)), .int .i64 0, .slice none 0 0, .slice none 0 0, .slice none 0 0] 25, pt b2 #[.string (⟨#[70, 85, 76, 76]⟩), .string (⟨#[85, 80, 80, 69, 82]⟩)] 9] _ := hM
     refine S.call hA (R.callF Tryd.func65 rfl rfl rfl) rfl (rows06_ok g rb ib ((j + 2)) cap ((X.getD ((j + 1)) tz).a) X hX (by omega) hcap 3 n hn1 hn24 hs6 _ (hM.hereN 3)) ?_; clear hA a
     rintro e w5 ⟨rfl, atx, gb, rs, hYs, hn⟩
     replace hM : Mem _ _ [pt rb #[.slice (some ⟨g, (nuR (dgk 3 n) X (j + 2) (n * n)).2 * 4, none⟩) (X.length - (nuR (dgk 3 n) X (j + 2) (n * n)).2) (cap - (nuR (dgk 3 n) X (j + 2) (n * n)).2), .int .i64 atx] 62, own 77 4 (.slice ((some ⟨g, 0, none⟩)) X.length cap) X.length (tokv X), pt ib #[.int .i64 3, .int .i64 ((n : Int)), .int .i64 0, .slice none 0 0, .slice none 0 0, .slice ((some ⟨gb, 0, none⟩)) n n] 25, own 22 1 (.slice ((some ⟨gb, 0, none⟩)) n n) n ((rs.map orV)), bundle (rs.map (orC 3)), pt b2 #[.string (⟨#[70, 85, 76, 76]⟩), .string (⟨#[85, 80, 80, 69, 82]⟩)] 9] _ := hM.callL 3 hn; clear hn
     refine ⟨.int .i64 0, rfl, fun a hA => ?_⟩
     refine S.val hA (R.assign rfl) rfl ?_; clear hA a; intro a hA
     refine S.done ?_
     replace hA : St 37 [(0, _), (1, _), (4, _)] a := hA.sub ((.cons rfl (.cons rfl (.cons rfl .nil))))
     refine Ends.ret1 Tryd.func63 Tryd.results63 hA rfl ?_
     replace hM := hM.firstN 5
     replace hM : Mem _ _ [pt rb #[.slice (some ⟨g, (nuR (dgk 3 n) X (j + 2) (n * n)).2 * 4, none⟩) (X.length - (nuR (dgk 3 n) X (j + 2) (n * n)).2) (cap - (nuR (dgk 3 n) X (j + 2) (n * n)).2), .int .i64 atx] 62, own 77 4 (.slice ((some ⟨g, 0, none⟩)) X.length cap) X.length (tokv X), pt ib #[.int .i64 3, .int .i64 ((n : Int)), .int .i64 0, .slice none 0 0, .slice none 0 0, .slice ((some ⟨gb, 0, none⟩)) n n] 25, own 22 1 (.slice ((some ⟨gb, 0, none⟩)) n n) n ((rs.map orV)), bundle (rs.map (orC 3))] _ := hM
     have e1 := toR_full hc0 hcn hw0 hc5
     exact ⟨by rw [e1, hs6], .inr ⟨by rw [e1]; exact hs6, _, gb, rs, n, hcn, hn1, hn24, by rw [if_pos hc5]; exact hYs, by rw [e1]; exact hM⟩⟩
    ·
     refine Ends.region ?_
     refine S.val hA (R.move rfl) rfl ?_; clear hA a; intro a hA
     refine S.val hA (R.move rfl) rfl ?_; clear hA a; intro a hA
     replace hM := hM.front (k := 3) rfl
     replace hM := hM.front (k := 2) rfl
     replace hM := hM.front (k := 2) rfl
     replace hM : Mem _ _ [pt rb #[.slice (some ⟨g, (j + 2) * 4, none⟩) (X.length - (j + 2)) (cap - (j + 2)), .int .i64 ((X.getD ((j + 1)) tz).a)] 62, own 77 4 (.slice ((some ⟨g, 0, none⟩)) X.length cap) X.length (tokv X), pt ib #[.int .i64 3, .int .i64 ((n : Int)), .int .i64 0, .slice none 0 0, .slice none 0 0, .slice none 0 0] 25, pt b2 #[.string (⟨#[70, 85, 76, 76]⟩), .string (⟨#[85, 80, 80, 69, 82]⟩)] 9] _ := hM
     refine S.call hA (R.callF Tryd.func65 rfl rfl rfl) rfl (rows06_bad g rb ib ((j + 2)) cap ((X.getD ((j + 1)) tz).a) X hX (by omega) hcap 3 n hn1 hn24 hs6 _ (hM.hereN 3)) ?_; clear hA a
     rintro e w6 ⟨rfl, jx7, hn⟩
     replace hM : Mem _ _ [pt rb #[.slice (some ⟨g, jx7 * 4, none⟩) (X.length - jx7) (cap - jx7), .int .i64 (((X.getD (nuR (dgk 3 n) X (j + 2) (n * n)).2 tz).a))] 62, own 77 4 (.slice ((some ⟨g, 0, none⟩)) X.length cap) X.length (tokv X), pt b2 #[.string (⟨#[70, 85, 76, 76]⟩), .string (⟨#[85, 80, 80, 69, 82]⟩)] 9] _ := hM.callL 3 hn; clear hn
     refine ⟨.int .i64 ((nuR (dgk 3 n) X (j + 2) (n * n)).1), rfl, fun a hA => ?_⟩
     refine S.val hA (R.assign rfl) rfl ?_; clear hA a; intro a hA
     refine S.done ?_
     replace hA : St 37 [(0, _), (1, _), (4, _)] a := hA.sub ((.cons rfl (.cons rfl (.cons rfl .nil))))
     refine Ends.ret1 Tryd.func63 Tryd.results63 hA rfl ?_
     replace hM := hM.firstN 2
     replace hM : Mem _ _ [pt rb #[.slice (some ⟨g, jx7 * 4, none⟩) (X.length - jx7) (cap - jx7), .int .i64 (((X.getD (nuR (dgk 3 n) X (j + 2) (n * n)).2 tz).a))] 62, own 77 4 (.slice ((some ⟨g, 0, none⟩)) X.length cap) X.length (tokv X)] _ := hM
     have e1 := toR_full hc0 hcn hw0 hc5
     exact ⟨by rw [e1], .inl ⟨by rw [e1]; exact hs6, _, by rw [e1]; exact hM⟩⟩
   ·
    refine Ends.skip (Ends.inBlock (Ends.seq ?_))
    by_cases hs8 : (nuR ff X (j + 2) (hlf n)).1 = 0
    ·
     refine Ends.region ?_
     refine S.val hA (R.move rfl) rfl ?_; clear hA a; intro a hA
     refine S.val hA (R.move rfl) rfl ?_; clear hA a; intro a hA
     replace hM := hM.front (k := 3) rfl
     replace hM := hM.front (k := 2) rfl
     replace hM := hM.front (k := 2) rfl
     replace hM : Mem _ _ [pt rb #[.slice (some ⟨g, (j + 2) * 4, none⟩) (X.length - (j + 2)) (cap - (j + 2)), .int .i64 ((X.getD ((j + 1)) tz).a)] 62, own 77 4 (.slice ((some ⟨g, 0, none⟩)) X.length cap) X.length (tokv X), pt ib #[.int .i64 3, .int .i64 ((n : Int)), .int .i64 0, .slice none 0 0, .slice none 0 0, .slice none 0 0] 25, pt b2 #[.string (⟨#[70, 85, 76, 76]⟩), .string (⟨#[85, 80, 80, 69, 82]⟩)] 9] _ := hM
     refine S.call hA (R.callF Tryd.func82 rfl rfl rfl) rfl (half06_ok g rb ib ((j + 2)) cap ((X.getD ((j + 1)) tz).a) X hX (by omega) hcap 3 n hn1 hn24 hs8 _ (hM.hereN 3)) ?_; clear hA a
     rintro e w7 ⟨rfl, atx, gb, rs, hYs, hn⟩
     replace hM : Mem _ _ [pt rb #[.slice (some ⟨g, (nuR ff X (j + 2) (hlf n)).2 * 4, none⟩) (X.length - (nuR ff X (j + 2) (hlf n)).2) (cap - (nuR ff X (j + 2) (hlf n)).2), .int .i64 atx] 62, own 77 4 (.slice ((some ⟨g, 0, none⟩)) X.length cap) X.length (tokv X), pt ib #[.int .i64 3, .int .i64 ((n : Int)), .int .i64 0, .slice none 0 0, .slice none 0 0, .slice ((some ⟨gb, 0, none⟩)) n n] 25, own 22 1 (.slice ((some ⟨gb, 0, none⟩)) n n) n ((rs.map orV)), bundle (rs.map (orC 3)), pt b2 #[.string (⟨#[70, 85, 76, 76]⟩), .string (⟨#[85, 80, 80, 69, 82]⟩)] 9] _ := hM.callL 3 hn; clear hn
     refine ⟨.int .i64 0, rfl, fun a hA => ?_⟩
     refine S.val hA (R.assign rfl) rfl ?_; clear hA a; intro a hA
     refine S.done ?_
     replace hA : St 37 [(4, _)] a := hA.sub ((.cons rfl .nil))
     refine Ends.ret1 Tryd.func63 Tryd.results63 hA rfl ?_
     replace hM := hM.firstN 5
     replace hM : Mem _ _ [pt rb #[.slice (some ⟨g, (nuR ff X (j + 2) (hlf n)).2 * 4, none⟩) (X.length - (nuR ff X (j + 2) (hlf n)).2) (cap - (nuR ff X (j + 2) (hlf n)).2), .int .i64 atx] 62, own 77 4 (.slice ((some ⟨g, 0, none⟩)) X.length cap) X.length (tokv X), pt ib #[.int .i64 3, .int .i64 ((n : Int)), .int .i64 0, .slice none 0 0, .slice none 0 0, .slice ((some ⟨gb, 0, none⟩)) n n] 25, own 22 1 (.slice ((some ⟨gb, 0, none⟩)) n n) n ((rs.map orV)), bundle (rs.map (orC 3))] _ := hM
     have e1 := toR_half hc0 hcn hw0 hc5
     exact ⟨by rw [e1, hs8], .inr ⟨by rw [e1]; exact hs8, _, gb, rs, n, hcn, hn1, hn24, by rw [if_neg hc5]; exact hYs, by rw [e1]; exact hM⟩⟩
    ·
     refine Ends.region ?_
     refine S.val hA (R.move rfl) rfl ?_; clear hA a; intro a hA
     refine S.val hA (R.move rfl) rfl ?_; clear hA a; intro a hA
     replace hM := hM.front (k := 3) rfl
     replace hM := hM.front (k := 2) rfl
     replace hM := hM.front (k := 2) rfl
     replace hM : Mem _ _ [pt rb #[.slice (some ⟨g, (j + 2) * 4, none⟩) (X.length - (j + 2)) (cap - (j + 2)), .int .i64 ((X.getD ((j + 1)) tz).a)] 62, own 77 4 (.slice ((some ⟨g, 0, none⟩)) X.length cap) X.length (tokv X), pt ib #[.int .i64 3, .int .i64 ((n : Int)), .int .i64 0, .slice none 0 0, .slice none 0 0, .slice none 0 0] 25, pt b2 #[.string (⟨#[70, 85, 76, 76]⟩), .string (⟨#[85, 80, 80, 69, 82]⟩)] 9] _ := hM
     refine S.call hA (R.callF Tryd.func82 rfl rfl rfl) rfl (half06_bad g rb ib ((j + 2)) cap ((X.getD ((j + 1)) tz).a) X hX (by omega) hcap 3 n hn1 hn24 hs8 _ (hM.hereN 3)) ?_; clear hA a
     rintro e w8 ⟨rfl, jx9, hn⟩
     replace hM : Mem _ _ [pt rb #[.slice (some ⟨g, jx9 * 4, none⟩) (X.length - jx9) (cap - jx9), .int .i64 (((X.getD (nuR ff X (j + 2) (hlf n)).2 tz).a))] 62, own 77 4 (.slice ((some ⟨g, 0, none⟩)) X.length cap) X.length (tokv X), pt b2 #[.string (⟨#[70, 85, 76, 76]⟩), .string (⟨#[85, 80, 80, 69, 82]⟩)] 9] _ := hM.callL 3 hn; clear hn
     refine ⟨.int .i64 ((nuR ff X (j + 2) (hlf n)).1), rfl, fun a hA => ?_⟩
     refine S.val hA (R.assign rfl) rfl ?_; clear hA a; intro a hA
     refine S.done ?_
     replace hA : St 37 [(4, _)] a := hA.sub ((.cons rfl .nil))
     refine Ends.ret1 Tryd.func63 Tryd.results63 hA rfl ?_
     replace hM := hM.firstN 2
     replace hM : Mem _ _ [pt rb #[.slice (some ⟨g, jx9 * 4, none⟩) (X.length - jx9) (cap - jx9), .int .i64 (((X.getD (nuR ff X (j + 2) (hlf n)).2 tz).a))] 62, own 77 4 (.slice ((some ⟨g, 0, none⟩)) X.length cap) X.length (tokv X)] _ := hM
     have e1 := toR_half hc0 hcn hw0 hc5
     exact ⟨by rw [e1], .inl ⟨by rw [e1]; exact hs8, _, by rw [e1]; exact hM⟩⟩
theorem tour06_bad (g rb ib j cap : Nat) (at0 : Int) (X : List Tok) (hX : Toks X) (hj : j < X.length) (hcap : X.length ≤ cap) (hE : (toR X j).1 ≠ 0) (w : World) (hM : Mem w (feet [pt rb #[.slice (some ⟨g, j * 4, none⟩) (X.length - j) (cap - j), .int .i64 at0] 62, own 77 4 (.slice ((some ⟨g, 0, none⟩)) X.length cap) X.length (tokv X), pt ib #[.int .i64 3, .int .i64 0, .int .i64 0, .slice none 0 0, .slice none 0 0, .slice none 0 0] 25]) [pt rb #[.slice (some ⟨g, j * 4, none⟩) (X.length - j) (cap - j), .int .i64 at0] 62, own 77 4 (.slice ((some ⟨g, 0, none⟩)) X.length cap) X.length (tokv X), pt ib #[.int .i64 3, .int .i64 0, .int .i64 0, .slice none 0 0, .slice none 0 0, .slice none 0 0] 25] w) :
    Calls Tryd.prog 63 #[.pointer (some ⟨rb, 0, none⟩), .pointer (some ⟨ib, 0, none⟩)] w fun e w' => e = .returned (.int .i64 (toR X j).1) ∧ ∃ jx, Mem w (feet [pt rb #[.slice (some ⟨g, j * 4, none⟩) (X.length - j) (cap - j), .int .i64 at0] 62, own 77 4 (.slice ((some ⟨g, 0, none⟩)) X.length cap) X.length (tokv X), pt ib #[.int .i64 3, .int .i64 0, .int .i64 0, .slice none 0 0, .slice none 0 0, .slice none 0 0] 25]) [pt rb #[.slice (some ⟨g, jx * 4, none⟩) (X.length - jx) (cap - jx), .int .i64 (((X.getD (toR X j).2 tz).a))] 62, own 77 4 (.slice ((some ⟨g, 0, none⟩)) X.length cap) X.length (tokv X)] w' :=
  (tour06 g rb ib j cap at0 X hX hj hcap w hM).mono (by rintro e w' ⟨h1, h2 | h2⟩; exact ⟨h1, h2.2⟩; exact absurd h2.1 hE)
theorem tour06_ok (g rb ib j cap : Nat) (at0 : Int) (X : List Tok) (hX : Toks X) (hj : j < X.length) (hcap : X.length ≤ cap) (hE : (toR X j).1 = 0) (w : World) (hM : Mem w (feet [pt rb #[.slice (some ⟨g, j * 4, none⟩) (X.length - j) (cap - j), .int .i64 at0] 62, own 77 4 (.slice ((some ⟨g, 0, none⟩)) X.length cap) X.length (tokv X), pt ib #[.int .i64 3, .int .i64 0, .int .i64 0, .slice none 0 0, .slice none 0 0, .slice none 0 0] 25]) [pt rb #[.slice (some ⟨g, j * 4, none⟩) (X.length - j) (cap - j), .int .i64 at0] 62, own 77 4 (.slice ((some ⟨g, 0, none⟩)) X.length cap) X.length (tokv X), pt ib #[.int .i64 3, .int .i64 0, .int .i64 0, .slice none 0 0, .slice none 0 0, .slice none 0 0] 25] w) :
    Calls Tryd.prog 63 #[.pointer (some ⟨rb, 0, none⟩), .pointer (some ⟨ib, 0, none⟩)] w fun e w' => e = .returned (.int .i64 0) ∧ ∃ (at1 : Int) (gb : Nat) (rs : List OwR), ∃ n : Nat, ctN X j 24 = n ∧ 1 ≤ n ∧ n ≤ 24 ∧ rs.map (·.Y) = mat n (if (wordR (X.getD (j + 1) tz) W2).1 = 0 then rwI X (j + 2) n else hfI X (j + 2) n) ∧ Mem w (feet [pt rb #[.slice (some ⟨g, j * 4, none⟩) (X.length - j) (cap - j), .int .i64 at0] 62, own 77 4 (.slice ((some ⟨g, 0, none⟩)) X.length cap) X.length (tokv X), pt ib #[.int .i64 3, .int .i64 0, .int .i64 0, .slice none 0 0, .slice none 0 0, .slice none 0 0] 25]) [pt rb #[.slice (some ⟨g, (toR X j).2 * 4, none⟩) (X.length - (toR X j).2) (cap - (toR X j).2), .int .i64 at1] 62, own 77 4 (.slice ((some ⟨g, 0, none⟩)) X.length cap) X.length (tokv X), pt ib #[.int .i64 3, .int .i64 ((n : Int)), .int .i64 0, .slice none 0 0, .slice none 0 0, .slice ((some ⟨gb, 0, none⟩)) n n] 25, own 22 1 (.slice ((some ⟨gb, 0, none⟩)) n n) n ((rs.map orV)), bundle (rs.map (orC 3))] w' :=
  (tour06 g rb ib j cap at0 X hX hj hcap w hM).mono (by rintro e w' ⟨h1, h2 | h2⟩; exact absurd hE h2.1; exact ⟨by rw [h1, hE], h2.2⟩)
theorem Toks.nuE {X : List Tok} (h : Toks X) {f : Nat → Bool} {j : Nat} (hj : j < X.length) : ∀ {m : Nat}, (nuR f X j m).1 = 0 → (nuR f X j m).2 < X.length := fun {m} e => by
  obtain ⟨h1, h2⟩ := nuR_zero e
  rw [h2]
  have key : ∀ q, q ≤ m → j + q < X.length := by
    intro q
    induction q with
    | zero => intro _; exact hj
    | succ q ih => intro hq; exact h.ok (ih (by omega)) (nuE_zero (h1 q (by omega))).1
  exact key m (Nat.le_refl m)
theorem Toks.itE {X : List Tok} (h : Toks X) {j : Nat} (hj : j < X.length) (e : (itR X j).1 = 0) : (itR X j).2 < X.length := by
  by_cases hc : cntR (X.getD j tz) 64 = 0
  · rw [itR_num hc rfl] at e ⊢
    obtain ⟨n, -, -, -, -, h0⟩ := h.ct hc
    exact h.nuE (h.ok hj h0) e
  · rw [itR_cnt hc] at e; exact absurd e hc
theorem Toks.toE {X : List Tok} (h : Toks X) {j : Nat} (hj : j < X.length) (e : (toR X j).1 = 0) : (toR X j).2 < X.length := by
  by_cases hc : cntR (X.getD j tz) 24 = 0
  · obtain ⟨n, -, -, -, -, h0⟩ := h.ct hc
    have hj1 := h.ok hj h0
    by_cases hw : (wordR (X.getD (j + 1) tz) W2).2 = 0
    · have hj2 := h.wok hj1 hw
      by_cases hl : (wordR (X.getD (j + 1) tz) W2).1 = 0
      · rw [toR_full hc rfl hw hl] at e ⊢; exact h.nuE hj2 e
      · rw [toR_half hc rfl hw hl] at e ⊢; exact h.nuE hj2 e
    · rw [toR_word hc hw] at e; exact absurd e hw
  · rw [toR_cnt hc] at e; exact absurd e hc
set_option maxRecDepth 100000 in
set_option maxHeartbeats 400000 in
theorem problem06 (g rb ib cap : Nat) (at0 : Int) (X : List Tok) (hX : Toks X) (hj : 0 < X.length) (hcap : X.length ≤ cap) (w : World) (hM : Mem w (feet [pt rb #[.slice (some ⟨g, 0 * 4, none⟩) (X.length - 0) (cap - 0), .int .i64 at0] 62, own 77 4 (.slice ((some ⟨g, 0, none⟩)) X.length cap) X.length (tokv X), pt ib cz0 25]) [pt rb #[.slice (some ⟨g, 0 * 4, none⟩) (X.length - 0) (cap - 0), .int .i64 at0] 62, own 77 4 (.slice ((some ⟨g, 0, none⟩)) X.length cap) X.length (tokv X), pt ib cz0 25] w) :
  Calls Tryd.prog 48 #[.pointer (some ⟨rb, 0, none⟩), .pointer (some ⟨ib, 0, none⟩)] w fun e w' => e = .returned (.int .i64 (pbR X).1) ∧ (((pbR X).1 ≠ 0 ∧ ∃ jx, Mem w (feet [pt rb #[.slice (some ⟨g, 0 * 4, none⟩) (X.length - 0) (cap - 0), .int .i64 at0] 62, own 77 4 (.slice ((some ⟨g, 0, none⟩)) X.length cap) X.length (tokv X), pt ib cz0 25]) [pt rb #[.slice (some ⟨g, jx * 4, none⟩) (X.length - jx) (cap - jx), .int .i64 (((X.getD (pbR X).2 tz).a))] 62, own 77 4 (.slice ((some ⟨g, 0, none⟩)) X.length cap) X.length (tokv X)] w') ∨ ((pbR X).1 = 0 ∧ ∃ jx at1 aw cw av cv ac cc, ∃ rs : List OwR, rs.map (·.Y) = (pbI X).cost ∧ Mem w (feet [pt rb #[.slice (some ⟨g, 0 * 4, none⟩) (X.length - 0) (cap - 0), .int .i64 at0] 62, own 77 4 (.slice ((some ⟨g, 0, none⟩)) X.length cap) X.length (tokv X), pt ib cz0 25]) [pt rb #[.slice (some ⟨g, jx * 4, none⟩) (X.length - jx) (cap - jx), .int .i64 at1] 62, own 77 4 (.slice ((some ⟨g, 0, none⟩)) X.length cap) X.length (tokv X), pt ib #[.int .i64 ((pbI X).kind), .int .i64 ((pbI X).n), .int .i64 ((pbI X).cap), .slice aw ((pbI X).wt.length) cw, .slice av ((pbI X).vl.length) cv, .slice ac rs.length cc] 25, bundle (insL 3 22 (pbI X) aw cw av cv ac cc rs)] w')) := by
 have hbs := Below.refl (B := w.heap.size) w
 have hlX := hX.len
 refine Calls.of_ends (vs := [.pointer (some ⟨rb, 0, none⟩), .pointer (some ⟨ib, 0, none⟩)]) Tryd.func48 rfl Tryd.ntmps48 rfl ?_
 intro a hA
 replace hA : St 56 [(0, _), (1, _)] a := hA
 refine Ends.seq (Ends.region ?_)
 refine S.val hA (R.assign rfl) rfl ?_; clear hA a; intro a hA
 refine S.done ?_
 refine Ends.seq (Ends.region ?_)
 refine S.val hA (R.move rfl) rfl ?_; clear hA a; intro a hA
 refine S.call hA (R.callF Tryd.func23 rfl rfl rfl) rfl (name05 1 _) ?_; clear hA a
 rintro e w1 ⟨rfl, hb⟩
 replace hM := hM.callB hb; clear hb
 refine ⟨.string (⟨#[75, 78, 65, 80, 83, 65, 67, 75]⟩), rfl, fun a hA => ?_⟩
 refine S.call hA (R.callF Tryd.func23 rfl rfl rfl) rfl (name05 2 _) ?_; clear hA a
 rintro e w2 ⟨rfl, hb⟩
 replace hM := hM.callB hb; clear hb
 refine ⟨.string (⟨#[65, 83, 83, 73, 71, 78, 77, 69, 78, 84]⟩), rfl, fun a hA => ?_⟩
 refine S.call hA (R.callF Tryd.func23 rfl rfl rfl) rfl (name05 3 _) ?_; clear hA a
 rintro e w3 ⟨rfl, hb⟩
 replace hM := hM.callB hb; clear hb
 refine ⟨.string (⟨#[84, 83, 80]⟩), rfl, fun a hA => ?_⟩
 refine S.buildSl (cells := #[.string (⟨#[75, 78, 65, 80, 83, 65, 67, 75]⟩), .string (⟨#[65, 83, 83, 73, 71, 78, 77, 69, 78, 84]⟩), .string (⟨#[84, 83, 80]⟩)]) hA hM Tryd.underlying34 info9 rfl rfl rfl rfl (by kernel_rfl) rfl ?_; clear hA hM a; intro b1 w4 hb2 hM a hA
 replace hM : Mem _ _ [pt b1 #[.string (⟨#[75, 78, 65, 80, 83, 65, 67, 75]⟩), .string (⟨#[65, 83, 83, 73, 71, 78, 77, 69, 78, 84]⟩), .string (⟨#[84, 83, 80]⟩)] 9, pt rb #[.slice (some ⟨g, 0 * 4, none⟩) (X.length - 0) (cap - 0), .int .i64 at0] 62, own 77 4 (.slice ((some ⟨g, 0, none⟩)) X.length cap) X.length (tokv X), pt ib cz0 25] _ := hM
 replace hM := hM.front (k := 2) rfl
 replace hM := hM.front (k := 2) rfl
 replace hM : Mem _ _ [pt rb #[.slice (some ⟨g, 0 * 4, none⟩) (X.length - 0) (cap - 0), .int .i64 at0] 62, own 77 4 (.slice ((some ⟨g, 0, none⟩)) X.length cap) X.length (tokv X), pt b1 #[.string (⟨#[75, 78, 65, 80, 83, 65, 67, 75]⟩), .string (⟨#[65, 83, 83, 73, 71, 78, 77, 69, 78, 84]⟩), .string (⟨#[84, 83, 80]⟩)] 9, pt ib cz0 25] _ := hM
 refine S.call hA (R.callF Tryd.func61 rfl rfl rfl) rfl (word06_3 g rb 0 cap at0 X hX (by omega) hcap b1 (⟨#[75, 78, 65, 80, 83, 65, 67, 75]⟩) (⟨#[65, 83, 83, 73, 71, 78, 77, 69, 78, 84]⟩) (⟨#[84, 83, 80]⟩) _ (hM.hereN 3)) ?_; clear hA a
 rintro e w5 ⟨rfl, hn⟩
 replace hM : Mem _ _ [pt rb #[.slice (some ⟨g, (nxJ 0 (wordR (X.getD 0 tz) W3).2) * 4, none⟩) (X.length - (nxJ 0 (wordR (X.getD 0 tz) W3).2)) (cap - (nxJ 0 (wordR (X.getD 0 tz) W3).2)), .int .i64 ((X.getD 0 tz).a)] 62, own 77 4 (.slice ((some ⟨g, 0, none⟩)) X.length cap) X.length (tokv X), pt b1 #[.string (⟨#[75, 78, 65, 80, 83, 65, 67, 75]⟩), .string (⟨#[65, 83, 83, 73, 71, 78, 77, 69, 78, 84]⟩), .string (⟨#[84, 83, 80]⟩)] 9, pt ib cz0 25] _ := hM.callL 3 hn; clear hn
 refine ⟨.tuple #[.int .i64 ((wordR (X.getD 0 tz) W3).1), .int .i64 ((wordR (X.getD 0 tz) W3).2)], rfl, fun a hA => ?_⟩
 refine S.val hA (R.move rfl) rfl ?_; clear hA a; intro a hA
 refine S.val hA (R.extract (v := .int .i64 ((wordR (X.getD 0 tz) W3).1)) rfl rfl) rfl ?_; clear hA a; intro a hA
 refine S.val hA (R.extract (v := .int .i64 ((wordR (X.getD 0 tz) W3).2)) rfl rfl) rfl ?_; clear hA a; intro a hA
 refine S.val hA (R.assign rfl) rfl ?_; clear hA a; intro a hA
 refine S.val hA (R.assign rfl) rfl ?_; clear hA a; intro a hA
 refine S.done ?_
 replace hA : St 56 [(0, _), (1, _), (5, _), (6, _)] a := hA.sub ((.cons rfl (.cons rfl (.cons rfl (.cons rfl .nil)))))
 refine Ends.seq (Ends.seq (Ends.region ?_))
 refine S.val hA (R.move rfl) rfl ?_; clear hA a; intro a hA
 refine S.val hA (R.neq rfl rfl) rfl ?_; clear hA a; intro a hA
 refine S.done ?_
 refine Ends.ite hA rfl (fun hc3 => ?_) (fun hc3 => ?_)
 ·
  refine Ends.seq (Ends.region ?_)
  refine S.val hA (R.move rfl) rfl ?_; clear hA a; intro a hA
  refine S.val hA (R.assign rfl) rfl ?_; clear hA a; intro a hA
  refine S.done ?_
  refine Ends.ret1 Tryd.func48 Tryd.results48 hA rfl ?_
  replace hM := hM.firstN 2
  replace hM : Mem _ _ [pt rb #[.slice (some ⟨g, (nxJ 0 (wordR (X.getD 0 tz) W3).2) * 4, none⟩) (X.length - (nxJ 0 (wordR (X.getD 0 tz) W3).2)) (cap - (nxJ 0 (wordR (X.getD 0 tz) W3).2)), .int .i64 ((X.getD 0 tz).a)] 62, own 77 4 (.slice ((some ⟨g, 0, none⟩)) X.length cap) X.length (tokv X)] _ := hM
  have e1 := pbR_word hc3
  exact ⟨by rw [e1], .inl ⟨by rw [e1]; exact hc3, _, by rw [e1]; exact hM⟩⟩
 ·
  have hw0 := Decidable.not_not.1 hc3
  have hrg := wordR_rng _ _ hw0
  rw [show W3.length = 3 from rfl] at hrg
  have hj1 := hX.wok hj hw0
  rw [nxJ_ok hw0] at hM
  obtain ⟨kd, hkd⟩ : ∃ kd, (wordR (X.getD 0 tz) W3).1 + 1 = kd := ⟨_, rfl⟩
  replace hM : Mem _ _ [pt rb #[.slice (some ⟨g, 1 * 4, none⟩) (X.length - 1) (cap - 1), .int .i64 ((X.getD 0 tz).a)] 62, own 77 4 (.slice ((some ⟨g, 0, none⟩)) X.length cap) X.length (tokv X), pt b1 #[.string (⟨#[75, 78, 65, 80, 83, 65, 67, 75]⟩), .string (⟨#[65, 83, 83, 73, 71, 78, 77, 69, 78, 84]⟩), .string (⟨#[84, 83, 80]⟩)] 9, pt ib cz0 25] _ := hM
  refine Ends.skip (Ends.seq (Ends.region ?_))
  refine S.val hA (R.move rfl) rfl ?_; clear hA a; intro a hA
  refine S.val hA (R.move rfl) rfl ?_; clear hA a; intro a hA
  refine S.val hA (R.addI rfl rfl (r := kd) hkd (by omega)) rfl ?_; clear hA a; intro a hA
  refine S.val hA (R.nilCheck rfl) rfl ?_; clear hA a; intro a hA
  refine S.val hA (R.fieldAddr (q := 0) fi25_0 rfl rfl rfl) rfl ?_; clear hA a; intro a hA
  refine S.store (k := 3) hA hM sz3 rfl rfl rfl rfl rfl ?_; clear hM
  intro w6 hM
  replace hM : Mem _ _ [pt rb #[.slice (some ⟨g, 1 * 4, none⟩) (X.length - 1) (cap - 1), .int .i64 ((X.getD 0 tz).a)] 62, own 77 4 (.slice ((some ⟨g, 0, none⟩)) X.length cap) X.length (tokv X), pt b1 #[.string (⟨#[75, 78, 65, 80, 83, 65, 67, 75]⟩), .string (⟨#[65, 83, 83, 73, 71, 78, 77, 69, 78, 84]⟩), .string (⟨#[84, 83, 80]⟩)] 9, pt ib #[.int .i64 kd, .int .i64 0, .int .i64 0, .slice none 0 0, .slice none 0 0, .slice none 0 0] 25] _ := hM
  refine S.done ?_
  replace hA : St 56 [(0, _), (1, _), (6, _)] a := hA.sub ((.cons rfl (.cons rfl (.cons rfl .nil))))
  refine Ends.seq (Ends.seq (Ends.region ?_))
  refine S.val hA (R.move rfl) rfl ?_; clear hA a; intro a hA
  refine S.val hA (R.nilCheck rfl) rfl ?_; clear hA a; intro a hA
  refine S.val hA (R.fieldAddr (q := 0) fi25_0 rfl rfl rfl) rfl ?_; clear hA a; intro a hA
  refine S.val hA (R.load sz3 rfl (hM.cell (k := 3) rfl rfl)) rfl ?_; clear hA a; intro a hA
  refine S.done ?_
  refine Ends.block (Ends.seq (Ends.region ?_))
  refine S.val hA (R.eql rfl rfl) rfl ?_; clear hA a; intro a hA
  refine S.val hA (R.assign rfl) rfl ?_; clear hA a; intro a hA
  refine S.done ?_
  replace hA : St 56 [(0, _), (1, _), (27, _), (41, _)] a := hA.sub ((.cons rfl (.cons rfl (.cons rfl (.cons rfl .nil)))))
  refine Ends.ite hA rfl (fun hc4 => ?_) (fun hc4 => ?_)
  ·
   have hk1 : kd = 1 := hc4
   subst hk1
   replace hM : Mem _ _ [pt rb #[.slice (some ⟨g, 1 * 4, none⟩) (X.length - 1) (cap - 1), .int .i64 ((X.getD 0 tz).a)] 62, own 77 4 (.slice ((some ⟨g, 0, none⟩)) X.length cap) X.length (tokv X), pt b1 #[.string (⟨#[75, 78, 65, 80, 83, 65, 67, 75]⟩), .string (⟨#[65, 83, 83, 73, 71, 78, 77, 69, 78, 84]⟩), .string (⟨#[84, 83, 80]⟩)] 9, pt ib #[.int .i64 1, .int .i64 0, .int .i64 0, .slice none 0 0, .slice none 0 0, .slice none 0 0] 25] _ := hM
   by_cases hs5 : (itR X 1).1 = 0
   ·
    refine Ends.region ?_
    refine S.val hA (R.move rfl) rfl ?_; clear hA a; intro a hA
    refine S.val hA (R.move rfl) rfl ?_; clear hA a; intro a hA
    replace hM := hM.front (k := 3) rfl
    replace hM := hM.front (k := 2) rfl
    replace hM := hM.front (k := 2) rfl
    replace hM : Mem _ _ [pt rb #[.slice (some ⟨g, 1 * 4, none⟩) (X.length - 1) (cap - 1), .int .i64 ((X.getD 0 tz).a)] 62, own 77 4 (.slice ((some ⟨g, 0, none⟩)) X.length cap) X.length (tokv X), pt ib #[.int .i64 1, .int .i64 0, .int .i64 0, .slice none 0 0, .slice none 0 0, .slice none 0 0] 25, pt b1 #[.string (⟨#[75, 78, 65, 80, 83, 65, 67, 75]⟩), .string (⟨#[65, 83, 83, 73, 71, 78, 77, 69, 78, 84]⟩), .string (⟨#[84, 83, 80]⟩)] 9] _ := hM
    refine S.call hA (R.callF Tryd.func62 rfl rfl rfl) rfl (items06_ok g rb ib 1 cap ((X.getD 0 tz).a) X hX (by omega) hcap 1 hs5 _ (hM.hereN 3)) ?_; clear hA a
    rintro e w7 ⟨rfl, atx, wa, wc, va, vc, n, hcn, hn1, hn64, hn⟩
    replace hM : Mem _ _ [pt rb #[.slice (some ⟨g, (itR X 1).2 * 4, none⟩) (X.length - (itR X 1).2) (cap - (itR X 1).2), .int .i64 atx] 62, own 77 4 (.slice ((some ⟨g, 0, none⟩)) X.length cap) X.length (tokv X), pt ib #[.int .i64 1, .int .i64 ((n : Int)), .int .i64 ((X.getD 2 tz).n), .slice wa ((itI X 3 n).length) wc, .slice va ((itI X 4 n).length) vc, .slice none 0 0] 25, own 3 1 (.slice wa (((itI X 3 n)).length) wc) (((itI X 3 n)).length) (((itI X 3 n)).map (Value.int .i64)), own 3 1 (.slice va (((itI X 4 n)).length) vc) (((itI X 4 n)).length) (((itI X 4 n)).map (Value.int .i64)), pt b1 #[.string (⟨#[75, 78, 65, 80, 83, 65, 67, 75]⟩), .string (⟨#[65, 83, 83, 73, 71, 78, 77, 69, 78, 84]⟩), .string (⟨#[84, 83, 80]⟩)] 9] _ := hM.callL 3 hn; clear hn
    refine ⟨.int .i64 0, rfl, fun a hA => ?_⟩
    refine S.val hA (R.assign rfl) rfl ?_; clear hA a; intro a hA
    refine S.done ?_
    replace hA : St 56 [(0, _), (6, _)] a := hA.sub ((.cons rfl (.cons rfl .nil)))
    refine Ends.inBlock (Ends.seq (Ends.seq (Ends.region ?_)))
    refine S.val hA (R.move rfl) rfl ?_; clear hA a; intro a hA
    refine S.val hA (R.ff (R.neq rfl rfl) (by first | decide | simp | omega)) rfl ?_; clear hA a; intro a hA
    refine S.done ?_
    refine Ends.condF hA rfl ?_
    refine Ends.skip (Ends.seq ?_)
    have hjq : (itR X 1).2 < X.length := hX.itE hj1 hs5
    refine Ends.region ?_
    refine S.val hA (R.move rfl) rfl ?_; clear hA a; intro a hA
    refine S.call hA (R.callF Tryd.func66 rfl rfl rfl) rfl (end06 g rb ((itR X 1).2) cap atx X hX (by omega) hcap _ (hM.hereN 2)) ?_; clear hA a
    rintro e w8 ⟨rfl, hn⟩
    replace hM : Mem _ _ [pt rb #[.slice (some ⟨g, (itR X 1).2 * 4, none⟩) (X.length - (itR X 1).2) (cap - (itR X 1).2), .int .i64 ((X.getD ((itR X 1).2) tz).a)] 62, own 77 4 (.slice ((some ⟨g, 0, none⟩)) X.length cap) X.length (tokv X), pt ib #[.int .i64 1, .int .i64 ((n : Int)), .int .i64 ((X.getD 2 tz).n), .slice wa ((itI X 3 n).length) wc, .slice va ((itI X 4 n).length) vc, .slice none 0 0] 25, own 3 1 (.slice wa (((itI X 3 n)).length) wc) (((itI X 3 n)).length) (((itI X 3 n)).map (Value.int .i64)), own 3 1 (.slice va (((itI X 4 n)).length) vc) (((itI X 4 n)).length) (((itI X 4 n)).map (Value.int .i64)), pt b1 #[.string (⟨#[75, 78, 65, 80, 83, 65, 67, 75]⟩), .string (⟨#[65, 83, 83, 73, 71, 78, 77, 69, 78, 84]⟩), .string (⟨#[84, 83, 80]⟩)] 9] _ := hM.callL 2 hn; clear hn
    refine ⟨.int .i64 ((endR (X.getD ((itR X 1).2) tz))), rfl, fun a hA => ?_⟩
    refine S.val hA (R.assign rfl) rfl ?_; clear hA a; intro a hA
    refine S.done ?_
    replace hA : St 56 [(4, _)] a := hA.sub ((.cons rfl .nil))
    refine Ends.ret1 Tryd.func48 Tryd.results48 hA rfl ?_
    have e1 := (pbR_in hw0 hkd).trans ((congrArg (finR X) (bodR_it)).trans (finR_end hs5))
    have hM1 := hM
    replace hM := (hM.bundleNil (e := 3)).ownNil 22 1
    replace hM : Mem _ _ [own 22 1 (.slice none 0 0) 0 ((([] : List OwR).map orV)), bundle (([] : List OwR).map (orC 3)), pt rb #[.slice (some ⟨g, (itR X 1).2 * 4, none⟩) (X.length - (itR X 1).2) (cap - (itR X 1).2), .int .i64 ((X.getD ((itR X 1).2) tz).a)] 62, own 77 4 (.slice ((some ⟨g, 0, none⟩)) X.length cap) X.length (tokv X), pt ib #[.int .i64 1, .int .i64 ((n : Int)), .int .i64 ((X.getD 2 tz).n), .slice wa ((itI X 3 n).length) wc, .slice va ((itI X 4 n).length) vc, .slice none 0 0] 25, own 3 1 (.slice wa (((itI X 3 n)).length) wc) (((itI X 3 n)).length) (((itI X 3 n)).map (Value.int .i64)), own 3 1 (.slice va (((itI X 4 n)).length) vc) (((itI X 4 n)).length) (((itI X 4 n)).map (Value.int .i64)), pt b1 #[.string (⟨#[75, 78, 65, 80, 83, 65, 67, 75]⟩), .string (⟨#[65, 83, 83, 73, 71, 78, 77, 69, 78, 84]⟩), .string (⟨#[84, 83, 80]⟩)] 9] _ := hM
    replace hM := hM.front (k := 1) rfl
    replace hM := hM.front (k := 1) rfl
    replace hM := hM.front (k := 6) rfl
    replace hM := hM.front (k := 6) rfl
    replace hM := hM.front (k := 6) rfl
    replace hM := hM.front (k := 6) rfl
    replace hM := hM.front (k := 6) rfl
    replace hM : Mem _ _ [pt rb #[.slice (some ⟨g, (itR X 1).2 * 4, none⟩) (X.length - (itR X 1).2) (cap - (itR X 1).2), .int .i64 ((X.getD ((itR X 1).2) tz).a)] 62, own 77 4 (.slice ((some ⟨g, 0, none⟩)) X.length cap) X.length (tokv X), pt ib #[.int .i64 1, .int .i64 ((n : Int)), .int .i64 ((X.getD 2 tz).n), .slice wa ((itI X 3 n).length) wc, .slice va ((itI X 4 n).length) vc, .slice none 0 0] 25, own 3 1 (.slice wa (((itI X 3 n)).length) wc) (((itI X 3 n)).length) (((itI X 3 n)).map (Value.int .i64)), own 3 1 (.slice va (((itI X 4 n)).length) vc) (((itI X 4 n)).length) (((itI X 4 n)).map (Value.int .i64)), own 22 1 (.slice none 0 0) 0 ((([] : List OwR).map orV)), bundle (([] : List OwR).map (orC 3)), pt b1 #[.string (⟨#[75, 78, 65, 80, 83, 65, 67, 75]⟩), .string (⟨#[65, 83, 83, 73, 71, 78, 77, 69, 78, 84]⟩), .string (⟨#[84, 83, 80]⟩)] 9] _ := hM
    replace hM := hM.firstN 7
    replace hM : Mem _ _ [pt rb #[.slice (some ⟨g, (itR X 1).2 * 4, none⟩) (X.length - (itR X 1).2) (cap - (itR X 1).2), .int .i64 ((X.getD ((itR X 1).2) tz).a)] 62, own 77 4 (.slice ((some ⟨g, 0, none⟩)) X.length cap) X.length (tokv X), pt ib #[.int .i64 1, .int .i64 ((n : Int)), .int .i64 ((X.getD 2 tz).n), .slice wa ((itI X 3 n).length) wc, .slice va ((itI X 4 n).length) vc, .slice none 0 0] 25, own 3 1 (.slice wa (((itI X 3 n)).length) wc) (((itI X 3 n)).length) (((itI X 3 n)).map (Value.int .i64)), own 3 1 (.slice va (((itI X 4 n)).length) vc) (((itI X 4 n)).length) (((itI X 4 n)).map (Value.int .i64)), own 22 1 (.slice none 0 0) 0 ((([] : List OwR).map orV)), bundle (([] : List OwR).map (orC 3))] _ := hM
    replace hM := Mem.packI (G0 := (⟨1, (n : Int), (X.getD 2 tz).n, itI X 3 n, itI X 4 n, []⟩ : Ins)) (eI := 3) (eR := 22) (aw := wa) (cw := wc) (av := va) (cv := vc) (ac := none) (cc := 0) (rs := []) (pbI_it hkd hcn) hM
    by_cases h9 : (endR (X.getD ((itR X 1).2) tz)) = 0
    · exact ⟨by rw [e1], .inr ⟨by rw [e1]; exact h9, _, _, wa, wc, va, vc, none, 0, [], by rw [← pbI_it hkd hcn]; rfl, hM⟩⟩
    ·
     replace hM1 := hM1.firstN 2
     exact ⟨by rw [e1], .inl ⟨by rw [e1]; exact h9, _, by rw [e1]; exact hM1⟩⟩
   ·
    refine Ends.region ?_
    refine S.val hA (R.move rfl) rfl ?_; clear hA a; intro a hA
    refine S.val hA (R.move rfl) rfl ?_; clear hA a; intro a hA
    replace hM := hM.front (k := 3) rfl
    replace hM := hM.front (k := 2) rfl
    replace hM := hM.front (k := 2) rfl
    replace hM : Mem _ _ [pt rb #[.slice (some ⟨g, 1 * 4, none⟩) (X.length - 1) (cap - 1), .int .i64 ((X.getD 0 tz).a)] 62, own 77 4 (.slice ((some ⟨g, 0, none⟩)) X.length cap) X.length (tokv X), pt ib #[.int .i64 1, .int .i64 0, .int .i64 0, .slice none 0 0, .slice none 0 0, .slice none 0 0] 25, pt b1 #[.string (⟨#[75, 78, 65, 80, 83, 65, 67, 75]⟩), .string (⟨#[65, 83, 83, 73, 71, 78, 77, 69, 78, 84]⟩), .string (⟨#[84, 83, 80]⟩)] 9] _ := hM
    refine S.call hA (R.callF Tryd.func62 rfl rfl rfl) rfl (items06_bad g rb ib 1 cap ((X.getD 0 tz).a) X hX (by omega) hcap 1 hs5 _ (hM.hereN 3)) ?_; clear hA a
    rintro e w9 ⟨rfl, jx6, hn⟩
    replace hM : Mem _ _ [pt rb #[.slice (some ⟨g, jx6 * 4, none⟩) (X.length - jx6) (cap - jx6), .int .i64 (((X.getD (itR X 1).2 tz).a))] 62, own 77 4 (.slice ((some ⟨g, 0, none⟩)) X.length cap) X.length (tokv X), pt b1 #[.string (⟨#[75, 78, 65, 80, 83, 65, 67, 75]⟩), .string (⟨#[65, 83, 83, 73, 71, 78, 77, 69, 78, 84]⟩), .string (⟨#[84, 83, 80]⟩)] 9] _ := hM.callL 3 hn; clear hn
    refine ⟨.int .i64 ((itR X 1).1), rfl, fun a hA => ?_⟩
    refine S.val hA (R.assign rfl) rfl ?_; clear hA a; intro a hA
    refine S.done ?_
    replace hA : St 56 [(0, _), (6, _)] a := hA.sub ((.cons rfl (.cons rfl .nil)))
    refine Ends.inBlock (Ends.seq (Ends.seq (Ends.region ?_)))
    refine S.val hA (R.move rfl) rfl ?_; clear hA a; intro a hA
    refine S.val hA (R.neq rfl rfl) rfl ?_; clear hA a; intro a hA
    refine S.done ?_
    refine Ends.ite hA rfl (fun hc7 => ?_) (fun hc7 => ?_)
    ·
     refine Ends.seq (Ends.region ?_)
     refine S.val hA (R.move rfl) rfl ?_; clear hA a; intro a hA
     refine S.val hA (R.assign rfl) rfl ?_; clear hA a; intro a hA
     refine S.done ?_
     replace hA : St 56 [(0, _), (4, _)] a := hA.sub ((.cons rfl (.cons rfl .nil)))
     refine Ends.ret1 Tryd.func48 Tryd.results48 hA rfl ?_
     replace hM := hM.firstN 2
     replace hM : Mem _ _ [pt rb #[.slice (some ⟨g, jx6 * 4, none⟩) (X.length - jx6) (cap - jx6), .int .i64 (((X.getD (itR X 1).2 tz).a))] 62, own 77 4 (.slice ((some ⟨g, 0, none⟩)) X.length cap) X.length (tokv X)] _ := hM
     have e1 := (pbR_in hw0 hkd).trans ((congrArg (finR X) (bodR_it)).trans (finR_err hs5))
     exact ⟨by rw [e1], .inl ⟨by rw [e1]; exact hs5, _, by rw [e1]; exact hM⟩⟩
    · exact absurd (by assumption) hc7
  ·
   have hk1 : ¬ kd = 1 := hc4
   refine Ends.seq (Ends.region ?_)
   refine S.val hA (R.eql rfl rfl) rfl ?_; clear hA a; intro a hA
   refine S.val hA (R.assign rfl) rfl ?_; clear hA a; intro a hA
   refine S.done ?_
   refine Ends.ite hA rfl (fun hc8 => ?_) (fun hc8 => ?_)
   ·
    have hk3 : kd = 3 := hc8
    subst hk3
    replace hM : Mem _ _ [pt rb #[.slice (some ⟨g, 1 * 4, none⟩) (X.length - 1) (cap - 1), .int .i64 ((X.getD 0 tz).a)] 62, own 77 4 (.slice ((some ⟨g, 0, none⟩)) X.length cap) X.length (tokv X), pt b1 #[.string (⟨#[75, 78, 65, 80, 83, 65, 67, 75]⟩), .string (⟨#[65, 83, 83, 73, 71, 78, 77, 69, 78, 84]⟩), .string (⟨#[84, 83, 80]⟩)] 9, pt ib #[.int .i64 3, .int .i64 0, .int .i64 0, .slice none 0 0, .slice none 0 0, .slice none 0 0] 25] _ := hM
    by_cases hs9 : (toR X 1).1 = 0
    ·
     refine Ends.region ?_
     refine S.val hA (R.move rfl) rfl ?_; clear hA a; intro a hA
     refine S.val hA (R.move rfl) rfl ?_; clear hA a; intro a hA
     replace hM := hM.front (k := 3) rfl
     replace hM := hM.front (k := 2) rfl
     replace hM := hM.front (k := 2) rfl
     replace hM : Mem _ _ [pt rb #[.slice (some ⟨g, 1 * 4, none⟩) (X.length - 1) (cap - 1), .int .i64 ((X.getD 0 tz).a)] 62, own 77 4 (.slice ((some ⟨g, 0, none⟩)) X.length cap) X.length (tokv X), pt ib #[.int .i64 3, .int .i64 0, .int .i64 0, .slice none 0 0, .slice none 0 0, .slice none 0 0] 25, pt b1 #[.string (⟨#[75, 78, 65, 80, 83, 65, 67, 75]⟩), .string (⟨#[65, 83, 83, 73, 71, 78, 77, 69, 78, 84]⟩), .string (⟨#[84, 83, 80]⟩)] 9] _ := hM
     refine S.call hA (R.callF Tryd.func63 rfl rfl rfl) rfl (tour06_ok g rb ib 1 cap ((X.getD 0 tz).a) X hX (by omega) hcap hs9 _ (hM.hereN 3)) ?_; clear hA a
     rintro e w10 ⟨rfl, atx, gb, rs, n, hcn, hn1, hn24, hYs, hn⟩
     replace hM : Mem _ _ [pt rb #[.slice (some ⟨g, (toR X 1).2 * 4, none⟩) (X.length - (toR X 1).2) (cap - (toR X 1).2), .int .i64 atx] 62, own 77 4 (.slice ((some ⟨g, 0, none⟩)) X.length cap) X.length (tokv X), pt ib #[.int .i64 3, .int .i64 ((n : Int)), .int .i64 0, .slice none 0 0, .slice none 0 0, .slice ((some ⟨gb, 0, none⟩)) n n] 25, own 22 1 (.slice ((some ⟨gb, 0, none⟩)) n n) n ((rs.map orV)), bundle (rs.map (orC 3)), pt b1 #[.string (⟨#[75, 78, 65, 80, 83, 65, 67, 75]⟩), .string (⟨#[65, 83, 83, 73, 71, 78, 77, 69, 78, 84]⟩), .string (⟨#[84, 83, 80]⟩)] 9] _ := hM.callL 3 hn; clear hn
     refine ⟨.int .i64 0, rfl, fun a hA => ?_⟩
     refine S.val hA (R.assign rfl) rfl ?_; clear hA a; intro a hA
     refine S.done ?_
     replace hA : St 56 [(0, _), (6, _)] a := hA.sub ((.cons rfl (.cons rfl .nil)))
     refine Ends.inBlock (Ends.seq (Ends.seq (Ends.region ?_)))
     refine S.val hA (R.move rfl) rfl ?_; clear hA a; intro a hA
     refine S.val hA (R.ff (R.neq rfl rfl) (by first | decide | simp | omega)) rfl ?_; clear hA a; intro a hA
     refine S.done ?_
     refine Ends.condF hA rfl ?_
     refine Ends.skip (Ends.seq ?_)
     have hjq : (toR X 1).2 < X.length := hX.toE hj1 hs9
     refine Ends.region ?_
     refine S.val hA (R.move rfl) rfl ?_; clear hA a; intro a hA
     refine S.call hA (R.callF Tryd.func66 rfl rfl rfl) rfl (end06 g rb ((toR X 1).2) cap atx X hX (by omega) hcap _ (hM.hereN 2)) ?_; clear hA a
     rintro e w11 ⟨rfl, hn⟩
     replace hM : Mem _ _ [pt rb #[.slice (some ⟨g, (toR X 1).2 * 4, none⟩) (X.length - (toR X 1).2) (cap - (toR X 1).2), .int .i64 ((X.getD ((toR X 1).2) tz).a)] 62, own 77 4 (.slice ((some ⟨g, 0, none⟩)) X.length cap) X.length (tokv X), pt ib #[.int .i64 3, .int .i64 ((n : Int)), .int .i64 0, .slice none 0 0, .slice none 0 0, .slice ((some ⟨gb, 0, none⟩)) n n] 25, own 22 1 (.slice ((some ⟨gb, 0, none⟩)) n n) n ((rs.map orV)), bundle (rs.map (orC 3)), pt b1 #[.string (⟨#[75, 78, 65, 80, 83, 65, 67, 75]⟩), .string (⟨#[65, 83, 83, 73, 71, 78, 77, 69, 78, 84]⟩), .string (⟨#[84, 83, 80]⟩)] 9] _ := hM.callL 2 hn; clear hn
     refine ⟨.int .i64 ((endR (X.getD ((toR X 1).2) tz))), rfl, fun a hA => ?_⟩
     refine S.val hA (R.assign rfl) rfl ?_; clear hA a; intro a hA
     refine S.done ?_
     replace hA : St 56 [(4, _)] a := hA.sub ((.cons rfl .nil))
     refine Ends.ret1 Tryd.func48 Tryd.results48 hA rfl ?_
     have e1 := (pbR_in hw0 hkd).trans ((congrArg (finR X) (bodR_to)).trans (finR_end hs9))
     have hM1 := hM
     replace hM := (hM.ownNil 3 1).ownNil 3 1
     replace hM : Mem _ _ [own 3 1 (.slice none ((([] : List Int)).length) 0) ((([] : List Int)).length) ((([] : List Int)).map (Value.int .i64)), own 3 1 (.slice none ((([] : List Int)).length) 0) ((([] : List Int)).length) ((([] : List Int)).map (Value.int .i64)), pt rb #[.slice (some ⟨g, (toR X 1).2 * 4, none⟩) (X.length - (toR X 1).2) (cap - (toR X 1).2), .int .i64 ((X.getD ((toR X 1).2) tz).a)] 62, own 77 4 (.slice ((some ⟨g, 0, none⟩)) X.length cap) X.length (tokv X), pt ib #[.int .i64 3, .int .i64 ((n : Int)), .int .i64 0, .slice none 0 0, .slice none 0 0, .slice ((some ⟨gb, 0, none⟩)) n n] 25, own 22 1 (.slice ((some ⟨gb, 0, none⟩)) n n) n ((rs.map orV)), bundle (rs.map (orC 3)), pt b1 #[.string (⟨#[75, 78, 65, 80, 83, 65, 67, 75]⟩), .string (⟨#[65, 83, 83, 73, 71, 78, 77, 69, 78, 84]⟩), .string (⟨#[84, 83, 80]⟩)] 9] _ := hM
     replace hM := hM.front (k := 6) rfl
     replace hM := hM.front (k := 6) rfl
     replace hM := hM.front (k := 3) rfl
     replace hM := hM.front (k := 3) rfl
     replace hM := hM.front (k := 6) rfl
     replace hM := hM.front (k := 6) rfl
     replace hM := hM.front (k := 6) rfl
     replace hM : Mem _ _ [pt rb #[.slice (some ⟨g, (toR X 1).2 * 4, none⟩) (X.length - (toR X 1).2) (cap - (toR X 1).2), .int .i64 ((X.getD ((toR X 1).2) tz).a)] 62, own 77 4 (.slice ((some ⟨g, 0, none⟩)) X.length cap) X.length (tokv X), pt ib #[.int .i64 3, .int .i64 ((n : Int)), .int .i64 0, .slice none 0 0, .slice none 0 0, .slice ((some ⟨gb, 0, none⟩)) n n] 25, own 3 1 (.slice none ((([] : List Int)).length) 0) ((([] : List Int)).length) ((([] : List Int)).map (Value.int .i64)), own 3 1 (.slice none ((([] : List Int)).length) 0) ((([] : List Int)).length) ((([] : List Int)).map (Value.int .i64)), own 22 1 (.slice ((some ⟨gb, 0, none⟩)) n n) n ((rs.map orV)), bundle (rs.map (orC 3)), pt b1 #[.string (⟨#[75, 78, 65, 80, 83, 65, 67, 75]⟩), .string (⟨#[65, 83, 83, 73, 71, 78, 77, 69, 78, 84]⟩), .string (⟨#[84, 83, 80]⟩)] 9] _ := hM
     replace hM := hM.firstN 7
     replace hM : Mem _ _ [pt rb #[.slice (some ⟨g, (toR X 1).2 * 4, none⟩) (X.length - (toR X 1).2) (cap - (toR X 1).2), .int .i64 ((X.getD ((toR X 1).2) tz).a)] 62, own 77 4 (.slice ((some ⟨g, 0, none⟩)) X.length cap) X.length (tokv X), pt ib #[.int .i64 3, .int .i64 ((n : Int)), .int .i64 0, .slice none 0 0, .slice none 0 0, .slice ((some ⟨gb, 0, none⟩)) n n] 25, own 3 1 (.slice none ((([] : List Int)).length) 0) ((([] : List Int)).length) ((([] : List Int)).map (Value.int .i64)), own 3 1 (.slice none ((([] : List Int)).length) 0) ((([] : List Int)).length) ((([] : List Int)).map (Value.int .i64)), own 22 1 (.slice ((some ⟨gb, 0, none⟩)) n n) n ((rs.map orV)), bundle (rs.map (orC 3))] _ := hM
     have hlr := rows_len hYs
     rw [← hlr] at hM
     have hpf := pbI_full hkd hcn hYs
     rw [← hlr] at hpf
     replace hM := Mem.packI (G0 := (⟨3, (rs.length : Int), 0, [], [], rs.map (·.Y)⟩ : Ins)) (eI := 3) (eR := 22) (aw := none) (cw := 0) (av := none) (cv := 0) (ac := some ⟨gb, 0, none⟩) (cc := rs.length) (rs := rs) hpf hM
     by_cases h9 : (endR (X.getD ((toR X 1).2) tz)) = 0
     · exact ⟨by rw [e1], .inr ⟨by rw [e1]; exact h9, _, _, none, 0, none, 0, _, _, rs, by rw [← hpf], hM⟩⟩
     ·
      replace hM1 := hM1.firstN 2
      exact ⟨by rw [e1], .inl ⟨by rw [e1]; exact h9, _, by rw [e1]; exact hM1⟩⟩
    ·
     refine Ends.region ?_
     refine S.val hA (R.move rfl) rfl ?_; clear hA a; intro a hA
     refine S.val hA (R.move rfl) rfl ?_; clear hA a; intro a hA
     replace hM := hM.front (k := 3) rfl
     replace hM := hM.front (k := 2) rfl
     replace hM := hM.front (k := 2) rfl
     replace hM : Mem _ _ [pt rb #[.slice (some ⟨g, 1 * 4, none⟩) (X.length - 1) (cap - 1), .int .i64 ((X.getD 0 tz).a)] 62, own 77 4 (.slice ((some ⟨g, 0, none⟩)) X.length cap) X.length (tokv X), pt ib #[.int .i64 3, .int .i64 0, .int .i64 0, .slice none 0 0, .slice none 0 0, .slice none 0 0] 25, pt b1 #[.string (⟨#[75, 78, 65, 80, 83, 65, 67, 75]⟩), .string (⟨#[65, 83, 83, 73, 71, 78, 77, 69, 78, 84]⟩), .string (⟨#[84, 83, 80]⟩)] 9] _ := hM
     refine S.call hA (R.callF Tryd.func63 rfl rfl rfl) rfl (tour06_bad g rb ib 1 cap ((X.getD 0 tz).a) X hX (by omega) hcap hs9 _ (hM.hereN 3)) ?_; clear hA a
     rintro e w12 ⟨rfl, jx10, hn⟩
     replace hM : Mem _ _ [pt rb #[.slice (some ⟨g, jx10 * 4, none⟩) (X.length - jx10) (cap - jx10), .int .i64 (((X.getD (toR X 1).2 tz).a))] 62, own 77 4 (.slice ((some ⟨g, 0, none⟩)) X.length cap) X.length (tokv X), pt b1 #[.string (⟨#[75, 78, 65, 80, 83, 65, 67, 75]⟩), .string (⟨#[65, 83, 83, 73, 71, 78, 77, 69, 78, 84]⟩), .string (⟨#[84, 83, 80]⟩)] 9] _ := hM.callL 3 hn; clear hn
     refine ⟨.int .i64 ((toR X 1).1), rfl, fun a hA => ?_⟩
     refine S.val hA (R.assign rfl) rfl ?_; clear hA a; intro a hA
     refine S.done ?_
     replace hA : St 56 [(0, _), (6, _)] a := hA.sub ((.cons rfl (.cons rfl .nil)))
     refine Ends.inBlock (Ends.seq (Ends.seq (Ends.region ?_)))
     refine S.val hA (R.move rfl) rfl ?_; clear hA a; intro a hA
     refine S.val hA (R.neq rfl rfl) rfl ?_; clear hA a; intro a hA
     refine S.done ?_
     refine Ends.ite hA rfl (fun hc11 => ?_) (fun hc11 => ?_)
     ·
      refine Ends.seq (Ends.region ?_)
      refine S.val hA (R.move rfl) rfl ?_; clear hA a; intro a hA
      refine S.val hA (R.assign rfl) rfl ?_; clear hA a; intro a hA
      refine S.done ?_
      replace hA : St 56 [(0, _), (4, _)] a := hA.sub ((.cons rfl (.cons rfl .nil)))
      refine Ends.ret1 Tryd.func48 Tryd.results48 hA rfl ?_
      replace hM := hM.firstN 2
      replace hM : Mem _ _ [pt rb #[.slice (some ⟨g, jx10 * 4, none⟩) (X.length - jx10) (cap - jx10), .int .i64 (((X.getD (toR X 1).2 tz).a))] 62, own 77 4 (.slice ((some ⟨g, 0, none⟩)) X.length cap) X.length (tokv X)] _ := hM
      have e1 := (pbR_in hw0 hkd).trans ((congrArg (finR X) (bodR_to)).trans (finR_err hs9))
      exact ⟨by rw [e1], .inl ⟨by rw [e1]; exact hs9, _, by rw [e1]; exact hM⟩⟩
     · exact absurd (by assumption) hc11
   ·
    have hk3 : ¬ kd = 3 := hc8
    refine Ends.seq (Ends.region ?_)
    refine S.val hA (R.move rfl) rfl ?_; clear hA a; intro a hA
    refine S.val hA (R.move rfl) rfl ?_; clear hA a; intro a hA
    refine S.call hA (R.callF Tryd.func64 rfl rfl rfl) rfl (count06 g rb 1 cap ((X.getD 0 tz).a) X hX (by omega) hcap 24 _ (hM.hereN 2)) ?_; clear hA a
    rintro e w13 ⟨rfl, hn⟩
    replace hM : Mem _ _ [pt rb #[.slice (some ⟨g, (nxJ 1 (numR (X.getD 1 tz) 24)) * 4, none⟩) (X.length - (nxJ 1 (numR (X.getD 1 tz) 24))) (cap - (nxJ 1 (numR (X.getD 1 tz) 24))), .int .i64 ((X.getD 1 tz).a)] 62, own 77 4 (.slice ((some ⟨g, 0, none⟩)) X.length cap) X.length (tokv X), pt b1 #[.string (⟨#[75, 78, 65, 80, 83, 65, 67, 75]⟩), .string (⟨#[65, 83, 83, 73, 71, 78, 77, 69, 78, 84]⟩), .string (⟨#[84, 83, 80]⟩)] 9, pt ib #[.int .i64 kd, .int .i64 0, .int .i64 0, .slice none 0 0, .slice none 0 0, .slice none 0 0] 25] _ := hM.callL 2 hn; clear hn
    refine ⟨.tuple #[.int .i64 ((numN (X.getD 1 tz) 24)), .int .i64 ((cntR (X.getD 1 tz) 24))], rfl, fun a hA => ?_⟩
    refine S.val hA (R.move rfl) rfl ?_; clear hA a; intro a hA
    refine S.val hA (R.extract (v := .int .i64 ((numN (X.getD 1 tz) 24))) rfl rfl) rfl ?_; clear hA a; intro a hA
    refine S.val hA (R.extract (v := .int .i64 ((cntR (X.getD 1 tz) 24))) rfl rfl) rfl ?_; clear hA a; intro a hA
    refine S.val hA (R.nilCheck rfl) rfl ?_; clear hA a; intro a hA
    refine S.val hA (R.fieldAddr (q := 1) fi25_1 rfl rfl rfl) rfl ?_; clear hA a; intro a hA
    refine S.store (k := 3) hA hM sz3 rfl rfl rfl rfl rfl ?_; clear hM
    intro w14 hM
    replace hM : Mem _ _ [pt rb #[.slice (some ⟨g, (nxJ 1 (numR (X.getD 1 tz) 24)) * 4, none⟩) (X.length - (nxJ 1 (numR (X.getD 1 tz) 24))) (cap - (nxJ 1 (numR (X.getD 1 tz) 24))), .int .i64 ((X.getD 1 tz).a)] 62, own 77 4 (.slice ((some ⟨g, 0, none⟩)) X.length cap) X.length (tokv X), pt b1 #[.string (⟨#[75, 78, 65, 80, 83, 65, 67, 75]⟩), .string (⟨#[65, 83, 83, 73, 71, 78, 77, 69, 78, 84]⟩), .string (⟨#[84, 83, 80]⟩)] 9, pt ib #[.int .i64 kd, .int .i64 ((numN (X.getD 1 tz) 24)), .int .i64 0, .slice none 0 0, .slice none 0 0, .slice none 0 0] 25] _ := hM
    refine S.val hA (R.assign rfl) rfl ?_; clear hA a; intro a hA
    refine S.done ?_
    replace hA : St 56 [(0, _), (1, _), (6, _)] a := hA.sub ((.cons rfl (.cons rfl (.cons rfl .nil))))
    refine Ends.seq (Ends.region ?_)
    refine S.val hA (R.move rfl) rfl ?_; clear hA a; intro a hA
    refine S.val hA (R.eql rfl rfl) rfl ?_; clear hA a; intro a hA
    refine S.done ?_
    refine Ends.ite hA rfl (fun hc12 => ?_) (fun hc12 => ?_)
    ·
     obtain ⟨n, hn, hcn, hn1, hn24_, hr0⟩ := hX.ct hc12
     have hc0 := hc12
     have hj2 := hX.ok hj1 hr0
     have hn24 : n ≤ 24 := by omega
     rw [hn] at hM
     have hdk := dgk_no (n := n) hk3
     rw [nxJ_ok hr0] at hM
     replace hM : Mem _ _ [pt rb #[.slice (some ⟨g, 2 * 4, none⟩) (X.length - 2) (cap - 2), .int .i64 ((X.getD 1 tz).a)] 62, own 77 4 (.slice ((some ⟨g, 0, none⟩)) X.length cap) X.length (tokv X), pt b1 #[.string (⟨#[75, 78, 65, 80, 83, 65, 67, 75]⟩), .string (⟨#[65, 83, 83, 73, 71, 78, 77, 69, 78, 84]⟩), .string (⟨#[84, 83, 80]⟩)] 9, pt ib #[.int .i64 kd, .int .i64 ((n : Int)), .int .i64 0, .slice none 0 0, .slice none 0 0, .slice none 0 0] 25] _ := hM
     by_cases hs13 : (nuR (dgk kd n) X 2 (n * n)).1 = 0
     ·
      refine Ends.region ?_
      refine S.val hA (R.move rfl) rfl ?_; clear hA a; intro a hA
      refine S.val hA (R.move rfl) rfl ?_; clear hA a; intro a hA
      replace hM := hM.front (k := 3) rfl
      replace hM := hM.front (k := 2) rfl
      replace hM := hM.front (k := 2) rfl
      replace hM : Mem _ _ [pt rb #[.slice (some ⟨g, 2 * 4, none⟩) (X.length - 2) (cap - 2), .int .i64 ((X.getD 1 tz).a)] 62, own 77 4 (.slice ((some ⟨g, 0, none⟩)) X.length cap) X.length (tokv X), pt ib #[.int .i64 kd, .int .i64 ((n : Int)), .int .i64 0, .slice none 0 0, .slice none 0 0, .slice none 0 0] 25, pt b1 #[.string (⟨#[75, 78, 65, 80, 83, 65, 67, 75]⟩), .string (⟨#[65, 83, 83, 73, 71, 78, 77, 69, 78, 84]⟩), .string (⟨#[84, 83, 80]⟩)] 9] _ := hM
      refine S.call hA (R.callF Tryd.func65 rfl rfl rfl) rfl (rows06_ok g rb ib 2 cap ((X.getD 1 tz).a) X hX (by omega) hcap kd n hn1 hn24 hs13 _ (hM.hereN 3)) ?_; clear hA a
      rintro e w15 ⟨rfl, atx, gb, rs, hYs, hn⟩
      replace hM : Mem _ _ [pt rb #[.slice (some ⟨g, (nuR (dgk kd n) X 2 (n * n)).2 * 4, none⟩) (X.length - (nuR (dgk kd n) X 2 (n * n)).2) (cap - (nuR (dgk kd n) X 2 (n * n)).2), .int .i64 atx] 62, own 77 4 (.slice ((some ⟨g, 0, none⟩)) X.length cap) X.length (tokv X), pt ib #[.int .i64 kd, .int .i64 ((n : Int)), .int .i64 0, .slice none 0 0, .slice none 0 0, .slice ((some ⟨gb, 0, none⟩)) n n] 25, own 22 1 (.slice ((some ⟨gb, 0, none⟩)) n n) n ((rs.map orV)), bundle (rs.map (orC 3)), pt b1 #[.string (⟨#[75, 78, 65, 80, 83, 65, 67, 75]⟩), .string (⟨#[65, 83, 83, 73, 71, 78, 77, 69, 78, 84]⟩), .string (⟨#[84, 83, 80]⟩)] 9] _ := hM.callL 3 hn; clear hn
      refine ⟨.int .i64 0, rfl, fun a hA => ?_⟩
      refine S.val hA (R.assign rfl) rfl ?_; clear hA a; intro a hA
      refine S.done ?_
      replace hA : St 56 [(0, _), (6, _)] a := hA.sub ((.cons rfl (.cons rfl .nil)))
      refine Ends.inBlock (Ends.seq (Ends.seq (Ends.region ?_)))
      refine S.val hA (R.move rfl) rfl ?_; clear hA a; intro a hA
      refine S.val hA (R.ff (R.neq rfl rfl) (by first | decide | simp | omega)) rfl ?_; clear hA a; intro a hA
      refine S.done ?_
      refine Ends.condF hA rfl ?_
      refine Ends.skip (Ends.seq ?_)
      have hjq : (nuR (dgk kd n) X 2 (n * n)).2 < X.length := hX.nuE hj2 hs13
      refine Ends.region ?_
      refine S.val hA (R.move rfl) rfl ?_; clear hA a; intro a hA
      refine S.call hA (R.callF Tryd.func66 rfl rfl rfl) rfl (end06 g rb ((nuR (dgk kd n) X 2 (n * n)).2) cap atx X hX (by omega) hcap _ (hM.hereN 2)) ?_; clear hA a
      rintro e w16 ⟨rfl, hn⟩
      replace hM : Mem _ _ [pt rb #[.slice (some ⟨g, (nuR (dgk kd n) X 2 (n * n)).2 * 4, none⟩) (X.length - (nuR (dgk kd n) X 2 (n * n)).2) (cap - (nuR (dgk kd n) X 2 (n * n)).2), .int .i64 ((X.getD ((nuR (dgk kd n) X 2 (n * n)).2) tz).a)] 62, own 77 4 (.slice ((some ⟨g, 0, none⟩)) X.length cap) X.length (tokv X), pt ib #[.int .i64 kd, .int .i64 ((n : Int)), .int .i64 0, .slice none 0 0, .slice none 0 0, .slice ((some ⟨gb, 0, none⟩)) n n] 25, own 22 1 (.slice ((some ⟨gb, 0, none⟩)) n n) n ((rs.map orV)), bundle (rs.map (orC 3)), pt b1 #[.string (⟨#[75, 78, 65, 80, 83, 65, 67, 75]⟩), .string (⟨#[65, 83, 83, 73, 71, 78, 77, 69, 78, 84]⟩), .string (⟨#[84, 83, 80]⟩)] 9] _ := hM.callL 2 hn; clear hn
      refine ⟨.int .i64 ((endR (X.getD ((nuR (dgk kd n) X 2 (n * n)).2) tz))), rfl, fun a hA => ?_⟩
      refine S.val hA (R.assign rfl) rfl ?_; clear hA a; intro a hA
      refine S.done ?_
      replace hA : St 56 [(4, _)] a := hA.sub ((.cons rfl .nil))
      refine Ends.ret1 Tryd.func48 Tryd.results48 hA rfl ?_
      have e1 := (pbR_in hw0 hkd).trans ((congrArg (finR X) ((bodR_as hk1 hk3).trans ((asR_num hc0 hcn).trans (congrArg (fun f => nuR f X 2 (n * n)) hdk.symm)))).trans (finR_end hs13))
      have hM1 := hM
      replace hM := (hM.ownNil 3 1).ownNil 3 1
      replace hM : Mem _ _ [own 3 1 (.slice none ((([] : List Int)).length) 0) ((([] : List Int)).length) ((([] : List Int)).map (Value.int .i64)), own 3 1 (.slice none ((([] : List Int)).length) 0) ((([] : List Int)).length) ((([] : List Int)).map (Value.int .i64)), pt rb #[.slice (some ⟨g, (nuR (dgk kd n) X 2 (n * n)).2 * 4, none⟩) (X.length - (nuR (dgk kd n) X 2 (n * n)).2) (cap - (nuR (dgk kd n) X 2 (n * n)).2), .int .i64 ((X.getD ((nuR (dgk kd n) X 2 (n * n)).2) tz).a)] 62, own 77 4 (.slice ((some ⟨g, 0, none⟩)) X.length cap) X.length (tokv X), pt ib #[.int .i64 kd, .int .i64 ((n : Int)), .int .i64 0, .slice none 0 0, .slice none 0 0, .slice ((some ⟨gb, 0, none⟩)) n n] 25, own 22 1 (.slice ((some ⟨gb, 0, none⟩)) n n) n ((rs.map orV)), bundle (rs.map (orC 3)), pt b1 #[.string (⟨#[75, 78, 65, 80, 83, 65, 67, 75]⟩), .string (⟨#[65, 83, 83, 73, 71, 78, 77, 69, 78, 84]⟩), .string (⟨#[84, 83, 80]⟩)] 9] _ := hM
      replace hM := hM.front (k := 6) rfl
      replace hM := hM.front (k := 6) rfl
      replace hM := hM.front (k := 3) rfl
      replace hM := hM.front (k := 3) rfl
      replace hM := hM.front (k := 6) rfl
      replace hM := hM.front (k := 6) rfl
      replace hM := hM.front (k := 6) rfl
      replace hM : Mem _ _ [pt rb #[.slice (some ⟨g, (nuR (dgk kd n) X 2 (n * n)).2 * 4, none⟩) (X.length - (nuR (dgk kd n) X 2 (n * n)).2) (cap - (nuR (dgk kd n) X 2 (n * n)).2), .int .i64 ((X.getD ((nuR (dgk kd n) X 2 (n * n)).2) tz).a)] 62, own 77 4 (.slice ((some ⟨g, 0, none⟩)) X.length cap) X.length (tokv X), pt ib #[.int .i64 kd, .int .i64 ((n : Int)), .int .i64 0, .slice none 0 0, .slice none 0 0, .slice ((some ⟨gb, 0, none⟩)) n n] 25, own 3 1 (.slice none ((([] : List Int)).length) 0) ((([] : List Int)).length) ((([] : List Int)).map (Value.int .i64)), own 3 1 (.slice none ((([] : List Int)).length) 0) ((([] : List Int)).length) ((([] : List Int)).map (Value.int .i64)), own 22 1 (.slice ((some ⟨gb, 0, none⟩)) n n) n ((rs.map orV)), bundle (rs.map (orC 3)), pt b1 #[.string (⟨#[75, 78, 65, 80, 83, 65, 67, 75]⟩), .string (⟨#[65, 83, 83, 73, 71, 78, 77, 69, 78, 84]⟩), .string (⟨#[84, 83, 80]⟩)] 9] _ := hM
      replace hM := hM.firstN 7
      replace hM : Mem _ _ [pt rb #[.slice (some ⟨g, (nuR (dgk kd n) X 2 (n * n)).2 * 4, none⟩) (X.length - (nuR (dgk kd n) X 2 (n * n)).2) (cap - (nuR (dgk kd n) X 2 (n * n)).2), .int .i64 ((X.getD ((nuR (dgk kd n) X 2 (n * n)).2) tz).a)] 62, own 77 4 (.slice ((some ⟨g, 0, none⟩)) X.length cap) X.length (tokv X), pt ib #[.int .i64 kd, .int .i64 ((n : Int)), .int .i64 0, .slice none 0 0, .slice none 0 0, .slice ((some ⟨gb, 0, none⟩)) n n] 25, own 3 1 (.slice none ((([] : List Int)).length) 0) ((([] : List Int)).length) ((([] : List Int)).map (Value.int .i64)), own 3 1 (.slice none ((([] : List Int)).length) 0) ((([] : List Int)).length) ((([] : List Int)).map (Value.int .i64)), own 22 1 (.slice ((some ⟨gb, 0, none⟩)) n n) n ((rs.map orV)), bundle (rs.map (orC 3))] _ := hM
      have hlr := rows_len hYs
      rw [← hlr] at hM
      have hpf := pbI_as hkd (by omega) hcn hYs
      rw [← hlr] at hpf
      replace hM := Mem.packI (G0 := (⟨kd, (rs.length : Int), 0, [], [], rs.map (·.Y)⟩ : Ins)) (eI := 3) (eR := 22) (aw := none) (cw := 0) (av := none) (cv := 0) (ac := some ⟨gb, 0, none⟩) (cc := rs.length) (rs := rs) hpf hM
      by_cases h9 : (endR (X.getD ((nuR (dgk kd n) X 2 (n * n)).2) tz)) = 0
      · exact ⟨by rw [e1], .inr ⟨by rw [e1]; exact h9, _, _, none, 0, none, 0, _, _, rs, by rw [← hpf], hM⟩⟩
      ·
       replace hM1 := hM1.firstN 2
       exact ⟨by rw [e1], .inl ⟨by rw [e1]; exact h9, _, by rw [e1]; exact hM1⟩⟩
     ·
      refine Ends.region ?_
      refine S.val hA (R.move rfl) rfl ?_; clear hA a; intro a hA
      refine S.val hA (R.move rfl) rfl ?_; clear hA a; intro a hA
      replace hM := hM.front (k := 3) rfl
      replace hM := hM.front (k := 2) rfl
      replace hM := hM.front (k := 2) rfl
      replace hM : Mem _ _ [pt rb #[.slice (some ⟨g, 2 * 4, none⟩) (X.length - 2) (cap - 2), .int .i64 ((X.getD 1 tz).a)] 62, own 77 4 (.slice ((some ⟨g, 0, none⟩)) X.length cap) X.length (tokv X), pt ib #[.int .i64 kd, .int .i64 ((n : Int)), .int .i64 0, .slice none 0 0, .slice none 0 0, .slice none 0 0] 25, pt b1 #[.string (⟨#[75, 78, 65, 80, 83, 65, 67, 75]⟩), .string (⟨#[65, 83, 83, 73, 71, 78, 77, 69, 78, 84]⟩), .string (⟨#[84, 83, 80]⟩)] 9] _ := hM
      refine S.call hA (R.callF Tryd.func65 rfl rfl rfl) rfl (rows06_bad g rb ib 2 cap ((X.getD 1 tz).a) X hX (by omega) hcap kd n hn1 hn24 hs13 _ (hM.hereN 3)) ?_; clear hA a
      rintro e w17 ⟨rfl, jx14, hn⟩
      replace hM : Mem _ _ [pt rb #[.slice (some ⟨g, jx14 * 4, none⟩) (X.length - jx14) (cap - jx14), .int .i64 (((X.getD (nuR (dgk kd n) X 2 (n * n)).2 tz).a))] 62, own 77 4 (.slice ((some ⟨g, 0, none⟩)) X.length cap) X.length (tokv X), pt b1 #[.string (⟨#[75, 78, 65, 80, 83, 65, 67, 75]⟩), .string (⟨#[65, 83, 83, 73, 71, 78, 77, 69, 78, 84]⟩), .string (⟨#[84, 83, 80]⟩)] 9] _ := hM.callL 3 hn; clear hn
      refine ⟨.int .i64 ((nuR (dgk kd n) X 2 (n * n)).1), rfl, fun a hA => ?_⟩
      refine S.val hA (R.assign rfl) rfl ?_; clear hA a; intro a hA
      refine S.done ?_
      replace hA : St 56 [(0, _), (6, _)] a := hA.sub ((.cons rfl (.cons rfl .nil)))
      refine Ends.inBlock (Ends.seq (Ends.seq (Ends.region ?_)))
      refine S.val hA (R.move rfl) rfl ?_; clear hA a; intro a hA
      refine S.val hA (R.neq rfl rfl) rfl ?_; clear hA a; intro a hA
      refine S.done ?_
      refine Ends.ite hA rfl (fun hc15 => ?_) (fun hc15 => ?_)
      ·
       refine Ends.seq (Ends.region ?_)
       refine S.val hA (R.move rfl) rfl ?_; clear hA a; intro a hA
       refine S.val hA (R.assign rfl) rfl ?_; clear hA a; intro a hA
       refine S.done ?_
       replace hA : St 56 [(0, _), (4, _)] a := hA.sub ((.cons rfl (.cons rfl .nil)))
       refine Ends.ret1 Tryd.func48 Tryd.results48 hA rfl ?_
       replace hM := hM.firstN 2
       replace hM : Mem _ _ [pt rb #[.slice (some ⟨g, jx14 * 4, none⟩) (X.length - jx14) (cap - jx14), .int .i64 (((X.getD (nuR (dgk kd n) X 2 (n * n)).2 tz).a))] 62, own 77 4 (.slice ((some ⟨g, 0, none⟩)) X.length cap) X.length (tokv X)] _ := hM
       have e1 := (pbR_in hw0 hkd).trans ((congrArg (finR X) ((bodR_as hk1 hk3).trans ((asR_num hc0 hcn).trans (congrArg (fun f => nuR f X 2 (n * n)) hdk.symm)))).trans (finR_err hs13))
       exact ⟨by rw [e1], .inl ⟨by rw [e1]; exact hs13, _, by rw [e1]; exact hM⟩⟩
      · exact absurd (by assumption) hc15
    ·
     refine Ends.skip (Ends.inBlock (Ends.seq (Ends.seq (Ends.region ?_))))
     refine S.val hA (R.move rfl) rfl ?_; clear hA a; intro a hA
     refine S.val hA (R.neq rfl rfl) rfl ?_; clear hA a; intro a hA
     refine S.done ?_
     replace hA : St 56 [(0, _), (6, _), (52, _)] a := hA.sub ((.cons rfl (.cons rfl (.cons rfl .nil))))
     refine Ends.ite hA rfl (fun hc16 => ?_) (fun hc16 => ?_)
     ·
      refine Ends.seq (Ends.region ?_)
      refine S.val hA (R.move rfl) rfl ?_; clear hA a; intro a hA
      refine S.val hA (R.assign rfl) rfl ?_; clear hA a; intro a hA
      refine S.done ?_
      refine Ends.ret1 Tryd.func48 Tryd.results48 hA rfl ?_
      replace hM := hM.firstN 2
      replace hM : Mem _ _ [pt rb #[.slice (some ⟨g, (nxJ 1 (numR (X.getD 1 tz) 24)) * 4, none⟩) (X.length - (nxJ 1 (numR (X.getD 1 tz) 24))) (cap - (nxJ 1 (numR (X.getD 1 tz) 24))), .int .i64 ((X.getD 1 tz).a)] 62, own 77 4 (.slice ((some ⟨g, 0, none⟩)) X.length cap) X.length (tokv X)] _ := hM
      have e1 := (pbR_in hw0 hkd).trans ((congrArg (finR X) ((bodR_as hk1 hk3).trans (asR_cnt hc12))).trans (finR_err hc12))
      exact ⟨by rw [e1], .inl ⟨by rw [e1]; exact hc12, _, by rw [e1]; exact hM⟩⟩
     · exact absurd (by assumption) hc16
theorem problem06_bad (g rb ib cap : Nat) (at0 : Int) (X : List Tok) (hX : Toks X) (hj : 0 < X.length) (hcap : X.length ≤ cap) (hE : (pbR X).1 ≠ 0) (w : World) (hM : Mem w (feet [pt rb #[.slice (some ⟨g, 0 * 4, none⟩) (X.length - 0) (cap - 0), .int .i64 at0] 62, own 77 4 (.slice ((some ⟨g, 0, none⟩)) X.length cap) X.length (tokv X), pt ib cz0 25]) [pt rb #[.slice (some ⟨g, 0 * 4, none⟩) (X.length - 0) (cap - 0), .int .i64 at0] 62, own 77 4 (.slice ((some ⟨g, 0, none⟩)) X.length cap) X.length (tokv X), pt ib cz0 25] w) :
    Calls Tryd.prog 48 #[.pointer (some ⟨rb, 0, none⟩), .pointer (some ⟨ib, 0, none⟩)] w fun e w' => e = .returned (.int .i64 (pbR X).1) ∧ ∃ jx, Mem w (feet [pt rb #[.slice (some ⟨g, 0 * 4, none⟩) (X.length - 0) (cap - 0), .int .i64 at0] 62, own 77 4 (.slice ((some ⟨g, 0, none⟩)) X.length cap) X.length (tokv X), pt ib cz0 25]) [pt rb #[.slice (some ⟨g, jx * 4, none⟩) (X.length - jx) (cap - jx), .int .i64 (((X.getD (pbR X).2 tz).a))] 62, own 77 4 (.slice ((some ⟨g, 0, none⟩)) X.length cap) X.length (tokv X)] w' :=
  (problem06 g rb ib cap at0 X hX hj hcap w hM).mono (by rintro e w' ⟨h1, h2 | h2⟩; exact ⟨h1, h2.2⟩; exact absurd h2.1 hE)
theorem problem06_ok (g rb ib cap : Nat) (at0 : Int) (X : List Tok) (hX : Toks X) (hj : 0 < X.length) (hcap : X.length ≤ cap) (hE : (pbR X).1 = 0) (w : World) (hM : Mem w (feet [pt rb #[.slice (some ⟨g, 0 * 4, none⟩) (X.length - 0) (cap - 0), .int .i64 at0] 62, own 77 4 (.slice ((some ⟨g, 0, none⟩)) X.length cap) X.length (tokv X), pt ib cz0 25]) [pt rb #[.slice (some ⟨g, 0 * 4, none⟩) (X.length - 0) (cap - 0), .int .i64 at0] 62, own 77 4 (.slice ((some ⟨g, 0, none⟩)) X.length cap) X.length (tokv X), pt ib cz0 25] w) :
    Calls Tryd.prog 48 #[.pointer (some ⟨rb, 0, none⟩), .pointer (some ⟨ib, 0, none⟩)] w fun e w' => e = .returned (.int .i64 0) ∧ ∃ jx at1 aw cw av cv ac cc, ∃ rs : List OwR, rs.map (·.Y) = (pbI X).cost ∧ Mem w (feet [pt rb #[.slice (some ⟨g, 0 * 4, none⟩) (X.length - 0) (cap - 0), .int .i64 at0] 62, own 77 4 (.slice ((some ⟨g, 0, none⟩)) X.length cap) X.length (tokv X), pt ib cz0 25]) [pt rb #[.slice (some ⟨g, jx * 4, none⟩) (X.length - jx) (cap - jx), .int .i64 at1] 62, own 77 4 (.slice ((some ⟨g, 0, none⟩)) X.length cap) X.length (tokv X), pt ib #[.int .i64 ((pbI X).kind), .int .i64 ((pbI X).n), .int .i64 ((pbI X).cap), .slice aw ((pbI X).wt.length) cw, .slice av ((pbI X).vl.length) cv, .slice ac rs.length cc] 25, bundle (insL 3 22 (pbI X) aw cw av cv ac cc rs)] w' :=
  (problem06 g rb ib cap at0 X hX hj hcap w hM).mono (by rintro e w' ⟨h1, h2 | h2⟩; exact absurd hE h2.1; exact ⟨by rw [h1, hE], h2.2⟩)
end Go.Proofs.YtakfcekfmdjklaaDoor
namespace Go.Proofs.YtakfcekfmdjklaaDoor
open Go.RowKit
set_option maxRecDepth 100000 in
set_option maxHeartbeats 400000 in
theorem parse06 (s : ByteArray) (hs : s.size ≤ 9223372036854775807) (w : World) (htab : U8T w) :
  Calls Tryd.prog 28 #[.string s] w fun e w' => ∃ a3 c3 a4 c4 a5 c5, e = .returned (.tuple #[.agg #[.int .i64 (prs s).1.kind, .int .i64 (prs s).1.n, .int .i64 (prs s).1.cap, .slice a3 (prs s).1.wt.length c3, .slice a4 (prs s).1.vl.length c4, .slice a5 (prs s).1.cost.length c5], .int .i64 (prs s).2.1, .int .i64 (prs s).2.2]) ∧ (IntSl w' (.slice a3 (prs s).1.wt.length c3) (prs s).1.wt ∧ IntSl w' (.slice a4 (prs s).1.vl.length c4) (prs s).1.vl ∧ RowsV w' (.slice a5 (prs s).1.cost.length c5) (prs s).1.cost) ∧ Below w.heap.size w w' := by
 have hbs := Below.refl (B := w.heap.size) w
 have hlen := scan_len s
 have hM := Mem.start w
 refine Calls.of_ends (vs := [.string s]) Tryd.func28 rfl Tryd.ntmps28 rfl ?_
 intro a hA
 replace hA : St 36 [(0, _)] a := hA
 refine Ends.seq (Ends.region ?_)
 refine S.alloc hA hM info25 rfl rfl ?_; clear hA hM a; intro b1 w1 hb2 hM a hA
 replace hM : Mem _ _ [pt b1 cz0 25] _ := hM
 refine S.val hA (R.assign rfl) rfl ?_; clear hA a; intro a hA
 refine S.val hA (R.assign rfl) rfl ?_; clear hA a; intro a hA
 refine S.done ?_
 refine Ends.seq (Ends.region ?_)
 refine S.val hA (R.move rfl) rfl ?_; clear hA a; intro a hA
 refine S.call hA (R.callF Tryd.func33 rfl rfl rfl) rfl (scan_any s (by omega) _ (htab.mem hM OffT.nof)) ?_; clear hA a
 rintro e w2 ⟨a3, c4, rfl, hn⟩
 replace hM : Mem _ _ [own 77 4 (.slice a3 (((scan s).1).length) c4) (((scan s).1).length) (tokv ((scan s).1)), pt b1 cz0 25] _ := hM.call hn; clear hn
 refine ⟨.tuple #[.slice a3 ((scan s).1.length) c4, .int .i64 ((scan s).2.1), .int .i64 ((scan s).2.2)], rfl, fun a hA => ?_⟩
 refine S.val hA (R.move rfl) rfl ?_; clear hA a; intro a hA
 refine S.val hA (R.extract (v := .slice a3 ((scan s).1.length) c4) rfl rfl) rfl ?_; clear hA a; intro a hA
 refine S.val hA (R.extract (v := .int .i64 ((scan s).2.1)) rfl rfl) rfl ?_; clear hA a; intro a hA
 refine S.val hA (R.extract (v := .int .i64 ((scan s).2.2)) rfl rfl) rfl ?_; clear hA a; intro a hA
 refine S.val hA (R.assign rfl) rfl ?_; clear hA a; intro a hA
 refine S.val hA (R.assign rfl) rfl ?_; clear hA a; intro a hA
 refine S.val hA (R.assign rfl) rfl ?_; clear hA a; intro a hA
 refine S.done ?_
 replace hA : St 36 [(2, _), (5, _), (6, _), (7, _)] a := hA.sub ((.cons rfl (.cons rfl (.cons rfl (.cons rfl .nil)))))
 refine Ends.seq (Ends.seq (Ends.region ?_))
 refine S.val hA (R.move rfl) rfl ?_; clear hA a; intro a hA
 refine S.val hA (R.neq rfl rfl) rfl ?_; clear hA a; intro a hA
 refine S.done ?_
 refine Ends.ite hA rfl (fun hc5 => ?_) (fun hc5 => ?_)
 ·
  refine Ends.seq (Ends.region ?_)
  refine S.val hA (R.build (cells := cz0) rfl (by kernel_rfl)) rfl ?_; clear hA a; intro a hA
  refine S.val hA (R.move rfl) rfl ?_; clear hA a; intro a hA
  refine S.val hA (R.move rfl) rfl ?_; clear hA a; intro a hA
  refine S.storeA (k := 1) hA hM sz25 rfl rfl rfl rfl rfl rfl ?_; clear hM
  intro w3 hM
  replace hM : Mem _ _ [own 77 4 (.slice a3 (((scan s).1).length) c4) (((scan s).1).length) (tokv ((scan s).1)), pt b1 cz0 25] _ := hM
  refine S.val hA (R.assign rfl) rfl ?_; clear hA a; intro a hA
  refine S.val hA (R.assign rfl) rfl ?_; clear hA a; intro a hA
  refine S.done ?_
  replace hA : St 36 [(2, _), (3, _), (4, _), (5, _)] a := hA.sub ((.cons rfl (.cons rfl (.cons rfl (.cons rfl .nil)))))
  refine Ends.retC3 (k := 1) Tryd.func28 Tryd.results28 hA hM rfl rfl rfl rfl sz25 rfl ?_
  rw [prs_scan hc5]
  exact ⟨none, 0, none, 0, none, 0, rfl, nilI _, Mem.trans0 hbs hM.nilL⟩
 ·
  have hs0 := Decidable.not_not.1 hc5
  have hX := scan_toks hs0 hlen
  have hX0 := hX.pos
  have hcap_ := (hM.ownLe (k := 0) rfl).1
  obtain ⟨g6, hg6⟩ := hM.ownAt (k := 0) rfl hX.pos
  subst hg6
  replace hM : Mem _ _ [own 77 4 (.slice (some ⟨g6, 0, none⟩) (((scan s).1).length) c4) (((scan s).1).length) (tokv ((scan s).1)), pt b1 cz0 25] _ := hM
  refine Ends.skip (Ends.seq (Ends.region ?_))
  refine S.val hA (R.move rfl) rfl ?_; clear hA a; intro a hA
  refine S.val hA (R.build (cells := #[.slice (some ⟨g6, 0, none⟩) ((scan s).1.length) c4, .int .i64 0]) rfl (by kernel_rfl)) rfl ?_; clear hA a; intro a hA
  refine S.box hA hM rfl rfl ?_; clear hA hM a; intro b7 w4 hb8 hM a hA
  replace hM : Mem _ _ [pt b7 #[.slice (some ⟨g6, 0, none⟩) ((scan s).1.length) c4, .int .i64 0] 62, own 77 4 (.slice (some ⟨g6, 0, none⟩) (((scan s).1).length) c4) (((scan s).1).length) (tokv ((scan s).1)), pt b1 cz0 25] _ := hM
  refine S.val hA (R.assign rfl) rfl ?_; clear hA a; intro a hA
  refine S.done ?_
  replace hA : St 36 [(2, _), (8, _)] a := hA.sub ((.cons rfl (.cons rfl .nil)))
  refine Ends.seq (Ends.region ?_)
  refine S.alloc hA hM info25 rfl rfl ?_; clear hA hM a; intro b9 w5 hb10 hM a hA
  replace hM : Mem _ _ [pt b9 cz0 25, pt b7 #[.slice (some ⟨g6, 0, none⟩) ((scan s).1.length) c4, .int .i64 0] 62, own 77 4 (.slice (some ⟨g6, 0, none⟩) (((scan s).1).length) c4) (((scan s).1).length) (tokv ((scan s).1)), pt b1 cz0 25] _ := hM
  refine S.done ?_
  refine Ends.seq (Ends.seq ?_)
  by_cases hs11 : (pbR (scan s).1).1 = 0
  ·
   refine Ends.region ?_
   refine S.val hA (R.move rfl) rfl ?_; clear hA a; intro a hA
   replace hM := hM.front (k := 2) rfl
   replace hM := hM.front (k := 2) rfl
   replace hM : Mem _ _ [pt b7 #[.slice (some ⟨g6, 0, none⟩) ((scan s).1.length) c4, .int .i64 0] 62, own 77 4 (.slice (some ⟨g6, 0, none⟩) (((scan s).1).length) c4) (((scan s).1).length) (tokv ((scan s).1)), pt b9 cz0 25, pt b1 cz0 25] _ := hM
   refine S.call hA (R.callF Tryd.func48 rfl rfl rfl) rfl (problem06_ok g6 b7 b9 c4 0 (scan s).1 hX hX.pos hcap_ hs11 _ (hM.hereN 3)) ?_; clear hA a
   rintro e w6 ⟨rfl, jx, atx, aw, cw, av, cv, ac, cc, rs, hYs, hn⟩
   replace hM : Mem _ _ [pt b7 #[.slice (some ⟨g6, jx * 4, none⟩) ((scan s).1.length - jx) (c4 - jx), .int .i64 atx] 62, own 77 4 (.slice (some ⟨g6, 0, none⟩) (((scan s).1).length) c4) (((scan s).1).length) (tokv ((scan s).1)), pt b9 #[.int .i64 ((pbI (scan s).1).kind), .int .i64 ((pbI (scan s).1).n), .int .i64 ((pbI (scan s).1).cap), .slice aw ((pbI (scan s).1).wt.length) cw, .slice av ((pbI (scan s).1).vl.length) cv, .slice ac rs.length cc] 25, bundle (insL 3 22 (pbI (scan s).1) aw cw av cv ac cc rs), pt b1 cz0 25] _ := hM.callL 3 hn; clear hn
   refine ⟨.int .i64 0, rfl, fun a hA => ?_⟩
   refine S.val hA (R.assign rfl) rfl ?_; clear hA a; intro a hA
   refine S.done ?_
   refine Ends.seq (Ends.region ?_)
   refine S.val hA (R.move rfl) rfl ?_; clear hA a; intro a hA
   refine S.val hA (R.ff (R.neq rfl rfl) (by first | decide | simp | omega)) rfl ?_; clear hA a; intro a hA
   refine S.done ?_
   refine Ends.condF hA rfl ?_
   refine Ends.skip (Ends.seq (Ends.region ?_))
   refine S.val hA (R.loadA sz25 rfl (hM.range (k := 2) rfl) rfl) rfl ?_; clear hA a; intro a hA
   refine S.storeA (k := 4) hA hM sz25 rfl rfl rfl rfl rfl rfl ?_; clear hM
   intro w7 hM
   replace hM : Mem _ _ [pt b7 #[.slice (some ⟨g6, jx * 4, none⟩) ((scan s).1.length - jx) (c4 - jx), .int .i64 atx] 62, own 77 4 (.slice (some ⟨g6, 0, none⟩) (((scan s).1).length) c4) (((scan s).1).length) (tokv ((scan s).1)), pt b9 #[.int .i64 ((pbI (scan s).1).kind), .int .i64 ((pbI (scan s).1).n), .int .i64 ((pbI (scan s).1).cap), .slice aw ((pbI (scan s).1).wt.length) cw, .slice av ((pbI (scan s).1).vl.length) cv, .slice ac rs.length cc] 25, bundle (insL 3 22 (pbI (scan s).1) aw cw av cv ac cc rs), pt b1 #[.int .i64 ((pbI (scan s).1).kind), .int .i64 ((pbI (scan s).1).n), .int .i64 ((pbI (scan s).1).cap), .slice aw ((pbI (scan s).1).wt.length) cw, .slice av ((pbI (scan s).1).vl.length) cv, .slice ac rs.length cc] 25] _ := hM
   refine S.val hA (R.assign rfl) rfl ?_; clear hA a; intro a hA
   refine S.val hA (R.assign rfl) rfl ?_; clear hA a; intro a hA
   refine S.done ?_
   replace hA : St 36 [(2, _), (3, _), (4, _)] a := hA.sub ((.cons rfl (.cons rfl (.cons rfl .nil))))
   refine Ends.retC3 (k := 4) Tryd.func28 Tryd.results28 hA hM rfl rfl rfl rfl sz25 rfl ?_
   obtain ⟨-, g3, g4, g5⟩ := insR_of hM (k := 3) rfl hYs
   have hlr : rs.length = (pbI (scan s).1).cost.length := by rw [← hYs, List.length_map]
   rw [prs_ok hs0 hs11]
   exact ⟨aw, cw, av, cv, ac, cc, by rw [hlr], ⟨g3, g4, g5⟩, Mem.trans0 hbs hM.nilL⟩
  ·
   refine Ends.region ?_
   refine S.val hA (R.move rfl) rfl ?_; clear hA a; intro a hA
   replace hM := hM.front (k := 2) rfl
   replace hM := hM.front (k := 2) rfl
   replace hM : Mem _ _ [pt b7 #[.slice (some ⟨g6, 0, none⟩) ((scan s).1.length) c4, .int .i64 0] 62, own 77 4 (.slice (some ⟨g6, 0, none⟩) (((scan s).1).length) c4) (((scan s).1).length) (tokv ((scan s).1)), pt b9 cz0 25, pt b1 cz0 25] _ := hM
   refine S.call hA (R.callF Tryd.func48 rfl rfl rfl) rfl (problem06_bad g6 b7 b9 c4 0 (scan s).1 hX hX.pos hcap_ hs11 _ (hM.hereN 3)) ?_; clear hA a
   rintro e w8 ⟨rfl, jx12, hn⟩
   replace hM : Mem _ _ [pt b7 #[.slice (some ⟨g6, jx12 * 4, none⟩) ((scan s).1.length - jx12) (c4 - jx12), .int .i64 (((scan s).1.getD (pbR (scan s).1).2 tz).a)] 62, own 77 4 (.slice (some ⟨g6, 0, none⟩) (((scan s).1).length) c4) (((scan s).1).length) (tokv ((scan s).1)), pt b1 cz0 25] _ := hM.callL 3 hn; clear hn
   refine ⟨.int .i64 ((pbR (scan s).1).1), rfl, fun a hA => ?_⟩
   refine S.val hA (R.assign rfl) rfl ?_; clear hA a; intro a hA
   refine S.done ?_
   refine Ends.seq (Ends.region ?_)
   refine S.val hA (R.move rfl) rfl ?_; clear hA a; intro a hA
   refine S.val hA (R.neq rfl rfl) rfl ?_; clear hA a; intro a hA
   refine S.done ?_
   refine Ends.ite hA rfl (fun hc13 => ?_) (fun hc13 => ?_)
   ·
    refine Ends.seq ?_
    refine Ends.drawn (Mem w nof [pt b7 #[.slice (some ⟨g6, jx12 * 4, none⟩) ((scan s).1.length - jx12) (c4 - jx12), .int .i64 (((scan s).1.getD (pbR (scan s).1).2 tz).a)] 62]) (.cons (0, true) (.cons (1, true) (.cons (2, true) (.cons (3, true) (.cons (4, true) (.cons (5, true) (.cons (6, false) (.cons (7, true) (.cons (8, true) .nil))))))))) 9 mixed (by kernel_rfl) (by kernel_rfl) (by kernel_rfl) ((hM.drop 2).drop 1).drew ?_
    replace hM := hM.drew
    refine D.valF hA rfl (fun _ => R.build (cells := cz0) rfl (by kernel_rfl)) rfl ?_; clear hA a; intro a hA
    refine D.valF hA rfl (fun _ => R.move rfl) rfl ?_; clear hA a; intro a hA
    refine D.valF hA rfl (fun _ => R.nilCheck rfl) rfl ?_; clear hA a; intro a hA
    refine D.valF hA rfl (fun _ => R.fieldAddr (q := 1) fi62_1 rfl rfl rfl) rfl ?_; clear hA a; intro a hA
    refine D.val hA rfl (by kernel_rfl) (fun _ hM => R.load sz3 rfl (hM.cell (k := 0) rfl rfl)) rfl ?_; clear hA a; intro a hA
    refine D.valF hA rfl (fun _ => R.move rfl) rfl ?_; clear hA a; intro a hA
    refine D.storeA (k := 2) hA hM rfl sz25 rfl rfl rfl rfl rfl rfl ?_; clear hM
    intro w9 hM; refine ⟨fun _ _ => ((hM.drop 2).drop 1), ?_⟩
    replace hM : Mem _ _ [pt b7 #[.slice (some ⟨g6, jx12 * 4, none⟩) ((scan s).1.length - jx12) (c4 - jx12), .int .i64 (((scan s).1.getD (pbR (scan s).1).2 tz).a)] 62, own 77 4 (.slice (some ⟨g6, 0, none⟩) (((scan s).1).length) c4) (((scan s).1).length) (tokv ((scan s).1)), pt b1 cz0 25] _ := hM
    refine D.valF hA rfl (fun _ => R.assign rfl) rfl ?_; clear hA a; intro a hA
    refine D.valF hA rfl (fun _ => R.assign rfl) rfl ?_; clear hA a; intro a hA
    refine D.done ?_
    replace hA : St 36 [(2, _), (3, _), (4, _), (9, _)] a := hA.sub ((.cons rfl (.cons rfl (.cons rfl (.cons rfl .nil)))))
    refine Ends.retC3 (k := 2) Tryd.func28 Tryd.results28 hA hM rfl rfl rfl rfl sz25 rfl ?_
    rw [prs_bad hs0 hs11]
    exact ⟨none, 0, none, 0, none, 0, rfl, nilI _, Mem.trans0 hbs hM.nilL⟩
   · exact absurd (by assumption) hc13
end Go.Proofs.YtakfcekfmdjklaaDoor
namespace Go.Proofs.YtakfcekfmdjklaaDoor
open Go.RowKit
theorem U8T.below {w w' : World} (h : U8T w) (hb : Below w.heap.size w w') : U8T w' := by
  have h1 := hb.block _ h.lt.1
  have h2 := hb.block _ h.lt.2
  exact ⟨fun c hc => by rw [cell_eq h1]; exact h.1 c hc, fun i hi => by rw [cell_eq h2, cell_eq h2]; exact h.2 i hi⟩
theorem parse_eq (s : ByteArray) (hs : s.size ≤ 9223372036854775807) (G : Ins) (p e0 : Int) (h : prs s = (G, p, e0)) (w : World) (htab : U8T w) : Calls Tryd.prog 28 #[.string s] w fun e w' => ∃ a3 c3 a4 c4 a5 c5, e = .returned (.tuple #[.agg #[.int .i64 G.kind, .int .i64 G.n, .int .i64 G.cap, .slice a3 G.wt.length c3, .slice a4 G.vl.length c4, .slice a5 G.cost.length c5], .int .i64 p, .int .i64 e0]) ∧ (IntSl w' (.slice a3 G.wt.length c3) G.wt ∧ IntSl w' (.slice a4 G.vl.length c4) G.vl ∧ RowsV w' (.slice a5 G.cost.length c5) G.cost) ∧ Below w.heap.size w w' := by
  have h1 := parse06 s hs w htab
  rwa [h] at h1
def iT : Ins := ⟨3, 2, 0, [], [], [[0, 7], [7, 0]]⟩
theorem prs_t1 : prs ⟨#[84, 83, 80, 32, 50, 32, 85, 80, 80, 69, 82, 32, 55]⟩ = (iT, 0, 0) := by kernel_rfl
theorem prs_t2 : prs ⟨#[75, 78, 65, 80, 83, 65, 67, 75, 32, 48]⟩ = (insZ, 9, 1) := by kernel_rfl
set_option maxRecDepth 100000 in
set_option maxHeartbeats 400000 in
theorem parses_any  (w : World) (htab : U8T w) :
  Calls Tryd.prog 27 #[] w fun e w' => e = .returned (.bool true) ∧ Below w.heap.size w w' := by
 have hbs := Below.refl (B := w.heap.size) w
 have hM := Mem.start w
 refine Calls.of_ends (vs := []) Tryd.func27 rfl Tryd.ntmps27 rfl ?_
 intro a hA
 replace hA : St 52 [] a := hA
 refine Ends.seq (Ends.region ?_)
 refine S.val hA (R.assign rfl) rfl ?_; clear hA a; intro a hA
 refine S.done ?_
 refine Ends.seq (Ends.region ?_)
 refine S.call hA (R.callF Tryd.func28 rfl rfl rfl) rfl (parse_eq ⟨#[84, 83, 80, 32, 50, 32, 85, 80, 80, 69, 82, 32, 55]⟩ (by decide) iT 0 0 prs_t1 _ (U8T.below htab (Mem.trans0 hbs hM.nilL))) ?_; clear hA a
 rintro e w1 ⟨ap13, cp13, ap14, cp14, ap15, cp15, rfl, ⟨hp13, hp14, hp15⟩, hb⟩
 replace hM := hM.callB hb; clear hb
 have hbs := hbs.trans (hM.below.mono hbs.size)
 replace hM := Mem.start w1
 refine ⟨.tuple #[.agg #[.int .i64 iT.kind, .int .i64 iT.n, .int .i64 iT.cap, .slice ap13 iT.wt.length cp13, .slice ap14 iT.vl.length cp14, .slice ap15 iT.cost.length cp15], .int .i64 0, .int .i64 0], rfl, fun a hA => ?_⟩
 refine S.val hA (R.move rfl) rfl ?_; clear hA a; intro a hA
 refine S.val hA (R.extract (v := .agg #[.int .i64 iT.kind, .int .i64 iT.n, .int .i64 iT.cap, .slice ap13 iT.wt.length cp13, .slice ap14 iT.vl.length cp14, .slice ap15 iT.cost.length cp15]) rfl rfl) rfl ?_; clear hA a; intro a hA
 refine S.val hA (R.extract (v := .int .i64 0) rfl rfl) rfl ?_; clear hA a; intro a hA
 refine S.val hA (R.extract (v := .int .i64 0) rfl rfl) rfl ?_; clear hA a; intro a hA
 refine S.alloc hA hM info25 rfl rfl ?_; clear hA hM a; intro b2 w2 hb3 hM a hA
 replace hM : Mem _ _ [pt b2 cz0 25] _ := hM
 refine S.storeA (k := 0) hA hM sz25 rfl rfl rfl rfl rfl rfl ?_; clear hM
 intro w3 hM
 replace hM : Mem _ _ [pt b2 #[.int .i64 iT.kind, .int .i64 iT.n, .int .i64 iT.cap, .slice ap13 iT.wt.length cp13, .slice ap14 iT.vl.length cp14, .slice ap15 iT.cost.length cp15] 25] _ := hM
 refine S.val hA (R.assign rfl) rfl ?_; clear hA a; intro a hA
 refine S.val hA (R.assign rfl) rfl ?_; clear hA a; intro a hA
 refine S.done ?_
 replace hA : St 52 [(1, _), (3, _)] a := hA.sub ((.cons rfl (.cons rfl .nil)))
 refine Ends.seq (Ends.region ?_)
 refine S.call hA (R.callF Tryd.func28 rfl rfl rfl) rfl (parse_eq ⟨#[75, 78, 65, 80, 83, 65, 67, 75, 32, 48]⟩ (by decide) insZ 9 1 prs_t2 _ (U8T.below htab (Mem.trans0 hbs hM.nilL))) ?_; clear hA a
 rintro e w4 ⟨ap43, cp43, ap44, cp44, ap45, cp45, rfl, ⟨hp43, hp44, hp45⟩, hb⟩
 replace hM := hM.callB hb; clear hb
 have hbx5 := hM.block (k := 0) rfl
 have hbs := hbs.trans (hM.below.mono hbs.size)
 have hp13 := hp13.mem hM
 have hp14 := hp14.mem hM
 have hp15 := hp15.mem hM
 replace hM := Mem.start w4
 refine ⟨.tuple #[.agg #[.int .i64 insZ.kind, .int .i64 insZ.n, .int .i64 insZ.cap, .slice ap43 insZ.wt.length cp43, .slice ap44 insZ.vl.length cp44, .slice ap45 insZ.cost.length cp45], .int .i64 9, .int .i64 1], rfl, fun a hA => ?_⟩
 refine S.val hA (R.move rfl) rfl ?_; clear hA a; intro a hA
 refine S.val hA (R.extract (v := .agg #[.int .i64 insZ.kind, .int .i64 insZ.n, .int .i64 insZ.cap, .slice ap43 insZ.wt.length cp43, .slice ap44 insZ.vl.length cp44, .slice ap45 insZ.cost.length cp45]) rfl rfl) rfl ?_; clear hA a; intro a hA
 refine S.val hA (R.extract (v := .int .i64 9) rfl rfl) rfl ?_; clear hA a; intro a hA
 refine S.val hA (R.extract (v := .int .i64 1) rfl rfl) rfl ?_; clear hA a; intro a hA
 refine S.alloc hA hM info25 rfl rfl ?_; clear hA hM a; intro b6 w5 hb7 hM a hA
 replace hM : Mem _ _ [pt b6 cz0 25] _ := hM
 refine S.storeA (k := 0) hA hM sz25 rfl rfl rfl rfl rfl rfl ?_; clear hM
 intro w6 hM
 replace hM : Mem _ _ [pt b6 #[.int .i64 insZ.kind, .int .i64 insZ.n, .int .i64 insZ.cap, .slice ap43 insZ.wt.length cp43, .slice ap44 insZ.vl.length cp44, .slice ap45 insZ.cost.length cp45] 25] _ := hM
 refine S.val hA (R.assign rfl) rfl ?_; clear hA a; intro a hA
 refine S.val hA (R.assign rfl) rfl ?_; clear hA a; intro a hA
 refine S.done ?_
 replace hA : St 52 [(1, _), (3, _), (5, _), (6, _)] a := hA.sub ((.cons rfl (.cons rfl (.cons rfl (.cons rfl .nil)))))
 refine Ends.seq (Ends.region ?_)
 refine S.val hA (R.move rfl) rfl ?_; clear hA a; intro a hA
 refine S.val hA (R.tt (R.eql rfl rfl) (by first | decide | simp | omega)) rfl ?_; clear hA a; intro a hA
 refine S.val hA (R.move rfl) rfl ?_; clear hA a; intro a hA
 refine S.valg (dj := 19) hA (by kernel_rfl) rfl (R.fieldAddr (q := 0) fi25_0 rfl rfl rfl) rfl ?_; clear hA a; intro a hA
 refine S.valg (dj := 19) hA (by kernel_rfl) rfl (R.load sz3 rfl (hM.cellB hbx5 rfl)) rfl ?_; clear hA a; intro a hA
 refine S.valg (dj := 19) hA (by kernel_rfl) rfl (R.tt (R.eql rfl rfl) (by rfl)) rfl ?_; clear hA a; intro a hA
 refine S.val hA (R.pickT rfl rfl) rfl ?_; clear hA a; intro a hA
 refine S.val hA (R.move rfl) rfl ?_; clear hA a; intro a hA
 refine S.valg (dj := 24) hA (by kernel_rfl) rfl (R.fieldAddr (q := 1) fi25_1 rfl rfl rfl) rfl ?_; clear hA a; intro a hA
 refine S.valg (dj := 24) hA (by kernel_rfl) rfl (R.load sz3 rfl (hM.cellB hbx5 rfl)) rfl ?_; clear hA a; intro a hA
 refine S.valg (dj := 24) hA (by kernel_rfl) rfl (R.tt (R.eql rfl rfl) (by rfl)) rfl ?_; clear hA a; intro a hA
 refine S.val hA (R.pickT rfl rfl) rfl ?_; clear hA a; intro a hA
 refine S.val hA (R.move rfl) rfl ?_; clear hA a; intro a hA
 refine S.valg (dj := 29) hA (by kernel_rfl) rfl (R.fieldAddr (q := 5) fi25_5 rfl rfl rfl) rfl ?_; clear hA a; intro a hA
 refine S.valg (dj := 29) hA (by kernel_rfl) rfl (R.load sz23 rfl (hM.cellB hbx5 rfl)) rfl ?_; clear hA a; intro a hA
 refine S.valg (dj := 29) hA (by kernel_rfl) rfl (R.lenS Tryd.underlying23 rfl rfl) rfl ?_; clear hA a; intro a hA
 refine S.valg (dj := 29) hA (by kernel_rfl) rfl (R.tt (R.eql rfl rfl) (by rfl)) rfl ?_; clear hA a; intro a hA
 refine S.val hA (R.pickT rfl rfl) rfl ?_; clear hA a; intro a hA
 refine S.val hA (R.move rfl) rfl ?_; clear hA a; intro a hA
 refine S.valg (dj := 35) hA (by kernel_rfl) rfl (R.fieldAddr (q := 5) fi25_5 rfl rfl rfl) rfl ?_; clear hA a; intro a hA
 refine S.valg (dj := 35) hA (by kernel_rfl) rfl (R.load sz23 rfl (hM.cellB hbx5 rfl)) rfl ?_; clear hA a; intro a hA
 refine S.valg (dj := 35) hA (by kernel_rfl) rfl (R.idxR hp15 (j := 1) sl23 rfl rfl (by first | omega | decide) (rfl)) rfl ?_; clear hA a; intro a hA
 obtain ⟨ra8, rc9, hrow10, hld11⟩ := hp15.atP (i := 1) (by first | omega | decide)
 refine S.valg (dj := 35) hA (by kernel_rfl) rfl (hld11 _ _ _ _ _ _ hM sz22 rfl) rfl ?_; clear hA a; intro a hA
 refine S.valg (dj := 35) hA (by kernel_rfl) rfl (R.idxI hrow10 (j := 0) sl22 rfl rfl (by first | omega | decide) (rfl)) rfl ?_; clear hA a; intro a hA
 refine S.valg (dj := 35) hA (by kernel_rfl) rfl (R.loadI (hrow10.mem hM) sz3 rfl (by first | omega | decide)) rfl ?_; clear hA a; intro a hA
 refine S.valg (dj := 35) hA (by kernel_rfl) rfl (R.tt (R.eql rfl rfl) (by rfl)) rfl ?_; clear hA a; intro a hA
 refine S.val hA (R.pickT rfl rfl) rfl ?_; clear hA a; intro a hA
 refine S.val hA (R.move rfl) rfl ?_; clear hA a; intro a hA
 refine S.valg (dj := 44) hA (by kernel_rfl) rfl (R.move rfl) rfl ?_; clear hA a; intro a hA
 refine S.valg (dj := 44) hA (by kernel_rfl) rfl (R.tt (R.eql rfl rfl) (by first | decide | simp | omega)) rfl ?_; clear hA a; intro a hA
 refine S.val hA (R.pickT rfl rfl) rfl ?_; clear hA a; intro a hA
 refine S.val hA (R.move rfl) rfl ?_; clear hA a; intro a hA
 refine S.valg (dj := 48) hA (by kernel_rfl) rfl (R.move rfl) rfl ?_; clear hA a; intro a hA
 refine S.valg (dj := 48) hA (by kernel_rfl) rfl (R.tt (R.eql rfl rfl) (by first | decide | simp | omega)) rfl ?_; clear hA a; intro a hA
 refine S.val hA (R.pickT rfl rfl) rfl ?_; clear hA a; intro a hA
 refine S.val hA (R.assign rfl) rfl ?_; clear hA a; intro a hA
 refine S.done ?_
 replace hA : St 52 [(0, _)] a := hA.sub ((.cons rfl .nil))
 refine Ends.ret1 Tryd.func27 Tryd.results27 hA rfl ?_
 exact ⟨rfl, Mem.trans0 hbs hM.nilL⟩
end Go.Proofs.YtakfcekfmdjklaaDoor
namespace Go.Proofs.YtakfcekfmdjklaaDoor
theorem lst_pos {u : ByteArray} {q z : Nat} {e : Int} {t : Tok} (h : lst u q = (e, z, [t])) : t.a = q := by
  rcases kb_rng u q with hk | hk | hk | hk | hk
  · rw [lst_0 hk] at h; simp at h
  · rw [lst_1 hk] at h; simp at h
  · rw [lst_2 hk] at h
    split at h
    · simp at h
    · split at h
      · simp at h
      · simp only [Prod.mk.injEq, List.cons.injEq, and_true] at h; rw [← h.2.2]
  · rw [lst_3 hk] at h
    split at h
    · simp at h
    · simp only [Prod.mk.injEq, List.cons.injEq, and_true] at h; rw [← h.2.2]
  · rw [lst_4 hk] at h; simp at h
def ScB (l : List UInt8) (T : List Tok) : Prop := ∀ r : List UInt8, Going (bs (l ++ r)) 0 [] l.length T
def okN (r : List UInt8) : Prop := kb (bs r) 0 ≠ 2 ∧ kb (bs r) 0 ≠ 3
def ScN (l : List UInt8) (T : List Tok) : Prop := ∀ r : List UInt8, okN r → Going (bs (l ++ r)) 0 [] l.length T
theorem ScB.nil : ScB [] [] := fun _ => Going.refl _ _ _
theorem kb_mid (l r : List UInt8) (j : Nat) : kb (bs (l ++ r)) (l.length + j) = kb (bs r) j := by
  rw [← bs_app, show l.length = (bs l).size from (bs_size l).symm, kb_r]
theorem byt_mid {l r : List UInt8} {j : Nat} (h : j < r.length) : byt (bs (l ++ r)) (l.length + j) = byt (bs r) j := by
  rw [← bs_app, show l.length = (bs l).size from (bs_size l).symm, byt_r (by rw [bs_size]; exact h)]
theorem byt_left {l r : List UInt8} {j : Nat} (h : j < l.length) : byt (bs (l ++ r)) j = byt (bs l) j := by
  rw [← bs_app, byt_l (by rw [bs_size]; exact h)]
theorem kb_cons (c : UInt8) (r : List UInt8) : kb (bs (c :: r)) 0 = kindI (c.toNat : Int) := by
  rw [kb_in (by rw [bs_size]; simp), show bs (c :: r) = ⟨(c :: r).toArray⟩ from rfl, byt_mk (by simp)]; rfl
def blk1 (c : UInt8) : Prop := kindI (c.toNat : Int) = 1
theorem blk1_k {c : UInt8} (h : blk1 c) : kindI (c.toNat : Int) = 1 := h
theorem b32 : blk1 32 := by unfold blk1; decide
theorem b10 : blk1 10 := by unfold blk1; decide
theorem okN_blk {c : UInt8} (h : blk1 c) (r : List UInt8) : okN (c :: r) := by unfold okN; rw [kb_cons, blk1_k h]; decide
theorem okN_nil : okN [] := by unfold okN; rw [kb_out (by rw [bs_size]; simp)]; decide
theorem ScN.blank {l : List UInt8} {T : List Tok} {c : UInt8} (h : ScN l T) (hc : blk1 c) : ScB (l ++ [c]) T := fun r => by
  have h1 := h (c :: r) (okN_blk hc r)
  have e : (l ++ [c]) ++ r = l ++ (c :: r) := by simp
  rw [e, List.length_append]
  refine h1.trans (Going.blank (by rw [bs_size]; simp) ?_)
  have := kb_mid l (c :: r) 0
  rw [Nat.add_zero] at this
  rw [this, kb_cons, blk1_k hc]
theorem ScB.tok {l p : List UInt8} {T : List Tok} {k n : Int} {x : ByteArray} (h : ScB l T) (ht : TK (bs p) ⟨k, x, n, 0⟩ 0 p.length) : ScN (l ++ p) (T ++ [⟨k, x, n, l.length⟩]) := fun r hr => by
  have hd := ht.2.1
  have e : (l ++ p) ++ r = l ++ (p ++ r) := List.append_assoc ..
  rw [e]
  refine (h (p ++ r)).trans ?_
  obtain ⟨t', he, h1, h2, h3⟩ := lst_copy (u := bs (l ++ (p ++ r))) (q := l.length) ht (fun j hj => ⟨by rw [bs_size]; simp; omega, by rw [byt_mid (by simp; omega), byt_left hj, Nat.zero_add]⟩) (by rw [kb_mid, show p.length = p.length + 0 from rfl, kb_mid]; exact hr)
  have hp := lst_pos he
  have ht' : t' = ⟨k, x, n, l.length⟩ := by cases t'; simp only at h1 h2 h3 hp; rw [h1, h2, h3, hp]
  rw [ht'] at he
  have := Going.step (X := T) (by rw [bs_size]; simp; omega) he
  rwa [show (l ++ p).length = l.length + p.length from List.length_append]
theorem ScN.fin {l : List UInt8} {T : List Tok} (h : ScN l T) (hl : l.length ≤ 65536) : scan (bs l) = (T ++ [⟨3, ⟨#[]⟩, 0, l.length⟩], 0, 0) := by
  have h1 := h [] okN_nil
  rw [List.append_nil] at h1
  obtain ⟨f', -, e⟩ := h1 (bs l).size (by omega)
  unfold scan
  rw [if_neg (by rw [bs_size]; omega), e, scF_end (by rw [bs_size]; omega)]
  unfold tend; rw [bs_size]
structure Pc where
  b : List UInt8
  k : Int
  x : ByteArray
  n : Int
  s : UInt8
def pz : Pc := ⟨[], 0, ⟨#[]⟩, 0, 0⟩
def gd (p : Pc) : Prop := TK (bs p.b) ⟨p.k, p.x, p.n, 0⟩ 0 p.b.length ∧ blk1 p.s
def txt (ps : List Pc) : List UInt8 := ps.flatMap fun p => p.b ++ [p.s]
def toks : Nat → List Pc → List Tok
  | _, [] => []
  | o, p :: ps => ⟨p.k, p.x, p.n, o⟩ :: toks (o + (p.b.length + 1)) ps
theorem txt_app (a b : List Pc) : txt (a ++ b) = txt a ++ txt b := List.flatMap_append
theorem txt_cons (p : Pc) (b : List Pc) : txt (p :: b) = (p.b ++ [p.s]) ++ txt b := rfl
theorem toks_app : ∀ (a b : List Pc) (o : Nat), toks o (a ++ b) = toks o a ++ toks (o + (txt a).length) b
  | [], b, o => by simp [toks, txt]
  | p :: a, b, o => by
    rw [List.cons_append, toks, toks, toks_app a b, List.cons_append, txt_cons]
    congr 3
    simp only [List.length_append, List.length_cons, List.length_nil]; omega
theorem toks_len : ∀ (o : Nat) (ps : List Pc), (toks o ps).length = ps.length
  | _, [] => rfl
  | o, p :: ps => by rw [toks, List.length_cons, toks_len, List.length_cons]
theorem ScB.txt : ∀ (ps : List Pc) {l : List UInt8} {T : List Tok}, ScB l T → (∀ p ∈ ps, gd p) → ScB (l ++ Go.Proofs.YtakfcekfmdjklaaDoor.txt ps) (T ++ toks l.length ps)
  | [], l, T, h, _ => by simpa [Go.Proofs.YtakfcekfmdjklaaDoor.txt, toks] using h
  | p :: ps, l, T, h, hg => by
    obtain ⟨h1, h2⟩ := hg p (.head _)
    have h3 := ScB.txt ps ((h.tok h1).blank h2) (fun q hq => hg q (.tail _ hq))
    have e1 : l ++ Go.Proofs.YtakfcekfmdjklaaDoor.txt (p :: ps) = ((l ++ p.b) ++ [p.s]) ++ Go.Proofs.YtakfcekfmdjklaaDoor.txt ps := by rw [txt_cons]; simp only [List.append_assoc]
    have e2 : T ++ toks l.length (p :: ps) = (T ++ [⟨p.k, p.x, p.n, l.length⟩]) ++ toks ((l ++ p.b) ++ [p.s]).length ps := by
      rw [toks, List.append_assoc]; simp
    rw [e1, e2]; exact h3
theorem txt_scanL {ps : List Pc} {q : Pc} (hg : ∀ p ∈ ps, gd p) (hq : gd q) (hl : (txt ps ++ q.b).length ≤ 65536) : scan (bs (txt ps ++ q.b)) = (toks 0 (ps ++ [q]) ++ [⟨3, ⟨#[]⟩, 0, (txt ps ++ q.b).length⟩], 0, 0) := by
  have h := ScB.txt ps ScB.nil hg
  simp only [List.nil_append, List.length_nil] at h
  have h2 := (h.tok hq.1).fin hl
  rw [h2, toks_app, Nat.zero_add]; rfl
theorem toks_get : ∀ (ps : List Pc) (o j : Nat), j < ps.length → ((toks o ps).getD j tz).k = (ps.getD j pz).k ∧ ((toks o ps).getD j tz).x = (ps.getD j pz).x ∧ ((toks o ps).getD j tz).n = (ps.getD j pz).n
  | [], _, j, h => absurd h (Nat.not_lt_zero _)
  | p :: ps, o, 0, _ => ⟨rfl, rfl, rfl⟩
  | p :: ps, o, j + 1, h => by
    rw [toks, List.getD_cons_succ, List.getD_cons_succ]
    exact toks_get ps _ j (by rw [List.length_cons] at h; omega)
structure Rds (X : List Tok) (ps : List Pc) (e : Int) : Prop where
  len : X.length = ps.length + 1
  at_ : ∀ j, j < ps.length → (X.getD j tz).k = (ps.getD j pz).k ∧ (X.getD j tz).x = (ps.getD j pz).x ∧ (X.getD j tz).n = (ps.getD j pz).n
  end_ : (X.getD ps.length tz).k = 3 ∧ (X.getD ps.length tz).a = e
theorem rds_of (ps : List Pc) (e : Int) : Rds (toks 0 ps ++ [⟨3, ⟨#[]⟩, 0, e⟩]) ps e := by
  have hl := toks_len 0 ps
  refine ⟨by rw [List.length_append, hl]; rfl, fun j hj => ?_, ?_⟩
  · rw [getD_app1 (by omega)]; exact toks_get ps 0 j hj
  · rw [← hl, getD_app2]; exact ⟨rfl, rfl⟩
def wdP (b : List UInt8) (s : UInt8) : Pc := ⟨b, 1, bs b, 0, s⟩
def nuP (n : Int) (s : UInt8) : Pc := ⟨Lib.itoa n, 2, ⟨#[]⟩, n, s⟩
theorem ext_self (l : List UInt8) : (bs l).extract 0 (0 + l.length) = bs l :=
  ba_ext (by rw [Nat.zero_add, size_ext (by rw [bs_size]; omega), bs_size]; omega) (fun j hj => by
    rw [Nat.zero_add, size_ext (by rw [bs_size]; omega)] at hj
    rw [Nat.zero_add, byt_ext (by omega) (by rw [bs_size]; omega), Nat.zero_add])
theorem wd_gd {b : List UInt8} {s : UInt8} (h : ∀ j, j < b.length → kb (bs b) j = 3) (h0 : 0 < b.length) (h16 : b.length ≤ 16) (hs : blk1 s) : gd (wdP b s) := by
  refine ⟨⟨rfl, h0, by rw [bs_size]; exact Nat.le_of_eq (Nat.zero_add _), ?_, .inl ⟨rfl, fun j hj => by rw [Nat.zero_add]; exact h j hj, h16, (ext_self b).symm, rfl⟩⟩, hs⟩
  have e : kb (bs (wdP b s).b) (0 + (wdP b s).b.length) = 1 := kb_out (by rw [bs_size, Nat.zero_add]; exact Nat.lt_irrefl _)
  rw [e]; decide
theorem dd_short : ∀ (k M : Nat), M < 10 ^ k → (dd M).length ≤ k
  | 0, M, h => by
    obtain rfl : M = 0 := by simpa using h
    simp [dd]
  | k + 1, M, h => by
    by_cases h0 : M = 0
    · subst h0; simp [dd]
    · rw [dd_step h0, List.length_append]
      have := dd_short k (M / 10) (by rw [Nat.pow_succ] at h; omega)
      simp only [List.length_cons, List.length_nil]; omega
theorem dig_short {A : Nat} (h : A < 1000000000000000000) : (Lib.decDigits A).length ≤ 18 := by
  by_cases h0 : A = 0
  · subst h0; decide +kernel
  · have := dd_short 18 A (by simpa using h)
    unfold dd at this; rwa [if_neg h0] at this
theorem nu_gd {n : Int} {s : UInt8} (h0 : 0 ≤ n) (h1 : n < 1000000000000000000) (hs : blk1 s) : gd (nuP n s) := by
  obtain ⟨A, rfl⟩ : ∃ A : Nat, n = (A : Int) := ⟨n.toNat, by omega⟩
  have e := Lib.itoa_nonneg A
  have hp := dd_pos A
  have hsh := dig_short (A := A) (by omega)
  have hlen : (nuP (A : Int) s).b.length = (Lib.decDigits A).length := by show (Lib.itoa (A : Int)).length = _; rw [e]
  have hbs : bs (nuP (A : Int) s).b = ⟨(Lib.decDigits A).toArray⟩ := by show bs (Lib.itoa (A : Int)) = _; rw [e]; rfl
  have hkb : ∀ j, j < (Lib.decDigits A).length → kb ⟨(Lib.decDigits A).toArray⟩ j = 2 := fun j hj => by
    have hd := dd_dig A _ (List.getElem_mem hj)
    refine dig_kb.1 ?_
    refine ⟨by rw [size_mk]; exact hj, ?_⟩
    rw [byt_mk hj]
    omega
  refine ⟨?_, hs⟩
  rw [hbs, hlen]
  refine ⟨rfl, hp, by rw [size_mk]; omega, by rw [kb_out (by rw [size_mk]; omega)]; decide, .inr ⟨rfl, fun j hj => by rw [Nat.zero_add]; exact hkb j hj, hsh, ?_, rfl, ?_⟩⟩
  · rintro ⟨h2, h3⟩
    by_cases hA : A = 0
    · subst hA; exact absurd h2 (by decide +kernel)
    · obtain ⟨c, r, e2, h4⟩ := dd_head A (by omega)
      have h5 : byt ⟨(Lib.decDigits A).toArray⟩ 0 = (((Lib.decDigits A)[0]'hp).toNat : Int) := byt_mk hp
      rw [h5] at h3
      simp only [e2, List.getElem_cons_zero] at h3
      omega
  · show (A : Int) = numv _ 0 _
    rw [numv_list _ _ (Nat.le_refl _), List.take_length, dd_val]
end Go.Proofs.YtakfcekfmdjklaaDoor
namespace Go.Proofs.YtakfcekfmdjklaaDoor
def rowP : List Int → List Pc
  | [] => []
  | [x] => [nuP x 10]
  | x :: y :: l => nuP x 32 :: rowP (y :: l)
theorem rowP_len : ∀ l, (rowP l).length = l.length
  | [] => rfl
  | [_] => rfl
  | x :: y :: l => by rw [rowP, List.length_cons, rowP_len]; rfl
theorem rowP_get : ∀ (l : List Int) (c : Nat), c < l.length → ((rowP l).getD c pz).k = 2 ∧ ((rowP l).getD c pz).n = l.getD c 0
  | [], _, h => absurd h (Nat.not_lt_zero _)
  | [x], 0, _ => ⟨rfl, rfl⟩
  | [x], c + 1, h => absurd h (by simp)
  | x :: y :: l, 0, _ => ⟨rfl, rfl⟩
  | x :: y :: l, c + 1, h => by
    rw [rowP, List.getD_cons_succ, List.getD_cons_succ]
    exact rowP_get (y :: l) c (by simp at h ⊢; omega)
theorem rowP_gd : ∀ (l : List Int), (∀ x ∈ l, 0 ≤ x ∧ x ≤ 2147483647) → ∀ p ∈ rowP l, gd p
  | [], _, p, hp => by cases hp
  | [x], h, p, hp => by
    obtain rfl : p = nuP x 10 := by simpa [rowP] using hp
    have := h x (.head _)
    exact nu_gd this.1 (by omega) b10
  | x :: y :: l, h, p, hp => by
    rw [rowP] at hp
    rcases List.mem_cons.1 hp with rfl | hp
    · have := h x (.head _)
      exact nu_gd this.1 (by omega) b32
    · exact rowP_gd (y :: l) (fun z hz => h z (.tail _ hz)) p hp
theorem rowT : ∀ (l : List Int) (x : Int), (Lib.itoa x ++ Lib.joinTail [32] (l.map Lib.itoa)) ++ [10] = txt (rowP (x :: l))
  | [], x => by simp [Lib.joinTail, rowP, txt, nuP]
  | y :: l, x => by
    have := rowT l y
    rw [rowP, txt_cons, ← this]
    simp [Lib.joinTail, nuP]
theorem lineB_txt {l : List Int} (h : l ≠ []) : lineB l = txt (rowP l) := by
  cases l with
  | nil => exact absurd rfl h
  | cons x l => unfold lineB; rw [List.map_cons, Lib.join_cons, rowT]
def itmP (i : Ins) (k : Nat) : List Pc := rowP [i.wt.getD k 0, i.vl.getD k 0]
def rwsP (i : Ins) (r : Nat) : List Pc := rowP (i.cost.getD r [])
theorem itemsB_txt (i : Ins) : ∀ k, itemsB i k = txt ((List.range k).flatMap (itmP i))
  | 0 => rfl
  | k + 1 => by rw [itemsB, itemsB_txt i k, List.range_succ, List.flatMap_append, txt_app, lineB_txt (by simp)]; simp [itmP]
theorem rowsB_txt {i : Ins} (h : ∀ r, r < i.cost.length → i.cost.getD r [] ≠ []) : ∀ k, k ≤ i.cost.length → rowsB i k = txt ((List.range k).flatMap (rwsP i))
  | 0, _ => rfl
  | k + 1, hk => by rw [rowsB, rowsB_txt h k (by omega), List.range_succ, List.flatMap_append, txt_app, lineB_txt (h k (by omega))]; simp [rwsP]
theorem flat_len {f : Nat → List Pc} {L : Nat} : ∀ {R : Nat}, (∀ r, r < R → (f r).length = L) → ((List.range R).flatMap f).length = R * L
  | 0, _ => by simp
  | R + 1, h => by
    rw [List.range_succ, List.flatMap_append, List.length_append, flat_len (R := R) (fun r hr => h r (by omega)), Nat.add_mul, Nat.one_mul]
    simp [h R (by omega)]
theorem flat_get {f : Nat → List Pc} {L r c : Nat} (hc : c < L) : ∀ {R : Nat}, (∀ r, r < R → (f r).length = L) → r < R → ((List.range R).flatMap f).getD (r * L + c) pz = (f r).getD c pz
  | 0, _, h => absurd h (Nat.not_lt_zero _)
  | R + 1, h, hr => by
    have hl := flat_len (f := f) (L := L) (R := R) (fun r hr => h r (by omega))
    rw [List.range_succ, List.flatMap_append]
    have e1 : [R].flatMap f = f R := by simp
    rw [e1]
    simp only [List.getD_eq_getElem?_getD]
    rcases Nat.lt_succ_iff_lt_or_eq.1 hr with g | g
    · have h1 : r * L + c < R * L := by
        have : (r + 1) * L ≤ R * L := Nat.mul_le_mul_right L g
        rw [Nat.add_mul, Nat.one_mul] at this; omega
      rw [List.getElem?_append_left (by omega)]
      have := flat_get (f := f) hc (R := R) (fun r hr => h r (by omega)) g
      simpa only [List.getD_eq_getElem?_getD] using this
    · subst g
      rw [List.getElem?_append_right (by omega), hl, Nat.add_sub_cancel_left]
def hdP (i : Ins) : List Pc :=
  if i.kind = 1 then [wdP [75, 78, 65, 80, 83, 65, 67, 75] 32, nuP i.n 32, nuP i.cap 10]
  else if i.kind = 2 then [wdP [65, 83, 83, 73, 71, 78, 77, 69, 78, 84] 32, nuP i.n 10] else [wdP [84, 83, 80] 32, nuP i.n 32, wdP [70, 85, 76, 76] 10]
def pcs (i : Ins) : List Pc := hdP i ++ if i.kind = 1 then (List.range i.n.toNat).flatMap (itmP i) else (List.range i.n.toNat).flatMap (rwsP i)
theorem row_ne {i : Ins} (h : InF i) {r : Nat} (hr : r < i.cost.length) : i.cost.getD r [] ≠ [] := fun e => by
  have h1 := h.row r hr
  have h2 := h.n1
  rw [e] at h1
  simp at h1; omega
theorem textB_txt {i : Ins} (h : InF i) : textB i = txt (pcs i) := by
  have hk := h.kind
  have hc := h.cost
  unfold textB headB pcs hdP
  by_cases h1 : i.kind = 1
  · rw [if_pos h1] at hc
    rw [if_pos h1, if_pos h1, if_pos h1, if_pos h1, txt_app, itemsB_txt, hc, lineB_txt (by simp)]
    simp [rowsB, txt, rowP, nameB, wdP]
  · rw [if_neg h1] at hc
    rw [if_neg h1, if_neg h1, if_neg h1, if_neg h1, txt_app, rowsB_txt (fun r hr => row_ne h hr) _ (Nat.le_refl _), hc]
    by_cases h2 : i.kind = 2
    · rw [if_pos h2, if_pos h2, lineB_txt (by simp)]
      simp [txt, rowP, nameB, wdP]
    · rw [if_neg h2, if_neg h2]
      simp [txt, nameB, wdP, nuP]
theorem kb3 {b : List UInt8} (h : ∀ c ∈ b, kindI (c.toNat : Int) = 3) : ∀ j, j < b.length → kb (bs b) j = 3 := fun j hj => by
  rw [kb_in (by rw [bs_size]; exact hj), show bs b = ⟨b.toArray⟩ from rfl, byt_mk hj]; exact h _ (List.getElem_mem hj)
theorem mem_row {i : Ins} (h : InF i) {r : Nat} : ∀ x ∈ i.cost.getD r [], 0 ≤ x ∧ x ≤ 2147483647 := fun x hx => by
  obtain ⟨c, hc, rfl⟩ := List.getElem_of_mem hx
  have := h.cell r c
  have e : (i.cost.getD r []).getD c 0 = (i.cost.getD r [])[c] := by rw [List.getD_eq_getElem?_getD, List.getElem?_eq_getElem hc]; rfl
  rwa [e] at this
theorem pcs_gd {i : Ins} (h : InF i) : ∀ p ∈ pcs i, gd p := fun p hp => by
  have hn := h.n1
  have hn2 := h.n64
  have hcp := h.cap
  unfold pcs hdP at hp
  have gKN : gd (wdP [75, 78, 65, 80, 83, 65, 67, 75] 32) := wd_gd (kb3 (by decide)) (by decide) (by decide) b32
  have gAS : gd (wdP [65, 83, 83, 73, 71, 78, 77, 69, 78, 84] 32) := wd_gd (kb3 (by decide)) (by decide) (by decide) b32
  have gTS : gd (wdP [84, 83, 80] 32) := wd_gd (kb3 (by decide)) (by decide) (by decide) b32
  have gFU : gd (wdP [70, 85, 76, 76] 10) := wd_gd (kb3 (by decide)) (by decide) (by decide) b10
  have gn : ∀ s, blk1 s → gd (nuP i.n s) := fun s hs => nu_gd (by omega) (by omega) hs
  rcases List.mem_append.1 hp with hp | hp
  · split at hp
    · simp only [List.mem_cons, List.not_mem_nil, or_false] at hp
      rcases hp with rfl | rfl | rfl
      · exact gKN
      · exact gn _ b32
      · exact nu_gd hcp.1 (by omega) b10
    · split at hp
      · simp only [List.mem_cons, List.not_mem_nil, or_false] at hp
        rcases hp with rfl | rfl
        · exact gAS
        · exact gn _ b10
      · simp only [List.mem_cons, List.not_mem_nil, or_false] at hp
        rcases hp with rfl | rfl | rfl
        · exact gTS
        · exact gn _ b32
        · exact gFU
  · split at hp
    · obtain ⟨k, -, hk⟩ := List.mem_flatMap.1 hp
      refine rowP_gd _ (fun x hx => ?_) p hk
      simp only [List.mem_cons, List.not_mem_nil, or_false] at hx
      rcases hx with rfl | rfl
      · exact h.wtr k
      · exact h.vlr k
    · obtain ⟨r, -, hr⟩ := List.mem_flatMap.1 hp
      exact rowP_gd _ (mem_row h) p hr
def j0I (i : Ins) : Nat := if i.kind = 3 then 3 else 2
def mI (i : Ins) : Nat := if i.kind = 1 then 1 + 2 * i.n.toNat else i.n.toNat * i.n.toNat
def vN (i : Ins) (q : Nat) : Int := if i.kind = 1 then (if q = 0 then i.cap else if q % 2 = 1 then i.wt.getD (q / 2) 0 else i.vl.getD (q / 2 - 1) 0) else (i.cost.getD (q / i.n.toNat) []).getD (q % i.n.toNat) 0
theorem getD_app1P {a b : List Pc} {j : Nat} (h : j < a.length) : (a ++ b).getD j pz = a.getD j pz := by simp [List.getD, List.getElem?_append_left h]
theorem getD_app2P {a b : List Pc} {j : Nat} : (a ++ b).getD (a.length + j) pz = b.getD j pz := by
  rw [List.getD_eq_getElem?_getD, List.getD_eq_getElem?_getD, List.getElem?_append_right (by omega), Nat.add_sub_cancel_left]
theorem pcs_len {i : Ins} (h : InF i) : (pcs i).length = j0I i + mI i := by
  have hk := h.kind
  have hc := h.cost
  unfold pcs hdP j0I mI
  by_cases h1 : i.kind = 1
  · rw [if_pos h1, if_pos h1, if_neg (by omega), if_pos h1, List.length_append, flat_len (L := 2) (fun r _ => by rw [itmP, rowP_len]; rfl)]
    simp only [List.length_cons, List.length_nil]; omega
  · rw [if_neg h1] at hc
    have hl : ((List.range i.n.toNat).flatMap (rwsP i)).length = i.n.toNat * i.n.toNat := flat_len (L := i.n.toNat) (fun r hr => by rw [rwsP, rowP_len]; exact h.row r (by omega))
    rw [if_neg h1, if_neg h1, if_neg h1, List.length_append, hl]
    by_cases h2 : i.kind = 2
    · rw [if_pos h2, if_neg (by omega)]; simp only [List.length_cons, List.length_nil]
    · rw [if_neg h2, if_pos (by omega)]; simp only [List.length_cons, List.length_nil]
theorem pcs_num {i : Ins} (h : InF i) {q : Nat} (hq : q < mI i) : ((pcs i).getD (j0I i + q) pz).k = 2 ∧ ((pcs i).getD (j0I i + q) pz).n = vN i q := by
  have hk := h.kind
  have hc := h.cost
  have hn := h.n1
  unfold mI at hq
  by_cases h1 : i.kind = 1
  · rw [if_pos h1] at hq
    unfold pcs hdP j0I vN
    rw [if_pos h1, if_pos h1, if_neg (by omega), if_pos h1]
    by_cases h0 : q = 0
    · subst h0; exact ⟨rfl, rfl⟩
    · rw [if_neg h0]
      have e0 : 2 + q = [wdP [75, 78, 65, 80, 83, 65, 67, 75] 32, nuP i.n 32, nuP i.cap 10].length + (q - 1) := by show _ = 3 + (q - 1); omega
      rw [e0, getD_app2P]
      have hL : ∀ r, r < i.n.toNat → (itmP i r).length = 2 := fun r _ => by rw [itmP, rowP_len]; rfl
      by_cases h2 : q % 2 = 1
      · rw [if_pos h2, show q - 1 = (q / 2) * 2 + 0 by omega, flat_get (by decide) hL (by omega)]
        exact rowP_get _ 0 (by simp)
      · rw [if_neg h2, show q - 1 = (q / 2 - 1) * 2 + 1 by omega, flat_get (by decide) hL (by omega)]
        exact rowP_get _ 1 (by simp)
  · rw [if_neg h1] at hq hc
    have hn0 : 0 < i.n.toNat := by omega
    have hdm := Nat.div_add_mod' q i.n.toNat
    have hdl : q / i.n.toNat < i.n.toNat := Nat.div_lt_of_lt_mul hq
    have hml := Nat.mod_lt q hn0
    have hL : ∀ r, r < i.n.toNat → (rwsP i r).length = i.n.toNat := fun r hr => by rw [rwsP, rowP_len]; exact h.row r (by omega)
    have key : ∀ hd : List Pc, ((hd ++ (List.range i.n.toNat).flatMap (rwsP i)).getD (hd.length + q) pz).k = 2 ∧ ((hd ++ (List.range i.n.toNat).flatMap (rwsP i)).getD (hd.length + q) pz).n = vN i q := fun hd => by
      rw [getD_app2P]
      have e1 : ((List.range i.n.toNat).flatMap (rwsP i)).getD q pz = (rwsP i (q / i.n.toNat)).getD (q % i.n.toNat) pz := by
        have := flat_get (f := rwsP i) (r := q / i.n.toNat) hml hL hdl
        rwa [hdm] at this
      rw [e1]
      unfold vN; rw [if_neg h1]
      exact rowP_get _ _ (by rw [h.row _ (by omega)]; exact hml)
    unfold pcs hdP j0I
    rw [if_neg h1, if_neg h1]
    by_cases h2 : i.kind = 2
    · rw [if_pos h2, if_neg (by omega)]; exact key _
    · rw [if_neg h2, if_pos (by omega)]; exact key _
theorem vN_bd {i : Ins} (h : InF i) (q : Nat) : 0 ≤ vN i q ∧ vN i q ≤ 2147483647 := by
  unfold vN
  split
  · split
    · exact h.cap
    · split
      · exact h.wtr _
      · exact h.vlr _
  · exact h.cell _ _
def Hd (X : List Tok) (i : Ins) (m : Nat) : Prop := ∀ j, j < j0I i + m → (X.getD j tz).k = ((pcs i).getD j pz).k ∧ (X.getD j tz).x = ((pcs i).getD j pz).x ∧ (X.getD j tz).n = ((pcs i).getD j pz).n
theorem Hd.num {X : List Tok} {i : Ins} {m : Nat} (hH : Hd X i m) (h : InF i) (hm : m ≤ mI i) {q : Nat} (hq : q < m) : (X.getD (j0I i + q) tz).k = 2 ∧ (X.getD (j0I i + q) tz).n = vN i q := by
  obtain ⟨h1, -, h3⟩ := hH (j0I i + q) (by omega)
  obtain ⟨g1, g2⟩ := pcs_num h (q := q) (by omega)
  exact ⟨h1.trans g1, h3.trans g2⟩
theorem Hd.ok {X : List Tok} {i : Ins} {m : Nat} (hH : Hd X i m) (h : InF i) (hm : m ≤ mI i) {f : Nat → Bool} (hf : ∀ q, f q = true → q < mI i → vN i q = 0) : ∀ q, q < m → nuE (f q) (X.getD (j0I i + q) tz) = 0 := fun q hq => by
  obtain ⟨h1, h2⟩ := hH.num h hm hq
  have hb := vN_bd h q
  obtain ⟨g1, g2⟩ := numR_ok (t := X.getD (j0I i + q) tz) (m := 2147483647) (by omega) (by omega) (by omega)
  exact nuE_ok g1 (fun g => g.2 (by rw [g2, h2]; exact hf q g.1 (by omega)))
theorem Hd.head {X : List Tok} {i : Ins} {m : Nat} (hH : Hd X i m) (hj : j0I i ≤ j0I i + m) : (X.getD 0 tz).k = 1 ∧ (X.getD 1 tz).k = 2 ∧ (X.getD 1 tz).n = i.n ∧ (i.kind = 1 → (X.getD 0 tz).x = wKN) ∧ (i.kind = 2 → (X.getD 0 tz).x = wAS) ∧ (¬ i.kind = 1 → ¬ i.kind = 2 → (X.getD 0 tz).x = wTS) ∧ (i.kind = 3 → (X.getD 2 tz).k = 1 ∧ (X.getD 2 tz).x = wFU) := by
  have hj2 : 2 ≤ j0I i := by unfold j0I; split <;> omega
  obtain ⟨a1, a2, a3⟩ := hH 0 (by omega)
  obtain ⟨b1, b2, b3⟩ := hH 1 (by omega)
  rw [a1, a2, b1, b3]
  unfold pcs hdP
  by_cases h1 : i.kind = 1
  · rw [if_pos h1]; exact ⟨rfl, rfl, rfl, fun _ => rfl, fun h => absurd h (by omega), fun h => absurd h1 h, fun h => absurd h (by omega)⟩
  · rw [if_neg h1]
    by_cases h2 : i.kind = 2
    · rw [if_pos h2]; exact ⟨rfl, rfl, rfl, fun h => absurd h h1, fun _ => rfl, fun _ h => absurd h2 h, fun h => absurd h (by omega)⟩
    · rw [if_neg h2]
      refine ⟨rfl, rfl, rfl, fun h => absurd h h1, fun h => absurd h h2, fun _ _ => rfl, fun h3 => ?_⟩
      obtain ⟨c1, c2, -⟩ := hH 2 (by unfold j0I; rw [if_pos h3]; omega)
      rw [c1, c2]
      unfold pcs hdP
      rw [if_neg h1, if_neg h2]
      exact ⟨rfl, rfl⟩
theorem list_ext0 {l : List Int} {n : Nat} {g : Nat → Int} (hl : l.length = n) (h : ∀ k, k < n → g k = l.getD k 0) : (List.range n).map g = l := by
  refine List.ext_getElem (by simp [hl]) (fun k h1 h2 => ?_)
  simp only [List.getElem_map, List.getElem_range]
  rw [h k (by omega)]; simp [List.getD, h2]
theorem mat_ext {R : List (List Int)} {n : Nat} {g : Nat → Nat → Int} (hl : R.length = n) (hr : ∀ r, r < n → (R.getD r []).length = n) (h : ∀ r c, r < n → c < n → g r c = (R.getD r []).getD c 0) : mat n g = R := by
  refine List.ext_getElem (by simp [mat, hl]) (fun r h1 h2 => ?_)
  have e : R.getD r [] = R[r] := by simp [List.getD, h2]
  have hr' : r < n := by omega
  simp only [mat, List.getElem_map, List.getElem_range]
  rw [← e]
  exact list_ext0 (hr r hr') (fun c hc => h r c hr' hc)
theorem pb_text {X : List Tok} {i : Ins} {m : Nat} (hH : Hd X i m) (h : InF i) (hm : m ≤ mI i) :
  (m < mI i → (X.getD (j0I i + m) tz).k = 3 → pbR X = (6, j0I i + m)) ∧ (m = mI i → pbR X = (endR (X.getD (j0I i + m) tz), j0I i + m) ∧ pbI X = i) := by
 have hk := h.kind
 have hn := h.n1
 have hn64 := h.n64
 have hc := h.cost
 obtain ⟨a1, b1, b3, kKN, kAS, kTS, kFU⟩ := hH.head (by omega)
 obtain ⟨n, hne⟩ : ∃ n : Nat, i.n = (n : Int) := ⟨i.n.toNat, by omega⟩
 have hnt : i.n.toNat = n := by omega
 have cnt : ∀ M : Int, i.n ≤ M → cntR (X.getD 1 tz) M = 0 ∧ ctN X 1 M = n := fun M hM => by
  obtain ⟨c0, c1⟩ := cnt_0 (t := X.getD 1 tz) (m := M) (by omega) (by omega) (by omega) (by omega)
  exact ⟨c0, by unfold ctN; rw [c1, b3, hne]; rfl⟩
 have bad : ∀ (f : Nat → Bool), (∀ q, q < m → nuE (f q) (X.getD (j0I i + q) tz) = 0) → (X.getD (j0I i + m) tz).k = 3 → m < mI i → nuR f X (j0I i) (mI i) = (6, j0I i + m) := fun f hall k3 hlt => by
  have e := numR_end (t := X.getD (j0I i + m) tz) (m := 2147483647) k3
  rw [nuR_badP hall rfl (by rw [e.1]; decide) hlt, e.1]
 by_cases h1 : i.kind = 1
 ·
  have hj : j0I i = 2 := by unfold j0I; rw [if_neg (by omega)]
  have hM : mI i = 1 + 2 * n := by unfold mI; rw [if_pos h1, hnt]
  have hw := w3_kn a1 (kKN h1)
  obtain ⟨c0, c1⟩ := cnt 64 (by omega)
  have hall := hH.ok h hm (f := ff) (fun q hq => by cases hq)
  refine ⟨fun hlt k3 => ?_, fun he => ?_⟩
  ·
   have hb := bad ff hall k3 hlt
   rw [hj] at hb ⊢
   exact pb_b hw rfl (bod1 c0 c1 hM hb) (by decide)
  ·
   subst he
   have hb := nuR_ok hall
   rw [hj] at hb ⊢
   refine ⟨pb_e hw rfl (bod1 c0 c1 hM hb), ?_⟩
   rw [← pb_it hw c1]
   have num : ∀ q, q < mI i → (X.getD (2 + q) tz).n = vN i q := fun q hq => by have := (hH.num h hm hq).2; rwa [hj] at this
   have hwl := h.wt
   have hvl := h.vl
   rw [if_pos h1] at hwl hvl hc
   refine Ins.ext h1.symm hne.symm ?_ (list_ext0 (by omega) fun k hk => ?_) (list_ext0 (by omega) fun k hk => ?_) (List.length_eq_zero_iff.1 hc).symm
   ·
    show (X.getD (2 + 0) tz).n = i.cap
    rw [num 0 (by omega)]; unfold vN; rw [if_pos h1, if_pos rfl]
   ·
    show (X.getD (3 + 2 * k) tz).n = _
    rw [show 3 + 2 * k = 2 + (1 + 2 * k) by omega, num _ (by omega)]; unfold vN
    rw [if_pos h1, if_neg (by omega), if_pos (by omega)]; congr 1; omega
   ·
    show (X.getD (4 + 2 * k) tz).n = _
    rw [show 4 + 2 * k = 2 + (2 + 2 * k) by omega, num _ (by omega)]; unfold vN
    rw [if_pos h1, if_neg (by omega), if_neg (by omega)]; congr 1; omega
 ·
  have hM : mI i = n * n := by unfold mI; rw [if_neg h1, hnt]
  have hn24 := h.n24 h1
  have hwl := h.wt
  have hvl := h.vl
  have hcp := h.cap0 h1
  rw [if_neg h1] at hwl hvl hc
  obtain ⟨c0, c1⟩ := cnt 24 (by omega)
  have cells : ∀ j, j0I i = j → (m = mI i) → mat n (rwI X j n) = i.cost := fun j hj he => by
   refine mat_ext (by omega) (fun r hr => by rw [h.row r (by omega)]; exact hnt) (fun r c hr hc' => ?_)
   have hidx := idx_lt hr hc'
   have := (hH.num h hm (q := r * n + c) (by omega)).2
   rw [hj] at this
   show (X.getD (j + (r * n + c)) tz).n = _
   rw [this]; unfold vN
   rw [if_neg h1, hnt, show (r * n + c) / n = r by rw [Nat.mul_comm, Nat.mul_add_div (by omega), Nat.div_eq_of_lt hc']; rfl, show (r * n + c) % n = c by rw [Nat.mul_comm, Nat.mul_add_mod, Nat.mod_eq_of_lt hc']]
  by_cases h2 : i.kind = 2
  ·
   have hj : j0I i = 2 := by unfold j0I; rw [if_neg (by omega)]
   have hw := w3_as a1 (kAS h2)
   have hall := hH.ok h hm (f := ff) (fun q hq => by cases hq)
   refine ⟨fun hlt k3 => ?_, fun he => ?_⟩
   ·
    have hb := bad ff hall k3 hlt
    rw [hj] at hb ⊢
    exact pb_b hw rfl (bod2 c0 c1 hM hb) (by decide)
   ·
    have hcl := cells 2 hj he
    subst he
    have hb := nuR_ok hall
    rw [hj] at hb ⊢
    refine ⟨pb_e hw rfl (bod2 c0 c1 hM hb), ?_⟩
    rw [← pb_as hw c1 hcl.symm]
    exact Ins.ext h2.symm hne.symm hcp.symm (List.length_eq_zero_iff.1 hwl).symm (List.length_eq_zero_iff.1 hvl).symm rfl
  ·
   have h3 : i.kind = 3 := by omega
   have hj : j0I i = 3 := by unfold j0I; rw [if_pos h3]
   have hw := w3_ts a1 (kTS h1 h2)
   have hw2 := w2_fu (kFU h3).1 (kFU h3).2
   have hall := hH.ok h hm (f := dgk 3 n) (fun q hq hlt => by
    have hd : (q % (n + 1) = 0) := (of_decide_eq_true hq).2
    have hn0 : 0 < n := by omega
    have hdl : q / n < n := Nat.div_lt_of_lt_mul (by omega)
    have hml := Nat.mod_lt q hn0
    have hdm := Nat.div_add_mod' q n
    have e := (dg_iff hdl hml).1 (by rw [hdm]; exact hd)
    unfold vN; rw [if_neg h1, hnt, ← e]
    exact h.diag h3 _)
   refine ⟨fun hlt k3 => ?_, fun he => ?_⟩
   ·
    have hb := bad (dgk 3 n) hall k3 hlt
    rw [hj] at hb ⊢
    exact pb_b hw rfl (bod3f c0 c1 hw2 hM hb) (by decide)
   ·
    have hcl := cells 3 hj he
    subst he
    have hb := nuR_ok hall
    rw [hj] at hb ⊢
    refine ⟨pb_e hw rfl (bod3f c0 c1 hw2 hM hb), ?_⟩
    rw [← pb_full hw hw2 c1 hcl.symm]
    exact Ins.ext h3.symm hne.symm hcp.symm (List.length_eq_zero_iff.1 hwl).symm (List.length_eq_zero_iff.1 hvl).symm rfl
theorem prs_of {s : ByteArray} {X : List Tok} (hs : scan s = (X, 0, 0)) : ((pbR X).1 = 0 → prs s = (pbI X, 0, 0)) ∧ ((pbR X).1 ≠ 0 → prs s = (insZ, (X.getD (pbR X).2 tz).a, (pbR X).1)) :=
  ⟨fun h => by rw [prs_ok (by rw [hs]) (by rw [hs]; exact h), hs], fun h => by rw [prs_bad (by rw [hs]) (by rw [hs]; exact h), hs]⟩
theorem bdl1 {a : Int} (h : bd64 a) : ∀ x ∈ [a], bd64 x := fun x hx => by rcases List.mem_cons.1 hx with rfl | hx; exact h; cases hx
theorem bdl2 {a b : Int} (h : bd64 a) (g : bd64 b) : ∀ x ∈ [a, b], bd64 x := fun x hx => by
  rcases List.mem_cons.1 hx with rfl | hx
  · exact h
  · exact bdl1 g x hx
theorem textB_len {i : Ins} (h : InF i) : (textB i).length ≤ 60000 := by
  have hk := h.kind
  have hn := h.n1
  have hn64 := h.n64
  have hc := h.cost
  have hcp := h.cap
  have l1 := itoa_len' (n := i.n) (by unfold bd64; omega)
  have i1 := itemsB_len h i.n.toNat
  have r1 := rowsB_len h i.cost.length (Nat.le_refl _)
  have c1 := lineB_len (l := [i.n, i.cap]) (bdl2 (by unfold bd64; omega) (by unfold bd64; omega))
  have c2 := lineB_len (l := [i.n]) (bdl1 (by unfold bd64; omega))
  unfold textB headB
  by_cases h1 : i.kind = 1
  · rw [if_pos h1] at hc
    rw [if_pos h1, if_pos h1]
    simp only [List.length_append, List.length_cons, List.length_nil, nameB] at c1 ⊢
    rw [hc] at r1 ⊢
    simp; omega
  · rw [if_neg h1] at hc
    have hn24 := h.n24 h1
    rw [if_neg h1, if_neg h1]
    split
    · simp only [List.length_append, List.length_cons, List.length_nil] at c2 ⊢
      simp [nameB]; omega
    · simp only [List.length_append, List.length_cons, List.length_nil]
      simp [nameB]; omega
end Go.Proofs.YtakfcekfmdjklaaDoor
namespace Go.Proofs.YtakfcekfmdjklaaDoor
theorem prs_tail {i : Ins} (h : InF i) : prs (bs (textB i ++ [53])) = (insZ, ((textB i).length : Int), 7) := by
  have hl := textB_len h
  have ht := textB_txt h
  have hp := pcs_len h
  rw [ht] at hl ⊢
  have g5 : gd (nuP 5 10) := nu_gd (by decide) (by decide) b10
  have e5 : (nuP 5 10).b = [53] := by show Lib.itoa 5 = _; decide +kernel
  have hs := txt_scanL (pcs_gd h) g5 (by rw [List.length_append, e5]; simp only [List.length_cons, List.length_nil]; omega)
  have hR := rds_of (pcs i ++ [nuP 5 10]) ((txt (pcs i) ++ (nuP 5 10).b).length : Nat)
  rw [e5] at hs hR
  have hT : toks 0 (pcs i ++ [nuP 5 10]) = toks 0 (pcs i) ++ [⟨2, ⟨#[]⟩, 5, ((txt (pcs i)).length : Nat)⟩] := by rw [toks_app, Nat.zero_add]; rfl
  have hlen := toks_len 0 (pcs i)
  generalize hXe : toks 0 (pcs i ++ [nuP 5 10]) ++ [⟨3, ⟨#[]⟩, 0, ((txt (pcs i) ++ [53]).length : Int)⟩] = X at hs hR
  have hx : X.getD (j0I i + mI i) tz = ⟨2, ⟨#[]⟩, 5, ((txt (pcs i)).length : Nat)⟩ := by
    rw [← hXe, hT, ← hp, ← hlen, getD_app1 (by rw [List.length_append]; simp), getD_app2]
  obtain ⟨h1, -⟩ := (pb_text (X := X) (m := mI i) (fun j hj => by
    have := hR.at_ j (by rw [List.length_append]; simp; omega)
    rwa [getD_app1P (by omega)] at this) h (Nat.le_refl _)).2 rfl
  have he : endR (X.getD (j0I i + mI i) tz) = 7 := by rw [hx]; rfl
  rw [he] at h1
  rw [(prs_of hs).2 (by rw [h1]; show (7 : Int) ≠ 0; decide), h1]
  show (insZ, (X.getD (j0I i + mI i) tz).a, 7) = _
  rw [hx]
def cutT (i : Ins) (P : Nat) : List UInt8 := txt ((pcs i).take P) ++ ((pcs i).getD P pz).b
theorem take_succP {ps : List Pc} {P : Nat} (h : P < ps.length) : ps.take (P + 1) = ps.take P ++ [ps.getD P pz] := by
  rw [List.take_succ_eq_append_getElem h]; simp [List.getD, h]
theorem prs_cut {i : Ins} (h : InF i) {m : Nat} (hm : m < mI i) : prs (bs (cutT i (j0I i + m - 1))) = (insZ, ((cutT i (j0I i + m - 1)).length : Int), 6) := by
  have hj2 : 2 ≤ j0I i := by unfold j0I; split <;> omega
  have hp := pcs_len h
  obtain ⟨P, hP⟩ : ∃ P, j0I i + m = P + 1 := ⟨j0I i + m - 1, by omega⟩
  rw [hP, Nat.add_sub_cancel]
  have hPl : P < (pcs i).length := by omega
  have hg := pcs_gd h
  have gq : gd ((pcs i).getD P pz) := by
    rw [show (pcs i).getD P pz = (pcs i)[P] by simp [List.getD, hPl]]; exact hg _ (List.getElem_mem hPl)
  have hlen : (cutT i P).length ≤ 65536 := by
    have hl := textB_len h
    rw [textB_txt h, ← List.take_append_drop (P + 1) (pcs i), txt_app, take_succP hPl, txt_app] at hl
    unfold cutT
    simp only [List.length_append, txt_cons] at hl ⊢
    omega
  have hs := txt_scanL (ps := (pcs i).take P) (fun p hp => hg p (List.mem_of_mem_take hp)) gq hlen
  have hR := rds_of ((pcs i).take P ++ [(pcs i).getD P pz]) ((cutT i P).length : Nat)
  rw [← take_succP hPl] at hs hR
  have hl2 : ((pcs i).take (P + 1)).length = P + 1 := by rw [List.length_take]; omega
  have he := hR.end_
  rw [hl2] at he
  have h1 := (pb_text (m := m) (fun j hj => by
    have := hR.at_ j (by omega)
    rwa [show ((pcs i).take (P + 1)).getD j pz = (pcs i).getD j pz by simp only [List.getD_eq_getElem?_getD]; rw [List.getElem?_take_of_lt (by omega)]] at this) h (by omega)).1 hm (by rw [hP]; exact he.1)
  have hs' : scan (bs (cutT i P)) = (toks 0 ((pcs i).take (P + 1)) ++ [⟨3, ⟨#[]⟩, 0, ((cutT i P).length : Int)⟩], 0, 0) := hs
  rw [(prs_of hs').2 (by rw [h1]; show (6 : Int) ≠ 0; decide), h1]
  show (insZ, (_ : Tok).a, (6 : Int)) = _
  rw [hP, he.2]
theorem cutT_step {i : Ins} {P : Nat} (hP : P + 1 < (pcs i).length) : cutT i (P + 1) = (cutT i P ++ [((pcs i).getD P pz).s]) ++ ((pcs i).getD (P + 1) pz).b := by
  unfold cutT; rw [take_succP (by omega), txt_app]; simp [txt]
theorem textB_cut {i : Ins} (h : InF i) {P : Nat} (hP : P + 1 = (pcs i).length) : textB i = cutT i P ++ [((pcs i).getD P pz).s] := by
  rw [textB_txt h]
  conv => lhs; rw [← List.take_length (l := pcs i), ← hP, take_succP (by omega), txt_app]
  unfold cutT; simp [txt]
theorem cutT_pre {i : Ins} (h : InF i) : ∀ (d P : Nat), P + d + 1 = (pcs i).length → ∃ r, textB i = cutT i P ++ ((pcs i).getD P pz).s :: r
  | 0, P, hP => ⟨[], by rw [textB_cut h hP]⟩
  | d + 1, P, hP => by
    obtain ⟨r, hr⟩ := cutT_pre h d (P + 1) (by omega)
    refine ⟨((pcs i).getD (P + 1) pz).b ++ ((pcs i).getD (P + 1) pz).s :: r, ?_⟩
    rw [hr, cutT_step (by omega)]; simp
theorem pcs_sep {i : Ins} : ∀ p ∈ pcs i, p.s = 32 ∨ p.s = 10 := by
  have hr : ∀ (l : List Int), ∀ p ∈ rowP l, p.s = 32 ∨ p.s = 10 := by
    intro l
    induction l with
    | nil => intro p hp; cases hp
    | cons x l ih =>
      intro p hp
      cases l with
      | nil => obtain rfl : p = nuP x 10 := by simpa [rowP] using hp
               exact .inr rfl
      | cons y l =>
        rw [rowP] at hp
        rcases List.mem_cons.1 hp with rfl | hp
        · exact .inl rfl
        · exact ih p hp
  intro p hp
  unfold pcs hdP at hp
  rcases List.mem_append.1 hp with hp | hp
  · split at hp
    · simp only [List.mem_cons, List.not_mem_nil, or_false] at hp
      rcases hp with rfl | rfl | rfl <;> simp [wdP, nuP]
    · split at hp
      · simp only [List.mem_cons, List.not_mem_nil, or_false] at hp
        rcases hp with rfl | rfl <;> simp [wdP, nuP]
      · simp only [List.mem_cons, List.not_mem_nil, or_false] at hp
        rcases hp with rfl | rfl | rfl <;> simp [wdP, nuP]
  · split at hp
    · obtain ⟨k, -, hk⟩ := List.mem_flatMap.1 hp; exact hr _ p hk
    · obtain ⟨k, -, hk⟩ := List.mem_flatMap.1 hp; exact hr _ p hk
theorem pcs_mem {i : Ins} {P : Nat} (h : P < (pcs i).length) : (pcs i).getD P pz ∈ pcs i := by
  rw [show (pcs i).getD P pz = (pcs i)[P] by simp [List.getD, h]]; exact List.getElem_mem h
theorem gd_bytes {p : Pc} (h : gd p) : 0 < p.b.length ∧ (∀ d, d < p.b.length → kb (bs p.b) d = if p.k = 1 then 3 else 2) := by
  obtain ⟨⟨-, h1, h2, -, h3⟩, -⟩ := h
  refine ⟨h1, fun d hd => ?_⟩
  rcases h3 with ⟨k, q, -⟩ | ⟨k, q, -⟩
  · have := q d hd; rw [Nat.zero_add] at this; rw [this, if_pos k]
  · have := q d hd; rw [Nat.zero_add] at this; rw [this, if_neg (by have k' : p.k = 2 := k; omega)]
theorem kindI_dg {c : Int} (h : kindI c = 2) : 48 ≤ c ∧ c ≤ 57 := by
  unfold kindI at h; (repeat' split at h) <;> first | (exfalso; omega) | omega
theorem kindI_nb {c : Int} (h : kindI c = 2 ∨ kindI c = 3) : ¬ (c = 32 ∨ c = 10) := by
  rintro (rfl | rfl) <;> revert h <;> decide
theorem cut_round {i : Ins} (h : InF i) {P : Nat} (hP : P + 1 < (pcs i).length) (hj : j0I i ≤ P + 1) :
  (∀ d, d < ((pcs i).getD (P + 1) pz).b.length → 48 ≤ byt (bs (textB i)) ((cutT i P).length + 1 + d) ∧ byt (bs (textB i)) ((cutT i P).length + 1 + d) ≤ 57) ∧ (byt (bs (textB i)) (cutT i P).length = 32 ∨ byt (bs (textB i)) (cutT i P).length = 10) ∧
  0 < (cutT i P).length ∧ ¬ (byt (bs (textB i)) ((cutT i P).length - 1) = 32 ∨ byt (bs (textB i)) ((cutT i P).length - 1) = 10) ∧ (cutT i (P + 1)).length = (cutT i P).length + 1 + ((pcs i).getD (P + 1) pz).b.length ∧ (cutT i (P + 1)).length < (textB i).length := by
 obtain ⟨r, hr⟩ := cutT_pre h ((pcs i).length - (P + 1) - 1) (P + 1) (by omega)
 have hst := cutT_step hP
 have hg := pcs_gd h
 have g1 := hg _ (pcs_mem hP)
 have g0 := hg _ (pcs_mem (show P < (pcs i).length by omega))
 obtain ⟨b0, b1⟩ := gd_bytes g1
 obtain ⟨c0, c1⟩ := gd_bytes g0
 have hs0 := pcs_sep _ (pcs_mem (show P < (pcs i).length by omega))
 have hk : ((pcs i).getD (P + 1) pz).k = 2 := by
  have := (pcs_num h (q := P + 1 - j0I i) (by have := pcs_len h; omega)).1
  rwa [show j0I i + (P + 1 - j0I i) = P + 1 by omega] at this
 have e1 : textB i = cutT i P ++ (((pcs i).getD P pz).s :: (((pcs i).getD (P + 1) pz).b ++ ((pcs i).getD (P + 1) pz).s :: r)) := by rw [hr, hst]; simp only [List.append_assoc, List.cons_append, List.nil_append]
 have e2 : textB i = (cutT i P ++ [((pcs i).getD P pz).s]) ++ (((pcs i).getD (P + 1) pz).b ++ ((pcs i).getD (P + 1) pz).s :: r) := by rw [e1]; simp only [List.append_assoc, List.cons_append, List.nil_append]
 have l2 : (cutT i P ++ [((pcs i).getD P pz).s]).length = (cutT i P).length + 1 := by simp
 have hcl : (cutT i P).length = (txt ((pcs i).take P)).length + ((pcs i).getD P pz).b.length := by unfold cutT; rw [List.length_append]
 refine ⟨fun d hd => ?_, ?_, by omega, ?_, by rw [hst]; simp only [List.length_append, List.length_cons, List.length_nil], by rw [hr]; simp only [List.length_append, List.length_cons]; omega⟩
 ·
  have hb : byt (bs (textB i)) ((cutT i P).length + 1 + d) = byt (bs ((pcs i).getD (P + 1) pz).b) d := by
   rw [e2, ← l2, byt_mid (by simp only [List.length_append, List.length_cons]; omega), byt_left hd]
  rw [hb]
  have := b1 d hd
  rw [hk, if_neg (by decide), kb_in (by rw [bs_size]; exact hd)] at this
  exact kindI_dg this
 ·
  have hb : byt (bs (textB i)) ((cutT i P).length + 0) = byt (bs (((pcs i).getD P pz).s :: (((pcs i).getD (P + 1) pz).b ++ ((pcs i).getD (P + 1) pz).s :: r))) 0 := by
   rw [e1, byt_mid (by simp)]
  rw [Nat.add_zero] at hb
  rw [hb, show bs (((pcs i).getD P pz).s :: (((pcs i).getD (P + 1) pz).b ++ ((pcs i).getD (P + 1) pz).s :: r)) = ⟨(((pcs i).getD P pz).s :: (((pcs i).getD (P + 1) pz).b ++ ((pcs i).getD (P + 1) pz).s :: r)).toArray⟩ from rfl, byt_mk (by simp)]
  rw [List.getElem_cons_zero]
  rcases hs0 with q | q <;> rw [q] <;> decide
 ·
  have hb : byt (bs (textB i)) ((cutT i P).length - 1) = byt (bs ((pcs i).getD P pz).b) (((pcs i).getD P pz).b.length - 1) := by
   rw [e1, byt_left (by omega), show (cutT i P).length - 1 = (txt ((pcs i).take P)).length + (((pcs i).getD P pz).b.length - 1) by omega]
   unfold cutT; rw [byt_mid (by omega)]
  rw [hb]
  have := c1 (((pcs i).getD P pz).b.length - 1) (by omega)
  rw [kb_in (by rw [bs_size]; omega)] at this
  refine kindI_nb ?_
  split at this
  · exact .inr this
  · exact .inl this
theorem cut_bytes {i : Ins} (h : InF i) {P : Nat} (hP : P < (pcs i).length) : (bs (textB i)).extract 0 (cutT i P).length = bs (cutT i P) := by
  obtain ⟨r, hr⟩ := cutT_pre h ((pcs i).length - P - 1) P (by omega)
  rw [hr]
  refine ba_ext (by rw [size_ext (by rw [bs_size]; simp), bs_size]; omega) (fun j hj => ?_)
  rw [size_ext (by rw [bs_size]; simp)] at hj
  rw [byt_ext (by omega) (by rw [bs_size]; simp), Nat.zero_add, byt_left (by omega)]
end Go.Proofs.YtakfcekfmdjklaaDoor
namespace Go.Proofs.YtakfcekfmdjklaaDoor
open Go.RowKit
theorem wtxt_ok {i : Ins} (h : chk i = 0) : wtxt i = textB i := if_pos h
theorem umodN (x y : Int) (h : 1 ≤ y ∧ y ≤ 64) : ∃ m : Nat, (m : Int) < y ∧ IntKind.i64.wrap (IntKind.u64.wrap x % IntKind.u64.wrap y) = (m : Int) := by
  have e : IntKind.u64.wrap y = y := by rw [IntKind.wrap_u64]; omega
  rw [e]
  have h1 := Int.emod_nonneg (IntKind.u64.wrap x) (show y ≠ 0 by omega)
  have h2 := Int.emod_lt_of_pos (IntKind.u64.wrap x) (show 0 < y by omega)
  exact ⟨(IntKind.u64.wrap x % y).toNat, by omega, by rw [IntKind.wrap_i64]; omega⟩
theorem umod_nn (x y : Int) (h : 1 ≤ y ∧ y ≤ 64) : 0 ≤ IntKind.u64.wrap x ∧ IntKind.u64.wrap y ≠ 0 := by
  have e : IntKind.u64.wrap y = y := by rw [IntKind.wrap_u64]; omega
  rw [e, IntKind.wrap_u64]; omega
set_option maxRecDepth 100000 in
set_option maxHeartbeats 400000 in
theorem parseCuts_w (i : Ins) (ax3 : Option Addr) (cx3 : Nat) (ax4 : Option Addr) (cx4 : Nat) (ax5 : Option Addr) (cx5 : Nat) (cut : Int) (w : World) (hx3 : IntSl w (.slice ax3 i.wt.length cx3) i.wt) (hx4 : IntSl w (.slice ax4 i.vl.length cx4) i.vl) (hx5 : RowsV w (.slice ax5 i.cost.length cx5) i.cost) (htab : Lib.TabIs Tryd.prog w "internal/strconv.uint64pow10" .u64 Lib.pow10Tab) (hut : U8T w) :
  Calls Tryd.prog 12 #[.agg #[.int .i64 i.kind, .int .i64 i.n, .int .i64 i.cap, .slice ax3 i.wt.length cx3, .slice ax4 i.vl.length cx4, .slice ax5 i.cost.length cx5], .int .i64 cut] w fun e w' => e = .returned (.bool true) ∧ Below w.heap.size w w' := by
 have hbs := Below.refl (B := w.heap.size) w
 have hM := Mem.start w
 refine Calls.of_ends (vs := [.agg #[.int .i64 i.kind, .int .i64 i.n, .int .i64 i.cap, .slice ax3 i.wt.length cx3, .slice ax4 i.vl.length cx4, .slice ax5 i.cost.length cx5], .int .i64 cut]) Tryd.func12 rfl Tryd.ntmps12 rfl ?_
 intro a hA
 replace hA : St 114 [(0, _), (1, _)] a := hA
 refine Ends.seq (Ends.region ?_)
 refine S.box hA hM rfl rfl ?_; clear hA hM a; intro b1 w1 hb2 hM a hA
 replace hM : Mem _ _ [pt b1 #[.int .i64 i.kind, .int .i64 i.n, .int .i64 i.cap, .slice ax3 i.wt.length cx3, .slice ax4 i.vl.length cx4, .slice ax5 i.cost.length cx5] 25] _ := hM
 refine S.val hA (R.assign rfl) rfl ?_; clear hA a; intro a hA
 refine S.done ?_
 refine Ends.seq (Ends.region ?_)
 refine S.val hA (R.loadA sz25 rfl (hM.range (k := 0) rfl) rfl) rfl ?_; clear hA a; intro a hA
 obtain ⟨G, hGy⟩ : ∃ G, G = cutI i := ⟨_, rfl⟩
 have hsmy : smallI G := by rw [hGy]; exact cutI_small _
 have hscy := cutI_of_small hsmy
 have hsy1 := hsmy.1
 have hsy2 := hsmy.2.1
 have hsy3 := hsmy.2.2.1
 refine S.call hA (R.callF Tryd.func16 rfl rfl rfl) rfl (copyG i ax3 cx3 ax4 cx4 ax5 cx5 G hGy _ (hx3.mem hM) (hx4.mem hM) (hx5.mem hM)) ?_; clear hA a
 rintro e w2 ⟨ay3, cy3, ay4, cy4, ay5, cy5, rsy, rfl, hYy, hn⟩
 replace hM : Mem _ _ [bundle (insL 3 22 G ay3 cy3 ay4 cy4 ay5 cy5 rsy), pt b1 #[.int .i64 i.kind, .int .i64 i.n, .int .i64 i.cap, .slice ax3 i.wt.length cx3, .slice ax4 i.vl.length cx4, .slice ax5 i.cost.length cx5] 25] _ := hM.call hn; clear hn
 refine ⟨.agg #[.int .i64 G.kind, .int .i64 G.n, .int .i64 G.cap, .slice ay3 G.wt.length cy3, .slice ay4 G.vl.length cy4, .slice ay5 rsy.length cy5], rfl, fun a hA => ?_⟩
 refine S.storeA (k := 1) hA hM sz25 rfl rfl rfl rfl rfl rfl ?_; clear hM
 intro w3 hM
 replace hM : Mem _ _ [bundle (insL 3 22 G ay3 cy3 ay4 cy4 ay5 cy5 rsy), pt b1 #[.int .i64 G.kind, .int .i64 G.n, .int .i64 G.cap, .slice ay3 G.wt.length cy3, .slice ay4 G.vl.length cy4, .slice ay5 rsy.length cy5] 25] _ := hM
 refine S.done ?_
 replace hA : St 114 [(1, _), (2, _)] a := hA.sub ((.cons rfl (.cons rfl .nil)))
 refine Ends.seq ?_
 obtain ⟨-, hy3, hy4, hy5⟩ := insR_of hM (k := 0) rfl hYy
 have hlcy : rsy.length = G.cost.length := by rw [← hYy, List.length_map]
 replace hM := hM.drop 0
 rw [hlcy] at hM
 replace hM : Mem _ _ [pt b1 #[.int .i64 G.kind, .int .i64 G.n, .int .i64 G.cap, .slice ay3 G.wt.length cy3, .slice ay4 G.vl.length cy4, .slice ay5 G.cost.length cy5] 25] _ := hM
 have hbx3 := hM.block (k := 0) rfl
 have hbs := hbs.trans (hM.below.mono hbs.size)
 have hx3 := hx3.mem hM
 have hx4 := hx4.mem hM
 have hx5 := hx5.mem hM
 replace hM := Mem.start w3
 refine Ends.region ?_
 refine S.val hA (R.loadA sz25 rfl (hM.oldRange hbx3) rfl) rfl ?_; clear hA a; intro a hA
 refine S.call hA (R.callF Tryd.func20 rfl rfl rfl) rfl (write05 G ay3 cy3 ay4 cy4 ay5 cy5 ⟨by omega, by omega⟩ _ (hy3.mem hM) (hy4.mem hM) (hy5.mem hM) (tab_below htab (Mem.trans0 hbs hM.nilL))) ?_; clear hA a
 rintro e w4 ⟨rfl, hb⟩
 replace hM := hM.callB hb; clear hb
 refine ⟨.tuple #[.string ((bs (wtxt G))), .int .i64 (chk G)], rfl, fun a hA => ?_⟩
 refine S.val hA (R.move rfl) rfl ?_; clear hA a; intro a hA
 refine S.val hA (R.extract (v := .string ((bs (wtxt G)))) rfl rfl) rfl ?_; clear hA a; intro a hA
 refine S.val hA (R.extract (v := .int .i64 (chk G)) rfl rfl) rfl ?_; clear hA a; intro a hA
 refine S.val hA (R.assign rfl) rfl ?_; clear hA a; intro a hA
 refine S.val hA (R.assign rfl) rfl ?_; clear hA a; intro a hA
 refine S.done ?_
 replace hA : St 114 [(1, _), (2, _), (5, _), (6, _)] a := hA.sub ((.cons rfl (.cons rfl (.cons rfl (.cons rfl .nil)))))
 refine Ends.seq (Ends.seq (Ends.region ?_))
 refine S.call hA (R.callF Tryd.func27 rfl rfl rfl) rfl (parses_any _ (U8T.below hut (Mem.trans0 hbs hM.nilL))) ?_; clear hA a
 rintro e w5 ⟨rfl, hb⟩
 replace hM := hM.callB hb; clear hb
 refine ⟨.bool true, rfl, fun a hA => ?_⟩
 refine S.val hA (R.not rfl) rfl ?_; clear hA a; intro a hA
 refine S.val hA (R.move rfl) rfl ?_; clear hA a; intro a hA
 refine S.valg (dj := 21) hA (by kernel_rfl) rfl (R.move rfl) rfl ?_; clear hA a; intro a hA
 refine S.valg (dj := 21) hA (by kernel_rfl) rfl (R.neq rfl rfl) rfl ?_; clear hA a; intro a hA
 refine S.val hA (R.pickF rfl rfl) rfl ?_; clear hA a; intro a hA
 refine S.done ?_
 replace hA : St 114 [(1, _), (2, _), (5, _), (24, _)] a := hA.sub ((.cons rfl (.cons rfl (.cons rfl (.cons rfl .nil)))))
 refine Ends.ite hA rfl (fun hc4 => ?_) (fun hc4 => ?_)
 ·
  refine Ends.seq (Ends.region ?_)
  refine S.call hA (R.callF Tryd.func27 rfl rfl rfl) rfl (parses_any _ (U8T.below hut (Mem.trans0 hbs hM.nilL))) ?_; clear hA a
  rintro e w6 ⟨rfl, hb⟩
  replace hM := hM.callB hb; clear hb
  refine ⟨.bool true, rfl, fun a hA => ?_⟩
  refine S.val hA (R.assign rfl) rfl ?_; clear hA a; intro a hA
  refine S.done ?_
  refine Ends.ret1 Tryd.func12 Tryd.results12 hA rfl ?_
  exact ⟨rfl, Mem.trans0 hbs hM.nilL⟩
 ·
  have hz : chk G = 0 := Decidable.not_not.1 hc4
  have hF := chk_inF hz
  have hn1 := hF.n1
  have hn64 := hF.n64
  have htl := textB_len hF
  have hpl := pcs_len hF
  rw [wtxt_ok hz] at hA
  have hbz : (bs (textB G)).size = (textB G).length := bs_size _
  have hmI : G.n.toNat ≤ mI G := by unfold mI; split; omega; exact Nat.le_mul_of_pos_left _ (by omega)
  have hj2 : 2 ≤ j0I G := by unfold j0I; split <;> omega
  obtain ⟨P0, hP0⟩ : ∃ P0, P0 + 1 = (pcs G).length := ⟨(pcs G).length - 1, by omega⟩
  have htc := textB_cut hF hP0
  have htc2 : (textB G).length = (cutT G P0).length + 1 := by rw [htc]; simp
  refine Ends.skip (Ends.seq (Ends.region ?_))
  refine S.val hA (R.move rfl) rfl ?_; clear hA a; intro a hA
  refine S.val hA (R.to (v := .string (bs (textB G ++ ([53] : List UInt8)))) (R.addS rfl rfl (by show (bs (textB G)).size + (bs (([53] : List UInt8))).size ≤ _; simp only [bs_size, List.length_append, List.length_cons, List.length_nil]; omega)) (congrArg Value.string (bs_app (textB G) (([53] : List UInt8))))) rfl ?_; clear hA a; intro a hA
  refine S.call hA (R.callF Tryd.func28 rfl rfl rfl) rfl (parse_eq (bs (textB G ++ ([53] : List UInt8))) (by rw [bs_size]; simp only [List.length_append, List.length_cons, List.length_nil]; omega) insZ _ 7 (prs_tail hF) _ (U8T.below hut (Mem.trans0 hbs hM.nilL))) ?_; clear hA a
  rintro e w7 ⟨ap53, cp53, ap54, cp54, ap55, cp55, rfl, ⟨hp53, hp54, hp55⟩, hb⟩
  replace hM := hM.callB hb; clear hb
  have hbs := hbs.trans (hM.below.mono hbs.size)
  have hx3 := hx3.mem hM
  have hx4 := hx4.mem hM
  have hx5 := hx5.mem hM
  have hy3 := hy3.mem hM
  have hy4 := hy4.mem hM
  have hy5 := hy5.mem hM
  have hbx3 := hM.keepB hbx3
  replace hM := Mem.start w7
  refine ⟨.tuple #[.agg #[.int .i64 insZ.kind, .int .i64 insZ.n, .int .i64 insZ.cap, .slice ap53 insZ.wt.length cp53, .slice ap54 insZ.vl.length cp54, .slice ap55 insZ.cost.length cp55], .int .i64 (((textB G).length : Int)), .int .i64 7], rfl, fun a hA => ?_⟩
  refine S.val hA (R.move rfl) rfl ?_; clear hA a; intro a hA
  refine S.val hA (R.extract (v := .agg #[.int .i64 insZ.kind, .int .i64 insZ.n, .int .i64 insZ.cap, .slice ap53 insZ.wt.length cp53, .slice ap54 insZ.vl.length cp54, .slice ap55 insZ.cost.length cp55]) rfl rfl) rfl ?_; clear hA a; intro a hA
  refine S.val hA (R.extract (v := .int .i64 (((textB G).length : Int))) rfl rfl) rfl ?_; clear hA a; intro a hA
  refine S.val hA (R.extract (v := .int .i64 7) rfl rfl) rfl ?_; clear hA a; intro a hA
  refine S.alloc hA hM info25 rfl rfl ?_; clear hA hM a; intro b6 w8 hb7 hM a hA
  replace hM : Mem _ _ [pt b6 cz0 25] _ := hM
  refine S.storeA (k := 0) hA hM sz25 rfl rfl rfl rfl rfl rfl ?_; clear hM
  intro w9 hM
  replace hM : Mem _ _ [pt b6 #[.int .i64 insZ.kind, .int .i64 insZ.n, .int .i64 insZ.cap, .slice ap53 insZ.wt.length cp53, .slice ap54 insZ.vl.length cp54, .slice ap55 insZ.cost.length cp55] 25] _ := hM
  refine S.val hA (R.assign rfl) rfl ?_; clear hA a; intro a hA
  refine S.val hA (R.assign rfl) rfl ?_; clear hA a; intro a hA
  refine S.done ?_
  replace hA : St 114 [(1, _), (2, _), (5, _), (8, _), (9, _)] a := hA.sub ((.cons rfl (.cons rfl (.cons rfl (.cons rfl (.cons rfl .nil))))))
  refine Ends.seq (Ends.seq (Ends.region ?_))
  refine S.val hA (R.move rfl) rfl ?_; clear hA a; intro a hA
  refine S.val hA (R.ff (R.neq rfl rfl) (by first | decide | simp | omega)) rfl ?_; clear hA a; intro a hA
  refine S.val hA (R.move rfl) rfl ?_; clear hA a; intro a hA
  refine S.valg (dj := 35) hA (by kernel_rfl) rfl (R.move rfl) rfl ?_; clear hA a; intro a hA
  refine S.valg (dj := 35) hA (by kernel_rfl) rfl (R.move rfl) rfl ?_; clear hA a; intro a hA
  refine S.valg (dj := 35) hA (by kernel_rfl) rfl (R.lenStr Tryd.underlying9 rfl rfl) rfl ?_; clear hA a; intro a hA
  refine S.valg (dj := 35) hA (by kernel_rfl) rfl (R.ff (R.neq rfl rfl) (by rw [hbz]; simp)) rfl ?_; clear hA a; intro a hA
  refine S.val hA (R.pickF rfl rfl) rfl ?_; clear hA a; intro a hA
  refine S.done ?_
  replace hA : St 114 [(1, _), (2, _), (5, _), (40, _)] a := hA.sub ((.cons rfl (.cons rfl (.cons rfl (.cons rfl .nil)))))
  refine Ends.condF hA rfl ?_
  refine Ends.skip (Ends.seq (Ends.region ?_))
  refine S.val hA (R.move rfl) rfl ?_; clear hA a; intro a hA
  refine S.val hA (R.lenStr Tryd.underlying9 rfl rfl) rfl ?_; clear hA a; intro a hA
  refine S.val hA (R.subI rfl rfl (r := ((((bs (textB G))).size : Int)) - 1) rfl (by first | omega | exact umod_nn _ _ ⟨hn1, hn64⟩ | (rw [hbz]; omega))) rfl ?_; clear hA a; intro a hA
  refine S.val hA (R.assign rfl) rfl ?_; clear hA a; intro a hA
  refine S.done ?_
  replace hA : St 114 [(1, _), (2, _), (5, _), (10, _)] a := hA.sub ((.cons rfl (.cons rfl (.cons rfl (.cons rfl .nil)))))
  refine Ends.seq (Ends.seq (Ends.region ?_))
  refine S.val hA (R.move rfl) rfl ?_; clear hA a; intro a hA
  refine S.val hA (R.conv Tryd.underlying38 Tryd.underlying3 rfl) rfl ?_; clear hA a; intro a hA
  refine S.val hA (R.fieldAddr (q := 1) fi25_1 rfl rfl rfl) rfl ?_; clear hA a; intro a hA
  refine S.val hA (R.load sz3 rfl (hM.cellB hbx3 rfl)) rfl ?_; clear hA a; intro a hA
  refine S.val hA (R.conv Tryd.underlying38 Tryd.underlying3 rfl) rfl ?_; clear hA a; intro a hA
  refine S.val hA (R.remI rfl rfl (r := IntKind.u64.wrap cut % IntKind.u64.wrap G.n) (by first | omega | exact umod_nn _ _ ⟨hn1, hn64⟩ | (rw [hbz]; omega)) (by first | omega | exact umod_nn _ _ ⟨hn1, hn64⟩ | (rw [hbz]; omega))) rfl ?_; clear hA a; intro a hA
  obtain ⟨m, hm, hme⟩ := umodN cut G.n ⟨hn1, hn64⟩
  refine S.val hA (R.to (v := .int .i64 (m : Int)) (R.conv Tryd.underlying3 Tryd.underlying38 rfl) (congrArg (Value.int .i64) hme)) rfl ?_; clear hA a; intro a hA
  refine S.val hA (R.assign rfl) rfl ?_; clear hA a; intro a hA
  refine S.done ?_
  rw [show (m : Int) = (m : Int) - ((0 : Nat) : Int) by omega] at hA
  replace hA : St 114 [(5, _), (10, _), (11, _)] a := hA.sub ((.cons rfl (.cons rfl (.cons rfl .nil))))
  refine Ends.block ?_
  rw [show ((bs (textB G)).size : Int) - 1 = ((cutT G (P0 - 0)).length : Int) by rw [Nat.sub_zero]; omega] at hA
  refine Ends.loop (σ := Nat) (fun c (a : Act) (wv : World) => St 114 [(5, .string ((bs (textB G)))), (10, .int .i64 (((cutT G (P0 - c)).length : Int))), (11, .int .i64 ((m : Int) - (c : Int)))] a ∧ Mem w7 nof [pt b6 #[.int .i64 insZ.kind, .int .i64 insZ.n, .int .i64 insZ.cap, .slice ap53 insZ.wt.length cp53, .slice ap54 insZ.vl.length cp54, .slice ap55 insZ.cost.length cp55] 25] wv ∧ (c ≤ m + 1)) (fun c => m + 1 - c) 0 ⟨hA.sub ((.cons rfl (.cons rfl (.cons rfl .nil)))), hM, (Nat.zero_le _)⟩ ?_
  clear hA hM a
  rintro c a w10 ⟨hA, hM, hc⟩ hNext
  refine Ends.seq (Ends.seq (Ends.region ?_))
  refine S.val hA (R.move rfl) rfl ?_; clear hA a; intro a hA
  refine S.val hA (R.geq rfl rfl) rfl ?_; clear hA a; intro a hA
  refine S.done ?_
  refine Ends.ite hA rfl (fun hc8 => ?_) (fun hc8 => ?_)
  ·
   have hcm : c ≤ m := by omega
   obtain ⟨P, hP⟩ : ∃ P, P0 - c = P + 1 := ⟨P0 - c - 1, by omega⟩
   obtain ⟨cr1, cr2, cr3, cr4, cr5, cr6⟩ := cut_round hF (P := P) (by omega) (by omega)
   obtain ⟨u9, hS⟩ : ∃ u9, (cutT G P).length = u9 := ⟨_, rfl⟩
   obtain ⟨pl, hpl2⟩ : ∃ pl, ((pcs G).getD (P + 1) pz).b.length = pl := ⟨_, rfl⟩
   rw [hS, hpl2] at cr5
   rw [hS] at cr1 cr2 cr3 cr4
   rw [hpl2] at cr1
   rw [hP] at hA
   rw [cr5] at hA cr6
   refine Ends.skip (Ends.seq (Ends.block (Ends.seq (Ends.block ?_))))
   refine Ends.loop (σ := Nat) (fun d (a : Act) (wv : World) => St 114 [(5, .string ((bs (textB G)))), (10, .int .i64 (((u9 + 1 + d : Nat) : Int))), (11, .int .i64 ((m : Int) - (c : Int)))] a ∧ Mem w7 nof [pt b6 #[.int .i64 insZ.kind, .int .i64 insZ.n, .int .i64 insZ.cap, .slice ap53 insZ.wt.length cp53, .slice ap54 insZ.vl.length cp54, .slice ap55 insZ.cost.length cp55] 25] wv ∧ (d ≤ pl)) (fun d => d) pl ⟨hA.sub ((.cons rfl (.cons rfl (.cons rfl .nil)))), hM, (Nat.le_refl _)⟩ ?_
   clear hA hM a
   rintro d a w11 ⟨hA, hM, hd⟩ hNext1
   refine Ends.seq (Ends.seq ?_)
   by_cases hs9 : d = 0
   ·
    refine Ends.region ?_
    refine S.val hA (R.move rfl) rfl ?_; clear hA a; intro a hA
    refine S.val hA (R.tt (R.gtr rfl rfl) (by omega)) rfl ?_; clear hA a; intro a hA
    refine S.val hA (R.move rfl) rfl ?_; clear hA a; intro a hA
    refine S.valg (dj := 57) hA (by kernel_rfl) rfl (R.move rfl) rfl ?_; clear hA a; intro a hA
    refine S.valg (dj := 57) hA (by kernel_rfl) rfl (R.move rfl) rfl ?_; clear hA a; intro a hA
    refine S.valg (dj := 57) hA (by kernel_rfl) rfl (R.subI rfl rfl (r := (((u9 + 1 + d : Nat) : Int)) - 1) rfl (by first | omega | exact umod_nn _ _ ⟨hn1, hn64⟩ | (rw [hbz]; omega))) rfl ?_; clear hA a; intro a hA
    refine S.valg (dj := 57) hA (by kernel_rfl) rfl (R.to (v := .int .u8 (byt ((bs (textB G))) ((u9 + d)))) (R.idxS Tryd.underlying9 rfl rfl (by first | omega | exact umod_nn _ _ ⟨hn1, hn64⟩ | (rw [hbz]; omega))) (by first | rfl | (congr 2; done) | (congr 2; omega))) rfl ?_; clear hA a; intro a hA
    refine S.valg (dj := 57) hA (by kernel_rfl) rfl (R.ff (R.geq rfl rfl) (by have h9 := cr2; have h8 := hs9; rw [show u9 + d = u9 by omega]; omega)) rfl ?_; clear hA a; intro a hA
    refine S.val hA (R.pickT rfl rfl) rfl ?_; clear hA a; intro a hA
    refine S.val hA (R.move rfl) rfl ?_; clear hA a; intro a hA
    refine S.no (dj := 64) hA (by kernel_rfl) rfl rfl rfl ?_; clear hA a; intro a hA
    refine S.no (dj := 64) hA (by kernel_rfl) rfl rfl rfl ?_; clear hA a; intro a hA
    refine S.no (dj := 64) hA (by kernel_rfl) rfl rfl rfl ?_; clear hA a; intro a hA
    refine S.no (dj := 64) hA (by kernel_rfl) rfl rfl rfl ?_; clear hA a; intro a hA
    refine S.no (dj := 64) hA (by kernel_rfl) rfl rfl rfl ?_; clear hA a; intro a hA
    refine S.val hA (R.pickF rfl rfl) rfl ?_; clear hA a; intro a hA
    refine S.done ?_
    replace hA : St 114 [(5, _), (10, _), (11, _), (70, _)] a := hA.sub ((.cons rfl (.cons rfl (.cons rfl (.cons rfl .nil)))))
    refine Ends.condF hA rfl ?_
    refine Ends.exit rfl ?_
    refine Ends.block ?_
    rw [show u9 + 1 + d = u9 + 1 by omega] at hA
    refine Ends.loop (σ := Nat) (fun f (a : Act) (wv : World) => St 114 [(5, .string ((bs (textB G)))), (10, .int .i64 (((u9 + f : Nat) : Int))), (11, .int .i64 ((m : Int) - (c : Int)))] a ∧ Mem w7 nof [pt b6 #[.int .i64 insZ.kind, .int .i64 insZ.n, .int .i64 insZ.cap, .slice ap53 insZ.wt.length cp53, .slice ap54 insZ.vl.length cp54, .slice ap55 insZ.cost.length cp55] 25] wv ∧ (f ≤ 1)) (fun f => f) 1 ⟨hA.sub ((.cons rfl (.cons rfl (.cons rfl .nil)))), hM, (Nat.le_refl _)⟩ ?_
    clear hA hM a
    rintro f a w12 ⟨hA, hM, hf⟩ hNext2
    refine Ends.seq (Ends.seq ?_)
    by_cases hs10 : f = 0
    ·
     refine Ends.region ?_
     refine S.val hA (R.move rfl) rfl ?_; clear hA a; intro a hA
     refine S.val hA (R.tt (R.gtr rfl rfl) (by omega)) rfl ?_; clear hA a; intro a hA
     refine S.val hA (R.move rfl) rfl ?_; clear hA a; intro a hA
     refine S.valg (dj := 75) hA (by kernel_rfl) rfl (R.move rfl) rfl ?_; clear hA a; intro a hA
     refine S.valg (dj := 75) hA (by kernel_rfl) rfl (R.move rfl) rfl ?_; clear hA a; intro a hA
     refine S.valg (dj := 75) hA (by kernel_rfl) rfl (R.subI rfl rfl (r := (((u9 + f : Nat) : Int)) - 1) rfl (by first | omega | exact umod_nn _ _ ⟨hn1, hn64⟩ | (rw [hbz]; omega))) rfl ?_; clear hA a; intro a hA
     refine S.valg (dj := 75) hA (by kernel_rfl) rfl (R.to (v := .int .u8 (byt ((bs (textB G))) ((u9 + f - 1)))) (R.idxS Tryd.underlying9 rfl rfl (by first | omega | exact umod_nn _ _ ⟨hn1, hn64⟩ | (rw [hbz]; omega))) (by first | rfl | (congr 2; done) | (congr 2; omega))) rfl ?_; clear hA a; intro a hA
     refine S.valg (dj := 75) hA (by kernel_rfl) rfl (R.ff (R.eql rfl rfl) (by have h9 := cr4; have h8 := hs10; rw [show u9 + f - 1 = u9 - 1 by omega]; omega)) rfl ?_; clear hA a; intro a hA
     refine S.valg (dj := 75) hA (by kernel_rfl) rfl (R.move rfl) rfl ?_; clear hA a; intro a hA
     refine S.valg (dj := 81) hA (by kernel_rfl) rfl (R.move rfl) rfl ?_; clear hA a; intro a hA
     refine S.valg (dj := 81) hA (by kernel_rfl) rfl (R.move rfl) rfl ?_; clear hA a; intro a hA
     refine S.valg (dj := 81) hA (by kernel_rfl) rfl (R.subI rfl rfl (r := (((u9 + f : Nat) : Int)) - 1) rfl (by first | omega | exact umod_nn _ _ ⟨hn1, hn64⟩ | (rw [hbz]; omega))) rfl ?_; clear hA a; intro a hA
     refine S.valg (dj := 81) hA (by kernel_rfl) rfl (R.to (v := .int .u8 (byt ((bs (textB G))) ((u9 + f - 1)))) (R.idxS Tryd.underlying9 rfl rfl (by first | omega | exact umod_nn _ _ ⟨hn1, hn64⟩ | (rw [hbz]; omega))) (by first | rfl | (congr 2; done) | (congr 2; omega))) rfl ?_; clear hA a; intro a hA
     refine S.valg (dj := 81) hA (by kernel_rfl) rfl (R.ff (R.eql rfl rfl) (by have h9 := cr4; have h8 := hs10; rw [show u9 + f - 1 = u9 - 1 by omega]; omega)) rfl ?_; clear hA a; intro a hA
     refine S.valg (dj := 75) hA (by kernel_rfl) rfl (R.pickF rfl rfl) rfl ?_; clear hA a; intro a hA
     refine S.val hA (R.pickT rfl rfl) rfl ?_; clear hA a; intro a hA
     refine S.done ?_
     replace hA : St 114 [(5, _), (10, _), (11, _), (88, _)] a := hA.sub ((.cons rfl (.cons rfl (.cons rfl (.cons rfl .nil)))))
     refine Ends.condF hA rfl ?_
     refine Ends.exit rfl ?_
     refine Ends.inBlock (Ends.region ?_)
     refine S.val hA (R.move rfl) rfl ?_; clear hA a; intro a hA
     refine S.val hA (R.subI rfl rfl (r := (m : Int) - ((c + 1 : Nat) : Int)) (by first | omega | exact umod_nn _ _ ⟨hn1, hn64⟩ | (rw [hbz]; omega)) (by first | omega | exact umod_nn _ _ ⟨hn1, hn64⟩ | (rw [hbz]; omega))) rfl ?_; clear hA a; intro a hA
     refine S.val hA (R.assign rfl) rfl ?_; clear hA a; intro a hA
     refine S.done ?_
     rw [show ((u9 + f : Nat) : Int) = ((cutT G (P0 - (c + 1))).length : Int) by rw [show P0 - (c + 1) = P by omega, hS, show u9 + f = u9 by omega]] at hA
     exact hNext ((c + 1)) _ _ ((by show m + 1 - (c + 1) < m + 1 - c; omega)) ⟨hA.sub ((.cons rfl (.cons rfl (.cons rfl .nil)))), hM, (by omega)⟩
    ·
     refine Ends.cut (fun (a : Act) (wv : World) => St 114 [(5, .string ((bs (textB G)))), (10, .int .i64 (((u9 + f : Nat) : Int))), (11, .int .i64 ((m : Int) - (c : Int))), (88, .bool (decide (((byt ((bs (textB G))) ((u9 + f - 1))) = 32 ∨ (byt ((bs (textB G))) ((u9 + f - 1))) = 10))))] a ∧ Mem w7 nof [pt b6 #[.int .i64 insZ.kind, .int .i64 insZ.n, .int .i64 insZ.cap, .slice ap53 insZ.wt.length cp53, .slice ap54 insZ.vl.length cp54, .slice ap55 insZ.cost.length cp55] 25] wv) ?_ (fun k2 hJ => ?_)
     ·
      clear hA hM a; rintro a w13 ⟨hA, hM⟩
      refine Ends.ite hA rfl (fun hc11 => ?_) (fun hc11 => ?_)
      ·
       refine Ends.skip (Ends.block (Ends.region ?_))
       refine S.val hA (R.move rfl) rfl ?_; clear hA a; intro a hA
       refine S.val hA (R.subI rfl rfl (r := ((u9 + (f - 1) : Nat) : Int)) (by first | omega | exact umod_nn _ _ ⟨hn1, hn64⟩ | (rw [hbz]; omega)) (by first | omega | exact umod_nn _ _ ⟨hn1, hn64⟩ | (rw [hbz]; omega))) rfl ?_; clear hA a; intro a hA
       refine S.val hA (R.assign rfl) rfl ?_; clear hA a; intro a hA
       refine S.done ?_
       refine Ends.inBlock ?_
       exact hNext2 ((f - 1)) _ _ ((by show f - 1 < f; omega)) ⟨hA.sub ((.cons rfl (.cons rfl (.cons rfl .nil)))), hM, (by omega)⟩
      · have h9 := cr2; rw [show u9 + f - 1 = u9 by omega] at hc11; omega
     ·
      refine Ends.region ?_
      refine S.val hA (R.move rfl) rfl ?_; clear hA a; intro a hA
      refine S.val hA (R.tt (R.gtr rfl rfl) (by omega)) rfl ?_; clear hA a; intro a hA
      refine S.val hA (R.move rfl) rfl ?_; clear hA a; intro a hA
      refine S.valg (dj := 75) hA (by kernel_rfl) rfl (R.move rfl) rfl ?_; clear hA a; intro a hA
      refine S.valg (dj := 75) hA (by kernel_rfl) rfl (R.move rfl) rfl ?_; clear hA a; intro a hA
      refine S.valg (dj := 75) hA (by kernel_rfl) rfl (R.subI rfl rfl (r := (((u9 + f : Nat) : Int)) - 1) rfl (by first | omega | exact umod_nn _ _ ⟨hn1, hn64⟩ | (rw [hbz]; omega))) rfl ?_; clear hA a; intro a hA
      refine S.valg (dj := 75) hA (by kernel_rfl) rfl (R.to (v := .int .u8 (byt ((bs (textB G))) ((u9 + f - 1)))) (R.idxS Tryd.underlying9 rfl rfl (by first | omega | exact umod_nn _ _ ⟨hn1, hn64⟩ | (rw [hbz]; omega))) (by first | rfl | (congr 2; done) | (congr 2; omega))) rfl ?_; clear hA a; intro a hA
      refine S.valg (dj := 75) hA (by kernel_rfl) rfl (R.eql rfl rfl) rfl ?_; clear hA a; intro a hA
      refine S.valg (dj := 75) hA (by kernel_rfl) rfl (R.move rfl) rfl ?_; clear hA a; intro a hA
      refine hA.split (d := 81) rfl ?_ ?_
      ·
       clear hA; intro hg12 hA
       refine S.no (dj := 81) hA (by kernel_rfl) rfl rfl rfl ?_; clear hA a; intro a hA
       refine S.no (dj := 81) hA (by kernel_rfl) rfl rfl rfl ?_; clear hA a; intro a hA
       refine S.no (dj := 81) hA (by kernel_rfl) rfl rfl rfl ?_; clear hA a; intro a hA
       refine S.no (dj := 81) hA (by kernel_rfl) rfl rfl rfl ?_; clear hA a; intro a hA
       refine S.no (dj := 81) hA (by kernel_rfl) rfl rfl rfl ?_; clear hA a; intro a hA
       refine S.valg (dj := 75) hA (by kernel_rfl) rfl (R.pickT rfl rfl) rfl ?_; clear hA a; intro a hA
       refine S.val hA (R.pickT rfl rfl) rfl ?_; clear hA a; intro a hA
       refine S.done ?_
       replace hA : St 114 [(5, _), (10, _), (11, _), (88, _)] a := hA.sub ((.cons rfl (.cons rfl (.cons rfl (.cons rfl .nil)))))
       exact hJ _ _ ⟨hA.sub (.cons rfl (.cons rfl (.cons rfl (.cons (by first | rfl | exact congrArg (fun b => some (Value.bool b)) (by first | exact decide_eq_decide.2 (by omega) | exact or_bool (by omega) | exact and_bool (by omega) | (simp; done) | (simp [hg12]; done) | (have h80 := hg12; (try simp at h80); simp [h80]; done) | exact (decide_eq_false (fun h9 => hg12 h9.1)).symm)) .nil)))), hM⟩
      ·
       clear hA; intro hg12 hA
       refine S.valg (dj := 81) hA (by kernel_rfl) rfl (R.move rfl) rfl ?_; clear hA a; intro a hA
       refine S.valg (dj := 81) hA (by kernel_rfl) rfl (R.move rfl) rfl ?_; clear hA a; intro a hA
       refine S.valg (dj := 81) hA (by kernel_rfl) rfl (R.subI rfl rfl (r := (((u9 + f : Nat) : Int)) - 1) rfl (by first | omega | exact umod_nn _ _ ⟨hn1, hn64⟩ | (rw [hbz]; omega))) rfl ?_; clear hA a; intro a hA
       refine S.valg (dj := 81) hA (by kernel_rfl) rfl (R.to (v := .int .u8 (byt ((bs (textB G))) ((u9 + f - 1)))) (R.idxS Tryd.underlying9 rfl rfl (by first | omega | exact umod_nn _ _ ⟨hn1, hn64⟩ | (rw [hbz]; omega))) (by first | rfl | (congr 2; done) | (congr 2; omega))) rfl ?_; clear hA a; intro a hA
       refine S.valg (dj := 81) hA (by kernel_rfl) rfl (R.eql rfl rfl) rfl ?_; clear hA a; intro a hA
       refine S.valg (dj := 75) hA (by kernel_rfl) rfl (R.pickF rfl rfl) rfl ?_; clear hA a; intro a hA
       refine S.val hA (R.pickT rfl rfl) rfl ?_; clear hA a; intro a hA
       refine S.done ?_
       replace hA : St 114 [(5, _), (10, _), (11, _), (88, _)] a := hA.sub ((.cons rfl (.cons rfl (.cons rfl (.cons rfl .nil)))))
       exact hJ _ _ ⟨hA.sub (.cons rfl (.cons rfl (.cons rfl (.cons (by first | rfl | exact congrArg (fun b => some (Value.bool b)) (by first | exact decide_eq_decide.2 (by omega) | exact or_bool (by omega) | exact and_bool (by omega) | (simp; done) | (simp [hg12]; done) | (have h80 := hg12; (try simp at h80); simp [h80]; done) | exact (decide_eq_false (fun h9 => hg12 h9.1)).symm)) .nil)))), hM⟩
   ·
    refine Ends.region ?_
    refine S.val hA (R.move rfl) rfl ?_; clear hA a; intro a hA
    refine S.val hA (R.tt (R.gtr rfl rfl) (by omega)) rfl ?_; clear hA a; intro a hA
    refine S.val hA (R.move rfl) rfl ?_; clear hA a; intro a hA
    refine S.valg (dj := 57) hA (by kernel_rfl) rfl (R.move rfl) rfl ?_; clear hA a; intro a hA
    refine S.valg (dj := 57) hA (by kernel_rfl) rfl (R.move rfl) rfl ?_; clear hA a; intro a hA
    refine S.valg (dj := 57) hA (by kernel_rfl) rfl (R.subI rfl rfl (r := (((u9 + 1 + d : Nat) : Int)) - 1) rfl (by first | omega | exact umod_nn _ _ ⟨hn1, hn64⟩ | (rw [hbz]; omega))) rfl ?_; clear hA a; intro a hA
    refine S.valg (dj := 57) hA (by kernel_rfl) rfl (R.to (v := .int .u8 (byt ((bs (textB G))) ((u9 + d)))) (R.idxS Tryd.underlying9 rfl rfl (by first | omega | exact umod_nn _ _ ⟨hn1, hn64⟩ | (rw [hbz]; omega))) (by first | rfl | (congr 2; done) | (congr 2; omega))) rfl ?_; clear hA a; intro a hA
    refine S.valg (dj := 57) hA (by kernel_rfl) rfl (R.tt (R.geq rfl rfl) (by have h8 := hs9; have h9 := cr1 (d - 1) (by omega); rw [show u9 + 1 + (d - 1) = u9 + d by omega] at h9; omega)) rfl ?_; clear hA a; intro a hA
    refine S.val hA (R.pickT rfl rfl) rfl ?_; clear hA a; intro a hA
    refine S.val hA (R.move rfl) rfl ?_; clear hA a; intro a hA
    refine S.valg (dj := 64) hA (by kernel_rfl) rfl (R.move rfl) rfl ?_; clear hA a; intro a hA
    refine S.valg (dj := 64) hA (by kernel_rfl) rfl (R.move rfl) rfl ?_; clear hA a; intro a hA
    refine S.valg (dj := 64) hA (by kernel_rfl) rfl (R.subI rfl rfl (r := (((u9 + 1 + d : Nat) : Int)) - 1) rfl (by first | omega | exact umod_nn _ _ ⟨hn1, hn64⟩ | (rw [hbz]; omega))) rfl ?_; clear hA a; intro a hA
    refine S.valg (dj := 64) hA (by kernel_rfl) rfl (R.to (v := .int .u8 (byt ((bs (textB G))) ((u9 + d)))) (R.idxS Tryd.underlying9 rfl rfl (by first | omega | exact umod_nn _ _ ⟨hn1, hn64⟩ | (rw [hbz]; omega))) (by first | rfl | (congr 2; done) | (congr 2; omega))) rfl ?_; clear hA a; intro a hA
    refine S.valg (dj := 64) hA (by kernel_rfl) rfl (R.tt (R.leq rfl rfl) (by have h8 := hs9; have h9 := cr1 (d - 1) (by omega); rw [show u9 + 1 + (d - 1) = u9 + d by omega] at h9; omega)) rfl ?_; clear hA a; intro a hA
    refine S.val hA (R.pickT rfl rfl) rfl ?_; clear hA a; intro a hA
    refine S.done ?_
    replace hA : St 114 [(5, _), (10, _), (11, _), (70, _)] a := hA.sub ((.cons rfl (.cons rfl (.cons rfl (.cons rfl .nil)))))
    refine Ends.condT hA rfl ?_
    refine Ends.skip (Ends.block (Ends.region ?_))
    refine S.val hA (R.move rfl) rfl ?_; clear hA a; intro a hA
    refine S.val hA (R.subI rfl rfl (r := ((u9 + 1 + (d - 1) : Nat) : Int)) (by first | omega | exact umod_nn _ _ ⟨hn1, hn64⟩ | (rw [hbz]; omega)) (by first | omega | exact umod_nn _ _ ⟨hn1, hn64⟩ | (rw [hbz]; omega))) rfl ?_; clear hA a; intro a hA
    refine S.val hA (R.assign rfl) rfl ?_; clear hA a; intro a hA
    refine S.done ?_
    refine Ends.inBlock ?_
    exact hNext1 ((d - 1)) _ _ ((by show d - 1 < d; omega)) ⟨hA.sub ((.cons rfl (.cons rfl (.cons rfl .nil)))), hM, (by omega)⟩
  ·
   have hcm : c = m + 1 := by omega
   subst hcm
   have hext := cut_bytes hF (P := P0 - (m + 1)) (by omega)
   have hclen : (cutT G (P0 - (m + 1))).length ≤ (textB G).length := by obtain ⟨r9, hr9⟩ := cutT_pre hF (m + 1) (P0 - (m + 1)) (by omega); rw [hr9]; simp
   refine Ends.exit rfl ?_
   refine Ends.seq (Ends.region ?_)
   refine S.val hA (R.move rfl) rfl ?_; clear hA a; intro a hA
   refine S.val hA (R.move rfl) rfl ?_; clear hA a; intro a hA
   refine S.val hA (R.to (v := .string ((((bs (textB G))).extract 0 ((cutT G (P0 - (m + 1))).length)))) (R.sliceSH Tryd.underlying9 rfl rfl (by first | omega | exact umod_nn _ _ ⟨hn1, hn64⟩ | (rw [hbz]; omega))) (by first | rfl | (congr 2; done) | (congr 2 <;> omega))) rfl ?_; clear hA a; intro a hA
   refine S.call hA (R.callF Tryd.func28 rfl rfl rfl) rfl (parse_eq ((((bs (textB G))).extract 0 ((cutT G (P0 - (m + 1))).length))) (by rw [hext, bs_size]; omega) insZ ((cutT G (P0 - (m + 1))).length : Int) 6 (by rw [hext, show P0 - (m + 1) = j0I G + (mI G - (m + 1)) - 1 by omega]; exact prs_cut hF (by omega)) _ (U8T.below hut (Mem.trans0 hbs hM.nilL))) ?_; clear hA a
   rintro e w14 ⟨ap133, cp133, ap134, cp134, ap135, cp135, rfl, ⟨hp133, hp134, hp135⟩, hb⟩
   replace hM := hM.callB hb; clear hb
   have hbx14 := hM.block (k := 0) rfl
   have hbs := hbs.trans (hM.below.mono hbs.size)
   have hx3 := hx3.mem hM
   have hx4 := hx4.mem hM
   have hx5 := hx5.mem hM
   have hy3 := hy3.mem hM
   have hy4 := hy4.mem hM
   have hy5 := hy5.mem hM
   have hp53 := hp53.mem hM
   have hp54 := hp54.mem hM
   have hp55 := hp55.mem hM
   have hbx3 := hM.keepB hbx3
   replace hM := Mem.start w14
   refine ⟨.tuple #[.agg #[.int .i64 insZ.kind, .int .i64 insZ.n, .int .i64 insZ.cap, .slice ap133 insZ.wt.length cp133, .slice ap134 insZ.vl.length cp134, .slice ap135 insZ.cost.length cp135], .int .i64 (((cutT G (P0 - (m + 1))).length : Int)), .int .i64 6], rfl, fun a hA => ?_⟩
   refine S.val hA (R.move rfl) rfl ?_; clear hA a; intro a hA
   refine S.val hA (R.extract (v := .agg #[.int .i64 insZ.kind, .int .i64 insZ.n, .int .i64 insZ.cap, .slice ap133 insZ.wt.length cp133, .slice ap134 insZ.vl.length cp134, .slice ap135 insZ.cost.length cp135]) rfl rfl) rfl ?_; clear hA a; intro a hA
   refine S.val hA (R.extract (v := .int .i64 (((cutT G (P0 - (m + 1))).length : Int))) rfl rfl) rfl ?_; clear hA a; intro a hA
   refine S.val hA (R.extract (v := .int .i64 6) rfl rfl) rfl ?_; clear hA a; intro a hA
   refine S.val hA (R.assign rfl) rfl ?_; clear hA a; intro a hA
   refine S.val hA (R.assign rfl) rfl ?_; clear hA a; intro a hA
   refine S.done ?_
   replace hA : St 114 [(8, _), (9, _), (10, _)] a := hA.sub ((.cons rfl (.cons rfl (.cons rfl .nil))))
   refine Ends.seq (Ends.region ?_)
   refine S.val hA (R.move rfl) rfl ?_; clear hA a; intro a hA
   refine S.val hA (R.tt (R.eql rfl rfl) (by first | decide | simp | omega)) rfl ?_; clear hA a; intro a hA
   refine S.val hA (R.move rfl) rfl ?_; clear hA a; intro a hA
   refine S.valg (dj := 101) hA (by kernel_rfl) rfl (R.move rfl) rfl ?_; clear hA a; intro a hA
   refine S.valg (dj := 101) hA (by kernel_rfl) rfl (R.move rfl) rfl ?_; clear hA a; intro a hA
   refine S.valg (dj := 101) hA (by kernel_rfl) rfl (R.tt (R.eql rfl rfl) (rfl)) rfl ?_; clear hA a; intro a hA
   refine S.val hA (R.pickT rfl rfl) rfl ?_; clear hA a; intro a hA
   refine S.val hA (R.move rfl) rfl ?_; clear hA a; intro a hA
   refine S.no (dj := 106) hA (by kernel_rfl) rfl rfl rfl ?_; clear hA a; intro a hA
   refine S.no (dj := 106) hA (by kernel_rfl) rfl rfl rfl ?_; clear hA a; intro a hA
   refine S.no (dj := 106) hA (by kernel_rfl) rfl rfl rfl ?_; clear hA a; intro a hA
   refine S.noU (dj := 109) hA (by kernel_rfl) rfl rfl ?_; clear hA a; intro a hA
   refine S.noU (dj := 109) hA (by kernel_rfl) rfl rfl ?_; clear hA a; intro a hA
   refine S.no (dj := 106) hA (by kernel_rfl) rfl rfl rfl ?_; clear hA a; intro a hA
   refine S.val hA (R.pickT rfl rfl) rfl ?_; clear hA a; intro a hA
   refine S.val hA (R.assign rfl) rfl ?_; clear hA a; intro a hA
   refine S.done ?_
   replace hA : St 114 [(4, _)] a := hA.sub ((.cons rfl .nil))
   refine Ends.ret1 Tryd.func12 Tryd.results12 hA rfl ?_
   exact ⟨rfl, Mem.trans0 hbs hM.nilL⟩
theorem parseCuts_any (v : Value) (i : Ins) (cut : Int) (w : World) (h1 : InsV w v i) (_h2 : wfI i) (_h3 : (Lit.int .i64 cut).wf = true) (htab : Lib.TabIs Tryd.prog w "internal/strconv.uint64pow10" .u64 Lib.pow10Tab) (hut : U8T w) :
    Calls Tryd.prog 12 #[v, .int .i64 cut] w fun e w' => e = .returned (.bool true) ∧ Below w.heap.size w w' := by
  obtain ⟨aw, cw, av, cv, ac, cc, rfl, h3, h4, h5⟩ := h1.parts
  exact parseCuts_w i aw cw av cv ac cc cut w h3 h4 h5 htab hut
end Go.Proofs.YtakfcekfmdjklaaDoor
