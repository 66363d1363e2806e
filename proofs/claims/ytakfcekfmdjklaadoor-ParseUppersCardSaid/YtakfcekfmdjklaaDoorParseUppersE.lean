/-
  ParseUppers, part 5 of 5: what the code computes, and plain laws; no condition beside those that each theorem tells.
-/
import Derived.Test.YtakfcekfmdjklaaDoorParseUppersD
namespace Go.Proofs.YtakfcekfmdjklaaDoor
open Go.RowKit
theorem items06_bad (g rb ib j cap : Nat) (at0 : Int) (X : List Tok) (hX : Toks X) (hj : j < X.length) (hcap : X.length ≤ cap) (kd : Int) (hE : (itR X j).1 ≠ 0) (w : World) (hM : Mem w (feet [pt rb #[.slice (some ⟨g, j * 4, none⟩) (X.length - j) (cap - j), .int .i64 at0] 62, own 77 4 (.slice ((some ⟨g, 0, none⟩)) X.length cap) X.length (tokv X), pt ib #[.int .i64 kd, .int .i64 0, .int .i64 0, .slice none 0 0, .slice none 0 0, .slice none 0 0] 25]) [pt rb #[.slice (some ⟨g, j * 4, none⟩) (X.length - j) (cap - j), .int .i64 at0] 62, own 77 4 (.slice ((some ⟨g, 0, none⟩)) X.length cap) X.length (tokv X), pt ib #[.int .i64 kd, .int .i64 0, .int .i64 0, .slice none 0 0, .slice none 0 0, .slice none 0 0] 25] w) :
    Calls Tryd.prog 62 #[.pointer (some ⟨rb, 0, none⟩), .pointer (some ⟨ib, 0, none⟩)] w fun e w' => e = .returned (.int .i64 (itR X j).1) ∧ ∃ jx, Mem w (feet [pt rb #[.slice (some ⟨g, j * 4, none⟩) (X.length - j) (cap - j), .int .i64 at0] 62, own 77 4 (.slice ((some ⟨g, 0, none⟩)) X.length cap) X.length (tokv X), pt ib #[.int .i64 kd, .int .i64 0, .int .i64 0, .slice none 0 0, .slice none 0 0, .slice none 0 0] 25]) [pt rb #[.slice (some ⟨g, jx * 4, none⟩) (X.length - jx) (cap - jx), .int .i64 (((X.getD (itR X j).2 tz).a))] 62, own 77 4 (.slice ((some ⟨g, 0, none⟩)) X.length cap) X.length (tokv X)] w' :=
  (items06 g rb ib j cap at0 X hX hj hcap kd w hM).mono (by rintro e w' ⟨h1, h2 | h2⟩; exact ⟨h1, h2.2⟩; exact absurd h2.1 hE)
theorem items06_ok (g rb ib j cap : Nat) (at0 : Int) (X : List Tok) (hX : Toks X) (hj : j < X.length) (hcap : X.length ≤ cap) (kd : Int) (hE : (itR X j).1 = 0) (w : World) (hM : Mem w (feet [pt rb #[.slice (some ⟨g, j * 4, none⟩) (X.length - j) (cap - j), .int .i64 at0] 62, own 77 4 (.slice ((some ⟨g, 0, none⟩)) X.length cap) X.length (tokv X), pt ib #[.int .i64 kd, .int .i64 0, .int .i64 0, .slice none 0 0, .slice none 0 0, .slice none 0 0] 25]) [pt rb #[.slice (some ⟨g, j * 4, none⟩) (X.length - j) (cap - j), .int .i64 at0] 62, own 77 4 (.slice ((some ⟨g, 0, none⟩)) X.length cap) X.length (tokv X), pt ib #[.int .i64 kd, .int .i64 0, .int .i64 0, .slice none 0 0, .slice none 0 0, .slice none 0 0] 25] w) :
    Calls Tryd.prog 62 #[.pointer (some ⟨rb, 0, none⟩), .pointer (some ⟨ib, 0, none⟩)] w fun e w' => e = .returned (.int .i64 0) ∧ ∃ at1 wa wc va vc, ∃ n : Nat, ctN X j 64 = n ∧ 1 ≤ n ∧ (n : Int) ≤ 64 ∧ Mem w (feet [pt rb #[.slice (some ⟨g, j * 4, none⟩) (X.length - j) (cap - j), .int .i64 at0] 62, own 77 4 (.slice ((some ⟨g, 0, none⟩)) X.length cap) X.length (tokv X), pt ib #[.int .i64 kd, .int .i64 0, .int .i64 0, .slice none 0 0, .slice none 0 0, .slice none 0 0] 25]) [pt rb #[.slice (some ⟨g, (itR X j).2 * 4, none⟩) (X.length - (itR X j).2) (cap - (itR X j).2), .int .i64 at1] 62, own 77 4 (.slice ((some ⟨g, 0, none⟩)) X.length cap) X.length (tokv X), pt ib #[.int .i64 kd, .int .i64 ((n : Int)), .int .i64 ((X.getD (j + 1) tz).n), .slice wa ((itI X (j + 2) n).length) wc, .slice va ((itI X (j + 3) n).length) vc, .slice none 0 0] 25, own 3 1 (.slice wa (((itI X (j + 2) n)).length) wc) (((itI X (j + 2) n)).length) (((itI X (j + 2) n)).map (Value.int .i64)), own 3 1 (.slice va (((itI X (j + 3) n)).length) vc) (((itI X (j + 3) n)).length) (((itI X (j + 3) n)).map (Value.int .i64))] w' :=
  (items06 g rb ib j cap at0 X hX hj hcap kd w hM).mono (by rintro e w' ⟨h1, h2 | h2⟩; exact absurd hE h2.1; exact ⟨by rw [h1, hE], h2.2⟩)
theorem rows06_bad (g rb ib j cap : Nat) (at0 : Int) (X : List Tok) (hX : Toks X) (hj : j < X.length) (hcap : X.length ≤ cap) (kd : Int) (n : Nat) (hn1 : 1 ≤ n) (hn24 : n ≤ 24) (hE : (nuR (dgk kd n) X j (n * n)).1 ≠ 0) (w : World) (hM : Mem w (feet [pt rb #[.slice (some ⟨g, j * 4, none⟩) (X.length - j) (cap - j), .int .i64 at0] 62, own 77 4 (.slice ((some ⟨g, 0, none⟩)) X.length cap) X.length (tokv X), pt ib #[.int .i64 kd, .int .i64 ((n : Int)), .int .i64 0, .slice none 0 0, .slice none 0 0, .slice none 0 0] 25]) [pt rb #[.slice (some ⟨g, j * 4, none⟩) (X.length - j) (cap - j), .int .i64 at0] 62, own 77 4 (.slice ((some ⟨g, 0, none⟩)) X.length cap) X.length (tokv X), pt ib #[.int .i64 kd, .int .i64 ((n : Int)), .int .i64 0, .slice none 0 0, .slice none 0 0, .slice none 0 0] 25] w) :
    Calls Tryd.prog 65 #[.pointer (some ⟨rb, 0, none⟩), .pointer (some ⟨ib, 0, none⟩)] w fun e w' => e = .returned (.int .i64 (nuR (dgk kd n) X j (n * n)).1) ∧ ∃ jx, Mem w (feet [pt rb #[.slice (some ⟨g, j * 4, none⟩) (X.length - j) (cap - j), .int .i64 at0] 62, own 77 4 (.slice ((some ⟨g, 0, none⟩)) X.length cap) X.length (tokv X), pt ib #[.int .i64 kd, .int .i64 ((n : Int)), .int .i64 0, .slice none 0 0, .slice none 0 0, .slice none 0 0] 25]) [pt rb #[.slice (some ⟨g, jx * 4, none⟩) (X.length - jx) (cap - jx), .int .i64 (((X.getD (nuR (dgk kd n) X j (n * n)).2 tz).a))] 62, own 77 4 (.slice ((some ⟨g, 0, none⟩)) X.length cap) X.length (tokv X)] w' :=
  (rows06 g rb ib j cap at0 X hX hj hcap kd n hn1 hn24 w hM).mono (by rintro e w' ⟨h1, h2 | h2⟩; exact ⟨h1, h2.2⟩; exact absurd h2.1 hE)
theorem rows06_ok (g rb ib j cap : Nat) (at0 : Int) (X : List Tok) (hX : Toks X) (hj : j < X.length) (hcap : X.length ≤ cap) (kd : Int) (n : Nat) (hn1 : 1 ≤ n) (hn24 : n ≤ 24) (hE : (nuR (dgk kd n) X j (n * n)).1 = 0) (w : World) (hM : Mem w (feet [pt rb #[.slice (some ⟨g, j * 4, none⟩) (X.length - j) (cap - j), .int .i64 at0] 62, own 77 4 (.slice ((some ⟨g, 0, none⟩)) X.length cap) X.length (tokv X), pt ib #[.int .i64 kd, .int .i64 ((n : Int)), .int .i64 0, .slice none 0 0, .slice none 0 0, .slice none 0 0] 25]) [pt rb #[.slice (some ⟨g, j * 4, none⟩) (X.length - j) (cap - j), .int .i64 at0] 62, own 77 4 (.slice ((some ⟨g, 0, none⟩)) X.length cap) X.length (tokv X), pt ib #[.int .i64 kd, .int .i64 ((n : Int)), .int .i64 0, .slice none 0 0, .slice none 0 0, .slice none 0 0] 25] w) :
    Calls Tryd.prog 65 #[.pointer (some ⟨rb, 0, none⟩), .pointer (some ⟨ib, 0, none⟩)] w fun e w' => e = .returned (.int .i64 0) ∧ ∃ (at1 : Int) (gb : Nat) (rs : List OwR), rs.map (·.Y) = mat n (rwI X j n) ∧ Mem w (feet [pt rb #[.slice (some ⟨g, j * 4, none⟩) (X.length - j) (cap - j), .int .i64 at0] 62, own 77 4 (.slice ((some ⟨g, 0, none⟩)) X.length cap) X.length (tokv X), pt ib #[.int .i64 kd, .int .i64 ((n : Int)), .int .i64 0, .slice none 0 0, .slice none 0 0, .slice none 0 0] 25]) [pt rb #[.slice (some ⟨g, (nuR (dgk kd n) X j (n * n)).2 * 4, none⟩) (X.length - (nuR (dgk kd n) X j (n * n)).2) (cap - (nuR (dgk kd n) X j (n * n)).2), .int .i64 at1] 62, own 77 4 (.slice ((some ⟨g, 0, none⟩)) X.length cap) X.length (tokv X), pt ib #[.int .i64 kd, .int .i64 ((n : Int)), .int .i64 0, .slice none 0 0, .slice none 0 0, .slice ((some ⟨gb, 0, none⟩)) n n] 25, own 22 1 (.slice ((some ⟨gb, 0, none⟩)) n n) n ((rs.map orV)), bundle (rs.map (orC 3))] w' :=
  (rows06 g rb ib j cap at0 X hX hj hcap kd n hn1 hn24 w hM).mono (by rintro e w' ⟨h1, h2 | h2⟩; exact absurd hE h2.1; exact ⟨by rw [h1, hE], h2.2⟩)
theorem half06_bad (g rb ib j cap : Nat) (at0 : Int) (X : List Tok) (hX : Toks X) (hj : j < X.length) (hcap : X.length ≤ cap) (kd : Int) (n : Nat) (hn1 : 1 ≤ n) (hn24 : n ≤ 24) (hE : (nuR ff X j (hlf n)).1 ≠ 0) (w : World) (hM : Mem w (feet [pt rb #[.slice (some ⟨g, j * 4, none⟩) (X.length - j) (cap - j), .int .i64 at0] 62, own 77 4 (.slice ((some ⟨g, 0, none⟩)) X.length cap) X.length (tokv X), pt ib #[.int .i64 kd, .int .i64 ((n : Int)), .int .i64 0, .slice none 0 0, .slice none 0 0, .slice none 0 0] 25]) [pt rb #[.slice (some ⟨g, j * 4, none⟩) (X.length - j) (cap - j), .int .i64 at0] 62, own 77 4 (.slice ((some ⟨g, 0, none⟩)) X.length cap) X.length (tokv X), pt ib #[.int .i64 kd, .int .i64 ((n : Int)), .int .i64 0, .slice none 0 0, .slice none 0 0, .slice none 0 0] 25] w) :
    Calls Tryd.prog 82 #[.pointer (some ⟨rb, 0, none⟩), .pointer (some ⟨ib, 0, none⟩)] w fun e w' => e = .returned (.int .i64 (nuR ff X j (hlf n)).1) ∧ ∃ jx, Mem w (feet [pt rb #[.slice (some ⟨g, j * 4, none⟩) (X.length - j) (cap - j), .int .i64 at0] 62, own 77 4 (.slice ((some ⟨g, 0, none⟩)) X.length cap) X.length (tokv X), pt ib #[.int .i64 kd, .int .i64 ((n : Int)), .int .i64 0, .slice none 0 0, .slice none 0 0, .slice none 0 0] 25]) [pt rb #[.slice (some ⟨g, jx * 4, none⟩) (X.length - jx) (cap - jx), .int .i64 (((X.getD (nuR ff X j (hlf n)).2 tz).a))] 62, own 77 4 (.slice ((some ⟨g, 0, none⟩)) X.length cap) X.length (tokv X)] w' :=
  (half06 g rb ib j cap at0 X hX hj hcap kd n hn1 hn24 w hM).mono (by rintro e w' ⟨h1, h2 | h2⟩; exact ⟨h1, h2.2⟩; exact absurd h2.1 hE)
theorem half06_ok (g rb ib j cap : Nat) (at0 : Int) (X : List Tok) (hX : Toks X) (hj : j < X.length) (hcap : X.length ≤ cap) (kd : Int) (n : Nat) (hn1 : 1 ≤ n) (hn24 : n ≤ 24) (hE : (nuR ff X j (hlf n)).1 = 0) (w : World) (hM : Mem w (feet [pt rb #[.slice (some ⟨g, j * 4, none⟩) (X.length - j) (cap - j), .int .i64 at0] 62, own 77 4 (.slice ((some ⟨g, 0, none⟩)) X.length cap) X.length (tokv X), pt ib #[.int .i64 kd, .int .i64 ((n : Int)), .int .i64 0, .slice none 0 0, .slice none 0 0, .slice none 0 0] 25]) [pt rb #[.slice (some ⟨g, j * 4, none⟩) (X.length - j) (cap - j), .int .i64 at0] 62, own 77 4 (.slice ((some ⟨g, 0, none⟩)) X.length cap) X.length (tokv X), pt ib #[.int .i64 kd, .int .i64 ((n : Int)), .int .i64 0, .slice none 0 0, .slice none 0 0, .slice none 0 0] 25] w) :
    Calls Tryd.prog 82 #[.pointer (some ⟨rb, 0, none⟩), .pointer (some ⟨ib, 0, none⟩)] w fun e w' => e = .returned (.int .i64 0) ∧ ∃ (at1 : Int) (gb : Nat) (rs : List OwR), rs.map (·.Y) = mat n (hfI X j n) ∧ Mem w (feet [pt rb #[.slice (some ⟨g, j * 4, none⟩) (X.length - j) (cap - j), .int .i64 at0] 62, own 77 4 (.slice ((some ⟨g, 0, none⟩)) X.length cap) X.length (tokv X), pt ib #[.int .i64 kd, .int .i64 ((n : Int)), .int .i64 0, .slice none 0 0, .slice none 0 0, .slice none 0 0] 25]) [pt rb #[.slice (some ⟨g, (nuR ff X j (hlf n)).2 * 4, none⟩) (X.length - (nuR ff X j (hlf n)).2) (cap - (nuR ff X j (hlf n)).2), .int .i64 at1] 62, own 77 4 (.slice ((some ⟨g, 0, none⟩)) X.length cap) X.length (tokv X), pt ib #[.int .i64 kd, .int .i64 ((n : Int)), .int .i64 0, .slice none 0 0, .slice none 0 0, .slice ((some ⟨gb, 0, none⟩)) n n] 25, own 22 1 (.slice ((some ⟨gb, 0, none⟩)) n n) n ((rs.map orV)), bundle (rs.map (orC 3))] w' :=
  (half06 g rb ib j cap at0 X hX hj hcap kd n hn1 hn24 w hM).mono (by rintro e w' ⟨h1, h2 | h2⟩; exact absurd hE h2.1; exact ⟨by rw [h1, hE], h2.2⟩)
theorem Toks.wok {X : List Tok} (h : Toks X) {j : Nat} (hj : j < X.length) {l : List ByteArray} (e : (wordR (X.getD j tz) l).2 = 0) : j + 1 < X.length :=
  h.next j hj (fun k => by rw [wordR_end k] at e; cases e)
set_option maxRecDepth 100000 in
set_option maxHeartbeats 400000 in
theorem tour06 (g rb ib j cap : Nat) (at0 : Int) (X : List Tok) (hX : Toks X) (hj : j < X.length) (hcap : X.length ≤ cap) (w : World) (hM : Mem w (feet [pt rb #[.slice (some ⟨g, j * 4, none⟩) (X.length - j) (cap - j), .int .i64 at0] 62, own 77 4 (.slice ((some ⟨g, 0, none⟩)) X.length cap) X.length (tokv X), pt ib #[.int .i64 3, .int .i64 0, .int .i64 0, .slice none 0 0, .slice none 0 0, .slice none 0 0] 25]) [pt rb #[.slice (some ⟨g, j * 4, none⟩) (X.length - j) (cap - j), .int .i64 at0] 62, own 77 4 (.slice ((some ⟨g, 0, none⟩)) X.length cap) X.length (tokv X), pt ib #[.int .i64 3, .int .i64 0, .int .i64 0, .slice none 0 0, .slice none 0 0, .slice none 0 0] 25] w) :
  Calls Tryd.prog 63 #[.pointer (some ⟨rb, 0, none⟩), .pointer (some ⟨ib, 0, none⟩)] w fun e w' => e = .returned (.int .i64 (toR X j).1) ∧ (((toR X j).1 ≠ 0 ∧ ∃ jx, Mem w (feet [pt rb #[.slice (some ⟨g, j * 4, none⟩) (X.length - j) (cap - j), .int .i64 at0] 62, own 77 4 (.slice ((some ⟨g, 0, none⟩)) X.length cap) X.length (tokv X), pt ib #[.int .i64 3, .int .i64 0, .int .i64 0, .slice none 0 0, .slice none 0 0, .slice none 0 0] 25]) [pt rb #[.slice (some ⟨g, jx * 4, none⟩) (X.length - jx) (cap - jx), .int .i64 (((X.getD (toR X j).2 tz).a))] 62, own 77 4 (.slice ((some ⟨g, 0, none⟩)) X.length cap) X.length (tokv X)] w') ∨ ((toR X j).1 = 0 ∧ ∃ (at1 : Int) (gb : Nat) (rs : List OwR), ∃ n : Nat, ctN X j 24 = n ∧ 1 ≤ n ∧ n ≤ 24 ∧ rs.map (·.Y) = mat n (if (wordR (X.getD (j + 1) tz) W2).1 = 0 then rwI X (j + 2) n else hfI X (j + 2) n) ∧ Mem w (feet [pt rb #[.slice (some ⟨g, j * 4, none⟩) (X.length - j) (cap - j), .int .i64 at0] 62, own 77 4 (.slice ((some ⟨g, 0, none⟩)) X.length cap) X.length (tokv X), pt ib #[.int .i64 3, .int .i64 0, .int .i64 0, .slice none 0 0, .slice none 0 0, .slice none 0 0] 25]) [pt rb #[.slice (some ⟨g, (toR X j).2 * 4, none⟩) (X.length - (toR X j).2) (cap - (toR X j).2), .int .i64 at1] 62, own 77 4 (.slice ((some ⟨g, 0, none⟩)) X.length cap) X.length (tokv X), pt ib #[.int .i64 3, .int .i64 ((n : Int)), .int .i64 0, .slice none 0 0, .slice none 0 0, .slice ((some ⟨gb, 0, none⟩)) n n] 25, own 22 1 (.slice ((some ⟨gb, 0, none⟩)) n n) n ((rs.map orV)), bundle (rs.map (orC 3))] w')) := by
 have hbs := Below.refl (B := w.heap.size) w
 have hlX := hX.len
 refine Calls.of_ends (vs := [.pointer (some ⟨rb, 0, none⟩), .pointer (some ⟨ib, 0, none⟩)]) Tryd.func63 rfl Tryd.ntmps63 rfl ?_
 intro a hA
 replace hA : St 37 [(0, _), (1, _)] a := hA
 refine Ends.seq (Ends.region ?_)
 refine S.val hA (R.assign rfl) rfl ?_; clear hA a; intro a hA
 refine S.done ?_
 refine Ends.seq (Ends.region ?_)
 refine S.val hA (R.assign rfl) rfl ?_; clear hA a; intro a hA
 refine S.done ?_
 refine Ends.seq (Ends.seq (Ends.region ?_))
 refine S.val hA (R.move rfl) rfl ?_; clear hA a; intro a hA
 refine S.val hA (R.move rfl) rfl ?_; clear hA a; intro a hA
 refine S.call hA (R.callF Tryd.func64 rfl rfl rfl) rfl (count06 g rb j cap at0 X hX (by omega) hcap 24 _ (hM.hereN 2)) ?_; clear hA a
 rintro e w1 ⟨rfl, hn⟩
 replace hM : Mem _ _ [pt rb #[.slice (some ⟨g, (nxJ j (numR (X.getD j tz) 24)) * 4, none⟩) (X.length - (nxJ j (numR (X.getD j tz) 24))) (cap - (nxJ j (numR (X.getD j tz) 24))), .int .i64 ((X.getD j tz).a)] 62, own 77 4 (.slice ((some ⟨g, 0, none⟩)) X.length cap) X.length (tokv X), pt ib #[.int .i64 3, .int .i64 0, .int .i64 0, .slice none 0 0, .slice none 0 0, .slice none 0 0] 25] _ := hM.callL 2 hn; clear hn
 refine ⟨.tuple #[.int .i64 ((numN (X.getD j tz) 24)), .int .i64 ((cntR (X.getD j tz) 24))], rfl, fun a hA => ?_⟩
 refine S.val hA (R.move rfl) rfl ?_; clear hA a; intro a hA
 refine S.val hA (R.extract (v := .int .i64 ((numN (X.getD j tz) 24))) rfl rfl) rfl ?_; clear hA a; intro a hA
 refine S.val hA (R.extract (v := .int .i64 ((cntR (X.getD j tz) 24))) rfl rfl) rfl ?_; clear hA a; intro a hA
 refine S.val hA (R.nilCheck rfl) rfl ?_; clear hA a; intro a hA
 refine S.val hA (R.fieldAddr (q := 1) fi25_1 rfl rfl rfl) rfl ?_; clear hA a; intro a hA
 refine S.store (k := 2) hA hM sz3 rfl rfl rfl rfl rfl ?_; clear hM
 intro w2 hM
 replace hM : Mem _ _ [pt rb #[.slice (some ⟨g, (nxJ j (numR (X.getD j tz) 24)) * 4, none⟩) (X.length - (nxJ j (numR (X.getD j tz) 24))) (cap - (nxJ j (numR (X.getD j tz) 24))), .int .i64 ((X.getD j tz).a)] 62, own 77 4 (.slice ((some ⟨g, 0, none⟩)) X.length cap) X.length (tokv X), pt ib #[.int .i64 3, .int .i64 ((numN (X.getD j tz) 24)), .int .i64 0, .slice none 0 0, .slice none 0 0, .slice none 0 0] 25] _ := hM
 refine S.val hA (R.assign rfl) rfl ?_; clear hA a; intro a hA
 refine S.done ?_
 replace hA : St 37 [(0, _), (1, _), (5, _)] a := hA.sub ((.cons rfl (.cons rfl (.cons rfl .nil))))
 refine Ends.seq (Ends.region ?_)
 refine S.val hA (R.move rfl) rfl ?_; clear hA a; intro a hA
 refine S.val hA (R.neq rfl rfl) rfl ?_; clear hA a; intro a hA
 refine S.done ?_
 refine Ends.ite hA rfl (fun hc1 => ?_) (fun hc1 => ?_)
 ·
  refine Ends.seq (Ends.region ?_)
  refine S.val hA (R.move rfl) rfl ?_; clear hA a; intro a hA
  refine S.val hA (R.assign rfl) rfl ?_; clear hA a; intro a hA
  refine S.done ?_
  replace hA : St 37 [(0, _), (1, _), (4, _)] a := hA.sub ((.cons rfl (.cons rfl (.cons rfl .nil))))
  refine Ends.ret1 Tryd.func63 Tryd.results63 hA rfl ?_
  replace hM := hM.firstN 2
  replace hM : Mem _ _ [pt rb #[.slice (some ⟨g, (nxJ j (numR (X.getD j tz) 24)) * 4, none⟩) (X.length - (nxJ j (numR (X.getD j tz) 24))) (cap - (nxJ j (numR (X.getD j tz) 24))), .int .i64 ((X.getD j tz).a)] 62, own 77 4 (.slice ((some ⟨g, 0, none⟩)) X.length cap) X.length (tokv X)] _ := hM
  have e1 := toR_cnt hc1
  exact ⟨by rw [e1], .inl ⟨by rw [e1]; exact hc1, _, by rw [e1]; exact hM⟩⟩
 ·
  obtain ⟨n, hn, hcn, hn1, hn24_, hr0⟩ := hX.ct (Decidable.not_not.1 hc1)
  have hc0 := Decidable.not_not.1 hc1
  have hj1 := hX.ok hj hr0
  have hn24 : n ≤ 24 := by omega
  rw [hn] at hM
  rw [nxJ_ok hr0] at hM
  replace hM : Mem _ _ [pt rb #[.slice (some ⟨g, (j + 1) * 4, none⟩) (X.length - (j + 1)) (cap - (j + 1)), .int .i64 ((X.getD j tz).a)] 62, own 77 4 (.slice ((some ⟨g, 0, none⟩)) X.length cap) X.length (tokv X), pt ib #[.int .i64 3, .int .i64 ((n : Int)), .int .i64 0, .slice none 0 0, .slice none 0 0, .slice none 0 0] 25] _ := hM
  refine Ends.skip (Ends.seq (Ends.region ?_))
  refine S.val hA (R.move rfl) rfl ?_; clear hA a; intro a hA
  refine S.buildSl (cells := #[.string (⟨#[70, 85, 76, 76]⟩), .string (⟨#[85, 80, 80, 69, 82]⟩)]) hA hM Tryd.underlying34 info9 rfl rfl rfl rfl (by kernel_rfl) rfl ?_; clear hA hM a; intro b2 w3 hb3 hM a hA
  replace hM : Mem _ _ [pt b2 #[.string (⟨#[70, 85, 76, 76]⟩), .string (⟨#[85, 80, 80, 69, 82]⟩)] 9, pt rb #[.slice (some ⟨g, (j + 1) * 4, none⟩) (X.length - (j + 1)) (cap - (j + 1)), .int .i64 ((X.getD j tz).a)] 62, own 77 4 (.slice ((some ⟨g, 0, none⟩)) X.length cap) X.length (tokv X), pt ib #[.int .i64 3, .int .i64 ((n : Int)), .int .i64 0, .slice none 0 0, .slice none 0 0, .slice none 0 0] 25] _ := hM
  replace hM := hM.front (k := 2) rfl
  replace hM := hM.front (k := 2) rfl
  replace hM : Mem _ _ [pt rb #[.slice (some ⟨g, (j + 1) * 4, none⟩) (X.length - (j + 1)) (cap - (j + 1)), .int .i64 ((X.getD j tz).a)] 62, own 77 4 (.slice ((some ⟨g, 0, none⟩)) X.length cap) X.length (tokv X), pt b2 #[.string (⟨#[70, 85, 76, 76]⟩), .string (⟨#[85, 80, 80, 69, 82]⟩)] 9, pt ib #[.int .i64 3, .int .i64 ((n : Int)), .int .i64 0, .slice none 0 0, .slice none 0 0, .slice none 0 0] 25] _ := hM
  refine S.call hA (R.callF Tryd.func61 rfl rfl rfl) rfl (word06_2 g rb ((j + 1)) cap ((X.getD j tz).a) X hX (by omega) hcap b2 (⟨#[70, 85, 76, 76]⟩) (⟨#[85, 80, 80, 69, 82]⟩) _ (hM.hereN 3)) ?_; clear hA a
  rintro e w4 ⟨rfl, hn⟩
  replace hM : Mem _ _ [pt rb #[.slice (some ⟨g, (nxJ ((j + 1)) (wordR (X.getD ((j + 1)) tz) W2).2) * 4, none⟩) (X.length - (nxJ ((j + 1)) (wordR (X.getD ((j + 1)) tz) W2).2)) (cap - (nxJ ((j + 1)) (wordR (X.getD ((j + 1)) tz) W2).2)), .int .i64 ((X.getD ((j + 1)) tz).a)] 62, own 77 4 (.slice ((some ⟨g, 0, none⟩)) X.length cap) X.length (tokv X), pt b2 #[.string (⟨#[70, 85, 76, 76]⟩), .string (⟨#[85, 80, 80, 69, 82]⟩)] 9, pt ib #[.int .i64 3, .int .i64 ((n : Int)), .int .i64 0, .slice none 0 0, .slice none 0 0, .slice none 0 0] 25] _ := hM.callL 3 hn; clear hn
  refine ⟨.tuple #[.int .i64 ((wordR (X.getD ((j + 1)) tz) W2).1), .int .i64 ((wordR (X.getD ((j + 1)) tz) W2).2)], rfl, fun a hA => ?_⟩
  refine S.val hA (R.move rfl) rfl ?_; clear hA a; intro a hA
  refine S.val hA (R.extract (v := .int .i64 ((wordR (X.getD ((j + 1)) tz) W2).1)) rfl rfl) rfl ?_; clear hA a; intro a hA
  refine S.val hA (R.extract (v := .int .i64 ((wordR (X.getD ((j + 1)) tz) W2).2)) rfl rfl) rfl ?_; clear hA a; intro a hA
  refine S.val hA (R.assign rfl) rfl ?_; clear hA a; intro a hA
  refine S.val hA (R.assign rfl) rfl ?_; clear hA a; intro a hA
  refine S.done ?_
  replace hA : St 37 [(0, _), (1, _), (5, _), (6, _)] a := hA.sub ((.cons rfl (.cons rfl (.cons rfl (.cons rfl .nil)))))
  refine Ends.seq (Ends.block (Ends.seq (Ends.region ?_)))
  refine S.val hA (R.move rfl) rfl ?_; clear hA a; intro a hA
  refine S.val hA (R.neq rfl rfl) rfl ?_; clear hA a; intro a hA
  refine S.val hA (R.assign rfl) rfl ?_; clear hA a; intro a hA
  refine S.done ?_
  refine Ends.ite hA rfl (fun hc4 => ?_) (fun hc4 => ?_)
  ·
   refine Ends.seq (Ends.region ?_)
   refine S.val hA (R.move rfl) rfl ?_; clear hA a; intro a hA
   refine S.val hA (R.assign rfl) rfl ?_; clear hA a; intro a hA
   refine S.done ?_
   replace hA : St 37 [(0, _), (1, _), (4, _)] a := hA.sub ((.cons rfl (.cons rfl (.cons rfl .nil))))
   refine Ends.ret1 Tryd.func63 Tryd.results63 hA rfl ?_
   replace hM := hM.firstN 2
   replace hM : Mem _ _ [pt rb #[.slice (some ⟨g, (nxJ ((j + 1)) (wordR (X.getD ((j + 1)) tz) W2).2) * 4, none⟩) (X.length - (nxJ ((j + 1)) (wordR (X.getD ((j + 1)) tz) W2).2)) (cap - (nxJ ((j + 1)) (wordR (X.getD ((j + 1)) tz) W2).2)), .int .i64 ((X.getD ((j + 1)) tz).a)] 62, own 77 4 (.slice ((some ⟨g, 0, none⟩)) X.length cap) X.length (tokv X)] _ := hM
   have e1 := toR_word hc0 hc4
   exact ⟨by rw [e1], .inl ⟨by rw [e1]; exact hc4, _, by rw [e1]; exact hM⟩⟩
  ·
   have hw0 := Decidable.not_not.1 hc4
   have hj2 := hX.wok hj1 hw0
   rw [nxJ_ok hw0] at hM
   replace hM : Mem _ _ [pt rb #[.slice (some ⟨g, (j + 2) * 4, none⟩) (X.length - (j + 2)) (cap - (j + 2)), .int .i64 ((X.getD ((j + 1)) tz).a)] 62, own 77 4 (.slice ((some ⟨g, 0, none⟩)) X.length cap) X.length (tokv X), pt b2 #[.string (⟨#[70, 85, 76, 76]⟩), .string (⟨#[85, 80, 80, 69, 82]⟩)] 9, pt ib #[.int .i64 3, .int .i64 ((n : Int)), .int .i64 0, .slice none 0 0, .slice none 0 0, .slice none 0 0] 25] _ := hM
   refine Ends.seq (Ends.region ?_)
   refine S.val hA (R.move rfl) rfl ?_; clear hA a; intro a hA
   refine S.val hA (R.eql rfl rfl) rfl ?_; clear hA a; intro a hA
   refine S.val hA (R.assign rfl) rfl ?_; clear hA a; intro a hA
   refine S.done ?_
   replace hA : St 37 [(0, _), (1, _), (28, _)] a := hA.sub ((.cons rfl (.cons rfl (.cons rfl .nil))))
   refine Ends.ite hA rfl (fun hc5 => ?_) (fun hc5 => ?_)
   ·
    refine Ends.seq ?_
    by_cases hs6 : (nuR (dgk 3 n) X (j + 2) (n * n)).1 = 0
    ·
     refine Ends.region ?_
     refine S.val hA (R.move rfl) rfl ?_; clear hA a; intro a hA
     refine S.val hA (R.move rfl) rfl ?_; clear hA a; intro a hA
     replace hM := hM.front (k := 3) rfl
     replace hM := hM.front (k := 2) rfl
     replace hM := hM.front (k := 2) rfl
     replace hM : Mem _ _ [pt rb #[.slice (some ⟨g, (j + 2) * 4, none⟩) (X.length - (j + 2)) (cap - (j + 2)), .int .i64 ((X.getD ((j + 1)) tz).a)] 62, own 77 4 (.slice ((some ⟨g, 0, none⟩)) X.length cap) X.length (tokv X), pt ib #[.int .i64 3, .int .i64 ((n : Int)), .int .i64 0, .slice none 0 0, .slice none 0 0, .slice none 0 0] 25, pt b2 #[.string (⟨#[70, 85, 76, 76]⟩), .string (⟨#[85, 80, 80, 69, 82]⟩)] 9] _ := hM
     refine S.call hA (R.callF Tryd.func65 rfl rfl rfl) rfl (rows06_ok g rb ib ((j + 2)) cap ((X.getD ((j + 1)) tz).a) X hX (by omega) hcap 3 n hn1 hn24 hs6 _ (hM.hereN 3)) ?_; clear hA a
     rintro e w5 ⟨rfl, atx, gb, rs, hYs, hn⟩
     replace hM : Mem _ _ [pt rb #[.slice (some ⟨g, (nuR (dgk 3 n) X (j + 2) (n * n)).2 * 4, none⟩) (X.length - (nuR (dgk 3 n) X (j + 2) (n * n)).2) (cap - (nuR (dgk 3 n) X (j + 2) (n * n)).2), .int .i64 atx] 62, own 77 4 (.slice ((some ⟨g, 0, none⟩)) X.length cap) X.length (tokv X), pt ib #[.int .i64 3, .int .i64 ((n : Int)), .int .i64 0, .slice none 0 0, .slice none 0 0, .slice ((some ⟨gb, 0, none⟩)) n n] 25, own 22 1 (.slice ((some ⟨gb, 0, none⟩)) n n) n ((rs.map orV)), bundle (rs.map (orC 3)), pt b2 #[.string (⟨#[70, 85, 76, 76]⟩), .string (⟨#[85, 80, 80, 69, 82]⟩)] 9] _ := hM.callL 3 hn; clear hn
     refine ⟨.int .i64 0, rfl, fun a hA => ?_⟩
     refine S.val hA (R.assign rfl) rfl ?_; clear hA a; intro a hA
     refine S.done ?_
     replace hA : St 37 [(0, _), (1, _), (4, _)] a := hA.sub ((.cons rfl (.cons rfl (.cons rfl .nil))))
     refine Ends.ret1 Tryd.func63 Tryd.results63 hA rfl ?_
     replace hM := hM.firstN 5
     replace hM : Mem _ _ [pt rb #[.slice (some ⟨g, (nuR (dgk 3 n) X (j + 2) (n * n)).2 * 4, none⟩) (X.length - (nuR (dgk 3 n) X (j + 2) (n * n)).2) (cap - (nuR (dgk 3 n) X (j + 2) (n * n)).2), .int .i64 atx] 62, own 77 4 (.slice ((some ⟨g, 0, none⟩)) X.length cap) X.length (tokv X), pt ib #[.int .i64 3, .int .i64 ((n : Int)), .int .i64 0, .slice none 0 0, .slice none 0 0, .slice ((some ⟨gb, 0, none⟩)) n n] 25, own 22 1 (.slice ((some ⟨gb, 0, none⟩)) n n) n ((rs.map orV)), bundle (rs.map (orC 3))] _ := hM
     have e1 := toR_full hc0 hcn hw0 hc5
     exact ⟨by rw [e1, hs6], .inr ⟨by rw [e1]; exact hs6, _, gb, rs, n, hcn, hn1, hn24, by rw [if_pos hc5]; exact hYs, by rw [e1]; exact hM⟩⟩
    ·
     refine Ends.region ?_
     refine S.val hA (R.move rfl) rfl ?_; clear hA a; intro a hA
     refine S.val hA (R.move rfl) rfl ?_; clear hA a; intro a hA
     replace hM := hM.front (k := 3) rfl
     replace hM := hM.front (k := 2) rfl
     replace hM := hM.front (k := 2) rfl
     replace hM : Mem _ _ [pt rb #[.slice (some ⟨g, (j + 2) * 4, none⟩) (X.length - (j + 2)) (cap - (j + 2)), .int .i64 ((X.getD ((j + 1)) tz).a)] 62, own 77 4 (.slice ((some ⟨g, 0, none⟩)) X.length cap) X.length (tokv X), pt ib #[.int .i64 3, .int .i64 ((n : Int)), .int .i64 0, .slice none 0 0, .slice none 0 0, .slice none 0 0] 25, pt b2 #[.string (⟨#[70, 85, 76, 76]⟩), .string (⟨#[85, 80, 80, 69, 82]⟩)] 9] _ := hM
     refine S.call hA (R.callF Tryd.func65 rfl rfl rfl) rfl (rows06_bad g rb ib ((j + 2)) cap ((X.getD ((j + 1)) tz).a) X hX (by omega) hcap 3 n hn1 hn24 hs6 _ (hM.hereN 3)) ?_; clear hA a
     rintro e w6 ⟨rfl, jx7, hn⟩
     replace hM : Mem _ _ [pt rb #[.slice (some ⟨g, jx7 * 4, none⟩) (X.length - jx7) (cap - jx7), .int .i64 (((X.getD (nuR (dgk 3 n) X (j + 2) (n * n)).2 tz).a))] 62, own 77 4 (.slice ((some ⟨g, 0, none⟩)) X.length cap) X.length (tokv X), pt b2 #[.string (⟨#[70, 85, 76, 76]⟩), .string (⟨#[85, 80, 80, 69, 82]⟩)] 9] _ := hM.callL 3 hn; clear hn
     refine ⟨.int .i64 ((nuR (dgk 3 n) X (j + 2) (n * n)).1), rfl, fun a hA => ?_⟩
     refine S.val hA (R.assign rfl) rfl ?_; clear hA a; intro a hA
     refine S.done ?_
     replace hA : St 37 [(0, _), (1, _), (4, _)] a := hA.sub ((.cons rfl (.cons rfl (.cons rfl .nil))))
     refine Ends.ret1 Tryd.func63 Tryd.results63 hA rfl ?_
     replace hM := hM.firstN 2
     replace hM : Mem _ _ [pt rb #[.slice (some ⟨g, jx7 * 4, none⟩) (X.length - jx7) (cap - jx7), .int .i64 (((X.getD (nuR (dgk 3 n) X (j + 2) (n * n)).2 tz).a))] 62, own 77 4 (.slice ((some ⟨g, 0, none⟩)) X.length cap) X.length (tokv X)] _ := hM
     have e1 := toR_full hc0 hcn hw0 hc5
     exact ⟨by rw [e1], .inl ⟨by rw [e1]; exact hs6, _, by rw [e1]; exact hM⟩⟩
   ·
    refine Ends.skip (Ends.inBlock (Ends.seq ?_))
    by_cases hs8 : (nuR ff X (j + 2) (hlf n)).1 = 0
    ·
     refine Ends.region ?_
     refine S.val hA (R.move rfl) rfl ?_; clear hA a; intro a hA
     refine S.val hA (R.move rfl) rfl ?_; clear hA a; intro a hA
     replace hM := hM.front (k := 3) rfl
     replace hM := hM.front (k := 2) rfl
     replace hM := hM.front (k := 2) rfl
     replace hM : Mem _ _ [pt rb #[.slice (some ⟨g, (j + 2) * 4, none⟩) (X.length - (j + 2)) (cap - (j + 2)), .int .i64 ((X.getD ((j + 1)) tz).a)] 62, own 77 4 (.slice ((some ⟨g, 0, none⟩)) X.length cap) X.length (tokv X), pt ib #[.int .i64 3, .int .i64 ((n : Int)), .int .i64 0, .slice none 0 0, .slice none 0 0, .slice none 0 0] 25, pt b2 #[.string (⟨#[70, 85, 76, 76]⟩), .string (⟨#[85, 80, 80, 69, 82]⟩)] 9] _ := hM
     refine S.call hA (R.callF Tryd.func82 rfl rfl rfl) rfl (half06_ok g rb ib ((j + 2)) cap ((X.getD ((j + 1)) tz).a) X hX (by omega) hcap 3 n hn1 hn24 hs8 _ (hM.hereN 3)) ?_; clear hA a
     rintro e w7 ⟨rfl, atx, gb, rs, hYs, hn⟩
     replace hM : Mem _ _ [pt rb #[.slice (some ⟨g, (nuR ff X (j + 2) (hlf n)).2 * 4, none⟩) (X.length - (nuR ff X (j + 2) (hlf n)).2) (cap - (nuR ff X (j + 2) (hlf n)).2), .int .i64 atx] 62, own 77 4 (.slice ((some ⟨g, 0, none⟩)) X.length cap) X.length (tokv X), pt ib #[.int .i64 3, .int .i64 ((n : Int)), .int .i64 0, .slice none 0 0, .slice none 0 0, .slice ((some ⟨gb, 0, none⟩)) n n] 25, own 22 1 (.slice ((some ⟨gb, 0, none⟩)) n n) n ((rs.map orV)), bundle (rs.map (orC 3)), pt b2 #[.string (⟨#[70, 85, 76, 76]⟩), .string (⟨#[85, 80, 80, 69, 82]⟩)] 9] _ := hM.callL 3 hn; clear hn
     refine ⟨.int .i64 0, rfl, fun a hA => ?_⟩
     refine S.val hA (R.assign rfl) rfl ?_; clear hA a; intro a hA
     refine S.done ?_
     replace hA : St 37 [(4, _)] a := hA.sub ((.cons rfl .nil))
     refine Ends.ret1 Tryd.func63 Tryd.results63 hA rfl ?_
     replace hM := hM.firstN 5
     replace hM : Mem _ _ [pt rb #[.slice (some ⟨g, (nuR ff X (j + 2) (hlf n)).2 * 4, none⟩) (X.length - (nuR ff X (j + 2) (hlf n)).2) (cap - (nuR ff X (j + 2) (hlf n)).2), .int .i64 atx] 62, own 77 4 (.slice ((some ⟨g, 0, none⟩)) X.length cap) X.length (tokv X), pt ib #[.int .i64 3, .int .i64 ((n : Int)), .int .i64 0, .slice none 0 0, .slice none 0 0, .slice ((some ⟨gb, 0, none⟩)) n n] 25, own 22 1 (.slice ((some ⟨gb, 0, none⟩)) n n) n ((rs.map orV)), bundle (rs.map (orC 3))] _ := hM
     have e1 := toR_half hc0 hcn hw0 hc5
     exact ⟨by rw [e1, hs8], .inr ⟨by rw [e1]; exact hs8, _, gb, rs, n, hcn, hn1, hn24, by rw [if_neg hc5]; exact hYs, by rw [e1]; exact hM⟩⟩
    ·
     refine Ends.region ?_
     refine S.val hA (R.move rfl) rfl ?_; clear hA a; intro a hA
     refine S.val hA (R.move rfl) rfl ?_; clear hA a; intro a hA
     replace hM := hM.front (k := 3) rfl
     replace hM := hM.front (k := 2) rfl
     replace hM := hM.front (k := 2) rfl
     replace hM : Mem _ _ [pt rb #[.slice (some ⟨g, (j + 2) * 4, none⟩) (X.length - (j + 2)) (cap - (j + 2)), .int .i64 ((X.getD ((j + 1)) tz).a)] 62, own 77 4 (.slice ((some ⟨g, 0, none⟩)) X.length cap) X.length (tokv X), pt ib #[.int .i64 3, .int .i64 ((n : Int)), .int .i64 0, .slice none 0 0, .slice none 0 0, .slice none 0 0] 25, pt b2 #[.string (⟨#[70, 85, 76, 76]⟩), .string (⟨#[85, 80, 80, 69, 82]⟩)] 9] _ := hM
     refine S.call hA (R.callF Tryd.func82 rfl rfl rfl) rfl (half06_bad g rb ib ((j + 2)) cap ((X.getD ((j + 1)) tz).a) X hX (by omega) hcap 3 n hn1 hn24 hs8 _ (hM.hereN 3)) ?_; clear hA a
     rintro e w8 ⟨rfl, jx9, hn⟩
     replace hM : Mem _ _ [pt rb #[.slice (some ⟨g, jx9 * 4, none⟩) (X.length - jx9) (cap - jx9), .int .i64 (((X.getD (nuR ff X (j + 2) (hlf n)).2 tz).a))] 62, own 77 4 (.slice ((some ⟨g, 0, none⟩)) X.length cap) X.length (tokv X), pt b2 #[.string (⟨#[70, 85, 76, 76]⟩), .string (⟨#[85, 80, 80, 69, 82]⟩)] 9] _ := hM.callL 3 hn; clear hn
     refine ⟨.int .i64 ((nuR ff X (j + 2) (hlf n)).1), rfl, fun a hA => ?_⟩
     refine S.val hA (R.assign rfl) rfl ?_; clear hA a; intro a hA
     refine S.done ?_
     replace hA : St 37 [(4, _)] a := hA.sub ((.cons rfl .nil))
     refine Ends.ret1 Tryd.func63 Tryd.results63 hA rfl ?_
     replace hM := hM.firstN 2
     replace hM : Mem _ _ [pt rb #[.slice (some ⟨g, jx9 * 4, none⟩) (X.length - jx9) (cap - jx9), .int .i64 (((X.getD (nuR ff X (j + 2) (hlf n)).2 tz).a))] 62, own 77 4 (.slice ((some ⟨g, 0, none⟩)) X.length cap) X.length (tokv X)] _ := hM
     have e1 := toR_half hc0 hcn hw0 hc5
     exact ⟨by rw [e1], .inl ⟨by rw [e1]; exact hs8, _, by rw [e1]; exact hM⟩⟩
theorem tour06_bad (g rb ib j cap : Nat) (at0 : Int) (X : List Tok) (hX : Toks X) (hj : j < X.length) (hcap : X.length ≤ cap) (hE : (toR X j).1 ≠ 0) (w : World) (hM : Mem w (feet [pt rb #[.slice (some ⟨g, j * 4, none⟩) (X.length - j) (cap - j), .int .i64 at0] 62, own 77 4 (.slice ((some ⟨g, 0, none⟩)) X.length cap) X.length (tokv X), pt ib #[.int .i64 3, .int .i64 0, .int .i64 0, .slice none 0 0, .slice none 0 0, .slice none 0 0] 25]) [pt rb #[.slice (some ⟨g, j * 4, none⟩) (X.length - j) (cap - j), .int .i64 at0] 62, own 77 4 (.slice ((some ⟨g, 0, none⟩)) X.length cap) X.length (tokv X), pt ib #[.int .i64 3, .int .i64 0, .int .i64 0, .slice none 0 0, .slice none 0 0, .slice none 0 0] 25] w) :
    Calls Tryd.prog 63 #[.pointer (some ⟨rb, 0, none⟩), .pointer (some ⟨ib, 0, none⟩)] w fun e w' => e = .returned (.int .i64 (toR X j).1) ∧ ∃ jx, Mem w (feet [pt rb #[.slice (some ⟨g, j * 4, none⟩) (X.length - j) (cap - j), .int .i64 at0] 62, own 77 4 (.slice ((some ⟨g, 0, none⟩)) X.length cap) X.length (tokv X), pt ib #[.int .i64 3, .int .i64 0, .int .i64 0, .slice none 0 0, .slice none 0 0, .slice none 0 0] 25]) [pt rb #[.slice (some ⟨g, jx * 4, none⟩) (X.length - jx) (cap - jx), .int .i64 (((X.getD (toR X j).2 tz).a))] 62, own 77 4 (.slice ((some ⟨g, 0, none⟩)) X.length cap) X.length (tokv X)] w' :=
  (tour06 g rb ib j cap at0 X hX hj hcap w hM).mono (by rintro e w' ⟨h1, h2 | h2⟩; exact ⟨h1, h2.2⟩; exact absurd h2.1 hE)
theorem tour06_ok (g rb ib j cap : Nat) (at0 : Int) (X : List Tok) (hX : Toks X) (hj : j < X.length) (hcap : X.length ≤ cap) (hE : (toR X j).1 = 0) (w : World) (hM : Mem w (feet [pt rb #[.slice (some ⟨g, j * 4, none⟩) (X.length - j) (cap - j), .int .i64 at0] 62, own 77 4 (.slice ((some ⟨g, 0, none⟩)) X.length cap) X.length (tokv X), pt ib #[.int .i64 3, .int .i64 0, .int .i64 0, .slice none 0 0, .slice none 0 0, .slice none 0 0] 25]) [pt rb #[.slice (some ⟨g, j * 4, none⟩) (X.length - j) (cap - j), .int .i64 at0] 62, own 77 4 (.slice ((some ⟨g, 0, none⟩)) X.length cap) X.length (tokv X), pt ib #[.int .i64 3, .int .i64 0, .int .i64 0, .slice none 0 0, .slice none 0 0, .slice none 0 0] 25] w) :
    Calls Tryd.prog 63 #[.pointer (some ⟨rb, 0, none⟩), .pointer (some ⟨ib, 0, none⟩)] w fun e w' => e = .returned (.int .i64 0) ∧ ∃ (at1 : Int) (gb : Nat) (rs : List OwR), ∃ n : Nat, ctN X j 24 = n ∧ 1 ≤ n ∧ n ≤ 24 ∧ rs.map (·.Y) = mat n (if (wordR (X.getD (j + 1) tz) W2).1 = 0 then rwI X (j + 2) n else hfI X (j + 2) n) ∧ Mem w (feet [pt rb #[.slice (some ⟨g, j * 4, none⟩) (X.length - j) (cap - j), .int .i64 at0] 62, own 77 4 (.slice ((some ⟨g, 0, none⟩)) X.length cap) X.length (tokv X), pt ib #[.int .i64 3, .int .i64 0, .int .i64 0, .slice none 0 0, .slice none 0 0, .slice none 0 0] 25]) [pt rb #[.slice (some ⟨g, (toR X j).2 * 4, none⟩) (X.length - (toR X j).2) (cap - (toR X j).2), .int .i64 at1] 62, own 77 4 (.slice ((some ⟨g, 0, none⟩)) X.length cap) X.length (tokv X), pt ib #[.int .i64 3, .int .i64 ((n : Int)), .int .i64 0, .slice none 0 0, .slice none 0 0, .slice ((some ⟨gb, 0, none⟩)) n n] 25, own 22 1 (.slice ((some ⟨gb, 0, none⟩)) n n) n ((rs.map orV)), bundle (rs.map (orC 3))] w' :=
  (tour06 g rb ib j cap at0 X hX hj hcap w hM).mono (by rintro e w' ⟨h1, h2 | h2⟩; exact absurd hE h2.1; exact ⟨by rw [h1, hE], h2.2⟩)
theorem Toks.nuE {X : List Tok} (h : Toks X) {f : Nat → Bool} {j : Nat} (hj : j < X.length) : ∀ {m : Nat}, (nuR f X j m).1 = 0 → (nuR f X j m).2 < X.length := fun {m} e => by
  obtain ⟨h1, h2⟩ := nuR_zero e
  rw [h2]
  have key : ∀ q, q ≤ m → j + q < X.length := by
    intro q
    induction q with
    | zero => intro _; exact hj
    | succ q ih => intro hq; exact h.ok (ih (by omega)) (nuE_zero (h1 q (by omega))).1
  exact key m (Nat.le_refl m)
theorem Toks.itE {X : List Tok} (h : Toks X) {j : Nat} (hj : j < X.length) (e : (itR X j).1 = 0) : (itR X j).2 < X.length := by
  by_cases hc : cntR (X.getD j tz) 64 = 0
  · rw [itR_num hc rfl] at e ⊢
    obtain ⟨n, -, -, -, -, h0⟩ := h.ct hc
    exact h.nuE (h.ok hj h0) e
  · rw [itR_cnt hc] at e; exact absurd e hc
theorem Toks.toE {X : List Tok} (h : Toks X) {j : Nat} (hj : j < X.length) (e : (toR X j).1 = 0) : (toR X j).2 < X.length := by
  by_cases hc : cntR (X.getD j tz) 24 = 0
  · obtain ⟨n, -, -, -, -, h0⟩ := h.ct hc
    have hj1 := h.ok hj h0
    by_cases hw : (wordR (X.getD (j + 1) tz) W2).2 = 0
    · have hj2 := h.wok hj1 hw
      by_cases hl : (wordR (X.getD (j + 1) tz) W2).1 = 0
      · rw [toR_full hc rfl hw hl] at e ⊢; exact h.nuE hj2 e
      · rw [toR_half hc rfl hw hl] at e ⊢; exact h.nuE hj2 e
    · rw [toR_word hc hw] at e; exact absurd e hw
  · rw [toR_cnt hc] at e; exact absurd e hc
set_option maxRecDepth 100000 in
set_option maxHeartbeats 400000 in
theorem problem06 (g rb ib cap : Nat) (at0 : Int) (X : List Tok) (hX : Toks X) (hj : 0 < X.length) (hcap : X.length ≤ cap) (w : World) (hM : Mem w (feet [pt rb #[.slice (some ⟨g, 0 * 4, none⟩) (X.length - 0) (cap - 0), .int .i64 at0] 62, own 77 4 (.slice ((some ⟨g, 0, none⟩)) X.length cap) X.length (tokv X), pt ib cz0 25]) [pt rb #[.slice (some ⟨g, 0 * 4, none⟩) (X.length - 0) (cap - 0), .int .i64 at0] 62, own 77 4 (.slice ((some ⟨g, 0, none⟩)) X.length cap) X.length (tokv X), pt ib cz0 25] w) :
  Calls Tryd.prog 48 #[.pointer (some ⟨rb, 0, none⟩), .pointer (some ⟨ib, 0, none⟩)] w fun e w' => e = .returned (.int .i64 (pbR X).1) ∧ (((pbR X).1 ≠ 0 ∧ ∃ jx, Mem w (feet [pt rb #[.slice (some ⟨g, 0 * 4, none⟩) (X.length - 0) (cap - 0), .int .i64 at0] 62, own 77 4 (.slice ((some ⟨g, 0, none⟩)) X.length cap) X.length (tokv X), pt ib cz0 25]) [pt rb #[.slice (some ⟨g, jx * 4, none⟩) (X.length - jx) (cap - jx), .int .i64 (((X.getD (pbR X).2 tz).a))] 62, own 77 4 (.slice ((some ⟨g, 0, none⟩)) X.length cap) X.length (tokv X)] w') ∨ ((pbR X).1 = 0 ∧ ∃ jx at1 aw cw av cv ac cc, ∃ rs : List OwR, rs.map (·.Y) = (pbI X).cost ∧ Mem w (feet [pt rb #[.slice (some ⟨g, 0 * 4, none⟩) (X.length - 0) (cap - 0), .int .i64 at0] 62, own 77 4 (.slice ((some ⟨g, 0, none⟩)) X.length cap) X.length (tokv X), pt ib cz0 25]) [pt rb #[.slice (some ⟨g, jx * 4, none⟩) (X.length - jx) (cap - jx), .int .i64 at1] 62, own 77 4 (.slice ((some ⟨g, 0, none⟩)) X.length cap) X.length (tokv X), pt ib #[.int .i64 ((pbI X).kind), .int .i64 ((pbI X).n), .int .i64 ((pbI X).cap), .slice aw ((pbI X).wt.length) cw, .slice av ((pbI X).vl.length) cv, .slice ac rs.length cc] 25, bundle (insL 3 22 (pbI X) aw cw av cv ac cc rs)] w')) := by
 have hbs := Below.refl (B := w.heap.size) w
 have hlX := hX.len
 refine Calls.of_ends (vs := [.pointer (some ⟨rb, 0, none⟩), .pointer (some ⟨ib, 0, none⟩)]) Tryd.func48 rfl Tryd.ntmps48 rfl ?_
 intro a hA
 replace hA : St 56 [(0, _), (1, _)] a := hA
 refine Ends.seq (Ends.region ?_)
 refine S.val hA (R.assign rfl) rfl ?_; clear hA a; intro a hA
 refine S.done ?_
 refine Ends.seq (Ends.region ?_)
 refine S.val hA (R.move rfl) rfl ?_; clear hA a; intro a hA
 refine S.call hA (R.callF Tryd.func23 rfl rfl rfl) rfl (name05 1 _) ?_; clear hA a
 rintro e w1 ⟨rfl, hb⟩
 replace hM := hM.callB hb; clear hb
 refine ⟨.string (⟨#[75, 78, 65, 80, 83, 65, 67, 75]⟩), rfl, fun a hA => ?_⟩
 refine S.call hA (R.callF Tryd.func23 rfl rfl rfl) rfl (name05 2 _) ?_; clear hA a
 rintro e w2 ⟨rfl, hb⟩
 replace hM := hM.callB hb; clear hb
 refine ⟨.string (⟨#[65, 83, 83, 73, 71, 78, 77, 69, 78, 84]⟩), rfl, fun a hA => ?_⟩
 refine S.call hA (R.callF Tryd.func23 rfl rfl rfl) rfl (name05 3 _) ?_; clear hA a
 rintro e w3 ⟨rfl, hb⟩
 replace hM := hM.callB hb; clear hb
 refine ⟨.string (⟨#[84, 83, 80]⟩), rfl, fun a hA => ?_⟩
 refine S.buildSl (cells := #[.string (⟨#[75, 78, 65, 80, 83, 65, 67, 75]⟩), .string (⟨#[65, 83, 83, 73, 71, 78, 77, 69, 78, 84]⟩), .string (⟨#[84, 83, 80]⟩)]) hA hM Tryd.underlying34 info9 rfl rfl rfl rfl (by kernel_rfl) rfl ?_; clear hA hM a; intro b1 w4 hb2 hM a hA
 replace hM : Mem _ _ [pt b1 #[.string (⟨#[75, 78, 65, 80, 83, 65, 67, 75]⟩), .string (⟨#[65, 83, 83, 73, 71, 78, 77, 69, 78, 84]⟩), .string (⟨#[84, 83, 80]⟩)] 9, pt rb #[.slice (some ⟨g, 0 * 4, none⟩) (X.length - 0) (cap - 0), .int .i64 at0] 62, own 77 4 (.slice ((some ⟨g, 0, none⟩)) X.length cap) X.length (tokv X), pt ib cz0 25] _ := hM
 replace hM := hM.front (k := 2) rfl
 replace hM := hM.front (k := 2) rfl
 replace hM : Mem _ _ [pt rb #[.slice (some ⟨g, 0 * 4, none⟩) (X.length - 0) (cap - 0), .int .i64 at0] 62, own 77 4 (.slice ((some ⟨g, 0, none⟩)) X.length cap) X.length (tokv X), pt b1 #[.string (⟨#[75, 78, 65, 80, 83, 65, 67, 75]⟩), .string (⟨#[65, 83, 83, 73, 71, 78, 77, 69, 78, 84]⟩), .string (⟨#[84, 83, 80]⟩)] 9, pt ib cz0 25] _ := hM
 refine S.call hA (R.callF Tryd.func61 rfl rfl rfl) rfl (word06_3 g rb 0 cap at0 X hX (by omega) hcap b1 (⟨#[75, 78, 65, 80, 83, 65, 67, 75]⟩) (⟨#[65, 83, 83, 73, 71, 78, 77, 69, 78, 84]⟩) (⟨#[84, 83, 80]⟩) _ (hM.hereN 3)) ?_; clear hA a
 rintro e w5 ⟨rfl, hn⟩
 replace hM : Mem _ _ [pt rb #[.slice (some ⟨g, (nxJ 0 (wordR (X.getD 0 tz) W3).2) * 4, none⟩) (X.length - (nxJ 0 (wordR (X.getD 0 tz) W3).2)) (cap - (nxJ 0 (wordR (X.getD 0 tz) W3).2)), .int .i64 ((X.getD 0 tz).a)] 62, own 77 4 (.slice ((some ⟨g, 0, none⟩)) X.length cap) X.length (tokv X), pt b1 #[.string (⟨#[75, 78, 65, 80, 83, 65, 67, 75]⟩), .string (⟨#[65, 83, 83, 73, 71, 78, 77, 69, 78, 84]⟩), .string (⟨#[84, 83, 80]⟩)] 9, pt ib cz0 25] _ := hM.callL 3 hn; clear hn
 refine ⟨.tuple #[.int .i64 ((wordR (X.getD 0 tz) W3).1), .int .i64 ((wordR (X.getD 0 tz) W3).2)], rfl, fun a hA => ?_⟩
 refine S.val hA (R.move rfl) rfl ?_; clear hA a; intro a hA
 refine S.val hA (R.extract (v := .int .i64 ((wordR (X.getD 0 tz) W3).1)) rfl rfl) rfl ?_; clear hA a; intro a hA
 refine S.val hA (R.extract (v := .int .i64 ((wordR (X.getD 0 tz) W3).2)) rfl rfl) rfl ?_; clear hA a; intro a hA
 refine S.val hA (R.assign rfl) rfl ?_; clear hA a; intro a hA
 refine S.val hA (R.assign rfl) rfl ?_; clear hA a; intro a hA
 refine S.done ?_
 replace hA : St 56 [(0, _), (1, _), (5, _), (6, _)] a := hA.sub ((.cons rfl (.cons rfl (.cons rfl (.cons rfl .nil)))))
 refine Ends.seq (Ends.seq (Ends.region ?_))
 refine S.val hA (R.move rfl) rfl ?_; clear hA a; intro a hA
 refine S.val hA (R.neq rfl rfl) rfl ?_; clear hA a; intro a hA
 refine S.done ?_
 refine Ends.ite hA rfl (fun hc3 => ?_) (fun hc3 => ?_)
 ·
  refine Ends.seq (Ends.region ?_)
  refine S.val hA (R.move rfl) rfl ?_; clear hA a; intro a hA
  refine S.val hA (R.assign rfl) rfl ?_; clear hA a; intro a hA
  refine S.done ?_
  refine Ends.ret1 Tryd.func48 Tryd.results48 hA rfl ?_
  replace hM := hM.firstN 2
  replace hM : Mem _ _ [pt rb #[.slice (some ⟨g, (nxJ 0 (wordR (X.getD 0 tz) W3).2) * 4, none⟩) (X.length - (nxJ 0 (wordR (X.getD 0 tz) W3).2)) (cap - (nxJ 0 (wordR (X.getD 0 tz) W3).2)), .int .i64 ((X.getD 0 tz).a)] 62, own 77 4 (.slice ((some ⟨g, 0, none⟩)) X.length cap) X.length (tokv X)] _ := hM
  have e1 := pbR_word hc3
  exact ⟨by rw [e1], .inl ⟨by rw [e1]; exact hc3, _, by rw [e1]; exact hM⟩⟩
 ·
  have hw0 := Decidable.not_not.1 hc3
  have hrg := wordR_rng _ _ hw0
  rw [show W3.length = 3 from rfl] at hrg
  have hj1 := hX.wok hj hw0
  rw [nxJ_ok hw0] at hM
  obtain ⟨kd, hkd⟩ : ∃ kd, (wordR (X.getD 0 tz) W3).1 + 1 = kd := ⟨_, rfl⟩
  replace hM : Mem _ _ [pt rb #[.slice (some ⟨g, 1 * 4, none⟩) (X.length - 1) (cap - 1), .int .i64 ((X.getD 0 tz).a)] 62, own 77 4 (.slice ((some ⟨g, 0, none⟩)) X.length cap) X.length (tokv X), pt b1 #[.string (⟨#[75, 78, 65, 80, 83, 65, 67, 75]⟩), .string (⟨#[65, 83, 83, 73, 71, 78, 77, 69, 78, 84]⟩), .string (⟨#[84, 83, 80]⟩)] 9, pt ib cz0 25] _ := hM
  refine Ends.skip (Ends.seq (Ends.region ?_))
  refine S.val hA (R.move rfl) rfl ?_; clear hA a; intro a hA
  refine S.val hA (R.move rfl) rfl ?_; clear hA a; intro a hA
  refine S.val hA (R.addI rfl rfl (r := kd) hkd (by omega)) rfl ?_; clear hA a; intro a hA
  refine S.val hA (R.nilCheck rfl) rfl ?_; clear hA a; intro a hA
  refine S.val hA (R.fieldAddr (q := 0) fi25_0 rfl rfl rfl) rfl ?_; clear hA a; intro a hA
  refine S.store (k := 3) hA hM sz3 rfl rfl rfl rfl rfl ?_; clear hM
  intro w6 hM
  replace hM : Mem _ _ [pt rb #[.slice (some ⟨g, 1 * 4, none⟩) (X.length - 1) (cap - 1), .int .i64 ((X.getD 0 tz).a)] 62, own 77 4 (.slice ((some ⟨g, 0, none⟩)) X.length cap) X.length (tokv X), pt b1 #[.string (⟨#[75, 78, 65, 80, 83, 65, 67, 75]⟩), .string (⟨#[65, 83, 83, 73, 71, 78, 77, 69, 78, 84]⟩), .string (⟨#[84, 83, 80]⟩)] 9, pt ib #[.int .i64 kd, .int .i64 0, .int .i64 0, .slice none 0 0, .slice none 0 0, .slice none 0 0] 25] _ := hM
  refine S.done ?_
  replace hA : St 56 [(0, _), (1, _), (6, _)] a := hA.sub ((.cons rfl (.cons rfl (.cons rfl .nil))))
  refine Ends.seq (Ends.seq (Ends.region ?_))
  refine S.val hA (R.move rfl) rfl ?_; clear hA a; intro a hA
  refine S.val hA (R.nilCheck rfl) rfl ?_; clear hA a; intro a hA
  refine S.val hA (R.fieldAddr (q := 0) fi25_0 rfl rfl rfl) rfl ?_; clear hA a; intro a hA
  refine S.val hA (R.load sz3 rfl (hM.cell (k := 3) rfl rfl)) rfl ?_; clear hA a; intro a hA
  refine S.done ?_
  refine Ends.block (Ends.seq (Ends.region ?_))
  refine S.val hA (R.eql rfl rfl) rfl ?_; clear hA a; intro a hA
  refine S.val hA (R.assign rfl) rfl ?_; clear hA a; intro a hA
  refine S.done ?_
  replace hA : St 56 [(0, _), (1, _), (27, _), (41, _)] a := hA.sub ((.cons rfl (.cons rfl (.cons rfl (.cons rfl .nil)))))
  refine Ends.ite hA rfl (fun hc4 => ?_) (fun hc4 => ?_)
  ·
   have hk1 : kd = 1 := hc4
   subst hk1
   replace hM : Mem _ _ [pt rb #[.slice (some ⟨g, 1 * 4, none⟩) (X.length - 1) (cap - 1), .int .i64 ((X.getD 0 tz).a)] 62, own 77 4 (.slice ((some ⟨g, 0, none⟩)) X.length cap) X.length (tokv X), pt b1 #[.string (⟨#[75, 78, 65, 80, 83, 65, 67, 75]⟩), .string (⟨#[65, 83, 83, 73, 71, 78, 77, 69, 78, 84]⟩), .string (⟨#[84, 83, 80]⟩)] 9, pt ib #[.int .i64 1, .int .i64 0, .int .i64 0, .slice none 0 0, .slice none 0 0, .slice none 0 0] 25] _ := hM
   by_cases hs5 : (itR X 1).1 = 0
   ·
    refine Ends.region ?_
    refine S.val hA (R.move rfl) rfl ?_; clear hA a; intro a hA
    refine S.val hA (R.move rfl) rfl ?_; clear hA a; intro a hA
    replace hM := hM.front (k := 3) rfl
    replace hM := hM.front (k := 2) rfl
    replace hM := hM.front (k := 2) rfl
    replace hM : Mem _ _ [pt rb #[.slice (some ⟨g, 1 * 4, none⟩) (X.length - 1) (cap - 1), .int .i64 ((X.getD 0 tz).a)] 62, own 77 4 (.slice ((some ⟨g, 0, none⟩)) X.length cap) X.length (tokv X), pt ib #[.int .i64 1, .int .i64 0, .int .i64 0, .slice none 0 0, .slice none 0 0, .slice none 0 0] 25, pt b1 #[.string (⟨#[75, 78, 65, 80, 83, 65, 67, 75]⟩), .string (⟨#[65, 83, 83, 73, 71, 78, 77, 69, 78, 84]⟩), .string (⟨#[84, 83, 80]⟩)] 9] _ := hM
    refine S.call hA (R.callF Tryd.func62 rfl rfl rfl) rfl (items06_ok g rb ib 1 cap ((X.getD 0 tz).a) X hX (by omega) hcap 1 hs5 _ (hM.hereN 3)) ?_; clear hA a
    rintro e w7 ⟨rfl, atx, wa, wc, va, vc, n, hcn, hn1, hn64, hn⟩
    replace hM : Mem _ _ [pt rb #[.slice (some ⟨g, (itR X 1).2 * 4, none⟩) (X.length - (itR X 1).2) (cap - (itR X 1).2), .int .i64 atx] 62, own 77 4 (.slice ((some ⟨g, 0, none⟩)) X.length cap) X.length (tokv X), pt ib #[.int .i64 1, .int .i64 ((n : Int)), .int .i64 ((X.getD 2 tz).n), .slice wa ((itI X 3 n).length) wc, .slice va ((itI X 4 n).length) vc, .slice none 0 0] 25, own 3 1 (.slice wa (((itI X 3 n)).length) wc) (((itI X 3 n)).length) (((itI X 3 n)).map (Value.int .i64)), own 3 1 (.slice va (((itI X 4 n)).length) vc) (((itI X 4 n)).length) (((itI X 4 n)).map (Value.int .i64)), pt b1 #[.string (⟨#[75, 78, 65, 80, 83, 65, 67, 75]⟩), .string (⟨#[65, 83, 83, 73, 71, 78, 77, 69, 78, 84]⟩), .string (⟨#[84, 83, 80]⟩)] 9] _ := hM.callL 3 hn; clear hn
    refine ⟨.int .i64 0, rfl, fun a hA => ?_⟩
    refine S.val hA (R.assign rfl) rfl ?_; clear hA a; intro a hA
    refine S.done ?_
    replace hA : St 56 [(0, _), (6, _)] a := hA.sub ((.cons rfl (.cons rfl .nil)))
    refine Ends.inBlock (Ends.seq (Ends.seq (Ends.region ?_)))
    refine S.val hA (R.move rfl) rfl ?_; clear hA a; intro a hA
    refine S.val hA (R.ff (R.neq rfl rfl) (by first | decide | simp | omega)) rfl ?_; clear hA a; intro a hA
    refine S.done ?_
    refine Ends.condF hA rfl ?_
    refine Ends.skip (Ends.seq ?_)
    have hjq : (itR X 1).2 < X.length := hX.itE hj1 hs5
    refine Ends.region ?_
    refine S.val hA (R.move rfl) rfl ?_; clear hA a; intro a hA
    refine S.call hA (R.callF Tryd.func66 rfl rfl rfl) rfl (end06 g rb ((itR X 1).2) cap atx X hX (by omega) hcap _ (hM.hereN 2)) ?_; clear hA a
    rintro e w8 ⟨rfl, hn⟩
    replace hM : Mem _ _ [pt rb #[.slice (some ⟨g, (itR X 1).2 * 4, none⟩) (X.length - (itR X 1).2) (cap - (itR X 1).2), .int .i64 ((X.getD ((itR X 1).2) tz).a)] 62, own 77 4 (.slice ((some ⟨g, 0, none⟩)) X.length cap) X.length (tokv X), pt ib #[.int .i64 1, .int .i64 ((n : Int)), .int .i64 ((X.getD 2 tz).n), .slice wa ((itI X 3 n).length) wc, .slice va ((itI X 4 n).length) vc, .slice none 0 0] 25, own 3 1 (.slice wa (((itI X 3 n)).length) wc) (((itI X 3 n)).length) (((itI X 3 n)).map (Value.int .i64)), own 3 1 (.slice va (((itI X 4 n)).length) vc) (((itI X 4 n)).length) (((itI X 4 n)).map (Value.int .i64)), pt b1 #[.string (⟨#[75, 78, 65, 80, 83, 65, 67, 75]⟩), .string (⟨#[65, 83, 83, 73, 71, 78, 77, 69, 78, 84]⟩), .string (⟨#[84, 83, 80]⟩)] 9] _ := hM.callL 2 hn; clear hn
    refine ⟨.int .i64 ((endR (X.getD ((itR X 1).2) tz))), rfl, fun a hA => ?_⟩
    refine S.val hA (R.assign rfl) rfl ?_; clear hA a; intro a hA
    refine S.done ?_
    replace hA : St 56 [(4, _)] a := hA.sub ((.cons rfl .nil))
    refine Ends.ret1 Tryd.func48 Tryd.results48 hA rfl ?_
    have e1 := (pbR_in hw0 hkd).trans ((congrArg (finR X) (bodR_it)).trans (finR_end hs5))
    have hM1 := hM
    replace hM := (hM.bundleNil (e := 3)).ownNil 22 1
    replace hM : Mem _ _ [own 22 1 (.slice none 0 0) 0 ((([] : List OwR).map orV)), bundle (([] : List OwR).map (orC 3)), pt rb #[.slice (some ⟨g, (itR X 1).2 * 4, none⟩) (X.length - (itR X 1).2) (cap - (itR X 1).2), .int .i64 ((X.getD ((itR X 1).2) tz).a)] 62, own 77 4 (.slice ((some ⟨g, 0, none⟩)) X.length cap) X.length (tokv X), pt ib #[.int .i64 1, .int .i64 ((n : Int)), .int .i64 ((X.getD 2 tz).n), .slice wa ((itI X 3 n).length) wc, .slice va ((itI X 4 n).length) vc, .slice none 0 0] 25, own 3 1 (.slice wa (((itI X 3 n)).length) wc) (((itI X 3 n)).length) (((itI X 3 n)).map (Value.int .i64)), own 3 1 (.slice va (((itI X 4 n)).length) vc) (((itI X 4 n)).length) (((itI X 4 n)).map (Value.int .i64)), pt b1 #[.string (⟨#[75, 78, 65, 80, 83, 65, 67, 75]⟩), .string (⟨#[65, 83, 83, 73, 71, 78, 77, 69, 78, 84]⟩), .string (⟨#[84, 83, 80]⟩)] 9] _ := hM
    replace hM := hM.front (k := 1) rfl
    replace hM := hM.front (k := 1) rfl
    replace hM := hM.front (k := 6) rfl
    replace hM := hM.front (k := 6) rfl
    replace hM := hM.front (k := 6) rfl
    replace hM := hM.front (k := 6) rfl
    replace hM := hM.front (k := 6) rfl
    replace hM : Mem _ _ [pt rb #[.slice (some ⟨g, (itR X 1).2 * 4, none⟩) (X.length - (itR X 1).2) (cap - (itR X 1).2), .int .i64 ((X.getD ((itR X 1).2) tz).a)] 62, own 77 4 (.slice ((some ⟨g, 0, none⟩)) X.length cap) X.length (tokv X), pt ib #[.int .i64 1, .int .i64 ((n : Int)), .int .i64 ((X.getD 2 tz).n), .slice wa ((itI X 3 n).length) wc, .slice va ((itI X 4 n).length) vc, .slice none 0 0] 25, own 3 1 (.slice wa (((itI X 3 n)).length) wc) (((itI X 3 n)).length) (((itI X 3 n)).map (Value.int .i64)), own 3 1 (.slice va (((itI X 4 n)).length) vc) (((itI X 4 n)).length) (((itI X 4 n)).map (Value.int .i64)), own 22 1 (.slice none 0 0) 0 ((([] : List OwR).map orV)), bundle (([] : List OwR).map (orC 3)), pt b1 #[.string (⟨#[75, 78, 65, 80, 83, 65, 67, 75]⟩), .string (⟨#[65, 83, 83, 73, 71, 78, 77, 69, 78, 84]⟩), .string (⟨#[84, 83, 80]⟩)] 9] _ := hM
    replace hM := hM.firstN 7
    replace hM : Mem _ _ [pt rb #[.slice (some ⟨g, (itR X 1).2 * 4, none⟩) (X.length - (itR X 1).2) (cap - (itR X 1).2), .int .i64 ((X.getD ((itR X 1).2) tz).a)] 62, own 77 4 (.slice ((some ⟨g, 0, none⟩)) X.length cap) X.length (tokv X), pt ib #[.int .i64 1, .int .i64 ((n : Int)), .int .i64 ((X.getD 2 tz).n), .slice wa ((itI X 3 n).length) wc, .slice va ((itI X 4 n).length) vc, .slice none 0 0] 25, own 3 1 (.slice wa (((itI X 3 n)).length) wc) (((itI X 3 n)).length) (((itI X 3 n)).map (Value.int .i64)), own 3 1 (.slice va (((itI X 4 n)).length) vc) (((itI X 4 n)).length) (((itI X 4 n)).map (Value.int .i64)), own 22 1 (.slice none 0 0) 0 ((([] : List OwR).map orV)), bundle (([] : List OwR).map (orC 3))] _ := hM
    replace hM := Mem.packI (G0 := (⟨1, (n : Int), (X.getD 2 tz).n, itI X 3 n, itI X 4 n, []⟩ : Ins)) (eI := 3) (eR := 22) (aw := wa) (cw := wc) (av := va) (cv := vc) (ac := none) (cc := 0) (rs := []) (pbI_it hkd hcn) hM
    by_cases h9 : (endR (X.getD ((itR X 1).2) tz)) = 0
    · exact ⟨by rw [e1], .inr ⟨by rw [e1]; exact h9, _, _, wa, wc, va, vc, none, 0, [], by rw [← pbI_it hkd hcn]; rfl, hM⟩⟩
    ·
     replace hM1 := hM1.firstN 2
     exact ⟨by rw [e1], .inl ⟨by rw [e1]; exact h9, _, by rw [e1]; exact hM1⟩⟩
   ·
    refine Ends.region ?_
    refine S.val hA (R.move rfl) rfl ?_; clear hA a; intro a hA
    refine S.val hA (R.move rfl) rfl ?_; clear hA a; intro a hA
    replace hM := hM.front (k := 3) rfl
    replace hM := hM.front (k := 2) rfl
    replace hM := hM.front (k := 2) rfl
    replace hM : Mem _ _ [pt rb #[.slice (some ⟨g, 1 * 4, none⟩) (X.length - 1) (cap - 1), .int .i64 ((X.getD 0 tz).a)] 62, own 77 4 (.slice ((some ⟨g, 0, none⟩)) X.length cap) X.length (tokv X), pt ib #[.int .i64 1, .int .i64 0, .int .i64 0, .slice none 0 0, .slice none 0 0, .slice none 0 0] 25, pt b1 #[.string (⟨#[75, 78, 65, 80, 83, 65, 67, 75]⟩), .string (⟨#[65, 83, 83, 73, 71, 78, 77, 69, 78, 84]⟩), .string (⟨#[84, 83, 80]⟩)] 9] _ := hM
    refine S.call hA (R.callF Tryd.func62 rfl rfl rfl) rfl (items06_bad g rb ib 1 cap ((X.getD 0 tz).a) X hX (by omega) hcap 1 hs5 _ (hM.hereN 3)) ?_; clear hA a
    rintro e w9 ⟨rfl, jx6, hn⟩
    replace hM : Mem _ _ [pt rb #[.slice (some ⟨g, jx6 * 4, none⟩) (X.length - jx6) (cap - jx6), .int .i64 (((X.getD (itR X 1).2 tz).a))] 62, own 77 4 (.slice ((some ⟨g, 0, none⟩)) X.length cap) X.length (tokv X), pt b1 #[.string (⟨#[75, 78, 65, 80, 83, 65, 67, 75]⟩), .string (⟨#[65, 83, 83, 73, 71, 78, 77, 69, 78, 84]⟩), .string (⟨#[84, 83, 80]⟩)] 9] _ := hM.callL 3 hn; clear hn
    refine ⟨.int .i64 ((itR X 1).1), rfl, fun a hA => ?_⟩
    refine S.val hA (R.assign rfl) rfl ?_; clear hA a; intro a hA
    refine S.done ?_
    replace hA : St 56 [(0, _), (6, _)] a := hA.sub ((.cons rfl (.cons rfl .nil)))
    refine Ends.inBlock (Ends.seq (Ends.seq (Ends.region ?_)))
    refine S.val hA (R.move rfl) rfl ?_; clear hA a; intro a hA
    refine S.val hA (R.neq rfl rfl) rfl ?_; clear hA a; intro a hA
    refine S.done ?_
    refine Ends.ite hA rfl (fun hc7 => ?_) (fun hc7 => ?_)
    ·
     refine Ends.seq (Ends.region ?_)
     refine S.val hA (R.move rfl) rfl ?_; clear hA a; intro a hA
     refine S.val hA (R.assign rfl) rfl ?_; clear hA a; intro a hA
     refine S.done ?_
     replace hA : St 56 [(0, _), (4, _)] a := hA.sub ((.cons rfl (.cons rfl .nil)))
     refine Ends.ret1 Tryd.func48 Tryd.results48 hA rfl ?_
     replace hM := hM.firstN 2
     replace hM : Mem _ _ [pt rb #[.slice (some ⟨g, jx6 * 4, none⟩) (X.length - jx6) (cap - jx6), .int .i64 (((X.getD (itR X 1).2 tz).a))] 62, own 77 4 (.slice ((some ⟨g, 0, none⟩)) X.length cap) X.length (tokv X)] _ := hM
     have e1 := (pbR_in hw0 hkd).trans ((congrArg (finR X) (bodR_it)).trans (finR_err hs5))
     exact ⟨by rw [e1], .inl ⟨by rw [e1]; exact hs5, _, by rw [e1]; exact hM⟩⟩
    · exact absurd (by assumption) hc7
  ·
   have hk1 : ¬ kd = 1 := hc4
   refine Ends.seq (Ends.region ?_)
   refine S.val hA (R.eql rfl rfl) rfl ?_; clear hA a; intro a hA
   refine S.val hA (R.assign rfl) rfl ?_; clear hA a; intro a hA
   refine S.done ?_
   refine Ends.ite hA rfl (fun hc8 => ?_) (fun hc8 => ?_)
   ·
    have hk3 : kd = 3 := hc8
    subst hk3
    replace hM : Mem _ _ [pt rb #[.slice (some ⟨g, 1 * 4, none⟩) (X.length - 1) (cap - 1), .int .i64 ((X.getD 0 tz).a)] 62, own 77 4 (.slice ((some ⟨g, 0, none⟩)) X.length cap) X.length (tokv X), pt b1 #[.string (⟨#[75, 78, 65, 80, 83, 65, 67, 75]⟩), .string (⟨#[65, 83, 83, 73, 71, 78, 77, 69, 78, 84]⟩), .string (⟨#[84, 83, 80]⟩)] 9, pt ib #[.int .i64 3, .int .i64 0, .int .i64 0, .slice none 0 0, .slice none 0 0, .slice none 0 0] 25] _ := hM
    by_cases hs9 : (toR X 1).1 = 0
    ·
     refine Ends.region ?_
     refine S.val hA (R.move rfl) rfl ?_; clear hA a; intro a hA
     refine S.val hA (R.move rfl) rfl ?_; clear hA a; intro a hA
     replace hM := hM.front (k := 3) rfl
     replace hM := hM.front (k := 2) rfl
     replace hM := hM.front (k := 2) rfl
     replace hM : Mem _ _ [pt rb #[.slice (some ⟨g, 1 * 4, none⟩) (X.length - 1) (cap - 1), .int .i64 ((X.getD 0 tz).a)] 62, own 77 4 (.slice ((some ⟨g, 0, none⟩)) X.length cap) X.length (tokv X), pt ib #[.int .i64 3, .int .i64 0, .int .i64 0, .slice none 0 0, .slice none 0 0, .slice none 0 0] 25, pt b1 #[.string (⟨#[75, 78, 65, 80, 83, 65, 67, 75]⟩), .string (⟨#[65, 83, 83, 73, 71, 78, 77, 69, 78, 84]⟩), .string (⟨#[84, 83, 80]⟩)] 9] _ := hM
     refine S.call hA (R.callF Tryd.func63 rfl rfl rfl) rfl (tour06_ok g rb ib 1 cap ((X.getD 0 tz).a) X hX (by omega) hcap hs9 _ (hM.hereN 3)) ?_; clear hA a
     rintro e w10 ⟨rfl, atx, gb, rs, n, hcn, hn1, hn24, hYs, hn⟩
     replace hM : Mem _ _ [pt rb #[.slice (some ⟨g, (toR X 1).2 * 4, none⟩) (X.length - (toR X 1).2) (cap - (toR X 1).2), .int .i64 atx] 62, own 77 4 (.slice ((some ⟨g, 0, none⟩)) X.length cap) X.length (tokv X), pt ib #[.int .i64 3, .int .i64 ((n : Int)), .int .i64 0, .slice none 0 0, .slice none 0 0, .slice ((some ⟨gb, 0, none⟩)) n n] 25, own 22 1 (.slice ((some ⟨gb, 0, none⟩)) n n) n ((rs.map orV)), bundle (rs.map (orC 3)), pt b1 #[.string (⟨#[75, 78, 65, 80, 83, 65, 67, 75]⟩), .string (⟨#[65, 83, 83, 73, 71, 78, 77, 69, 78, 84]⟩), .string (⟨#[84, 83, 80]⟩)] 9] _ := hM.callL 3 hn; clear hn
     refine ⟨.int .i64 0, rfl, fun a hA => ?_⟩
     refine S.val hA (R.assign rfl) rfl ?_; clear hA a; intro a hA
     refine S.done ?_
     replace hA : St 56 [(0, _), (6, _)] a := hA.sub ((.cons rfl (.cons rfl .nil)))
     refine Ends.inBlock (Ends.seq (Ends.seq (Ends.region ?_)))
     refine S.val hA (R.move rfl) rfl ?_; clear hA a; intro a hA
     refine S.val hA (R.ff (R.neq rfl rfl) (by first | decide | simp | omega)) rfl ?_; clear hA a; intro a hA
     refine S.done ?_
     refine Ends.condF hA rfl ?_
     refine Ends.skip (Ends.seq ?_)
     have hjq : (toR X 1).2 < X.length := hX.toE hj1 hs9
     refine Ends.region ?_
     refine S.val hA (R.move rfl) rfl ?_; clear hA a; intro a hA
     refine S.call hA (R.callF Tryd.func66 rfl rfl rfl) rfl (end06 g rb ((toR X 1).2) cap atx X hX (by omega) hcap _ (hM.hereN 2)) ?_; clear hA a
     rintro e w11 ⟨rfl, hn⟩
     replace hM : Mem _ _ [pt rb #[.slice (some ⟨g, (toR X 1).2 * 4, none⟩) (X.length - (toR X 1).2) (cap - (toR X 1).2), .int .i64 ((X.getD ((toR X 1).2) tz).a)] 62, own 77 4 (.slice ((some ⟨g, 0, none⟩)) X.length cap) X.length (tokv X), pt ib #[.int .i64 3, .int .i64 ((n : Int)), .int .i64 0, .slice none 0 0, .slice none 0 0, .slice ((some ⟨gb, 0, none⟩)) n n] 25, own 22 1 (.slice ((some ⟨gb, 0, none⟩)) n n) n ((rs.map orV)), bundle (rs.map (orC 3)), pt b1 #[.string (⟨#[75, 78, 65, 80, 83, 65, 67, 75]⟩), .string (⟨#[65, 83, 83, 73, 71, 78, 77, 69, 78, 84]⟩), .string (⟨#[84, 83, 80]⟩)] 9] _ := hM.callL 2 hn; clear hn
     refine ⟨.int .i64 ((endR (X.getD ((toR X 1).2) tz))), rfl, fun a hA => ?_⟩
     refine S.val hA (R.assign rfl) rfl ?_; clear hA a; intro a hA
     refine S.done ?_
     replace hA : St 56 [(4, _)] a := hA.sub ((.cons rfl .nil))
     refine Ends.ret1 Tryd.func48 Tryd.results48 hA rfl ?_
     have e1 := (pbR_in hw0 hkd).trans ((congrArg (finR X) (bodR_to)).trans (finR_end hs9))
     have hM1 := hM
     replace hM := (hM.ownNil 3 1).ownNil 3 1
     replace hM : Mem _ _ [own 3 1 (.slice none ((([] : List Int)).length) 0) ((([] : List Int)).length) ((([] : List Int)).map (Value.int .i64)), own 3 1 (.slice none ((([] : List Int)).length) 0) ((([] : List Int)).length) ((([] : List Int)).map (Value.int .i64)), pt rb #[.slice (some ⟨g, (toR X 1).2 * 4, none⟩) (X.length - (toR X 1).2) (cap - (toR X 1).2), .int .i64 ((X.getD ((toR X 1).2) tz).a)] 62, own 77 4 (.slice ((some ⟨g, 0, none⟩)) X.length cap) X.length (tokv X), pt ib #[.int .i64 3, .int .i64 ((n : Int)), .int .i64 0, .slice none 0 0, .slice none 0 0, .slice ((some ⟨gb, 0, none⟩)) n n] 25, own 22 1 (.slice ((some ⟨gb, 0, none⟩)) n n) n ((rs.map orV)), bundle (rs.map (orC 3)), pt b1 #[.string (⟨#[75, 78, 65, 80, 83, 65, 67, 75]⟩), .string (⟨#[65, 83, 83, 73, 71, 78, 77, 69, 78, 84]⟩), .string (⟨#[84, 83, 80]⟩)] 9] _ := hM
     replace hM := hM.front (k := 6) rfl
     replace hM := hM.front (k := 6) rfl
     replace hM := hM.front (k := 3) rfl
     replace hM := hM.front (k := 3) rfl
     replace hM := hM.front (k := 6) rfl
     replace hM := hM.front (k := 6) rfl
     replace hM := hM.front (k := 6) rfl
     replace hM : Mem _ _ [pt rb #[.slice (some ⟨g, (toR X 1).2 * 4, none⟩) (X.length - (toR X 1).2) (cap - (toR X 1).2), .int .i64 ((X.getD ((toR X 1).2) tz).a)] 62, own 77 4 (.slice ((some ⟨g, 0, none⟩)) X.length cap) X.length (tokv X), pt ib #[.int .i64 3, .int .i64 ((n : Int)), .int .i64 0, .slice none 0 0, .slice none 0 0, .slice ((some ⟨gb, 0, none⟩)) n n] 25, own 3 1 (.slice none ((([] : List Int)).length) 0) ((([] : List Int)).length) ((([] : List Int)).map (Value.int .i64)), own 3 1 (.slice none ((([] : List Int)).length) 0) ((([] : List Int)).length) ((([] : List Int)).map (Value.int .i64)), own 22 1 (.slice ((some ⟨gb, 0, none⟩)) n n) n ((rs.map orV)), bundle (rs.map (orC 3)), pt b1 #[.string (⟨#[75, 78, 65, 80, 83, 65, 67, 75]⟩), .string (⟨#[65, 83, 83, 73, 71, 78, 77, 69, 78, 84]⟩), .string (⟨#[84, 83, 80]⟩)] 9] _ := hM
     replace hM := hM.firstN 7
     replace hM : Mem _ _ [pt rb #[.slice (some ⟨g, (toR X 1).2 * 4, none⟩) (X.length - (toR X 1).2) (cap - (toR X 1).2), .int .i64 ((X.getD ((toR X 1).2) tz).a)] 62, own 77 4 (.slice ((some ⟨g, 0, none⟩)) X.length cap) X.length (tokv X), pt ib #[.int .i64 3, .int .i64 ((n : Int)), .int .i64 0, .slice none 0 0, .slice none 0 0, .slice ((some ⟨gb, 0, none⟩)) n n] 25, own 3 1 (.slice none ((([] : List Int)).length) 0) ((([] : List Int)).length) ((([] : List Int)).map (Value.int .i64)), own 3 1 (.slice none ((([] : List Int)).length) 0) ((([] : List Int)).length) ((([] : List Int)).map (Value.int .i64)), own 22 1 (.slice ((some ⟨gb, 0, none⟩)) n n) n ((rs.map orV)), bundle (rs.map (orC 3))] _ := hM
     have hlr := rows_len hYs
     rw [← hlr] at hM
     have hpf := pbI_full hkd hcn hYs
     rw [← hlr] at hpf
     replace hM := Mem.packI (G0 := (⟨3, (rs.length : Int), 0, [], [], rs.map (·.Y)⟩ : Ins)) (eI := 3) (eR := 22) (aw := none) (cw := 0) (av := none) (cv := 0) (ac := some ⟨gb, 0, none⟩) (cc := rs.length) (rs := rs) hpf hM
     by_cases h9 : (endR (X.getD ((toR X 1).2) tz)) = 0
     · exact ⟨by rw [e1], .inr ⟨by rw [e1]; exact h9, _, _, none, 0, none, 0, _, _, rs, by rw [← hpf], hM⟩⟩
     ·
      replace hM1 := hM1.firstN 2
      exact ⟨by rw [e1], .inl ⟨by rw [e1]; exact h9, _, by rw [e1]; exact hM1⟩⟩
    ·
     refine Ends.region ?_
     refine S.val hA (R.move rfl) rfl ?_; clear hA a; intro a hA
     refine S.val hA (R.move rfl) rfl ?_; clear hA a; intro a hA
     replace hM := hM.front (k := 3) rfl
     replace hM := hM.front (k := 2) rfl
     replace hM := hM.front (k := 2) rfl
     replace hM : Mem _ _ [pt rb #[.slice (some ⟨g, 1 * 4, none⟩) (X.length - 1) (cap - 1), .int .i64 ((X.getD 0 tz).a)] 62, own 77 4 (.slice ((some ⟨g, 0, none⟩)) X.length cap) X.length (tokv X), pt ib #[.int .i64 3, .int .i64 0, .int .i64 0, .slice none 0 0, .slice none 0 0, .slice none 0 0] 25, pt b1 #[.string (⟨#[75, 78, 65, 80, 83, 65, 67, 75]⟩), .string (⟨#[65, 83, 83, 73, 71, 78, 77, 69, 78, 84]⟩), .string (⟨#[84, 83, 80]⟩)] 9] _ := hM
     refine S.call hA (R.callF Tryd.func63 rfl rfl rfl) rfl (tour06_bad g rb ib 1 cap ((X.getD 0 tz).a) X hX (by omega) hcap hs9 _ (hM.hereN 3)) ?_; clear hA a
     rintro e w12 ⟨rfl, jx10, hn⟩
     replace hM : Mem _ _ [pt rb #[.slice (some ⟨g, jx10 * 4, none⟩) (X.length - jx10) (cap - jx10), .int .i64 (((X.getD (toR X 1).2 tz).a))] 62, own 77 4 (.slice ((some ⟨g, 0, none⟩)) X.length cap) X.length (tokv X), pt b1 #[.string (⟨#[75, 78, 65, 80, 83, 65, 67, 75]⟩), .string (⟨#[65, 83, 83, 73, 71, 78, 77, 69, 78, 84]⟩), .string (⟨#[84, 83, 80]⟩)] 9] _ := hM.callL 3 hn; clear hn
     refine ⟨.int .i64 ((toR X 1).1), rfl, fun a hA => ?_⟩
     refine S.val hA (R.assign rfl) rfl ?_; clear hA a; intro a hA
     refine S.done ?_
     replace hA : St 56 [(0, _), (6, _)] a := hA.sub ((.cons rfl (.cons rfl .nil)))
     refine Ends.inBlock (Ends.seq (Ends.seq (Ends.region ?_)))
     refine S.val hA (R.move rfl) rfl ?_; clear hA a; intro a hA
     refine S.val hA (R.neq rfl rfl) rfl ?_; clear hA a; intro a hA
     refine S.done ?_
     refine Ends.ite hA rfl (fun hc11 => ?_) (fun hc11 => ?_)
     ·
      refine Ends.seq (Ends.region ?_)
      refine S.val hA (R.move rfl) rfl ?_; clear hA a; intro a hA
      refine S.val hA (R.assign rfl) rfl ?_; clear hA a; intro a hA
      refine S.done ?_
      replace hA : St 56 [(0, _), (4, _)] a := hA.sub ((.cons rfl (.cons rfl .nil)))
      refine Ends.ret1 Tryd.func48 Tryd.results48 hA rfl ?_
      replace hM := hM.firstN 2
      replace hM : Mem _ _ [pt rb #[.slice (some ⟨g, jx10 * 4, none⟩) (X.length - jx10) (cap - jx10), .int .i64 (((X.getD (toR X 1).2 tz).a))] 62, own 77 4 (.slice ((some ⟨g, 0, none⟩)) X.length cap) X.length (tokv X)] _ := hM
      have e1 := (pbR_in hw0 hkd).trans ((congrArg (finR X) (bodR_to)).trans (finR_err hs9))
      exact ⟨by rw [e1], .inl ⟨by rw [e1]; exact hs9, _, by rw [e1]; exact hM⟩⟩
     · exact absurd (by assumption) hc11
   ·
    have hk3 : ¬ kd = 3 := hc8
    refine Ends.seq (Ends.region ?_)
    refine S.val hA (R.move rfl) rfl ?_; clear hA a; intro a hA
    refine S.val hA (R.move rfl) rfl ?_; clear hA a; intro a hA
    refine S.call hA (R.callF Tryd.func64 rfl rfl rfl) rfl (count06 g rb 1 cap ((X.getD 0 tz).a) X hX (by omega) hcap 24 _ (hM.hereN 2)) ?_; clear hA a
    rintro e w13 ⟨rfl, hn⟩
    replace hM : Mem _ _ [pt rb #[.slice (some ⟨g, (nxJ 1 (numR (X.getD 1 tz) 24)) * 4, none⟩) (X.length - (nxJ 1 (numR (X.getD 1 tz) 24))) (cap - (nxJ 1 (numR (X.getD 1 tz) 24))), .int .i64 ((X.getD 1 tz).a)] 62, own 77 4 (.slice ((some ⟨g, 0, none⟩)) X.length cap) X.length (tokv X), pt b1 #[.string (⟨#[75, 78, 65, 80, 83, 65, 67, 75]⟩), .string (⟨#[65, 83, 83, 73, 71, 78, 77, 69, 78, 84]⟩), .string (⟨#[84, 83, 80]⟩)] 9, pt ib #[.int .i64 kd, .int .i64 0, .int .i64 0, .slice none 0 0, .slice none 0 0, .slice none 0 0] 25] _ := hM.callL 2 hn; clear hn
    refine ⟨.tuple #[.int .i64 ((numN (X.getD 1 tz) 24)), .int .i64 ((cntR (X.getD 1 tz) 24))], rfl, fun a hA => ?_⟩
    refine S.val hA (R.move rfl) rfl ?_; clear hA a; intro a hA
    refine S.val hA (R.extract (v := .int .i64 ((numN (X.getD 1 tz) 24))) rfl rfl) rfl ?_; clear hA a; intro a hA
    refine S.val hA (R.extract (v := .int .i64 ((cntR (X.getD 1 tz) 24))) rfl rfl) rfl ?_; clear hA a; intro a hA
    refine S.val hA (R.nilCheck rfl) rfl ?_; clear hA a; intro a hA
    refine S.val hA (R.fieldAddr (q := 1) fi25_1 rfl rfl rfl) rfl ?_; clear hA a; intro a hA
    refine S.store (k := 3) hA hM sz3 rfl rfl rfl rfl rfl ?_; clear hM
    intro w14 hM
    replace hM : Mem _ _ [pt rb #[.slice (some ⟨g, (nxJ 1 (numR (X.getD 1 tz) 24)) * 4, none⟩) (X.length - (nxJ 1 (numR (X.getD 1 tz) 24))) (cap - (nxJ 1 (numR (X.getD 1 tz) 24))), .int .i64 ((X.getD 1 tz).a)] 62, own 77 4 (.slice ((some ⟨g, 0, none⟩)) X.length cap) X.length (tokv X), pt b1 #[.string (⟨#[75, 78, 65, 80, 83, 65, 67, 75]⟩), .string (⟨#[65, 83, 83, 73, 71, 78, 77, 69, 78, 84]⟩), .string (⟨#[84, 83, 80]⟩)] 9, pt ib #[.int .i64 kd, .int .i64 ((numN (X.getD 1 tz) 24)), .int .i64 0, .slice none 0 0, .slice none 0 0, .slice none 0 0] 25] _ := hM
    refine S.val hA (R.assign rfl) rfl ?_; clear hA a; intro a hA
    refine S.done ?_
    replace hA : St 56 [(0, _), (1, _), (6, _)] a := hA.sub ((.cons rfl (.cons rfl (.cons rfl .nil))))
    refine Ends.seq (Ends.region ?_)
    refine S.val hA (R.move rfl) rfl ?_; clear hA a; intro a hA
    refine S.val hA (R.eql rfl rfl) rfl ?_; clear hA a; intro a hA
    refine S.done ?_
    refine Ends.ite hA rfl (fun hc12 => ?_) (fun hc12 => ?_)
    ·
     obtain ⟨n, hn, hcn, hn1, hn24_, hr0⟩ := hX.ct hc12
     have hc0 := hc12
     have hj2 := hX.ok hj1 hr0
     have hn24 : n ≤ 24 := by omega
     rw [hn] at hM
     have hdk := dgk_no (n := n) hk3
     rw [nxJ_ok hr0] at hM
     replace hM : Mem _ _ [pt rb #[.slice (some ⟨g, 2 * 4, none⟩) (X.length - 2) (cap - 2), .int .i64 ((X.getD 1 tz).a)] 62, own 77 4 (.slice ((some ⟨g, 0, none⟩)) X.length cap) X.length (tokv X), pt b1 #[.string (⟨#[75, 78, 65, 80, 83, 65, 67, 75]⟩), .string (⟨#[65, 83, 83, 73, 71, 78, 77, 69, 78, 84]⟩), .string (⟨#[84, 83, 80]⟩)] 9, pt ib #[.int .i64 kd, .int .i64 ((n : Int)), .int .i64 0, .slice none 0 0, .slice none 0 0, .slice none 0 0] 25] _ := hM
     by_cases hs13 : (nuR (dgk kd n) X 2 (n * n)).1 = 0
     ·
      refine Ends.region ?_
      refine S.val hA (R.move rfl) rfl ?_; clear hA a; intro a hA
      refine S.val hA (R.move rfl) rfl ?_; clear hA a; intro a hA
      replace hM := hM.front (k := 3) rfl
      replace hM := hM.front (k := 2) rfl
      replace hM := hM.front (k := 2) rfl
      replace hM : Mem _ _ [pt rb #[.slice (some ⟨g, 2 * 4, none⟩) (X.length - 2) (cap - 2), .int .i64 ((X.getD 1 tz).a)] 62, own 77 4 (.slice ((some ⟨g, 0, none⟩)) X.length cap) X.length (tokv X), pt ib #[.int .i64 kd, .int .i64 ((n : Int)), .int .i64 0, .slice none 0 0, .slice none 0 0, .slice none 0 0] 25, pt b1 #[.string (⟨#[75, 78, 65, 80, 83, 65, 67, 75]⟩), .string (⟨#[65, 83, 83, 73, 71, 78, 77, 69, 78, 84]⟩), .string (⟨#[84, 83, 80]⟩)] 9] _ := hM
      refine S.call hA (R.callF Tryd.func65 rfl rfl rfl) rfl (rows06_ok g rb ib 2 cap ((X.getD 1 tz).a) X hX (by omega) hcap kd n hn1 hn24 hs13 _ (hM.hereN 3)) ?_; clear hA a
      rintro e w15 ⟨rfl, atx, gb, rs, hYs, hn⟩
      replace hM : Mem _ _ [pt rb #[.slice (some ⟨g, (nuR (dgk kd n) X 2 (n * n)).2 * 4, none⟩) (X.length - (nuR (dgk kd n) X 2 (n * n)).2) (cap - (nuR (dgk kd n) X 2 (n * n)).2), .int .i64 atx] 62, own 77 4 (.slice ((some ⟨g, 0, none⟩)) X.length cap) X.length (tokv X), pt ib #[.int .i64 kd, .int .i64 ((n : Int)), .int .i64 0, .slice none 0 0, .slice none 0 0, .slice ((some ⟨gb, 0, none⟩)) n n] 25, own 22 1 (.slice ((some ⟨gb, 0, none⟩)) n n) n ((rs.map orV)), bundle (rs.map (orC 3)), pt b1 #[.string (⟨#[75, 78, 65, 80, 83, 65, 67, 75]⟩), .string (⟨#[65, 83, 83, 73, 71, 78, 77, 69, 78, 84]⟩), .string (⟨#[84, 83, 80]⟩)] 9] _ := hM.callL 3 hn; clear hn
      refine ⟨.int .i64 0, rfl, fun a hA => ?_⟩
      refine S.val hA (R.assign rfl) rfl ?_; clear hA a; intro a hA
      refine S.done ?_
      replace hA : St 56 [(0, _), (6, _)] a := hA.sub ((.cons rfl (.cons rfl .nil)))
      refine Ends.inBlock (Ends.seq (Ends.seq (Ends.region ?_)))
      refine S.val hA (R.move rfl) rfl ?_; clear hA a; intro a hA
      refine S.val hA (R.ff (R.neq rfl rfl) (by first | decide | simp | omega)) rfl ?_; clear hA a; intro a hA
      refine S.done ?_
      refine Ends.condF hA rfl ?_
      refine Ends.skip (Ends.seq ?_)
      have hjq : (nuR (dgk kd n) X 2 (n * n)).2 < X.length := hX.nuE hj2 hs13
      refine Ends.region ?_
      refine S.val hA (R.move rfl) rfl ?_; clear hA a; intro a hA
      refine S.call hA (R.callF Tryd.func66 rfl rfl rfl) rfl (end06 g rb ((nuR (dgk kd n) X 2 (n * n)).2) cap atx X hX (by omega) hcap _ (hM.hereN 2)) ?_; clear hA a
      rintro e w16 ⟨rfl, hn⟩
      replace hM : Mem _ _ [pt rb #[.slice (some ⟨g, (nuR (dgk kd n) X 2 (n * n)).2 * 4, none⟩) (X.length - (nuR (dgk kd n) X 2 (n * n)).2) (cap - (nuR (dgk kd n) X 2 (n * n)).2), .int .i64 ((X.getD ((nuR (dgk kd n) X 2 (n * n)).2) tz).a)] 62, own 77 4 (.slice ((some ⟨g, 0, none⟩)) X.length cap) X.length (tokv X), pt ib #[.int .i64 kd, .int .i64 ((n : Int)), .int .i64 0, .slice none 0 0, .slice none 0 0, .slice ((some ⟨gb, 0, none⟩)) n n] 25, own 22 1 (.slice ((some ⟨gb, 0, none⟩)) n n) n ((rs.map orV)), bundle (rs.map (orC 3)), pt b1 #[.string (⟨#[75, 78, 65, 80, 83, 65, 67, 75]⟩), .string (⟨#[65, 83, 83, 73, 71, 78, 77, 69, 78, 84]⟩), .string (⟨#[84, 83, 80]⟩)] 9] _ := hM.callL 2 hn; clear hn
      refine ⟨.int .i64 ((endR (X.getD ((nuR (dgk kd n) X 2 (n * n)).2) tz))), rfl, fun a hA => ?_⟩
      refine S.val hA (R.assign rfl) rfl ?_; clear hA a; intro a hA
      refine S.done ?_
      replace hA : St 56 [(4, _)] a := hA.sub ((.cons rfl .nil))
      refine Ends.ret1 Tryd.func48 Tryd.results48 hA rfl ?_
      have e1 := (pbR_in hw0 hkd).trans ((congrArg (finR X) ((bodR_as hk1 hk3).trans ((asR_num hc0 hcn).trans (congrArg (fun f => nuR f X 2 (n * n)) hdk.symm)))).trans (finR_end hs13))
      have hM1 := hM
      replace hM := (hM.ownNil 3 1).ownNil 3 1
      replace hM : Mem _ _ [own 3 1 (.slice none ((([] : List Int)).length) 0) ((([] : List Int)).length) ((([] : List Int)).map (Value.int .i64)), own 3 1 (.slice none ((([] : List Int)).length) 0) ((([] : List Int)).length) ((([] : List Int)).map (Value.int .i64)), pt rb #[.slice (some ⟨g, (nuR (dgk kd n) X 2 (n * n)).2 * 4, none⟩) (X.length - (nuR (dgk kd n) X 2 (n * n)).2) (cap - (nuR (dgk kd n) X 2 (n * n)).2), .int .i64 ((X.getD ((nuR (dgk kd n) X 2 (n * n)).2) tz).a)] 62, own 77 4 (.slice ((some ⟨g, 0, none⟩)) X.length cap) X.length (tokv X), pt ib #[.int .i64 kd, .int .i64 ((n : Int)), .int .i64 0, .slice none 0 0, .slice none 0 0, .slice ((some ⟨gb, 0, none⟩)) n n] 25, own 22 1 (.slice ((some ⟨gb, 0, none⟩)) n n) n ((rs.map orV)), bundle (rs.map (orC 3)), pt b1 #[.string (⟨#[75, 78, 65, 80, 83, 65, 67, 75]⟩), .string (⟨#[65, 83, 83, 73, 71, 78, 77, 69, 78, 84]⟩), .string (⟨#[84, 83, 80]⟩)] 9] _ := hM
      replace hM := hM.front (k := 6) rfl
      replace hM := hM.front (k := 6) rfl
      replace hM := hM.front (k := 3) rfl
      replace hM := hM.front (k := 3) rfl
      replace hM := hM.front (k := 6) rfl
      replace hM := hM.front (k := 6) rfl
      replace hM := hM.front (k := 6) rfl
      replace hM : Mem _ _ [pt rb #[.slice (some ⟨g, (nuR (dgk kd n) X 2 (n * n)).2 * 4, none⟩) (X.length - (nuR (dgk kd n) X 2 (n * n)).2) (cap - (nuR (dgk kd n) X 2 (n * n)).2), .int .i64 ((X.getD ((nuR (dgk kd n) X 2 (n * n)).2) tz).a)] 62, own 77 4 (.slice ((some ⟨g, 0, none⟩)) X.length cap) X.length (tokv X), pt ib #[.int .i64 kd, .int .i64 ((n : Int)), .int .i64 0, .slice none 0 0, .slice none 0 0, .slice ((some ⟨gb, 0, none⟩)) n n] 25, own 3 1 (.slice none ((([] : List Int)).length) 0) ((([] : List Int)).length) ((([] : List Int)).map (Value.int .i64)), own 3 1 (.slice none ((([] : List Int)).length) 0) ((([] : List Int)).length) ((([] : List Int)).map (Value.int .i64)), own 22 1 (.slice ((some ⟨gb, 0, none⟩)) n n) n ((rs.map orV)), bundle (rs.map (orC 3)), pt b1 #[.string (⟨#[75, 78, 65, 80, 83, 65, 67, 75]⟩), .string (⟨#[65, 83, 83, 73, 71, 78, 77, 69, 78, 84]⟩), .string (⟨#[84, 83, 80]⟩)] 9] _ := hM
      replace hM := hM.firstN 7
      replace hM : Mem _ _ [pt rb #[.slice (some ⟨g, (nuR (dgk kd n) X 2 (n * n)).2 * 4, none⟩) (X.length - (nuR (dgk kd n) X 2 (n * n)).2) (cap - (nuR (dgk kd n) X 2 (n * n)).2), .int .i64 ((X.getD ((nuR (dgk kd n) X 2 (n * n)).2) tz).a)] 62, own 77 4 (.slice ((some ⟨g, 0, none⟩)) X.length cap) X.length (tokv X), pt ib #[.int .i64 kd, .int .i64 ((n : Int)), .int .i64 0, .slice none 0 0, .slice none 0 0, .slice ((some ⟨gb, 0, none⟩)) n n] 25, own 3 1 (.slice none ((([] : List Int)).length) 0) ((([] : List Int)).length) ((([] : List Int)).map (Value.int .i64)), own 3 1 (.slice none ((([] : List Int)).length) 0) ((([] : List Int)).length) ((([] : List Int)).map (Value.int .i64)), own 22 1 (.slice ((some ⟨gb, 0, none⟩)) n n) n ((rs.map orV)), bundle (rs.map (orC 3))] _ := hM
      have hlr := rows_len hYs
      rw [← hlr] at hM
      have hpf := pbI_as hkd (by omega) hcn hYs
      rw [← hlr] at hpf
      replace hM := Mem.packI (G0 := (⟨kd, (rs.length : Int), 0, [], [], rs.map (·.Y)⟩ : Ins)) (eI := 3) (eR := 22) (aw := none) (cw := 0) (av := none) (cv := 0) (ac := some ⟨gb, 0, none⟩) (cc := rs.length) (rs := rs) hpf hM
      by_cases h9 : (endR (X.getD ((nuR (dgk kd n) X 2 (n * n)).2) tz)) = 0
      · exact ⟨by rw [e1], .inr ⟨by rw [e1]; exact h9, _, _, none, 0, none, 0, _, _, rs, by rw [← hpf], hM⟩⟩
      ·
       replace hM1 := hM1.firstN 2
       exact ⟨by rw [e1], .inl ⟨by rw [e1]; exact h9, _, by rw [e1]; exact hM1⟩⟩
     ·
      refine Ends.region ?_
      refine S.val hA (R.move rfl) rfl ?_; clear hA a; intro a hA
      refine S.val hA (R.move rfl) rfl ?_; clear hA a; intro a hA
      replace hM := hM.front (k := 3) rfl
      replace hM := hM.front (k := 2) rfl
      replace hM := hM.front (k := 2) rfl
      replace hM : Mem _ _ [pt rb #[.slice (some ⟨g, 2 * 4, none⟩) (X.length - 2) (cap - 2), .int .i64 ((X.getD 1 tz).a)] 62, own 77 4 (.slice ((some ⟨g, 0, none⟩)) X.length cap) X.length (tokv X), pt ib #[.int .i64 kd, .int .i64 ((n : Int)), .int .i64 0, .slice none 0 0, .slice none 0 0, .slice none 0 0] 25, pt b1 #[.string (⟨#[75, 78, 65, 80, 83, 65, 67, 75]⟩), .string (⟨#[65, 83, 83, 73, 71, 78, 77, 69, 78, 84]⟩), .string (⟨#[84, 83, 80]⟩)] 9] _ := hM
      refine S.call hA (R.callF Tryd.func65 rfl rfl rfl) rfl (rows06_bad g rb ib 2 cap ((X.getD 1 tz).a) X hX (by omega) hcap kd n hn1 hn24 hs13 _ (hM.hereN 3)) ?_; clear hA a
      rintro e w17 ⟨rfl, jx14, hn⟩
      replace hM : Mem _ _ [pt rb #[.slice (some ⟨g, jx14 * 4, none⟩) (X.length - jx14) (cap - jx14), .int .i64 (((X.getD (nuR (dgk kd n) X 2 (n * n)).2 tz).a))] 62, own 77 4 (.slice ((some ⟨g, 0, none⟩)) X.length cap) X.length (tokv X), pt b1 #[.string (⟨#[75, 78, 65, 80, 83, 65, 67, 75]⟩), .string (⟨#[65, 83, 83, 73, 71, 78, 77, 69, 78, 84]⟩), .string (⟨#[84, 83, 80]⟩)] 9] _ := hM.callL 3 hn; clear hn
      refine ⟨.int .i64 ((nuR (dgk kd n) X 2 (n * n)).1), rfl, fun a hA => ?_⟩
      refine S.val hA (R.assign rfl) rfl ?_; clear hA a; intro a hA
      refine S.done ?_
      replace hA : St 56 [(0, _), (6, _)] a := hA.sub ((.cons rfl (.cons rfl .nil)))
      refine Ends.inBlock (Ends.seq (Ends.seq (Ends.region ?_)))
      refine S.val hA (R.move rfl) rfl ?_; clear hA a; intro a hA
      refine S.val hA (R.neq rfl rfl) rfl ?_; clear hA a; intro a hA
      refine S.done ?_
      refine Ends.ite hA rfl (fun hc15 => ?_) (fun hc15 => ?_)
      ·
       refine Ends.seq (Ends.region ?_)
       refine S.val hA (R.move rfl) rfl ?_; clear hA a; intro a hA
       refine S.val hA (R.assign rfl) rfl ?_; clear hA a; intro a hA
       refine S.done ?_
       replace hA : St 56 [(0, _), (4, _)] a := hA.sub ((.cons rfl (.cons rfl .nil)))
       refine Ends.ret1 Tryd.func48 Tryd.results48 hA rfl ?_
       replace hM := hM.firstN 2
       replace hM : Mem _ _ [pt rb #[.slice (some ⟨g, jx14 * 4, none⟩) (X.length - jx14) (cap - jx14), .int .i64 (((X.getD (nuR (dgk kd n) X 2 (n * n)).2 tz).a))] 62, own 77 4 (.slice ((some ⟨g, 0, none⟩)) X.length cap) X.length (tokv X)] _ := hM
       have e1 := (pbR_in hw0 hkd).trans ((congrArg (finR X) ((bodR_as hk1 hk3).trans ((asR_num hc0 hcn).trans (congrArg (fun f => nuR f X 2 (n * n)) hdk.symm)))).trans (finR_err hs13))
       exact ⟨by rw [e1], .inl ⟨by rw [e1]; exact hs13, _, by rw [e1]; exact hM⟩⟩
      · exact absurd (by assumption) hc15
    ·
     refine Ends.skip (Ends.inBlock (Ends.seq (Ends.seq (Ends.region ?_))))
     refine S.val hA (R.move rfl) rfl ?_; clear hA a; intro a hA
     refine S.val hA (R.neq rfl rfl) rfl ?_; clear hA a; intro a hA
     refine S.done ?_
     replace hA : St 56 [(0, _), (6, _), (52, _)] a := hA.sub ((.cons rfl (.cons rfl (.cons rfl .nil))))
     refine Ends.ite hA rfl (fun hc16 => ?_) (fun hc16 => ?_)
     ·
      refine Ends.seq (Ends.region ?_)
      refine S.val hA (R.move rfl) rfl ?_; clear hA a; intro a hA
      refine S.val hA (R.assign rfl) rfl ?_; clear hA a; intro a hA
      refine S.done ?_
      refine Ends.ret1 Tryd.func48 Tryd.results48 hA rfl ?_
      replace hM := hM.firstN 2
      replace hM : Mem _ _ [pt rb #[.slice (some ⟨g, (nxJ 1 (numR (X.getD 1 tz) 24)) * 4, none⟩) (X.length - (nxJ 1 (numR (X.getD 1 tz) 24))) (cap - (nxJ 1 (numR (X.getD 1 tz) 24))), .int .i64 ((X.getD 1 tz).a)] 62, own 77 4 (.slice ((some ⟨g, 0, none⟩)) X.length cap) X.length (tokv X)] _ := hM
      have e1 := (pbR_in hw0 hkd).trans ((congrArg (finR X) ((bodR_as hk1 hk3).trans (asR_cnt hc12))).trans (finR_err hc12))
      exact ⟨by rw [e1], .inl ⟨by rw [e1]; exact hc12, _, by rw [e1]; exact hM⟩⟩
     · exact absurd (by assumption) hc16
theorem problem06_bad (g rb ib cap : Nat) (at0 : Int) (X : List Tok) (hX : Toks X) (hj : 0 < X.length) (hcap : X.length ≤ cap) (hE : (pbR X).1 ≠ 0) (w : World) (hM : Mem w (feet [pt rb #[.slice (some ⟨g, 0 * 4, none⟩) (X.length - 0) (cap - 0), .int .i64 at0] 62, own 77 4 (.slice ((some ⟨g, 0, none⟩)) X.length cap) X.length (tokv X), pt ib cz0 25]) [pt rb #[.slice (some ⟨g, 0 * 4, none⟩) (X.length - 0) (cap - 0), .int .i64 at0] 62, own 77 4 (.slice ((some ⟨g, 0, none⟩)) X.length cap) X.length (tokv X), pt ib cz0 25] w) :
    Calls Tryd.prog 48 #[.pointer (some ⟨rb, 0, none⟩), .pointer (some ⟨ib, 0, none⟩)] w fun e w' => e = .returned (.int .i64 (pbR X).1) ∧ ∃ jx, Mem w (feet [pt rb #[.slice (some ⟨g, 0 * 4, none⟩) (X.length - 0) (cap - 0), .int .i64 at0] 62, own 77 4 (.slice ((some ⟨g, 0, none⟩)) X.length cap) X.length (tokv X), pt ib cz0 25]) [pt rb #[.slice (some ⟨g, jx * 4, none⟩) (X.length - jx) (cap - jx), .int .i64 (((X.getD (pbR X).2 tz).a))] 62, own 77 4 (.slice ((some ⟨g, 0, none⟩)) X.length cap) X.length (tokv X)] w' :=
  (problem06 g rb ib cap at0 X hX hj hcap w hM).mono (by rintro e w' ⟨h1, h2 | h2⟩; exact ⟨h1, h2.2⟩; exact absurd h2.1 hE)
theorem problem06_ok (g rb ib cap : Nat) (at0 : Int) (X : List Tok) (hX : Toks X) (hj : 0 < X.length) (hcap : X.length ≤ cap) (hE : (pbR X).1 = 0) (w : World) (hM : Mem w (feet [pt rb #[.slice (some ⟨g, 0 * 4, none⟩) (X.length - 0) (cap - 0), .int .i64 at0] 62, own 77 4 (.slice ((some ⟨g, 0, none⟩)) X.length cap) X.length (tokv X), pt ib cz0 25]) [pt rb #[.slice (some ⟨g, 0 * 4, none⟩) (X.length - 0) (cap - 0), .int .i64 at0] 62, own 77 4 (.slice ((some ⟨g, 0, none⟩)) X.length cap) X.length (tokv X), pt ib cz0 25] w) :
    Calls Tryd.prog 48 #[.pointer (some ⟨rb, 0, none⟩), .pointer (some ⟨ib, 0, none⟩)] w fun e w' => e = .returned (.int .i64 0) ∧ ∃ jx at1 aw cw av cv ac cc, ∃ rs : List OwR, rs.map (·.Y) = (pbI X).cost ∧ Mem w (feet [pt rb #[.slice (some ⟨g, 0 * 4, none⟩) (X.length - 0) (cap - 0), .int .i64 at0] 62, own 77 4 (.slice ((some ⟨g, 0, none⟩)) X.length cap) X.length (tokv X), pt ib cz0 25]) [pt rb #[.slice (some ⟨g, jx * 4, none⟩) (X.length - jx) (cap - jx), .int .i64 at1] 62, own 77 4 (.slice ((some ⟨g, 0, none⟩)) X.length cap) X.length (tokv X), pt ib #[.int .i64 ((pbI X).kind), .int .i64 ((pbI X).n), .int .i64 ((pbI X).cap), .slice aw ((pbI X).wt.length) cw, .slice av ((pbI X).vl.length) cv, .slice ac rs.length cc] 25, bundle (insL 3 22 (pbI X) aw cw av cv ac cc rs)] w' :=
  (problem06 g rb ib cap at0 X hX hj hcap w hM).mono (by rintro e w' ⟨h1, h2 | h2⟩; exact absurd hE h2.1; exact ⟨by rw [h1, hE], h2.2⟩)
end Go.Proofs.YtakfcekfmdjklaaDoor
namespace Go.Proofs.YtakfcekfmdjklaaDoor
open Go.RowKit
set_option maxRecDepth 100000 in
set_option maxHeartbeats 400000 in
theorem parse06 (s : ByteArray) (hs : s.size ≤ 9223372036854775807) (w : World) (htab : U8T w) :
  Calls Tryd.prog 28 #[.string s] w fun e w' => ∃ a3 c3 a4 c4 a5 c5, e = .returned (.tuple #[.agg #[.int .i64 (prs s).1.kind, .int .i64 (prs s).1.n, .int .i64 (prs s).1.cap, .slice a3 (prs s).1.wt.length c3, .slice a4 (prs s).1.vl.length c4, .slice a5 (prs s).1.cost.length c5], .int .i64 (prs s).2.1, .int .i64 (prs s).2.2]) ∧ (IntSl w' (.slice a3 (prs s).1.wt.length c3) (prs s).1.wt ∧ IntSl w' (.slice a4 (prs s).1.vl.length c4) (prs s).1.vl ∧ RowsV w' (.slice a5 (prs s).1.cost.length c5) (prs s).1.cost) ∧ Below w.heap.size w w' := by
 have hbs := Below.refl (B := w.heap.size) w
 have hlen := scan_len s
 have hM := Mem.start w
 refine Calls.of_ends (vs := [.string s]) Tryd.func28 rfl Tryd.ntmps28 rfl ?_
 intro a hA
 replace hA : St 36 [(0, _)] a := hA
 refine Ends.seq (Ends.region ?_)
 refine S.alloc hA hM info25 rfl rfl ?_; clear hA hM a; intro b1 w1 hb2 hM a hA
 replace hM : Mem _ _ [pt b1 cz0 25] _ := hM
 refine S.val hA (R.assign rfl) rfl ?_; clear hA a; intro a hA
 refine S.val hA (R.assign rfl) rfl ?_; clear hA a; intro a hA
 refine S.done ?_
 refine Ends.seq (Ends.region ?_)
 refine S.val hA (R.move rfl) rfl ?_; clear hA a; intro a hA
 refine S.call hA (R.callF Tryd.func33 rfl rfl rfl) rfl (scan_any s (by omega) _ (htab.mem hM OffT.nof)) ?_; clear hA a
 rintro e w2 ⟨a3, c4, rfl, hn⟩
 replace hM : Mem _ _ [own 77 4 (.slice a3 (((scan s).1).length) c4) (((scan s).1).length) (tokv ((scan s).1)), pt b1 cz0 25] _ := hM.call hn; clear hn
 refine ⟨.tuple #[.slice a3 ((scan s).1.length) c4, .int .i64 ((scan s).2.1), .int .i64 ((scan s).2.2)], rfl, fun a hA => ?_⟩
 refine S.val hA (R.move rfl) rfl ?_; clear hA a; intro a hA
 refine S.val hA (R.extract (v := .slice a3 ((scan s).1.length) c4) rfl rfl) rfl ?_; clear hA a; intro a hA
 refine S.val hA (R.extract (v := .int .i64 ((scan s).2.1)) rfl rfl) rfl ?_; clear hA a; intro a hA
 refine S.val hA (R.extract (v := .int .i64 ((scan s).2.2)) rfl rfl) rfl ?_; clear hA a; intro a hA
 refine S.val hA (R.assign rfl) rfl ?_; clear hA a; intro a hA
 refine S.val hA (R.assign rfl) rfl ?_; clear hA a; intro a hA
 refine S.val hA (R.assign rfl) rfl ?_; clear hA a; intro a hA
 refine S.done ?_
 replace hA : St 36 [(2, _), (5, _), (6, _), (7, _)] a := hA.sub ((.cons rfl (.cons rfl (.cons rfl (.cons rfl .nil)))))
 refine Ends.seq (Ends.seq (Ends.region ?_))
 refine S.val hA (R.move rfl) rfl ?_; clear hA a; intro a hA
 refine S.val hA (R.neq rfl rfl) rfl ?_; clear hA a; intro a hA
 refine S.done ?_
 refine Ends.ite hA rfl (fun hc5 => ?_) (fun hc5 => ?_)
 ·
  refine Ends.seq (Ends.region ?_)
  refine S.val hA (R.build (cells := cz0) rfl (by kernel_rfl)) rfl ?_; clear hA a; intro a hA
  refine S.val hA (R.move rfl) rfl ?_; clear hA a; intro a hA
  refine S.val hA (R.move rfl) rfl ?_; clear hA a; intro a hA
  refine S.storeA (k := 1) hA hM sz25 rfl rfl rfl rfl rfl rfl ?_; clear hM
  intro w3 hM
  replace hM : Mem _ _ [own 77 4 (.slice a3 (((scan s).1).length) c4) (((scan s).1).length) (tokv ((scan s).1)), pt b1 cz0 25] _ := hM
  refine S.val hA (R.assign rfl) rfl ?_; clear hA a; intro a hA
  refine S.val hA (R.assign rfl) rfl ?_; clear hA a; intro a hA
  refine S.done ?_
  replace hA : St 36 [(2, _), (3, _), (4, _), (5, _)] a := hA.sub ((.cons rfl (.cons rfl (.cons rfl (.cons rfl .nil)))))
  refine Ends.retC3 (k := 1) Tryd.func28 Tryd.results28 hA hM rfl rfl rfl rfl sz25 rfl ?_
  rw [prs_scan hc5]
  exact ⟨none, 0, none, 0, none, 0, rfl, nilI _, Mem.trans0 hbs hM.nilL⟩
 ·
  have hs0 := Decidable.not_not.1 hc5
  have hX := scan_toks hs0 hlen
  have hX0 := hX.pos
  have hcap_ := (hM.ownLe (k := 0) rfl).1
  obtain ⟨g6, hg6⟩ := hM.ownAt (k := 0) rfl hX.pos
  subst hg6
  replace hM : Mem _ _ [own 77 4 (.slice (some ⟨g6, 0, none⟩) (((scan s).1).length) c4) (((scan s).1).length) (tokv ((scan s).1)), pt b1 cz0 25] _ := hM
  refine Ends.skip (Ends.seq (Ends.region ?_))
  refine S.val hA (R.move rfl) rfl ?_; clear hA a; intro a hA
  refine S.val hA (R.build (cells := #[.slice (some ⟨g6, 0, none⟩) ((scan s).1.length) c4, .int .i64 0]) rfl (by kernel_rfl)) rfl ?_; clear hA a; intro a hA
  refine S.box hA hM rfl rfl ?_; clear hA hM a; intro b7 w4 hb8 hM a hA
  replace hM : Mem _ _ [pt b7 #[.slice (some ⟨g6, 0, none⟩) ((scan s).1.length) c4, .int .i64 0] 62, own 77 4 (.slice (some ⟨g6, 0, none⟩) (((scan s).1).length) c4) (((scan s).1).length) (tokv ((scan s).1)), pt b1 cz0 25] _ := hM
  refine S.val hA (R.assign rfl) rfl ?_; clear hA a; intro a hA
  refine S.done ?_
  replace hA : St 36 [(2, _), (8, _)] a := hA.sub ((.cons rfl (.cons rfl .nil)))
  refine Ends.seq (Ends.region ?_)
  refine S.alloc hA hM info25 rfl rfl ?_; clear hA hM a; intro b9 w5 hb10 hM a hA
  replace hM : Mem _ _ [pt b9 cz0 25, pt b7 #[.slice (some ⟨g6, 0, none⟩) ((scan s).1.length) c4, .int .i64 0] 62, own 77 4 (.slice (some ⟨g6, 0, none⟩) (((scan s).1).length) c4) (((scan s).1).length) (tokv ((scan s).1)), pt b1 cz0 25] _ := hM
  refine S.done ?_
  refine Ends.seq (Ends.seq ?_)
  by_cases hs11 : (pbR (scan s).1).1 = 0
  ·
   refine Ends.region ?_
   refine S.val hA (R.move rfl) rfl ?_; clear hA a; intro a hA
   replace hM := hM.front (k := 2) rfl
   replace hM := hM.front (k := 2) rfl
   replace hM : Mem _ _ [pt b7 #[.slice (some ⟨g6, 0, none⟩) ((scan s).1.length) c4, .int .i64 0] 62, own 77 4 (.slice (some ⟨g6, 0, none⟩) (((scan s).1).length) c4) (((scan s).1).length) (tokv ((scan s).1)), pt b9 cz0 25, pt b1 cz0 25] _ := hM
   refine S.call hA (R.callF Tryd.func48 rfl rfl rfl) rfl (problem06_ok g6 b7 b9 c4 0 (scan s).1 hX hX.pos hcap_ hs11 _ (hM.hereN 3)) ?_; clear hA a
   rintro e w6 ⟨rfl, jx, atx, aw, cw, av, cv, ac, cc, rs, hYs, hn⟩
   replace hM : Mem _ _ [pt b7 #[.slice (some ⟨g6, jx * 4, none⟩) ((scan s).1.length - jx) (c4 - jx), .int .i64 atx] 62, own 77 4 (.slice (some ⟨g6, 0, none⟩) (((scan s).1).length) c4) (((scan s).1).length) (tokv ((scan s).1)), pt b9 #[.int .i64 ((pbI (scan s).1).kind), .int .i64 ((pbI (scan s).1).n), .int .i64 ((pbI (scan s).1).cap), .slice aw ((pbI (scan s).1).wt.length) cw, .slice av ((pbI (scan s).1).vl.length) cv, .slice ac rs.length cc] 25, bundle (insL 3 22 (pbI (scan s).1) aw cw av cv ac cc rs), pt b1 cz0 25] _ := hM.callL 3 hn; clear hn
   refine ⟨.int .i64 0, rfl, fun a hA => ?_⟩
   refine S.val hA (R.assign rfl) rfl ?_; clear hA a; intro a hA
   refine S.done ?_
   refine Ends.seq (Ends.region ?_)
   refine S.val hA (R.move rfl) rfl ?_; clear hA a; intro a hA
   refine S.val hA (R.ff (R.neq rfl rfl) (by first | decide | simp | omega)) rfl ?_; clear hA a; intro a hA
   refine S.done ?_
   refine Ends.condF hA rfl ?_
   refine Ends.skip (Ends.seq (Ends.region ?_))
   refine S.val hA (R.loadA sz25 rfl (hM.range (k := 2) rfl) rfl) rfl ?_; clear hA a; intro a hA
   refine S.storeA (k := 4) hA hM sz25 rfl rfl rfl rfl rfl rfl ?_; clear hM
   intro w7 hM
   replace hM : Mem _ _ [pt b7 #[.slice (some ⟨g6, jx * 4, none⟩) ((scan s).1.length - jx) (c4 - jx), .int .i64 atx] 62, own 77 4 (.slice (some ⟨g6, 0, none⟩) (((scan s).1).length) c4) (((scan s).1).length) (tokv ((scan s).1)), pt b9 #[.int .i64 ((pbI (scan s).1).kind), .int .i64 ((pbI (scan s).1).n), .int .i64 ((pbI (scan s).1).cap), .slice aw ((pbI (scan s).1).wt.length) cw, .slice av ((pbI (scan s).1).vl.length) cv, .slice ac rs.length cc] 25, bundle (insL 3 22 (pbI (scan s).1) aw cw av cv ac cc rs), pt b1 #[.int .i64 ((pbI (scan s).1).kind), .int .i64 ((pbI (scan s).1).n), .int .i64 ((pbI (scan s).1).cap), .slice aw ((pbI (scan s).1).wt.length) cw, .slice av ((pbI (scan s).1).vl.length) cv, .slice ac rs.length cc] 25] _ := hM
   refine S.val hA (R.assign rfl) rfl ?_; clear hA a; intro a hA
   refine S.val hA (R.assign rfl) rfl ?_; clear hA a; intro a hA
   refine S.done ?_
   replace hA : St 36 [(2, _), (3, _), (4, _)] a := hA.sub ((.cons rfl (.cons rfl (.cons rfl .nil))))
   refine Ends.retC3 (k := 4) Tryd.func28 Tryd.results28 hA hM rfl rfl rfl rfl sz25 rfl ?_
   obtain ⟨-, g3, g4, g5⟩ := insR_of hM (k := 3) rfl hYs
   have hlr : rs.length = (pbI (scan s).1).cost.length := by rw [← hYs, List.length_map]
   rw [prs_ok hs0 hs11]
   exact ⟨aw, cw, av, cv, ac, cc, by rw [hlr], ⟨g3, g4, g5⟩, Mem.trans0 hbs hM.nilL⟩
  ·
   refine Ends.region ?_
   refine S.val hA (R.move rfl) rfl ?_; clear hA a; intro a hA
   replace hM := hM.front (k := 2) rfl
   replace hM := hM.front (k := 2) rfl
   replace hM : Mem _ _ [pt b7 #[.slice (some ⟨g6, 0, none⟩) ((scan s).1.length) c4, .int .i64 0] 62, own 77 4 (.slice (some ⟨g6, 0, none⟩) (((scan s).1).length) c4) (((scan s).1).length) (tokv ((scan s).1)), pt b9 cz0 25, pt b1 cz0 25] _ := hM
   refine S.call hA (R.callF Tryd.func48 rfl rfl rfl) rfl (problem06_bad g6 b7 b9 c4 0 (scan s).1 hX hX.pos hcap_ hs11 _ (hM.hereN 3)) ?_; clear hA a
   rintro e w8 ⟨rfl, jx12, hn⟩
   replace hM : Mem _ _ [pt b7 #[.slice (some ⟨g6, jx12 * 4, none⟩) ((scan s).1.length - jx12) (c4 - jx12), .int .i64 (((scan s).1.getD (pbR (scan s).1).2 tz).a)] 62, own 77 4 (.slice (some ⟨g6, 0, none⟩) (((scan s).1).length) c4) (((scan s).1).length) (tokv ((scan s).1)), pt b1 cz0 25] _ := hM.callL 3 hn; clear hn
   refine ⟨.int .i64 ((pbR (scan s).1).1), rfl, fun a hA => ?_⟩
   refine S.val hA (R.assign rfl) rfl ?_; clear hA a; intro a hA
   refine S.done ?_
   refine Ends.seq (Ends.region ?_)
   refine S.val hA (R.move rfl) rfl ?_; clear hA a; intro a hA
   refine S.val hA (R.neq rfl rfl) rfl ?_; clear hA a; intro a hA
   refine S.done ?_
   refine Ends.ite hA rfl (fun hc13 => ?_) (fun hc13 => ?_)
   ·
    refine Ends.seq ?_
    refine Ends.drawn (Mem w nof [pt b7 #[.slice (some ⟨g6, jx12 * 4, none⟩) ((scan s).1.length - jx12) (c4 - jx12), .int .i64 (((scan s).1.getD (pbR (scan s).1).2 tz).a)] 62]) (.cons (0, true) (.cons (1, true) (.cons (2, true) (.cons (3, true) (.cons (4, true) (.cons (5, true) (.cons (6, false) (.cons (7, true) (.cons (8, true) .nil))))))))) 9 mixed (by kernel_rfl) (by kernel_rfl) (by kernel_rfl) ((hM.drop 2).drop 1).drew ?_
    replace hM := hM.drew
    refine D.valF hA rfl (fun _ => R.build (cells := cz0) rfl (by kernel_rfl)) rfl ?_; clear hA a; intro a hA
    refine D.valF hA rfl (fun _ => R.move rfl) rfl ?_; clear hA a; intro a hA
    refine D.valF hA rfl (fun _ => R.nilCheck rfl) rfl ?_; clear hA a; intro a hA
    refine D.valF hA rfl (fun _ => R.fieldAddr (q := 1) fi62_1 rfl rfl rfl) rfl ?_; clear hA a; intro a hA
    refine D.val hA rfl (by kernel_rfl) (fun _ hM => R.load sz3 rfl (hM.cell (k := 0) rfl rfl)) rfl ?_; clear hA a; intro a hA
    refine D.valF hA rfl (fun _ => R.move rfl) rfl ?_; clear hA a; intro a hA
    refine D.storeA (k := 2) hA hM rfl sz25 rfl rfl rfl rfl rfl rfl ?_; clear hM
    intro w9 hM; refine ⟨fun _ _ => ((hM.drop 2).drop 1), ?_⟩
    replace hM : Mem _ _ [pt b7 #[.slice (some ⟨g6, jx12 * 4, none⟩) ((scan s).1.length - jx12) (c4 - jx12), .int .i64 (((scan s).1.getD (pbR (scan s).1).2 tz).a)] 62, own 77 4 (.slice (some ⟨g6, 0, none⟩) (((scan s).1).length) c4) (((scan s).1).length) (tokv ((scan s).1)), pt b1 cz0 25] _ := hM
    refine D.valF hA rfl (fun _ => R.assign rfl) rfl ?_; clear hA a; intro a hA
    refine D.valF hA rfl (fun _ => R.assign rfl) rfl ?_; clear hA a; intro a hA
    refine D.done ?_
    replace hA : St 36 [(2, _), (3, _), (4, _), (9, _)] a := hA.sub ((.cons rfl (.cons rfl (.cons rfl (.cons rfl .nil)))))
    refine Ends.retC3 (k := 2) Tryd.func28 Tryd.results28 hA hM rfl rfl rfl rfl sz25 rfl ?_
    rw [prs_bad hs0 hs11]
    exact ⟨none, 0, none, 0, none, 0, rfl, nilI _, Mem.trans0 hbs hM.nilL⟩
   · exact absurd (by assumption) hc13
end Go.Proofs.YtakfcekfmdjklaaDoor
namespace Go.Proofs.YtakfcekfmdjklaaDoor
open Go.RowKit
def cl (i : Ins) (r c : Nat) : Int := (i.cost.getD r []).getD c 0
def mirP (i : Ins) : Prop := (i.kind = 3 ∧ chk i = 0) ∧ ∀ x y : Nat, x < i.n.toNat → y < i.n.toNat → cl i x y = cl i y x
def wr (i : Ins) (R : List (List Int)) : Ins := ⟨i.kind, i.n, i.cap, i.wt, i.vl, R⟩
section
variable {P : Program} {l : List (Nat × Value)} {w w0 : World} {ty : TypeId} {x y z : Operand} {k k' : IntKind} {m n : Int} {t yt e : TypeId} {F : Nat → Prop} {L : List Ck}
theorem R.idxRn {a : Option Addr} {n cap j : Nat} {g : Bool} {i : Int} {Rs : List (List Int)} (hX : RowsV w0 (.slice a n cap) Rs) (hi : slInfo P t = some (g, 1)) (hx : opv l x = some (.slice a n cap)) (hy : opv l y = some (.int k i)) (h0 : 0 ≤ i ∧ i < (n : Int)) (hj : i.toNat = j) :
    Run P l w (.indexAddr t x y) ty (pI a j) w := by
  have hn : n = Rs.length := by obtain ⟨a', c', he, -⟩ := hX; cases he; rfl
  subst hn
  exact R.idxR hX hi hx hy h0 hj
theorem Mem.rowsV_ {eR : TypeId} {ac : Option Addr} {cc k k2 : Nat} {rs : List OwR} (hM : Mem w0 F L w) (hk : ith L k = some (own eR 1 (.slice ac rs.length cc) rs.length (rs.map orV))) (hk2 : ith L k2 = some (bundle (rs.map (orC e)))) : RowsV w (.slice ac (rs.map (·.Y)).length cc) (rs.map (·.Y)) := by
  have := hM.rowsV hk hk2
  rwa [show rs.length = (rs.map (·.Y)).length by rw [List.length_map]] at this
end
set_option maxRecDepth 100000 in
set_option maxHeartbeats 400000 in
theorem mirror05 (i : Ins) (ax3 : Option Addr) (cx3 : Nat) (ax4 : Option Addr) (cx4 : Nat) (ax5 : Option Addr) (cx5 : Nat) (hsm : i.wt.length ≤ 1000000 ∧ i.vl.length ≤ 1000000) (w : World) (hx3 : IntSl w (.slice ax3 i.wt.length cx3) i.wt) (hx4 : IntSl w (.slice ax4 i.vl.length cx4) i.vl) (hx5 : RowsV w (.slice ax5 i.cost.length cx5) i.cost) :
  Calls Tryd.prog 24 #[.agg #[.int .i64 i.kind, .int .i64 i.n, .int .i64 i.cap, .slice ax3 i.wt.length cx3, .slice ax4 i.vl.length cx4, .slice ax5 i.cost.length cx5]] w fun e w' => ∃ m : Bool, (m = true ↔ mirP i) ∧ e = .returned (.bool m) ∧ Below w.heap.size w w' := by
 have hbs := Below.refl (B := w.heap.size) w
 have hM := Mem.start w
 refine Calls.of_ends (vs := [.agg #[.int .i64 i.kind, .int .i64 i.n, .int .i64 i.cap, .slice ax3 i.wt.length cx3, .slice ax4 i.vl.length cx4, .slice ax5 i.cost.length cx5]]) Tryd.func24 rfl Tryd.ntmps24 rfl ?_
 intro a hA
 replace hA : St 41 [(0, _)] a := hA
 refine Ends.seq (Ends.region ?_)
 refine S.box hA hM rfl rfl ?_; clear hA hM a; intro b1 w1 hb2 hM a hA
 replace hM : Mem _ _ [pt b1 #[.int .i64 i.kind, .int .i64 i.n, .int .i64 i.cap, .slice ax3 i.wt.length cx3, .slice ax4 i.vl.length cx4, .slice ax5 i.cost.length cx5] 25] _ := hM
 refine S.val hA (R.assign rfl) rfl ?_; clear hA a; intro a hA
 refine S.done ?_
 refine Ends.seq (Ends.seq ?_)
 refine Ends.cut (fun (a : Act) (wv : World) => St 41 [(1, .pointer (some ⟨b1, 0, none⟩)), (13, .bool (decide ((i.kind ≠ 3 ∨ (chk i) ≠ 0))))] a ∧ Mem w nof [pt b1 #[.int .i64 i.kind, .int .i64 i.n, .int .i64 i.cap, .slice ax3 i.wt.length cx3, .slice ax4 i.vl.length cx4, .slice ax5 i.cost.length cx5] 25] wv) ?_ (fun k2 hJ => ?_)
 ·
  clear hA hM a; rintro a w2 ⟨hA, hM⟩
  refine Ends.ite hA rfl (fun hc3 => ?_) (fun hc3 => ?_)
  ·
   refine Ends.seq (Ends.region ?_)
   refine S.val hA (R.assign rfl) rfl ?_; clear hA a; intro a hA
   refine S.done ?_
   refine Ends.ret1 Tryd.func24 Tryd.results24 hA rfl ?_
   exact ⟨false, ⟨fun h => (by cases h), fun h => absurd h.1 (by omega)⟩, rfl, Mem.trans0 hbs hM.nilL⟩
  ·
   have hk3 : i.kind = 3 ∧ chk i = 0 := by omega
   have hF := chk_inF hk3.2
   have f1 := hF.n1
   have f7 := hF.cost
   have f8 := hF.n24 (by omega)
   rw [if_neg (by omega)] at f7
   refine Ends.skip (Ends.seq (Ends.seq (Ends.region ?_)))
   refine S.val hA (R.fieldAddr (q := 5) fi25_5 rfl rfl rfl) rfl ?_; clear hA a; intro a hA
   refine S.val hA (R.load sz23 rfl (hM.cell (k := 0) rfl rfl)) rfl ?_; clear hA a; intro a hA
   refine S.val hA (R.lenS Tryd.underlying23 rfl rfl) rfl ?_; clear hA a; intro a hA
   refine S.val hA (R.move rfl) rfl ?_; clear hA a; intro a hA
   refine S.done ?_
   refine Ends.block ?_
   refine Ends.loop (σ := Nat) (fun r (a : Act) (wv : World) => St 41 [(1, .pointer (some ⟨b1, 0, none⟩)), (15, .slice ax5 i.cost.length cx5), (16, .int .i64 ((i.cost.length : Int))), (17, .int .i64 ((r : Int)))] a ∧ Mem w nof [pt b1 #[.int .i64 i.kind, .int .i64 i.n, .int .i64 i.cap, .slice ax3 i.wt.length cx3, .slice ax4 i.vl.length cx4, .slice ax5 i.cost.length cx5] 25] wv ∧ (r ≤ i.cost.length) ∧ (∀ x y : Nat, x < r → y < x → cl i x y = cl i y x)) (fun r => i.cost.length - r) 0 ⟨hA.sub ((.cons rfl (.cons rfl (.cons rfl (.cons rfl .nil))))), hM, (Nat.zero_le _), (fun x y hx => absurd hx (Nat.not_lt_zero _))⟩ ?_
   clear hA hM a
   rintro r a w3 ⟨hA, hM, hr, hs⟩ hNext
   refine Ends.seq (Ends.region ?_)
   refine S.val hA (R.lss rfl rfl) rfl ?_; clear hA a; intro a hA
   refine S.done ?_
   refine Ends.seq ?_
   refine Ends.ite hA rfl (fun hc4 => ?_) (fun hc4 => ?_)
   ·
    have hrr := hF.row r (by omega)
    refine Ends.skip (Ends.seq (Ends.block (Ends.seq (Ends.region ?_))))
    refine S.val hA (R.move rfl) rfl ?_; clear hA a; intro a hA
    refine S.val hA (R.idxR hx5 (j := r) sl23 rfl rfl (by omega) (rfl)) rfl ?_; clear hA a; intro a hA
    obtain ⟨ra5, rc6, hrow7, hld8⟩ := hx5.atP (i := r) (by omega)
    refine S.val hA (hld8 _ _ _ _ _ _ hM sz22 rfl) rfl ?_; clear hA a; intro a hA
    refine S.val hA (R.assign rfl) rfl ?_; clear hA a; intro a hA
    refine S.val hA (R.assign rfl) rfl ?_; clear hA a; intro a hA
    refine S.done ?_
    replace hA : St 41 [(1, _), (3, _), (4, _), (15, _), (16, _), (17, _)] a := hA.sub ((.cons rfl (.cons rfl (.cons rfl (.cons rfl (.cons rfl (.cons rfl .nil)))))))
    refine Ends.seq (Ends.region ?_)
    refine S.val hA (R.move rfl) rfl ?_; clear hA a; intro a hA
    refine S.val hA (R.move rfl) rfl ?_; clear hA a; intro a hA
    refine S.done ?_
    refine Ends.block ?_
    refine Ends.loop (σ := Nat) (fun b (a : Act) (wv : World) => St 41 [(1, .pointer (some ⟨b1, 0, none⟩)), (3, .int .i64 ((r : Int))), (4, .slice ra5 (((i.cost.getD r [])).length) rc6), (15, .slice ax5 i.cost.length cx5), (16, .int .i64 ((i.cost.length : Int))), (17, .int .i64 ((r : Int))), (22, .int .i64 ((r : Int))), (23, .int .i64 ((b : Int)))] a ∧ Mem w nof [pt b1 #[.int .i64 i.kind, .int .i64 i.n, .int .i64 i.cap, .slice ax3 i.wt.length cx3, .slice ax4 i.vl.length cx4, .slice ax5 i.cost.length cx5] 25] wv ∧ (b ≤ r) ∧ (∀ y : Nat, y < b → cl i r y = cl i y r)) (fun b => r - b) 0 ⟨hA.sub ((.cons rfl (.cons rfl (.cons rfl (.cons rfl (.cons rfl (.cons rfl (.cons rfl (.cons rfl .nil))))))))), hM, (Nat.zero_le _), (fun y hy => absurd hy (Nat.not_lt_zero _))⟩ ?_
    clear hA hM a
    rintro b a w4 ⟨hA, hM, hb_, hs2⟩ hNext1
    refine Ends.seq (Ends.region ?_)
    refine S.val hA (R.lss rfl rfl) rfl ?_; clear hA a; intro a hA
    refine S.done ?_
    refine Ends.seq ?_
    refine Ends.ite hA rfl (fun hc9 => ?_) (fun hc9 => ?_)
    ·
     have hrb := hF.row b (by omega)
     refine Ends.skip (Ends.seq (Ends.block (Ends.seq (Ends.region ?_))))
     refine S.val hA (R.move rfl) rfl ?_; clear hA a; intro a hA
     refine S.val hA (R.assign rfl) rfl ?_; clear hA a; intro a hA
     refine S.done ?_
     refine Ends.seq ?_
     refine Ends.drawn (Mem w nof [pt b1 #[.int .i64 i.kind, .int .i64 i.n, .int .i64 i.cap, .slice ax3 i.wt.length cx3, .slice ax4 i.vl.length cx4, .slice ax5 i.cost.length cx5] 25]) (.cons (0, true) (.cons (1, true) (.cons (2, true) (.cons (3, true) (.cons (4, true) (.cons (5, true) (.cons (6, true) (.cons (7, true) (.cons (8, true) (.cons (9, true) (.cons (10, true) (.cons (11, true) (.cons (12, true) .nil))))))))))))) 13 mixed (by kernel_rfl) (by kernel_rfl) (by kernel_rfl) hM.drew ?_
     replace hM := hM.drew
     refine D.valF hA rfl (fun _ => R.move rfl) rfl ?_; clear hA a; intro a hA
     refine D.valF hA rfl (fun _ => R.move rfl) rfl ?_; clear hA a; intro a hA
     refine D.valF hA rfl (fun _ => R.idxI hrow7 (j := b) sl22 rfl rfl (by omega) (rfl)) rfl ?_; clear hA a; intro a hA
     refine D.val hA rfl (by kernel_rfl) (fun _ hM => R.loadI (hrow7.mem hM) sz3 rfl (by omega)) rfl ?_; clear hA a; intro a hA
     refine D.valF hA rfl (fun _ => R.fieldAddr (q := 5) fi25_5 rfl rfl rfl) rfl ?_; clear hA a; intro a hA
     refine D.val hA rfl (by kernel_rfl) (fun _ hM => R.load sz23 rfl (hM.cell (k := 0) rfl rfl)) rfl ?_; clear hA a; intro a hA
     refine D.valF hA rfl (fun _ => R.move rfl) rfl ?_; clear hA a; intro a hA
     refine D.valF hA rfl (fun _ => R.idxR hx5 (j := b) sl23 rfl rfl (by omega) (rfl)) rfl ?_; clear hA a; intro a hA
     obtain ⟨ra10, rc11, hrow12, hld13⟩ := hx5.atP (i := b) (by omega)
     refine D.val hA rfl (by kernel_rfl) (fun _ hM => hld13 _ _ _ _ _ _ hM sz22 rfl) rfl ?_; clear hA a; intro a hA
     refine D.valF hA rfl (fun _ => R.move rfl) rfl ?_; clear hA a; intro a hA
     refine D.valF hA rfl (fun _ => R.idxI hrow12 (j := r) sl22 rfl rfl (by omega) (rfl)) rfl ?_; clear hA a; intro a hA
     refine D.val hA rfl (by kernel_rfl) (fun _ hM => R.loadI (hrow12.mem hM) sz3 rfl (by omega)) rfl ?_; clear hA a; intro a hA
     refine D.valF hA rfl (fun _ => R.neq rfl rfl) rfl ?_; clear hA a; intro a hA
     refine D.done ?_
     replace hA : St 41 [(1, _), (3, _), (4, _), (15, _), (16, _), (17, _), (22, _), (23, _), (38, _)] a := hA.sub ((.cons rfl (.cons rfl (.cons rfl (.cons rfl (.cons rfl (.cons rfl (.cons rfl (.cons rfl (.cons rfl .nil))))))))))
     refine Ends.ite hA rfl (fun hc14 => ?_) (fun hc14 => ?_)
     ·
      refine Ends.seq (Ends.region ?_)
      refine S.val hA (R.assign rfl) rfl ?_; clear hA a; intro a hA
      refine S.done ?_
      refine Ends.ret1 Tryd.func24 Tryd.results24 hA rfl ?_
      exact ⟨false, ⟨fun h => (by cases h), fun h => absurd (h.2 r b (by omega) (by omega)) hc14⟩, rfl, Mem.trans0 hbs hM.nilL⟩
     ·
      refine Ends.skip (Ends.inBlock (Ends.region ?_))
      refine S.val hA (R.addI rfl rfl (r := ((b : Int)) + 1) rfl (by omega)) rfl ?_; clear hA a; intro a hA
      refine S.val hA (R.move rfl) rfl ?_; clear hA a; intro a hA
      refine S.done ?_
      exact hNext1 ((b + 1)) _ _ ((by show r - (b + 1) < r - b; omega)) ⟨hA.sub ((.cons rfl (.cons rfl (.cons rfl (.cons rfl (.cons rfl (.cons rfl (.cons rfl (.cons rfl .nil))))))))), hM, (by omega), (fun y hy => by rcases Nat.lt_succ_iff_lt_or_eq.1 hy with h9 | h9; exact hs2 y h9; subst h9; exact Decidable.not_not.1 hc14)⟩
    ·
     refine Ends.exit rfl ?_
     replace hA : St 41 [(1, _), (15, _), (16, _), (17, _)] a := hA.sub ((.cons rfl (.cons rfl (.cons rfl (.cons rfl .nil)))))
     refine Ends.inBlock (Ends.region ?_)
     refine S.val hA (R.addI rfl rfl (r := ((r : Int)) + 1) rfl (by omega)) rfl ?_; clear hA a; intro a hA
     refine S.val hA (R.move rfl) rfl ?_; clear hA a; intro a hA
     refine S.done ?_
     exact hNext ((r + 1)) _ _ ((by show i.cost.length - (r + 1) < i.cost.length - r; omega)) ⟨hA.sub ((.cons rfl (.cons rfl (.cons rfl (.cons rfl .nil))))), hM, (by omega), (fun x y hx hy => by rcases Nat.lt_succ_iff_lt_or_eq.1 hx with h9 | h9; exact hs x y h9 hy; subst h9; exact hs2 y (by omega))⟩
   ·
    refine Ends.exit rfl ?_
    replace hA : St 41 [] a := hA.sub (.nil)
    refine Ends.seq (Ends.region ?_)
    refine S.val hA (R.assign rfl) rfl ?_; clear hA a; intro a hA
    refine S.done ?_
    refine Ends.ret1 Tryd.func24 Tryd.results24 hA rfl ?_
    exact ⟨true, ⟨fun _ => ⟨hk3, fun x y hx hy => by rcases Nat.lt_trichotomy y x with h9 | h9 | h9; exact hs x y (by omega) h9; rw [h9]; exact (hs y x (by omega) h9).symm⟩, fun _ => rfl⟩, rfl, Mem.trans0 hbs hM.nilL⟩
 ·
  refine Ends.region ?_
  refine S.val hA (R.fieldAddr (q := 0) fi25_0 rfl rfl rfl) rfl ?_; clear hA a; intro a hA
  refine S.val hA (R.load sz3 rfl (hM.cell (k := 0) rfl rfl)) rfl ?_; clear hA a; intro a hA
  refine S.val hA (R.neq rfl rfl) rfl ?_; clear hA a; intro a hA
  refine S.val hA (R.move rfl) rfl ?_; clear hA a; intro a hA
  refine hA.split (d := 9) rfl ?_ ?_
  ·
   clear hA; intro hg15 hA
   refine S.no (dj := 9) hA (by kernel_rfl) rfl rfl rfl ?_; clear hA a; intro a hA
   refine S.no (dj := 9) hA (by kernel_rfl) rfl rfl rfl ?_; clear hA a; intro a hA
   refine S.no (dj := 9) hA (by kernel_rfl) rfl rfl rfl ?_; clear hA a; intro a hA
   refine S.val hA (R.pickT rfl rfl) rfl ?_; clear hA a; intro a hA
   refine S.done ?_
   replace hA : St 41 [(1, _), (13, _)] a := hA.sub ((.cons rfl (.cons rfl .nil)))
   exact hJ _ _ ⟨hA.sub (.cons rfl (.cons (by first | rfl | exact congrArg (fun b => some (Value.bool b)) (by first | exact decide_eq_decide.2 (by omega) | exact or_bool (by omega) | exact and_bool (by omega) | (simp; done) | (simp [hg15]; done) | (have h80 := hg15; (try simp at h80); simp [h80]; done) | exact (decide_eq_false (fun h9 => hg15 h9.1)).symm)) .nil)), hM⟩
  ·
   clear hA; intro hg15 hA
   refine S.valg (dj := 9) hA (by kernel_rfl) rfl (R.loadA sz25 rfl (hM.range (k := 0) rfl) rfl) rfl ?_; clear hA a; intro a hA
   refine S.callg (dj := 9) hA (by kernel_rfl) rfl (R.callF Tryd.func18 rfl rfl rfl) rfl (check05 i ax3 cx3 ax4 cx4 ax5 cx5 hsm _ (hx3.mem hM) (hx4.mem hM) (hx5.mem hM)) ?_; clear hA a
   rintro e w5 ⟨rfl, hb⟩
   replace hM := hM.callB hb; clear hb
   refine ⟨.int .i64 (chk i), rfl, fun a hA => ?_⟩
   refine S.valg (dj := 9) hA (by kernel_rfl) rfl (R.neq rfl rfl) rfl ?_; clear hA a; intro a hA
   refine S.val hA (R.pickF rfl rfl) rfl ?_; clear hA a; intro a hA
   refine S.done ?_
   replace hA : St 41 [(1, _), (13, _)] a := hA.sub ((.cons rfl (.cons rfl .nil)))
   exact hJ _ _ ⟨hA.sub (.cons rfl (.cons (by first | rfl | exact congrArg (fun b => some (Value.bool b)) (by first | exact decide_eq_decide.2 (by omega) | exact or_bool (by omega) | exact and_bool (by omega) | (simp; done) | (simp [hg15]; done) | (have h80 := hg15; (try simp at h80); simp [h80]; done) | exact (decide_eq_false (fun h9 => hg15 h9.1)).symm)) .nil)), hM⟩
end Go.Proofs.YtakfcekfmdjklaaDoor
namespace Go.Proofs.YtakfcekfmdjklaaDoor
open Go.RowKit
theorem U8T.below {w w' : World} (h : U8T w) (hb : Below w.heap.size w w') : U8T w' := by
  have h1 := hb.block _ h.lt.1
  have h2 := hb.block _ h.lt.2
  exact ⟨fun c hc => by rw [cell_eq h1]; exact h.1 c hc, fun i hi => by rw [cell_eq h2, cell_eq h2]; exact h.2 i hi⟩
theorem parse_eq (s : ByteArray) (hs : s.size ≤ 9223372036854775807) (G : Ins) (p e0 : Int) (h : prs s = (G, p, e0)) (w : World) (htab : U8T w) : Calls Tryd.prog 28 #[.string s] w fun e w' => ∃ a3 c3 a4 c4 a5 c5, e = .returned (.tuple #[.agg #[.int .i64 G.kind, .int .i64 G.n, .int .i64 G.cap, .slice a3 G.wt.length c3, .slice a4 G.vl.length c4, .slice a5 G.cost.length c5], .int .i64 p, .int .i64 e0]) ∧ (IntSl w' (.slice a3 G.wt.length c3) G.wt ∧ IntSl w' (.slice a4 G.vl.length c4) G.vl ∧ RowsV w' (.slice a5 G.cost.length c5) G.cost) ∧ Below w.heap.size w w' := by
  have h1 := parse06 s hs w htab
  rwa [h] at h1
def iT : Ins := ⟨3, 2, 0, [], [], [[0, 7], [7, 0]]⟩
theorem prs_t1 : prs ⟨#[84, 83, 80, 32, 50, 32, 85, 80, 80, 69, 82, 32, 55]⟩ = (iT, 0, 0) := by kernel_rfl
theorem prs_t2 : prs ⟨#[75, 78, 65, 80, 83, 65, 67, 75, 32, 48]⟩ = (insZ, 9, 1) := by kernel_rfl
set_option maxRecDepth 100000 in
set_option maxHeartbeats 400000 in
theorem parses_any  (w : World) (htab : U8T w) :
  Calls Tryd.prog 27 #[] w fun e w' => e = .returned (.bool true) ∧ Below w.heap.size w w' := by
 have hbs := Below.refl (B := w.heap.size) w
 have hM := Mem.start w
 refine Calls.of_ends (vs := []) Tryd.func27 rfl Tryd.ntmps27 rfl ?_
 intro a hA
 replace hA : St 52 [] a := hA
 refine Ends.seq (Ends.region ?_)
 refine S.val hA (R.assign rfl) rfl ?_; clear hA a; intro a hA
 refine S.done ?_
 refine Ends.seq (Ends.region ?_)
 refine S.call hA (R.callF Tryd.func28 rfl rfl rfl) rfl (parse_eq ⟨#[84, 83, 80, 32, 50, 32, 85, 80, 80, 69, 82, 32, 55]⟩ (by decide) iT 0 0 prs_t1 _ (U8T.below htab (Mem.trans0 hbs hM.nilL))) ?_; clear hA a
 rintro e w1 ⟨ap13, cp13, ap14, cp14, ap15, cp15, rfl, ⟨hp13, hp14, hp15⟩, hb⟩
 replace hM := hM.callB hb; clear hb
 have hbs := hbs.trans (hM.below.mono hbs.size)
 replace hM := Mem.start w1
 refine ⟨.tuple #[.agg #[.int .i64 iT.kind, .int .i64 iT.n, .int .i64 iT.cap, .slice ap13 iT.wt.length cp13, .slice ap14 iT.vl.length cp14, .slice ap15 iT.cost.length cp15], .int .i64 0, .int .i64 0], rfl, fun a hA => ?_⟩
 refine S.val hA (R.move rfl) rfl ?_; clear hA a; intro a hA
 refine S.val hA (R.extract (v := .agg #[.int .i64 iT.kind, .int .i64 iT.n, .int .i64 iT.cap, .slice ap13 iT.wt.length cp13, .slice ap14 iT.vl.length cp14, .slice ap15 iT.cost.length cp15]) rfl rfl) rfl ?_; clear hA a; intro a hA
 refine S.val hA (R.extract (v := .int .i64 0) rfl rfl) rfl ?_; clear hA a; intro a hA
 refine S.val hA (R.extract (v := .int .i64 0) rfl rfl) rfl ?_; clear hA a; intro a hA
 refine S.alloc hA hM info25 rfl rfl ?_; clear hA hM a; intro b2 w2 hb3 hM a hA
 replace hM : Mem _ _ [pt b2 cz0 25] _ := hM
 refine S.storeA (k := 0) hA hM sz25 rfl rfl rfl rfl rfl rfl ?_; clear hM
 intro w3 hM
 replace hM : Mem _ _ [pt b2 #[.int .i64 iT.kind, .int .i64 iT.n, .int .i64 iT.cap, .slice ap13 iT.wt.length cp13, .slice ap14 iT.vl.length cp14, .slice ap15 iT.cost.length cp15] 25] _ := hM
 refine S.val hA (R.assign rfl) rfl ?_; clear hA a; intro a hA
 refine S.val hA (R.assign rfl) rfl ?_; clear hA a; intro a hA
 refine S.done ?_
 replace hA : St 52 [(1, _), (3, _)] a := hA.sub ((.cons rfl (.cons rfl .nil)))
 refine Ends.seq (Ends.region ?_)
 refine S.call hA (R.callF Tryd.func28 rfl rfl rfl) rfl (parse_eq ⟨#[75, 78, 65, 80, 83, 65, 67, 75, 32, 48]⟩ (by decide) insZ 9 1 prs_t2 _ (U8T.below htab (Mem.trans0 hbs hM.nilL))) ?_; clear hA a
 rintro e w4 ⟨ap43, cp43, ap44, cp44, ap45, cp45, rfl, ⟨hp43, hp44, hp45⟩, hb⟩
 replace hM := hM.callB hb; clear hb
 have hbx5 := hM.block (k := 0) rfl
 have hbs := hbs.trans (hM.below.mono hbs.size)
 have hp13 := hp13.mem hM
 have hp14 := hp14.mem hM
 have hp15 := hp15.mem hM
 replace hM := Mem.start w4
 refine ⟨.tuple #[.agg #[.int .i64 insZ.kind, .int .i64 insZ.n, .int .i64 insZ.cap, .slice ap43 insZ.wt.length cp43, .slice ap44 insZ.vl.length cp44, .slice ap45 insZ.cost.length cp45], .int .i64 9, .int .i64 1], rfl, fun a hA => ?_⟩
 refine S.val hA (R.move rfl) rfl ?_; clear hA a; intro a hA
 refine S.val hA (R.extract (v := .agg #[.int .i64 insZ.kind, .int .i64 insZ.n, .int .i64 insZ.cap, .slice ap43 insZ.wt.length cp43, .slice ap44 insZ.vl.length cp44, .slice ap45 insZ.cost.length cp45]) rfl rfl) rfl ?_; clear hA a; intro a hA
 refine S.val hA (R.extract (v := .int .i64 9) rfl rfl) rfl ?_; clear hA a; intro a hA
 refine S.val hA (R.extract (v := .int .i64 1) rfl rfl) rfl ?_; clear hA a; intro a hA
 refine S.alloc hA hM info25 rfl rfl ?_; clear hA hM a; intro b6 w5 hb7 hM a hA
 replace hM : Mem _ _ [pt b6 cz0 25] _ := hM
 refine S.storeA (k := 0) hA hM sz25 rfl rfl rfl rfl rfl rfl ?_; clear hM
 intro w6 hM
 replace hM : Mem _ _ [pt b6 #[.int .i64 insZ.kind, .int .i64 insZ.n, .int .i64 insZ.cap, .slice ap43 insZ.wt.length cp43, .slice ap44 insZ.vl.length cp44, .slice ap45 insZ.cost.length cp45] 25] _ := hM
 refine S.val hA (R.assign rfl) rfl ?_; clear hA a; intro a hA
 refine S.val hA (R.assign rfl) rfl ?_; clear hA a; intro a hA
 refine S.done ?_
 replace hA : St 52 [(1, _), (3, _), (5, _), (6, _)] a := hA.sub ((.cons rfl (.cons rfl (.cons rfl (.cons rfl .nil)))))
 refine Ends.seq (Ends.region ?_)
 refine S.val hA (R.move rfl) rfl ?_; clear hA a; intro a hA
 refine S.val hA (R.tt (R.eql rfl rfl) (by first | decide | simp | omega)) rfl ?_; clear hA a; intro a hA
 refine S.val hA (R.move rfl) rfl ?_; clear hA a; intro a hA
 refine S.valg (dj := 19) hA (by kernel_rfl) rfl (R.fieldAddr (q := 0) fi25_0 rfl rfl rfl) rfl ?_; clear hA a; intro a hA
 refine S.valg (dj := 19) hA (by kernel_rfl) rfl (R.load sz3 rfl (hM.cellB hbx5 rfl)) rfl ?_; clear hA a; intro a hA
 refine S.valg (dj := 19) hA (by kernel_rfl) rfl (R.tt (R.eql rfl rfl) (by rfl)) rfl ?_; clear hA a; intro a hA
 refine S.val hA (R.pickT rfl rfl) rfl ?_; clear hA a; intro a hA
 refine S.val hA (R.move rfl) rfl ?_; clear hA a; intro a hA
 refine S.valg (dj := 24) hA (by kernel_rfl) rfl (R.fieldAddr (q := 1) fi25_1 rfl rfl rfl) rfl ?_; clear hA a; intro a hA
 refine S.valg (dj := 24) hA (by kernel_rfl) rfl (R.load sz3 rfl (hM.cellB hbx5 rfl)) rfl ?_; clear hA a; intro a hA
 refine S.valg (dj := 24) hA (by kernel_rfl) rfl (R.tt (R.eql rfl rfl) (by rfl)) rfl ?_; clear hA a; intro a hA
 refine S.val hA (R.pickT rfl rfl) rfl ?_; clear hA a; intro a hA
 refine S.val hA (R.move rfl) rfl ?_; clear hA a; intro a hA
 refine S.valg (dj := 29) hA (by kernel_rfl) rfl (R.fieldAddr (q := 5) fi25_5 rfl rfl rfl) rfl ?_; clear hA a; intro a hA
 refine S.valg (dj := 29) hA (by kernel_rfl) rfl (R.load sz23 rfl (hM.cellB hbx5 rfl)) rfl ?_; clear hA a; intro a hA
 refine S.valg (dj := 29) hA (by kernel_rfl) rfl (R.lenS Tryd.underlying23 rfl rfl) rfl ?_; clear hA a; intro a hA
 refine S.valg (dj := 29) hA (by kernel_rfl) rfl (R.tt (R.eql rfl rfl) (by rfl)) rfl ?_; clear hA a; intro a hA
 refine S.val hA (R.pickT rfl rfl) rfl ?_; clear hA a; intro a hA
 refine S.val hA (R.move rfl) rfl ?_; clear hA a; intro a hA
 refine S.valg (dj := 35) hA (by kernel_rfl) rfl (R.fieldAddr (q := 5) fi25_5 rfl rfl rfl) rfl ?_; clear hA a; intro a hA
 refine S.valg (dj := 35) hA (by kernel_rfl) rfl (R.load sz23 rfl (hM.cellB hbx5 rfl)) rfl ?_; clear hA a; intro a hA
 refine S.valg (dj := 35) hA (by kernel_rfl) rfl (R.idxR hp15 (j := 1) sl23 rfl rfl (by first | omega | decide) (rfl)) rfl ?_; clear hA a; intro a hA
 obtain ⟨ra8, rc9, hrow10, hld11⟩ := hp15.atP (i := 1) (by first | omega | decide)
 refine S.valg (dj := 35) hA (by kernel_rfl) rfl (hld11 _ _ _ _ _ _ hM sz22 rfl) rfl ?_; clear hA a; intro a hA
 refine S.valg (dj := 35) hA (by kernel_rfl) rfl (R.idxI hrow10 (j := 0) sl22 rfl rfl (by first | omega | decide) (rfl)) rfl ?_; clear hA a; intro a hA
 refine S.valg (dj := 35) hA (by kernel_rfl) rfl (R.loadI (hrow10.mem hM) sz3 rfl (by first | omega | decide)) rfl ?_; clear hA a; intro a hA
 refine S.valg (dj := 35) hA (by kernel_rfl) rfl (R.tt (R.eql rfl rfl) (by rfl)) rfl ?_; clear hA a; intro a hA
 refine S.val hA (R.pickT rfl rfl) rfl ?_; clear hA a; intro a hA
 refine S.val hA (R.move rfl) rfl ?_; clear hA a; intro a hA
 refine S.valg (dj := 44) hA (by kernel_rfl) rfl (R.move rfl) rfl ?_; clear hA a; intro a hA
 refine S.valg (dj := 44) hA (by kernel_rfl) rfl (R.tt (R.eql rfl rfl) (by first | decide | simp | omega)) rfl ?_; clear hA a; intro a hA
 refine S.val hA (R.pickT rfl rfl) rfl ?_; clear hA a; intro a hA
 refine S.val hA (R.move rfl) rfl ?_; clear hA a; intro a hA
 refine S.valg (dj := 48) hA (by kernel_rfl) rfl (R.move rfl) rfl ?_; clear hA a; intro a hA
 refine S.valg (dj := 48) hA (by kernel_rfl) rfl (R.tt (R.eql rfl rfl) (by first | decide | simp | omega)) rfl ?_; clear hA a; intro a hA
 refine S.val hA (R.pickT rfl rfl) rfl ?_; clear hA a; intro a hA
 refine S.val hA (R.assign rfl) rfl ?_; clear hA a; intro a hA
 refine S.done ?_
 replace hA : St 52 [(0, _)] a := hA.sub ((.cons rfl .nil))
 refine Ends.ret1 Tryd.func27 Tryd.results27 hA rfl ?_
 exact ⟨rfl, Mem.trans0 hbs hM.nilL⟩
end Go.Proofs.YtakfcekfmdjklaaDoor
namespace Go.Proofs.YtakfcekfmdjklaaDoor
theorem lst_pos {u : ByteArray} {q z : Nat} {e : Int} {t : Tok} (h : lst u q = (e, z, [t])) : t.a = q := by
  rcases kb_rng u q with hk | hk | hk | hk | hk
  · rw [lst_0 hk] at h; simp at h
  · rw [lst_1 hk] at h; simp at h
  · rw [lst_2 hk] at h
    split at h
    · simp at h
    · split at h
      · simp at h
      · simp only [Prod.mk.injEq, List.cons.injEq, and_true] at h; rw [← h.2.2]
  · rw [lst_3 hk] at h
    split at h
    · simp at h
    · simp only [Prod.mk.injEq, List.cons.injEq, and_true] at h; rw [← h.2.2]
  · rw [lst_4 hk] at h; simp at h
def ScB (l : List UInt8) (T : List Tok) : Prop := ∀ r : List UInt8, Going (bs (l ++ r)) 0 [] l.length T
def okN (r : List UInt8) : Prop := kb (bs r) 0 ≠ 2 ∧ kb (bs r) 0 ≠ 3
def ScN (l : List UInt8) (T : List Tok) : Prop := ∀ r : List UInt8, okN r → Going (bs (l ++ r)) 0 [] l.length T
theorem ScB.nil : ScB [] [] := fun _ => Going.refl _ _ _
theorem kb_mid (l r : List UInt8) (j : Nat) : kb (bs (l ++ r)) (l.length + j) = kb (bs r) j := by
  rw [← bs_app, show l.length = (bs l).size from (bs_size l).symm, kb_r]
theorem byt_mid {l r : List UInt8} {j : Nat} (h : j < r.length) : byt (bs (l ++ r)) (l.length + j) = byt (bs r) j := by
  rw [← bs_app, show l.length = (bs l).size from (bs_size l).symm, byt_r (by rw [bs_size]; exact h)]
theorem byt_left {l r : List UInt8} {j : Nat} (h : j < l.length) : byt (bs (l ++ r)) j = byt (bs l) j := by
  rw [← bs_app, byt_l (by rw [bs_size]; exact h)]
theorem kb_cons (c : UInt8) (r : List UInt8) : kb (bs (c :: r)) 0 = kindI (c.toNat : Int) := by
  rw [kb_in (by rw [bs_size]; simp), show bs (c :: r) = ⟨(c :: r).toArray⟩ from rfl, byt_mk (by simp)]; rfl
def blk1 (c : UInt8) : Prop := kindI (c.toNat : Int) = 1
theorem blk1_k {c : UInt8} (h : blk1 c) : kindI (c.toNat : Int) = 1 := h
theorem b32 : blk1 32 := by unfold blk1; decide
theorem b10 : blk1 10 := by unfold blk1; decide
theorem okN_blk {c : UInt8} (h : blk1 c) (r : List UInt8) : okN (c :: r) := by unfold okN; rw [kb_cons, blk1_k h]; decide
theorem okN_nil : okN [] := by unfold okN; rw [kb_out (by rw [bs_size]; simp)]; decide
theorem ScN.blank {l : List UInt8} {T : List Tok} {c : UInt8} (h : ScN l T) (hc : blk1 c) : ScB (l ++ [c]) T := fun r => by
  have h1 := h (c :: r) (okN_blk hc r)
  have e : (l ++ [c]) ++ r = l ++ (c :: r) := by simp
  rw [e, List.length_append]
  refine h1.trans (Going.blank (by rw [bs_size]; simp) ?_)
  have := kb_mid l (c :: r) 0
  rw [Nat.add_zero] at this
  rw [this, kb_cons, blk1_k hc]
theorem ScB.tok {l p : List UInt8} {T : List Tok} {k n : Int} {x : ByteArray} (h : ScB l T) (ht : TK (bs p) ⟨k, x, n, 0⟩ 0 p.length) : ScN (l ++ p) (T ++ [⟨k, x, n, l.length⟩]) := fun r hr => by
  have hd := ht.2.1
  have e : (l ++ p) ++ r = l ++ (p ++ r) := List.append_assoc ..
  rw [e]
  refine (h (p ++ r)).trans ?_
  obtain ⟨t', he, h1, h2, h3⟩ := lst_copy (u := bs (l ++ (p ++ r))) (q := l.length) ht (fun j hj => ⟨by rw [bs_size]; simp; omega, by rw [byt_mid (by simp; omega), byt_left hj, Nat.zero_add]⟩) (by rw [kb_mid, show p.length = p.length + 0 from rfl, kb_mid]; exact hr)
  have hp := lst_pos he
  have ht' : t' = ⟨k, x, n, l.length⟩ := by cases t'; simp only at h1 h2 h3 hp; rw [h1, h2, h3, hp]
  rw [ht'] at he
  have := Going.step (X := T) (by rw [bs_size]; simp; omega) he
  rwa [show (l ++ p).length = l.length + p.length from List.length_append]
theorem ScN.fin {l : List UInt8} {T : List Tok} (h : ScN l T) (hl : l.length ≤ 65536) : scan (bs l) = (T ++ [⟨3, ⟨#[]⟩, 0, l.length⟩], 0, 0) := by
  have h1 := h [] okN_nil
  rw [List.append_nil] at h1
  obtain ⟨f', -, e⟩ := h1 (bs l).size (by omega)
  unfold scan
  rw [if_neg (by rw [bs_size]; omega), e, scF_end (by rw [bs_size]; omega)]
  unfold tend; rw [bs_size]
structure Pc where
  b : List UInt8
  k : Int
  x : ByteArray
  n : Int
  s : UInt8
def pz : Pc := ⟨[], 0, ⟨#[]⟩, 0, 0⟩
def gd (p : Pc) : Prop := TK (bs p.b) ⟨p.k, p.x, p.n, 0⟩ 0 p.b.length ∧ blk1 p.s
def txt (ps : List Pc) : List UInt8 := ps.flatMap fun p => p.b ++ [p.s]
def toks : Nat → List Pc → List Tok
  | _, [] => []
  | o, p :: ps => ⟨p.k, p.x, p.n, o⟩ :: toks (o + (p.b.length + 1)) ps
theorem txt_app (a b : List Pc) : txt (a ++ b) = txt a ++ txt b := List.flatMap_append
theorem txt_cons (p : Pc) (b : List Pc) : txt (p :: b) = (p.b ++ [p.s]) ++ txt b := rfl
theorem toks_app : ∀ (a b : List Pc) (o : Nat), toks o (a ++ b) = toks o a ++ toks (o + (txt a).length) b
  | [], b, o => by simp [toks, txt]
  | p :: a, b, o => by
    rw [List.cons_append, toks, toks, toks_app a b, List.cons_append, txt_cons]
    congr 3
    simp only [List.length_append, List.length_cons, List.length_nil]; omega
theorem toks_len : ∀ (o : Nat) (ps : List Pc), (toks o ps).length = ps.length
  | _, [] => rfl
  | o, p :: ps => by rw [toks, List.length_cons, toks_len, List.length_cons]
theorem ScB.txt : ∀ (ps : List Pc) {l : List UInt8} {T : List Tok}, ScB l T → (∀ p ∈ ps, gd p) → ScB (l ++ Go.Proofs.YtakfcekfmdjklaaDoor.txt ps) (T ++ toks l.length ps)
  | [], l, T, h, _ => by simpa [Go.Proofs.YtakfcekfmdjklaaDoor.txt, toks] using h
  | p :: ps, l, T, h, hg => by
    obtain ⟨h1, h2⟩ := hg p (.head _)
    have h3 := ScB.txt ps ((h.tok h1).blank h2) (fun q hq => hg q (.tail _ hq))
    have e1 : l ++ Go.Proofs.YtakfcekfmdjklaaDoor.txt (p :: ps) = ((l ++ p.b) ++ [p.s]) ++ Go.Proofs.YtakfcekfmdjklaaDoor.txt ps := by rw [txt_cons]; simp only [List.append_assoc]
    have e2 : T ++ toks l.length (p :: ps) = (T ++ [⟨p.k, p.x, p.n, l.length⟩]) ++ toks ((l ++ p.b) ++ [p.s]).length ps := by
      rw [toks, List.append_assoc]; simp
    rw [e1, e2]; exact h3
theorem txt_scanL {ps : List Pc} {q : Pc} (hg : ∀ p ∈ ps, gd p) (hq : gd q) (hl : (txt ps ++ q.b).length ≤ 65536) : scan (bs (txt ps ++ q.b)) = (toks 0 (ps ++ [q]) ++ [⟨3, ⟨#[]⟩, 0, (txt ps ++ q.b).length⟩], 0, 0) := by
  have h := ScB.txt ps ScB.nil hg
  simp only [List.nil_append, List.length_nil] at h
  have h2 := (h.tok hq.1).fin hl
  rw [h2, toks_app, Nat.zero_add]; rfl
theorem toks_get : ∀ (ps : List Pc) (o j : Nat), j < ps.length → ((toks o ps).getD j tz).k = (ps.getD j pz).k ∧ ((toks o ps).getD j tz).x = (ps.getD j pz).x ∧ ((toks o ps).getD j tz).n = (ps.getD j pz).n
  | [], _, j, h => absurd h (Nat.not_lt_zero _)
  | p :: ps, o, 0, _ => ⟨rfl, rfl, rfl⟩
  | p :: ps, o, j + 1, h => by
    rw [toks, List.getD_cons_succ, List.getD_cons_succ]
    exact toks_get ps _ j (by rw [List.length_cons] at h; omega)
structure Rds (X : List Tok) (ps : List Pc) (e : Int) : Prop where
  len : X.length = ps.length + 1
  at_ : ∀ j, j < ps.length → (X.getD j tz).k = (ps.getD j pz).k ∧ (X.getD j tz).x = (ps.getD j pz).x ∧ (X.getD j tz).n = (ps.getD j pz).n
  end_ : (X.getD ps.length tz).k = 3 ∧ (X.getD ps.length tz).a = e
theorem rds_of (ps : List Pc) (e : Int) : Rds (toks 0 ps ++ [⟨3, ⟨#[]⟩, 0, e⟩]) ps e := by
  have hl := toks_len 0 ps
  refine ⟨by rw [List.length_append, hl]; rfl, fun j hj => ?_, ?_⟩
  · rw [getD_app1 (by omega)]; exact toks_get ps 0 j hj
  · rw [← hl, getD_app2]; exact ⟨rfl, rfl⟩
def wdP (b : List UInt8) (s : UInt8) : Pc := ⟨b, 1, bs b, 0, s⟩
def nuP (n : Int) (s : UInt8) : Pc := ⟨Lib.itoa n, 2, ⟨#[]⟩, n, s⟩
theorem ext_self (l : List UInt8) : (bs l).extract 0 (0 + l.length) = bs l :=
  ba_ext (by rw [Nat.zero_add, size_ext (by rw [bs_size]; omega), bs_size]; omega) (fun j hj => by
    rw [Nat.zero_add, size_ext (by rw [bs_size]; omega)] at hj
    rw [Nat.zero_add, byt_ext (by omega) (by rw [bs_size]; omega), Nat.zero_add])
theorem wd_gd {b : List UInt8} {s : UInt8} (h : ∀ j, j < b.length → kb (bs b) j = 3) (h0 : 0 < b.length) (h16 : b.length ≤ 16) (hs : blk1 s) : gd (wdP b s) := by
  refine ⟨⟨rfl, h0, by rw [bs_size]; exact Nat.le_of_eq (Nat.zero_add _), ?_, .inl ⟨rfl, fun j hj => by rw [Nat.zero_add]; exact h j hj, h16, (ext_self b).symm, rfl⟩⟩, hs⟩
  have e : kb (bs (wdP b s).b) (0 + (wdP b s).b.length) = 1 := kb_out (by rw [bs_size, Nat.zero_add]; exact Nat.lt_irrefl _)
  rw [e]; decide
theorem dd_short : ∀ (k M : Nat), M < 10 ^ k → (dd M).length ≤ k
  | 0, M, h => by
    obtain rfl : M = 0 := by simpa using h
    simp [dd]
  | k + 1, M, h => by
    by_cases h0 : M = 0
    · subst h0; simp [dd]
    · rw [dd_step h0, List.length_append]
      have := dd_short k (M / 10) (by rw [Nat.pow_succ] at h; omega)
      simp only [List.length_cons, List.length_nil]; omega
theorem dig_short {A : Nat} (h : A < 1000000000000000000) : (Lib.decDigits A).length ≤ 18 := by
  by_cases h0 : A = 0
  · subst h0; decide +kernel
  · have := dd_short 18 A (by simpa using h)
    unfold dd at this; rwa [if_neg h0] at this
theorem nu_gd {n : Int} {s : UInt8} (h0 : 0 ≤ n) (h1 : n < 1000000000000000000) (hs : blk1 s) : gd (nuP n s) := by
  obtain ⟨A, rfl⟩ : ∃ A : Nat, n = (A : Int) := ⟨n.toNat, by omega⟩
  have e := Lib.itoa_nonneg A
  have hp := dd_pos A
  have hsh := dig_short (A := A) (by omega)
  have hlen : (nuP (A : Int) s).b.length = (Lib.decDigits A).length := by show (Lib.itoa (A : Int)).length = _; rw [e]
  have hbs : bs (nuP (A : Int) s).b = ⟨(Lib.decDigits A).toArray⟩ := by show bs (Lib.itoa (A : Int)) = _; rw [e]; rfl
  have hkb : ∀ j, j < (Lib.decDigits A).length → kb ⟨(Lib.decDigits A).toArray⟩ j = 2 := fun j hj => by
    have hd := dd_dig A _ (List.getElem_mem hj)
    refine dig_kb.1 ?_
    refine ⟨by rw [size_mk]; exact hj, ?_⟩
    rw [byt_mk hj]
    omega
  refine ⟨?_, hs⟩
  rw [hbs, hlen]
  refine ⟨rfl, hp, by rw [size_mk]; omega, by rw [kb_out (by rw [size_mk]; omega)]; decide, .inr ⟨rfl, fun j hj => by rw [Nat.zero_add]; exact hkb j hj, hsh, ?_, rfl, ?_⟩⟩
  · rintro ⟨h2, h3⟩
    by_cases hA : A = 0
    · subst hA; exact absurd h2 (by decide +kernel)
    · obtain ⟨c, r, e2, h4⟩ := dd_head A (by omega)
      have h5 : byt ⟨(Lib.decDigits A).toArray⟩ 0 = (((Lib.decDigits A)[0]'hp).toNat : Int) := byt_mk hp
      rw [h5] at h3
      simp only [e2, List.getElem_cons_zero] at h3
      omega
  · show (A : Int) = numv _ 0 _
    rw [numv_list _ _ (Nat.le_refl _), List.take_length, dd_val]
end Go.Proofs.YtakfcekfmdjklaaDoor
namespace Go.Proofs.YtakfcekfmdjklaaDoor
def rowP : List Int → List Pc
  | [] => []
  | [x] => [nuP x 10]
  | x :: y :: l => nuP x 32 :: rowP (y :: l)
theorem rowP_len : ∀ l, (rowP l).length = l.length
  | [] => rfl
  | [_] => rfl
  | x :: y :: l => by rw [rowP, List.length_cons, rowP_len]; rfl
theorem rowP_get : ∀ (l : List Int) (c : Nat), c < l.length → ((rowP l).getD c pz).k = 2 ∧ ((rowP l).getD c pz).n = l.getD c 0
  | [], _, h => absurd h (Nat.not_lt_zero _)
  | [x], 0, _ => ⟨rfl, rfl⟩
  | [x], c + 1, h => absurd h (by simp)
  | x :: y :: l, 0, _ => ⟨rfl, rfl⟩
  | x :: y :: l, c + 1, h => by
    rw [rowP, List.getD_cons_succ, List.getD_cons_succ]
    exact rowP_get (y :: l) c (by simp at h ⊢; omega)
def itmP (i : Ins) (k : Nat) : List Pc := rowP [i.wt.getD k 0, i.vl.getD k 0]
def rwsP (i : Ins) (r : Nat) : List Pc := rowP (i.cost.getD r [])
theorem flat_len {f : Nat → List Pc} {L : Nat} : ∀ {R : Nat}, (∀ r, r < R → (f r).length = L) → ((List.range R).flatMap f).length = R * L
  | 0, _ => by simp
  | R + 1, h => by
    rw [List.range_succ, List.flatMap_append, List.length_append, flat_len (R := R) (fun r hr => h r (by omega)), Nat.add_mul, Nat.one_mul]
    simp [h R (by omega)]
theorem flat_get {f : Nat → List Pc} {L r c : Nat} (hc : c < L) : ∀ {R : Nat}, (∀ r, r < R → (f r).length = L) → r < R → ((List.range R).flatMap f).getD (r * L + c) pz = (f r).getD c pz
  | 0, _, h => absurd h (Nat.not_lt_zero _)
  | R + 1, h, hr => by
    have hl := flat_len (f := f) (L := L) (R := R) (fun r hr => h r (by omega))
    rw [List.range_succ, List.flatMap_append]
    have e1 : [R].flatMap f = f R := by simp
    rw [e1]
    simp only [List.getD_eq_getElem?_getD]
    rcases Nat.lt_succ_iff_lt_or_eq.1 hr with g | g
    · have h1 : r * L + c < R * L := by
        have : (r + 1) * L ≤ R * L := Nat.mul_le_mul_right L g
        rw [Nat.add_mul, Nat.one_mul] at this; omega
      rw [List.getElem?_append_left (by omega)]
      have := flat_get (f := f) hc (R := R) (fun r hr => h r (by omega)) g
      simpa only [List.getD_eq_getElem?_getD] using this
    · subst g
      rw [List.getElem?_append_right (by omega), hl, Nat.add_sub_cancel_left]
def hdP (i : Ins) : List Pc :=
  if i.kind = 1 then [wdP [75, 78, 65, 80, 83, 65, 67, 75] 32, nuP i.n 32, nuP i.cap 10]
  else if i.kind = 2 then [wdP [65, 83, 83, 73, 71, 78, 77, 69, 78, 84] 32, nuP i.n 10] else [wdP [84, 83, 80] 32, nuP i.n 32, wdP [70, 85, 76, 76] 10]
def pcs (i : Ins) : List Pc := hdP i ++ if i.kind = 1 then (List.range i.n.toNat).flatMap (itmP i) else (List.range i.n.toNat).flatMap (rwsP i)
theorem kb3 {b : List UInt8} (h : ∀ c ∈ b, kindI (c.toNat : Int) = 3) : ∀ j, j < b.length → kb (bs b) j = 3 := fun j hj => by
  rw [kb_in (by rw [bs_size]; exact hj), show bs b = ⟨b.toArray⟩ from rfl, byt_mk hj]; exact h _ (List.getElem_mem hj)
def j0I (i : Ins) : Nat := if i.kind = 3 then 3 else 2
def mI (i : Ins) : Nat := if i.kind = 1 then 1 + 2 * i.n.toNat else i.n.toNat * i.n.toNat
def vN (i : Ins) (q : Nat) : Int := if i.kind = 1 then (if q = 0 then i.cap else if q % 2 = 1 then i.wt.getD (q / 2) 0 else i.vl.getD (q / 2 - 1) 0) else (i.cost.getD (q / i.n.toNat) []).getD (q % i.n.toNat) 0
theorem getD_app1P {a b : List Pc} {j : Nat} (h : j < a.length) : (a ++ b).getD j pz = a.getD j pz := by simp [List.getD, List.getElem?_append_left h]
theorem getD_app2P {a b : List Pc} {j : Nat} : (a ++ b).getD (a.length + j) pz = b.getD j pz := by
  rw [List.getD_eq_getElem?_getD, List.getD_eq_getElem?_getD, List.getElem?_append_right (by omega), Nat.add_sub_cancel_left]
theorem pcs_num {i : Ins} (h : InF i) {q : Nat} (hq : q < mI i) : ((pcs i).getD (j0I i + q) pz).k = 2 ∧ ((pcs i).getD (j0I i + q) pz).n = vN i q := by
  have hk := h.kind
  have hc := h.cost
  have hn := h.n1
  unfold mI at hq
  by_cases h1 : i.kind = 1
  · rw [if_pos h1] at hq
    unfold pcs hdP j0I vN
    rw [if_pos h1, if_pos h1, if_neg (by omega), if_pos h1]
    by_cases h0 : q = 0
    · subst h0; exact ⟨rfl, rfl⟩
    · rw [if_neg h0]
      have e0 : 2 + q = [wdP [75, 78, 65, 80, 83, 65, 67, 75] 32, nuP i.n 32, nuP i.cap 10].length + (q - 1) := by show _ = 3 + (q - 1); omega
      rw [e0, getD_app2P]
      have hL : ∀ r, r < i.n.toNat → (itmP i r).length = 2 := fun r _ => by rw [itmP, rowP_len]; rfl
      by_cases h2 : q % 2 = 1
      · rw [if_pos h2, show q - 1 = (q / 2) * 2 + 0 by omega, flat_get (by decide) hL (by omega)]
        exact rowP_get _ 0 (by simp)
      · rw [if_neg h2, show q - 1 = (q / 2 - 1) * 2 + 1 by omega, flat_get (by decide) hL (by omega)]
        exact rowP_get _ 1 (by simp)
  · rw [if_neg h1] at hq hc
    have hn0 : 0 < i.n.toNat := by omega
    have hdm := Nat.div_add_mod' q i.n.toNat
    have hdl : q / i.n.toNat < i.n.toNat := Nat.div_lt_of_lt_mul hq
    have hml := Nat.mod_lt q hn0
    have hL : ∀ r, r < i.n.toNat → (rwsP i r).length = i.n.toNat := fun r hr => by rw [rwsP, rowP_len]; exact h.row r (by omega)
    have key : ∀ hd : List Pc, ((hd ++ (List.range i.n.toNat).flatMap (rwsP i)).getD (hd.length + q) pz).k = 2 ∧ ((hd ++ (List.range i.n.toNat).flatMap (rwsP i)).getD (hd.length + q) pz).n = vN i q := fun hd => by
      rw [getD_app2P]
      have e1 : ((List.range i.n.toNat).flatMap (rwsP i)).getD q pz = (rwsP i (q / i.n.toNat)).getD (q % i.n.toNat) pz := by
        have := flat_get (f := rwsP i) (r := q / i.n.toNat) hml hL hdl
        rwa [hdm] at this
      rw [e1]
      unfold vN; rw [if_neg h1]
      exact rowP_get _ _ (by rw [h.row _ (by omega)]; exact hml)
    unfold pcs hdP j0I
    rw [if_neg h1, if_neg h1]
    by_cases h2 : i.kind = 2
    · rw [if_pos h2, if_neg (by omega)]; exact key _
    · rw [if_neg h2, if_pos (by omega)]; exact key _
theorem vN_bd {i : Ins} (h : InF i) (q : Nat) : 0 ≤ vN i q ∧ vN i q ≤ 2147483647 := by
  unfold vN
  split
  · split
    · exact h.cap
    · split
      · exact h.wtr _
      · exact h.vlr _
  · exact h.cell _ _
def Hd (X : List Tok) (i : Ins) (m : Nat) : Prop := ∀ j, j < j0I i + m → (X.getD j tz).k = ((pcs i).getD j pz).k ∧ (X.getD j tz).x = ((pcs i).getD j pz).x ∧ (X.getD j tz).n = ((pcs i).getD j pz).n
theorem Hd.num {X : List Tok} {i : Ins} {m : Nat} (hH : Hd X i m) (h : InF i) (hm : m ≤ mI i) {q : Nat} (hq : q < m) : (X.getD (j0I i + q) tz).k = 2 ∧ (X.getD (j0I i + q) tz).n = vN i q := by
  obtain ⟨h1, -, h3⟩ := hH (j0I i + q) (by omega)
  obtain ⟨g1, g2⟩ := pcs_num h (q := q) (by omega)
  exact ⟨h1.trans g1, h3.trans g2⟩
theorem Hd.ok {X : List Tok} {i : Ins} {m : Nat} (hH : Hd X i m) (h : InF i) (hm : m ≤ mI i) {f : Nat → Bool} (hf : ∀ q, f q = true → q < mI i → vN i q = 0) : ∀ q, q < m → nuE (f q) (X.getD (j0I i + q) tz) = 0 := fun q hq => by
  obtain ⟨h1, h2⟩ := hH.num h hm hq
  have hb := vN_bd h q
  obtain ⟨g1, g2⟩ := numR_ok (t := X.getD (j0I i + q) tz) (m := 2147483647) (by omega) (by omega) (by omega)
  exact nuE_ok g1 (fun g => g.2 (by rw [g2, h2]; exact hf q g.1 (by omega)))
theorem Hd.head {X : List Tok} {i : Ins} {m : Nat} (hH : Hd X i m) (hj : j0I i ≤ j0I i + m) : (X.getD 0 tz).k = 1 ∧ (X.getD 1 tz).k = 2 ∧ (X.getD 1 tz).n = i.n ∧ (i.kind = 1 → (X.getD 0 tz).x = wKN) ∧ (i.kind = 2 → (X.getD 0 tz).x = wAS) ∧ (¬ i.kind = 1 → ¬ i.kind = 2 → (X.getD 0 tz).x = wTS) ∧ (i.kind = 3 → (X.getD 2 tz).k = 1 ∧ (X.getD 2 tz).x = wFU) := by
  have hj2 : 2 ≤ j0I i := by unfold j0I; split <;> omega
  obtain ⟨a1, a2, a3⟩ := hH 0 (by omega)
  obtain ⟨b1, b2, b3⟩ := hH 1 (by omega)
  rw [a1, a2, b1, b3]
  unfold pcs hdP
  by_cases h1 : i.kind = 1
  · rw [if_pos h1]; exact ⟨rfl, rfl, rfl, fun _ => rfl, fun h => absurd h (by omega), fun h => absurd h1 h, fun h => absurd h (by omega)⟩
  · rw [if_neg h1]
    by_cases h2 : i.kind = 2
    · rw [if_pos h2]; exact ⟨rfl, rfl, rfl, fun h => absurd h h1, fun _ => rfl, fun _ h => absurd h2 h, fun h => absurd h (by omega)⟩
    · rw [if_neg h2]
      refine ⟨rfl, rfl, rfl, fun h => absurd h h1, fun h => absurd h h2, fun _ _ => rfl, fun h3 => ?_⟩
      obtain ⟨c1, c2, -⟩ := hH 2 (by unfold j0I; rw [if_pos h3]; omega)
      rw [c1, c2]
      unfold pcs hdP
      rw [if_neg h1, if_neg h2]
      exact ⟨rfl, rfl⟩
theorem list_ext0 {l : List Int} {n : Nat} {g : Nat → Int} (hl : l.length = n) (h : ∀ k, k < n → g k = l.getD k 0) : (List.range n).map g = l := by
  refine List.ext_getElem (by simp [hl]) (fun k h1 h2 => ?_)
  simp only [List.getElem_map, List.getElem_range]
  rw [h k (by omega)]; simp [List.getD, h2]
theorem mat_ext {R : List (List Int)} {n : Nat} {g : Nat → Nat → Int} (hl : R.length = n) (hr : ∀ r, r < n → (R.getD r []).length = n) (h : ∀ r c, r < n → c < n → g r c = (R.getD r []).getD c 0) : mat n g = R := by
  refine List.ext_getElem (by simp [mat, hl]) (fun r h1 h2 => ?_)
  have e : R.getD r [] = R[r] := by simp [List.getD, h2]
  have hr' : r < n := by omega
  simp only [mat, List.getElem_map, List.getElem_range]
  rw [← e]
  exact list_ext0 (hr r hr') (fun c hc => h r c hr' hc)
theorem prs_of {s : ByteArray} {X : List Tok} (hs : scan s = (X, 0, 0)) : ((pbR X).1 = 0 → prs s = (pbI X, 0, 0)) ∧ ((pbR X).1 ≠ 0 → prs s = (insZ, (X.getD (pbR X).2 tz).a, (pbR X).1)) :=
  ⟨fun h => by rw [prs_ok (by rw [hs]) (by rw [hs]; exact h), hs], fun h => by rw [prs_bad (by rw [hs]) (by rw [hs]; exact h), hs]⟩
end Go.Proofs.YtakfcekfmdjklaaDoor
namespace Go.Proofs.YtakfcekfmdjklaaDoor
theorem numE_ok {x : Int} (h : 0 ≤ x ∧ x ≤ 2147483647) : numE x = 0 := by unfold numE; rw [if_neg (by omega), if_neg (by omega)]
theorem nu_rng {X : List Tok} (hX : Toks X) {f : Nat → Bool} {j m : Nat} (h : (nuR f X j m).1 = 0) : ∀ q, q < m → 0 ≤ vl X j q ∧ vl X j q ≤ 2147483647 ∧ (f q = true → vl X j q = 0) := fun q hq => by
  have h1 := nuE_zero ((nuR_zero h).1 q hq)
  obtain ⟨h2, -, -, h3⟩ := numN_eq h1.1
  exact ⟨hX.num _, h3, fun hf => by have := h1.2 hf; rw [h2] at this; exact this⟩
theorem mat_cell {n r c : Nat} {g : Nat → Nat → Int} (hr : r < n) (hc : c < n) : ((mat n g).getD r []).getD c 0 = g r c := by
  rw [mat_row hr]; simp [List.getD, hc]
theorem form_mat {kd : Int} {n : Nat} {g : Nat → Nat → Int} (hk : kd = 2 ∨ kd = 3) (h1 : 1 ≤ n) (h24 : n ≤ 24) (hg : ∀ r c, r < n → c < n → 0 ≤ g r c ∧ g r c ≤ 2147483647) (hd : kd = 3 → ∀ r, r < n → g r r = 0) :
    sizeE ⟨kd, n, 0, [], [], mat n g⟩ = 0 ∧ shapeOK ⟨kd, n, 0, [], [], mat n g⟩ ∧ numsE ⟨kd, n, 0, [], [], mat n g⟩ = 0 := by
  refine ⟨?_, .inr ⟨by show kd ≠ 1; omega, by show ((mat n g).length : Int) = n; rw [mat_len], rfl, rfl, rfl, fun r hr => ?_⟩, ?_⟩
  · unfold sizeE; rw [if_neg (by simp only; omega), if_neg (by simp only; omega), if_neg (by simp only; omega)]
  · have hr' : r < n := by have : r < (mat n g).length := hr; rwa [mat_len] at this
    show (((mat n g).getD r []).length : Int) = n
    rw [mat_row hr']; simp
  · unfold numsE
    rw [if_neg (by show ¬ kd = 1; omega)]
    show pfx _ ((n : Int)).toNat = 0
    rw [Int.toNat_natCast]
    refine pfx_all n (fun r hr => pfx_all n (fun c hc => ?_))
    unfold cellF
    have e : (((⟨kd, (n : Int), 0, [], [], mat n g⟩ : Ins).cost).getD r []).getD c 0 = g r c := mat_cell hr hc
    rw [e, numE_ok (hg r c hr hc), if_neg (by simp), if_neg (fun q => ?_)]
    obtain ⟨⟨q1, q2⟩, q3⟩ := q
    subst q2
    exact q3 (hd q1 r hr)
theorem pb_form {X : List Tok} (hX : Toks X) (h : (pbR X).1 = 0) : sizeE (pbI X) = 0 ∧ shapeOK (pbI X) ∧ numsE (pbI X) = 0 := by
 by_cases hw : (wordR (X.getD 0 tz) W3).2 = 0
 ·
  have hrg := wordR_rng _ _ hw
  rw [show (W3 : List ByteArray).length = 3 from rfl] at hrg
  obtain ⟨kd, hkd⟩ : ∃ kd, (wordR (X.getD 0 tz) W3).1 + 1 = kd := ⟨_, rfl⟩
  rw [pbR_in hw hkd] at h
  have hb : (bodR X kd 1).1 = 0 := by
   by_cases q : (bodR X kd 1).1 = 0
   · exact q
   · rw [finR_err q] at h; exact absurd h q
  by_cases k1 : kd = 1
  ·
   subst k1
   rw [bodR_it] at hb
   by_cases hc : cntR (X.getD 1 tz) 64 = 0
   ·
    obtain ⟨n, hn, hcn, h1, h64, -⟩ := hX.ct hc
    rw [itR_num hc hcn] at hb
    have hr := nu_rng hX hb
    rw [← pbI_it hkd hcn]
    refine ⟨?_, .inl ⟨rfl, by show ((itI X 3 n).length : Int) = n; rw [itI_len], by show ((itI X 4 n).length : Int) = n; rw [itI_len], rfl⟩, ?_⟩
    · unfold sizeE; rw [if_neg (by simp only; omega), if_neg (by simp only; omega), if_neg (by simp only; omega)]
    ·
     unfold numsE
     rw [if_pos rfl]
     have hcap := hr 0 (by omega)
     have e0 : numE (X.getD 2 tz).n = 0 := numE_ok ⟨hcap.1, hcap.2.1⟩
     show (if numE (X.getD 2 tz).n ≠ 0 then numE (X.getD 2 tz).n else pfx _ ((n : Int)).toNat) = 0
     rw [if_neg (not_not_intro e0), Int.toNat_natCast]
     refine pfx_all n (fun k hk => ?_)
     have g : ∀ j, k < n → (itI X j n).getD k 0 = vl X j (2 * k) := fun j hk => by simp [itI, List.getD, hk]
     unfold itF
     show (if numE ((itI X 3 n).getD k 0) ≠ 0 then numE ((itI X 3 n).getD k 0) else numE ((itI X 4 n).getD k 0)) = 0
     rw [g 3 hk, g 4 hk]
     have r1 := hr (1 + 2 * k) (by omega)
     have r2 := hr (2 + 2 * k) (by omega)
     have v1 : vl X 3 (2 * k) = vl X (1 + 1) (1 + 2 * k) := by unfold vl; congr 2; omega
     have v2 : vl X 4 (2 * k) = vl X (1 + 1) (2 + 2 * k) := by unfold vl; congr 2; omega
     rw [v1, v2, numE_ok ⟨r1.1, r1.2.1⟩, numE_ok ⟨r2.1, r2.2.1⟩]; rfl
   · rw [itR_cnt hc] at hb; exact absurd hb hc
  ·
   by_cases k3 : kd = 3
   ·
    subst k3
    rw [bodR_to] at hb
    by_cases hc : cntR (X.getD 1 tz) 24 = 0
    ·
     obtain ⟨n, hn, hcn, h1, h24, -⟩ := hX.ct hc
     by_cases hw2 : (wordR (X.getD 2 tz) W2).2 = 0
     ·
      by_cases hl : (wordR (X.getD 2 tz) W2).1 = 0
      ·
       rw [toR_full hc hcn hw2 hl] at hb
       have hr := nu_rng hX hb
       rw [← pbI_full (R := mat n (rwI X 3 n)) hkd hcn (by rw [if_pos hl])]
       refine form_mat (.inr rfl) h1 (by omega) (fun r c hr' hc' => ?_) (fun _ r hr' => ?_)
       · have := hr (r * n + c) (idx_lt hr' hc'); exact ⟨this.1, this.2.1⟩
       · exact (hr (r * n + r) (idx_lt hr' hr')).2.2 (decide_eq_true ⟨rfl, (dg_iff hr' hr').2 rfl⟩)
      ·
       rw [toR_half hc hcn hw2 hl] at hb
       have hr := nu_rng hX hb
       rw [← pbI_full (R := mat n (hfI X 3 n)) hkd hcn (by rw [if_neg hl])]
       refine form_mat (.inr rfl) h1 (by omega) (fun r c hr' hc' => ?_) (fun _ r _ => hfI_diag X 3 n r)
       rcases Nat.lt_trichotomy r c with g | g | g
       ·
        unfold hfI; rw [if_neg (by omega)]
        have := hr (hxI n r c) (hxI_hlf g hc'); exact ⟨this.1, this.2.1⟩
       · subst g; rw [hfI_diag]; decide
       ·
        rw [hfI_sym]; unfold hfI; rw [if_neg (by omega)]
        have := hr (hxI n c r) (hxI_hlf g hr'); exact ⟨this.1, this.2.1⟩
     · rw [toR_word hc hw2] at hb; exact absurd hb hw2
    · rw [toR_cnt hc] at hb; exact absurd hb hc
   ·
    have k2 : kd = 2 := by omega
    rw [bodR_as k1 k3] at hb
    by_cases hc : cntR (X.getD 1 tz) 24 = 0
    ·
     obtain ⟨n, hn, hcn, h1, h24, -⟩ := hX.ct hc
     rw [asR_num hc hcn] at hb
     have hr := nu_rng hX hb
     rw [← pbI_as hkd k2 hcn (R := mat n (rwI X 2 n)) rfl]
     refine form_mat (.inl k2) h1 (by omega) (fun r c hr' hc' => ?_) (fun h3 => absurd h3 k3)
     have := hr (r * n + c) (idx_lt hr' hc'); exact ⟨this.1, this.2.1⟩
    · rw [asR_cnt hc] at hb; exact absurd hb hc
 · rw [pbR_word hw] at h; exact absurd h hw
end Go.Proofs.YtakfcekfmdjklaaDoor
namespace Go.Proofs.YtakfcekfmdjklaaDoor
def cel (i : Ins) (r c : Nat) : Int := (i.cost.getD r []).getD c 0
def upRow (i : Ins) (r c : Nat) : List Pc := (List.range (c - r - 1)).map fun d => nuP (cel i r (r + 1 + d)) 32
def upP (i : Ins) (n : Nat) : Nat → List Pc
  | 0 => []
  | a + 1 => upP i n a ++ upRow i a n
theorem upRow_len (i : Ins) (r c : Nat) : (upRow i r c).length = c - r - 1 := by simp [upRow]
theorem upP_len (i : Ins) (n : Nat) : ∀ a, (upP i n a).length = offH n a
  | 0 => rfl
  | a + 1 => by rw [upP, List.length_append, upP_len, upRow_len]; show _ = offH n a + (n - 1 - a); omega
theorem upRow_next {i : Ins} {r c : Nat} (h : r < c) : upRow i r (c + 1) = upRow i r c ++ [nuP (cel i r c) 32] := by
  unfold upRow
  rw [show c + 1 - r - 1 = (c - r - 1) + 1 by omega, List.range_succ, List.map_append]
  simp only [List.map_cons, List.map_nil]
  rw [show r + 1 + (c - r - 1) = c by omega]
theorem upP_get {i : Ins} {n r c : Nat} (hrc : r < c) (hc : c < n) : ∀ a, r < a → a ≤ n → (upP i n a).getD (hxI n r c) pz = nuP (cel i r c) 32
  | 0, h, _ => absurd h (Nat.not_lt_zero _)
  | a + 1, h, ha => by
    have hl := upP_len i n a
    rw [upP]
    rcases Nat.lt_succ_iff_lt_or_eq.1 h with g | g
    · have h1 : hxI n r c < offH n a := by
        rw [hxI_lt hrc hc]
        have := offH_mono n (show r + 1 ≤ a from g)
        have e : offH n (r + 1) = offH n r + (n - 1 - r) := rfl
        omega
      rw [getD_app1P (by omega)]; exact upP_get hrc hc a g (by omega)
    · subst g
      rw [hxI_lt hrc hc, ← hl, getD_app2P]
      unfold upRow
      rw [List.getD_eq_getElem?_getD, List.getElem?_map, List.getElem?_range (by omega)]
      show nuP (cel i r (r + 1 + (c - r - 1))) 32 = _
      rw [show r + 1 + (c - r - 1) = c by omega]
def upH (n : Int) : List Pc := [wdP [84, 83, 80] 32, nuP n 32, wdP [85, 80, 80, 69, 82] 32]
def upT (i : Ins) (n a b : Nat) : List UInt8 := txt (upH n ++ (upP i n a ++ upRow i a b))
theorem upT_zero (i : Ins) (n : Nat) : upT i n 0 1 = [84, 83, 80, 32] ++ Lib.itoa n ++ [32, 85, 80, 80, 69, 82] ++ [32] := by
  unfold upT upH; simp [txt, upP, upRow, wdP, nuP]
theorem upT_step {i : Ins} {n a b : Nat} (h : a < b) : upT i n a (b + 1) = (upT i n a b ++ Lib.itoa (cel i a b)) ++ [32] := by
  unfold upT
  rw [upRow_next h, ← List.append_assoc, ← List.append_assoc, txt_app]
  simp [txt, nuP]
theorem upT_row {i : Ins} {n a : Nat} : upT i n a n = upT i n (a + 1) (a + 2) := by
  unfold upT
  rw [upP]
  have e : upRow i (a + 1) (a + 2) = [] := by simp [upRow]
  rw [e, List.append_nil]
def mirM (i : Ins) (n : Nat) : List (List Int) := mat n fun r c => if r = c then 0 else if r < c then cel i r c else cel i c r
theorem prs_up {X : List Tok} {i : Ins} {n : Nat} {e : Int} (h : InF i) (h3 : i.kind = 3) (hn : i.n = n) (hR : Rds X (upH n ++ upP i n n) e) : (pbR X).1 = 0 ∧ pbI X = ⟨3, n, 0, [], [], mirM i n⟩ := by
 have hn1 := h.n1
 have hn24 := h.n24 (by omega)
 have hl := upP_len i n n
 have hlen : (upH n ++ upP i n n).length = 3 + hlf n := by rw [List.length_append, hl]; rfl
 obtain ⟨a1, a2, -⟩ := hR.at_ 0 (by omega)
 obtain ⟨b1, -, b3⟩ := hR.at_ 1 (by omega)
 obtain ⟨c1, c2, -⟩ := hR.at_ 2 (by omega)
 have a1' : (X.getD 0 tz).k = 1 := a1
 have b1' : (X.getD 1 tz).k = 2 := b1
 have b3' : (X.getD 1 tz).n = (n : Int) := b3
 have c1' : (X.getD 2 tz).k = 1 := c1
 have hw := w3_ts a1' a2
 have hw2 := w2_up c1' c2
 obtain ⟨q0, q1⟩ := cnt_0 (t := X.getD 1 tz) (m := 24) (by omega) (by omega) (by omega) (by omega)
 have hcn : ctN X 1 24 = n := by unfold ctN; rw [q1, b3']; rfl
 have val : ∀ r c, r < c → c < n → (X.getD (3 + hxI n r c) tz).k = 2 ∧ (X.getD (3 + hxI n r c) tz).n = cel i r c := fun r c hrc hc => by
  have hx := hxI_hlf hrc hc
  obtain ⟨d1, -, d3⟩ := hR.at_ (3 + hxI n r c) (by omega)
  have e3 : (upH n ++ upP i n n).getD (3 + hxI n r c) pz = nuP (cel i r c) 32 := by
   have : (upH n).length = 3 := rfl
   rw [← this, getD_app2P]; exact upP_get hrc hc n (by omega) (Nat.le_refl _)
  rw [e3] at d1 d3
  exact ⟨d1, d3⟩
 have dec : ∀ q, q < hlf n → ∃ r c, r < c ∧ c < n ∧ hxI n r c = q := fun q hq => by
  have key : ∀ a, a ≤ n → q < offH n a → ∃ r c, r < c ∧ c < n ∧ hxI n r c = q := by
   intro a
   induction a with
   | zero => intro _ h; exact absurd h (Nat.not_lt_zero _)
   | succ a ih =>
    intro ha hq
    rcases Nat.lt_or_ge q (offH n a) with g | g
    · exact ih (by omega) g
    ·
     have e : offH n (a + 1) = offH n a + (n - 1 - a) := rfl
     refine ⟨a, a + 1 + (q - offH n a), by omega, by omega, ?_⟩
     rw [hxI_lt (by omega) (by omega)]; omega
  exact key n (Nat.le_refl _) hq
 have hall : ∀ q, q < hlf n → nuE (ff q) (X.getD (3 + q) tz) = 0 := fun q hq => by
  obtain ⟨r, c, hrc, hc, rfl⟩ := dec q hq
  obtain ⟨v1, v2⟩ := val r c hrc hc
  have hb := h.cell r c
  have hv : cel i r c = (i.cost.getD r []).getD c 0 := rfl
  exact nuE_ok (numR_ok (by omega) (by omega) (by omega)).1 (fun g => by cases g.1)
 have hp := pb_e hw rfl (bod3u q0 hcn hw2 rfl (nuR_ok hall))
 have hend := hR.end_.1
 rw [hlen] at hend
 refine ⟨by rw [hp]; exact if_neg (not_not_intro hend), ?_⟩
 refine (pb_half hw hw2 hcn (mat_congr fun r c hr hc => ?_)).symm
 unfold hfI
 by_cases g : r = c
 · rw [if_pos g, if_pos g]
 ·
  rw [if_neg g, if_neg g]
  rcases Nat.lt_or_ge r c with l | l
  · rw [if_pos l]; exact (val r c l hc).2.symm
  · rw [if_neg (by omega), hxI_comm]; exact (val c r (by omega) hr).2.symm
theorem upP_gd {i : Ins} (h : InF i) (n : Nat) : ∀ a, ∀ p ∈ upP i n a, gd p
  | 0, p, hp => by cases hp
  | a + 1, p, hp => by
    rw [upP] at hp
    rcases List.mem_append.1 hp with hp | hp
    · exact upP_gd h n a p hp
    · unfold upRow at hp
      obtain ⟨d, -, rfl⟩ := List.mem_map.1 hp
      have := h.cell a (a + 1 + d)
      exact nu_gd (by unfold cel; omega) (by unfold cel; omega) b32
theorem upH_gd {n : Nat} (h : n ≤ 24) : ∀ p ∈ upH n, gd p := fun p hp => by
  have gTS : gd (wdP [84, 83, 80] 32) := wd_gd (kb3 (by decide)) (by decide) (by decide) b32
  have gUP : gd (wdP [85, 80, 80, 69, 82] 32) := wd_gd (kb3 (by decide)) (by decide) (by decide) b32
  unfold upH at hp
  simp only [List.mem_cons, List.not_mem_nil, or_false] at hp
  rcases hp with rfl | rfl | rfl
  · exact gTS
  · exact nu_gd (by omega) (by omega) b32
  · exact gUP
theorem nuP_len {x : Int} {s : UInt8} (h : bd64 x) : (nuP x s).b.length ≤ 21 := itoa_len' h
theorem txt_le {K : Nat} : ∀ (ps : List Pc), (∀ p ∈ ps, p.b.length ≤ K) → (txt ps).length ≤ (K + 1) * ps.length
  | [], _ => by simp [txt]
  | p :: ps, h => by
    have h1 := h p (.head _)
    have h2 := txt_le ps (fun q hq => h q (.tail _ hq))
    rw [txt_cons]
    simp only [List.length_append, List.length_cons, List.length_nil, Nat.mul_add, Nat.mul_one]; omega
theorem upT_len {i : Ins} (h : InF i) {n a b : Nat} (hn : n ≤ 24) (_ha : a ≤ n) (_hb : b ≤ n + 2) : (upT i n a b).length ≤ 22 * (3 + (offH n a + (b - a - 1))) := by
  unfold upT
  have := txt_le (K := 21) (upH n ++ (upP i n a ++ upRow i a b)) (fun p hp => by
    rcases List.mem_append.1 hp with hp | hp
    · unfold upH at hp
      simp only [List.mem_cons, List.not_mem_nil, or_false] at hp
      rcases hp with rfl | rfl | rfl
      · show 3 ≤ 21; decide
      · exact nuP_len (by unfold bd64; omega)
      · show 5 ≤ 21; decide
    · have num : ∀ r c s, (nuP (cel i r c) s).b.length ≤ 21 := fun r c s => nuP_len (by have := h.cell r c; unfold bd64 cel; omega)
      rcases List.mem_append.1 hp with hp | hp
      · have : ∀ a, ∀ p ∈ upP i n a, p.b.length ≤ 21 := by
          intro a
          induction a with
          | zero => intro p hp; cases hp
          | succ a ih =>
            intro p hp
            rw [upP] at hp
            rcases List.mem_append.1 hp with hp | hp
            · exact ih p hp
            · unfold upRow at hp; obtain ⟨d, -, rfl⟩ := List.mem_map.1 hp; exact num _ _ _
        exact this a p hp
      · unfold upRow at hp; obtain ⟨d, -, rfl⟩ := List.mem_map.1 hp; exact num _ _ _)
  rw [List.length_append, List.length_append, upP_len, upRow_len] at this
  exact this
theorem up_text {i : Ins} {n : Nat} {s : List UInt8} (h : InF i) (h3 : i.kind = 3) (hn : i.n = n) (hs : s ++ [32] = upT i n n (n + 1)) : prs (bs s) = (⟨3, n, 0, [], [], mirM i n⟩, 0, 0) := by
  have hn1 := h.n1
  have hn24 := h.n24 (by omega)
  have hT : upT i n n (n + 1) = txt (upH n ++ upP i n n) := by
    unfold upT; rw [show upRow i n (n + 1) = [] by simp [upRow], List.append_nil]
  have hlen := upT_len h (n := n) (a := n) (b := n + 1) (by omega) (Nat.le_refl _) (by omega)
  have hhl := hlf_le n (by omega)
  unfold hlf at hhl
  have hne : upH n ++ upP i n n ≠ [] := by unfold upH; simp
  obtain ⟨ps, q, hpq⟩ : ∃ ps q, upH n ++ upP i n n = ps ++ [q] := ⟨_, _, (List.dropLast_concat_getLast hne).symm⟩
  have hg : ∀ p ∈ upH n ++ upP i n n, gd p := fun p hp => by
    rcases List.mem_append.1 hp with hp | hp
    · exact upH_gd (by omega) p hp
    · exact upP_gd h n n p hp
  rw [hT, hpq, txt_app] at hs
  have hsq : q.s = 32 ∧ s = txt ps ++ q.b := by
    have e : s ++ [32] = (txt ps ++ q.b) ++ [q.s] := by rw [hs]; simp [txt]
    have := List.append_inj' e rfl
    exact ⟨by have := this.2; simp at this; exact this.symm, this.1⟩
  obtain ⟨-, rfl⟩ := hsq
  have hl : (txt ps ++ q.b).length ≤ 65536 := by
    rw [hT, hpq, txt_app] at hlen
    simp only [List.length_append, txt_cons] at hlen ⊢
    omega
  rw [hpq] at hg
  have hsc := txt_scanL (fun p hp => hg p (List.mem_append_left _ hp)) (hg q (List.mem_append_right _ (.head _))) hl
  have hR := rds_of (ps ++ [q]) ((txt ps ++ q.b).length : Nat)
  rw [← hpq] at hsc hR
  obtain ⟨h1, h2⟩ := prs_up h h3 hn hR
  rw [(prs_of hsc).1 h1, h2]
end Go.Proofs.YtakfcekfmdjklaaDoor
namespace Go.Proofs.YtakfcekfmdjklaaDoor
open Go.RowKit
theorem chk_of {i : Ins} (h : sizeE i = 0 ∧ shapeOK i ∧ numsE i = 0) : chk i = 0 := by unfold chk; rw [if_neg (not_not_intro h.1), if_pos h.2.1, h.2.2]
theorem prs_form {s : ByteArray} {G : Ins} {p : Int} (h : prs s = (G, p, 0)) : chk G = 0 ∧ p = 0 := by
  by_cases h1 : (scan s).2.2 = 0
  · by_cases h2 : (pbR (scan s).1).1 = 0
    · rw [prs_ok h1 h2] at h
      simp only [Prod.mk.injEq, and_true] at h
      rw [← h.1]
      exact ⟨chk_of (pb_form (scan_toks h1 (scan_len s)) h2), h.2.symm⟩
    · rw [prs_bad h1 h2] at h
      simp only [Prod.mk.injEq] at h
      exact absurd h.2.2 h2
  · rw [prs_scan h1] at h
    simp only [Prod.mk.injEq] at h
    exact absurd h.2.2 h1
theorem inF_len {i : Ins} (h : InF i) : i.wt.length ≤ 64 ∧ i.vl.length ≤ 64 ∧ i.cost.length ≤ 64 := by
  have h1 := h.wt
  have h2 := h.vl
  have h3 := h.cost
  have h4 := h.n64
  refine ⟨?_, ?_, ?_⟩
  · rw [h1]; split <;> omega
  · rw [h2]; split <;> omega
  · rw [h3]; split <;> omega
end Go.Proofs.YtakfcekfmdjklaaDoor
namespace Go.Proofs.YtakfcekfmdjklaaDoor
open Go.RowKit
def gU (i : Ins) (z b : Nat) : Nat → Nat → Int := fun r c => if c < r ∧ (c < z ∨ c = z ∧ r < b) then cel i c r else cel i r c
theorem gU_zero {i : Ins} {n b : Nat} (hl : i.cost.length = n) (hr : ∀ r, r < n → (i.cost.getD r []).length = n) (hb : b ≤ 1) : i.cost = mat n (gU i 0 b) := by
  refine (mat_ext hl hr (fun r c hr' hc' => ?_)).symm
  unfold gU; rw [if_neg (by omega)]; rfl
theorem gU_step {i : Ins} {n z b : Nat} (hzb : z < b) : mat n (fun r c => if r = b ∧ c = z then cel i z b else gU i z b r c) = mat n (gU i z (b + 1)) := mat_congr fun r c hr hc => by
  unfold gU
  by_cases h : r = b ∧ c = z
  · rw [if_pos h, if_pos (by omega), h.1, h.2]
  · rw [if_neg h]
    by_cases g : c < r ∧ (c < z ∨ c = z ∧ r < b)
    · rw [if_pos g, if_pos (by omega)]
    · rw [if_neg g, if_neg (by omega)]
theorem gU_row {i : Ins} {n z : Nat} : mat n (gU i z n) = mat n (gU i (z + 1) (z + 2)) := mat_congr fun r c hr hc => by
  unfold gU
  by_cases g : c < r ∧ (c < z ∨ c = z ∧ r < n)
  · rw [if_pos g, if_pos (by omega)]
  · rw [if_neg g, if_neg (by omega)]
theorem gU_all {i : Ins} {n : Nat} (hd : ∀ r, cel i r r = 0) : mat n (gU i n (n + 1)) = mirM i n := mat_congr fun r c hr hc => by
  unfold gU
  by_cases g : r = c
  · subst g; rw [if_neg (by omega), if_pos rfl, hd]
  · rw [if_neg g]
    by_cases l : r < c
    · rw [if_pos l, if_neg (by omega)]
    · rw [if_neg l, if_pos (by omega)]
theorem gU_at {i : Ins} {z b : Nat} (h : z < b) : gU i z b z b = cel i z b := by unfold gU; rw [if_neg (by omega)]
def upI (i : Ins) (n : Nat) : Ins := ⟨3, n, 0, [], [], mirM i n⟩
theorem mir_up {i : Ins} {n : Nat} {T : Ins} (hT : upI i n = T) (hz : chk T = 0) : mirP T := by
  subst hT
  refine ⟨⟨rfl, hz⟩, fun x y hx hy => ?_⟩
  have hx' : x < n := by have : x < ((n : Int)).toNat := hx; omega
  have hy' : y < n := by have : y < ((n : Int)).toNat := hy; omega
  show ((mirM i n).getD x []).getD y 0 = ((mirM i n).getD y []).getD x 0
  unfold mirM
  rw [mat_cell hx' hy', mat_cell hy' hx']
  by_cases g : x = y
  · subst g; rfl
  · rw [if_neg g, if_neg (show ¬ y = x from fun h => g h.symm)]
    by_cases l : x < y
    · rw [if_pos l, if_neg (by omega)]
    · rw [if_neg l, if_pos (by omega)]
theorem closeSame6 {w0 w : World} {F : Nat → Prop} {L : List Ck} {α : Type} {f : α → Ck} {xs : List α} {x : α} {j : Nat} (h : Mem w0 F (f x :: bundle ((xs.eraseIdx j).map f) :: L) w) (hx : xs[j]? = some x) : Mem w0 F (bundle (xs.map f) :: L) w := by
  have h1 := h.closeB hx
  obtain ⟨hj, rfl⟩ := List.getElem?_eq_some_iff.1 hx
  rwa [List.set_getElem_self] at h1
set_option maxRecDepth 100000 in
set_option maxHeartbeats 400000 in
theorem parseUppers_w (i : Ins) (ax3 : Option Addr) (cx3 : Nat) (ax4 : Option Addr) (cx4 : Nat) (ax5 : Option Addr) (cx5 : Nat) (w : World) (hx3 : IntSl w (.slice ax3 i.wt.length cx3) i.wt) (hx4 : IntSl w (.slice ax4 i.vl.length cx4) i.vl) (hx5 : RowsV w (.slice ax5 i.cost.length cx5) i.cost) (hut : U8T w) :
  Calls Tryd.prog 10 #[.agg #[.int .i64 i.kind, .int .i64 i.n, .int .i64 i.cap, .slice ax3 i.wt.length cx3, .slice ax4 i.vl.length cx4, .slice ax5 i.cost.length cx5]] w fun e w' => e = .returned (.bool true) ∧ Below w.heap.size w w' := by
 have hbs := Below.refl (B := w.heap.size) w
 have hM := Mem.start w
 refine Calls.of_ends (vs := [.agg #[.int .i64 i.kind, .int .i64 i.n, .int .i64 i.cap, .slice ax3 i.wt.length cx3, .slice ax4 i.vl.length cx4, .slice ax5 i.cost.length cx5]]) Tryd.func10 rfl Tryd.ntmps10 rfl ?_
 intro a hA
 replace hA : St 87 [(0, _)] a := hA
 refine Ends.seq (Ends.region ?_)
 refine S.box hA hM rfl rfl ?_; clear hA hM a; intro b1 w1 hb2 hM a hA
 replace hM : Mem _ _ [pt b1 #[.int .i64 i.kind, .int .i64 i.n, .int .i64 i.cap, .slice ax3 i.wt.length cx3, .slice ax4 i.vl.length cx4, .slice ax5 i.cost.length cx5] 25] _ := hM
 refine S.val hA (R.assign rfl) rfl ?_; clear hA a; intro a hA
 refine S.done ?_
 refine Ends.seq (Ends.region ?_)
 refine S.val hA (R.loadA sz25 rfl (hM.range (k := 0) rfl) rfl) rfl ?_; clear hA a; intro a hA
 obtain ⟨Gy, hGy⟩ : ∃ Gy, Gy = cutI i := ⟨_, rfl⟩
 have hsmy : smallI Gy := by rw [hGy]; exact cutI_small _
 have hscy := cutI_of_small hsmy
 have hsy1 := hsmy.1
 have hsy2 := hsmy.2.1
 have hsy3 := hsmy.2.2.1
 refine S.call hA (R.callF Tryd.func16 rfl rfl rfl) rfl (copyG i ax3 cx3 ax4 cx4 ax5 cx5 Gy hGy _ (hx3.mem hM) (hx4.mem hM) (hx5.mem hM)) ?_; clear hA a
 rintro e w2 ⟨ay3, cy3, ay4, cy4, ay5, cy5, rsy, rfl, hYy, hn⟩
 replace hM : Mem _ _ [bundle (insL 3 22 Gy ay3 cy3 ay4 cy4 ay5 cy5 rsy), pt b1 #[.int .i64 i.kind, .int .i64 i.n, .int .i64 i.cap, .slice ax3 i.wt.length cx3, .slice ax4 i.vl.length cx4, .slice ax5 i.cost.length cx5] 25] _ := hM.call hn; clear hn
 refine ⟨.agg #[.int .i64 Gy.kind, .int .i64 Gy.n, .int .i64 Gy.cap, .slice ay3 Gy.wt.length cy3, .slice ay4 Gy.vl.length cy4, .slice ay5 rsy.length cy5], rfl, fun a hA => ?_⟩
 refine S.storeA (k := 1) hA hM sz25 rfl rfl rfl rfl rfl rfl ?_; clear hM
 intro w3 hM
 replace hM : Mem _ _ [bundle (insL 3 22 Gy ay3 cy3 ay4 cy4 ay5 cy5 rsy), pt b1 #[.int .i64 Gy.kind, .int .i64 Gy.n, .int .i64 Gy.cap, .slice ay3 Gy.wt.length cy3, .slice ay4 Gy.vl.length cy4, .slice ay5 rsy.length cy5] 25] _ := hM
 refine S.done ?_
 replace hA : St 87 [(1, _)] a := hA.sub ((.cons rfl .nil))
 refine Ends.seq (Ends.seq ?_)
 have hlcy : rsy.length = Gy.cost.length := by rw [← hYy, List.length_map]
 rw [hlcy] at hM
 replace hM : Mem _ _ [bundle (insL 3 22 Gy ay3 cy3 ay4 cy4 ay5 cy5 rsy), pt b1 #[.int .i64 Gy.kind, .int .i64 Gy.n, .int .i64 Gy.cap, .slice ay3 Gy.wt.length cy3, .slice ay4 Gy.vl.length cy4, .slice ay5 Gy.cost.length cy5] 25] _ := hM
 refine Ends.cut (fun (a : Act) (wv : World) => St 87 [(1, .pointer (some ⟨b1, 0, none⟩)), (22, .bool (decide (((chk Gy) ≠ 0 ∨ Gy.kind ≠ 3))))] a ∧ Mem w nof [bundle (insL 3 22 Gy ay3 cy3 ay4 cy4 ay5 cy5 rsy), pt b1 #[.int .i64 Gy.kind, .int .i64 Gy.n, .int .i64 Gy.cap, .slice ay3 Gy.wt.length cy3, .slice ay4 Gy.vl.length cy4, .slice ay5 Gy.cost.length cy5] 25] wv) ?_ (fun k2 hJ => ?_)
 ·
  clear hA hM a; rintro a w4 ⟨hA, hM⟩
  refine Ends.ite hA rfl (fun hc3 => ?_) (fun hc3 => ?_)
  ·
   refine Ends.seq (Ends.region ?_)
   refine S.call hA (R.callF Tryd.func27 rfl rfl rfl) rfl (parses_any _ (U8T.below hut (Mem.trans0 hbs hM.nilL))) ?_; clear hA a
   rintro e w5 ⟨rfl, hb⟩
   replace hM := hM.callB hb; clear hb
   refine ⟨.bool true, rfl, fun a hA => ?_⟩
   refine S.val hA (R.assign rfl) rfl ?_; clear hA a; intro a hA
   refine S.done ?_
   refine Ends.ret1 Tryd.func10 Tryd.results10 hA rfl ?_
   exact ⟨rfl, Mem.trans0 hbs hM.nilL⟩
  ·
   have hz : chk Gy = 0 := Classical.byContradiction fun h9 => hc3 (.inl h9)
   have hk3 : Gy.kind = 3 := Classical.byContradiction fun h9 => hc3 (.inr h9)
   have hF := chk_inF hz
   have hn1 := hF.n1
   have hn24 := hF.n24 (by omega)
   have f7 := hF.cost
   have hrw := hF.row
   have fw := hF.wt
   have fv := hF.vl
   have fc := hF.cap0 (by omega)
   rw [if_neg (by omega)] at f7 fw fv
   obtain ⟨n, hn⟩ : ∃ n : Nat, Gy.n = (n : Int) := ⟨Gy.n.toNat, by omega⟩
   have hnt : Gy.n.toNat = n := by omega
   rw [hnt] at f7 hrw
   rw [hn] at hM
   replace hM : Mem _ _ [bundle (insL 3 22 Gy ay3 cy3 ay4 cy4 ay5 cy5 rsy), pt b1 #[.int .i64 Gy.kind, .int .i64 ((n : Int)), .int .i64 Gy.cap, .slice ay3 Gy.wt.length cy3, .slice ay4 Gy.vl.length cy4, .slice ay5 Gy.cost.length cy5] 25] _ := hM
   refine Ends.skip (Ends.seq (Ends.region ?_))
   refine S.val hA (R.fieldAddr (q := 1) fi25_1 rfl rfl rfl) rfl ?_; clear hA a; intro a hA
   refine S.val hA (R.load sz3 rfl (hM.cell (k := 1) rfl rfl)) rfl ?_; clear hA a; intro a hA
   have hil4 := itoa_len' (n := (n : Int)) (by unfold bd64; omega)
   refine S.call hA (R.callF Tryd.func30 rfl rfl rfl) rfl (rwrite_any ((n : Int)) (by omega) _) ?_; clear hA a
   rintro e w6 ⟨rfl, hb⟩
   replace hM := hM.callB hb; clear hb
   refine ⟨.string ((bs (Lib.itoa ((n : Int))))), rfl, fun a hA => ?_⟩
   refine S.val hA (R.to (v := .string (bs (([84, 83, 80, 32] : List UInt8) ++ Lib.itoa ((n : Int))))) (R.addS rfl rfl (by show (bs (([84, 83, 80, 32] : List UInt8))).size + (bs (Lib.itoa ((n : Int)))).size ≤ _; simp only [bs_size, List.length_append, List.length_cons, List.length_nil]; omega)) (congrArg Value.string (bs_app (([84, 83, 80, 32] : List UInt8)) (Lib.itoa ((n : Int)))))) rfl ?_; clear hA a; intro a hA
   refine S.val hA (R.to (v := .string (bs ((([84, 83, 80, 32] : List UInt8) ++ Lib.itoa ((n : Int))) ++ ([32, 85, 80, 80, 69, 82] : List UInt8)))) (R.addS rfl rfl (by show (bs ((([84, 83, 80, 32] : List UInt8) ++ Lib.itoa ((n : Int))))).size + (bs (([32, 85, 80, 80, 69, 82] : List UInt8))).size ≤ _; simp only [bs_size, List.length_append, List.length_cons, List.length_nil]; omega)) (congrArg Value.string (bs_app ((([84, 83, 80, 32] : List UInt8) ++ Lib.itoa ((n : Int)))) (([32, 85, 80, 80, 69, 82] : List UInt8))))) rfl ?_; clear hA a; intro a hA
   refine S.val hA (R.assign rfl) rfl ?_; clear hA a; intro a hA
   refine S.done ?_
   replace hA : St 87 [(1, _), (3, _)] a := hA.sub ((.cons rfl (.cons rfl .nil)))
   refine Ends.seq (Ends.seq (Ends.region ?_))
   refine S.val hA (R.assign rfl) rfl ?_; clear hA a; intro a hA
   refine S.done ?_
   refine Ends.block ?_
   replace hM := hM.front (k := 1) rfl
   replace hM := hM.front (k := 1) rfl
   replace hM := hM.firstN 2
   replace hM := hM.unpack
   replace hM : Mem _ _ [own 3 1 (.slice ay3 Gy.wt.length cy3) Gy.wt.length (Gy.wt.map (Value.int .i64)), own 3 1 (.slice ay4 Gy.vl.length cy4) Gy.vl.length (Gy.vl.map (Value.int .i64)), own 22 1 (.slice ay5 rsy.length cy5) rsy.length ((rsy.map orV)), bundle (rsy.map (orC 3)), pt b1 #[.int .i64 Gy.kind, .int .i64 ((n : Int)), .int .i64 Gy.cap, .slice ay3 Gy.wt.length cy3, .slice ay4 Gy.vl.length cy4, .slice ay5 Gy.cost.length cy5] 25] _ := hM
   rw [hlcy, f7] at hM
   replace hM : Mem _ _ [own 3 1 (.slice ay3 Gy.wt.length cy3) Gy.wt.length (Gy.wt.map (Value.int .i64)), own 3 1 (.slice ay4 Gy.vl.length cy4) Gy.vl.length (Gy.vl.map (Value.int .i64)), own 22 1 (.slice ay5 n cy5) n ((rsy.map orV)), bundle (rsy.map (orC 3)), pt b1 #[.int .i64 Gy.kind, .int .i64 ((n : Int)), .int .i64 Gy.cap, .slice ay3 Gy.wt.length cy3, .slice ay4 Gy.vl.length cy4, .slice ay5 n cy5] 25] _ := hM
   replace hM := hM.front (k := 4) rfl
   replace hM : Mem _ _ [pt b1 #[.int .i64 Gy.kind, .int .i64 ((n : Int)), .int .i64 Gy.cap, .slice ay3 Gy.wt.length cy3, .slice ay4 Gy.vl.length cy4, .slice ay5 n cy5] 25, own 3 1 (.slice ay3 Gy.wt.length cy3) Gy.wt.length (Gy.wt.map (Value.int .i64)), own 3 1 (.slice ay4 Gy.vl.length cy4) Gy.vl.length (Gy.vl.map (Value.int .i64)), own 22 1 (.slice ay5 n cy5) n ((rsy.map orV)), bundle (rsy.map (orC 3))] _ := hM
   obtain ⟨L0, hL0⟩ : ∃ L0, ((([84, 83, 80, 32] : List UInt8) ++ Lib.itoa ((n : Int))) ++ ([32, 85, 80, 80, 69, 82] : List UInt8)) = L0 := ⟨_, rfl⟩
   rw [hL0] at hA
   have hLT : L0 ++ [32] = upT Gy n 0 1 := by rw [← hL0, upT_zero]
   have hYz : rsy.map (·.Y) = mat n (gU Gy 0 1) := by rw [hYy]; exact gU_zero f7 (fun r hr => hrw r (by omega)) (Nat.le_refl _)
   refine Ends.loop (σ := Nat × List OwR × List UInt8) (fun (z, rs, Lz) (a : Act) (wv : World) => St 87 [(1, .pointer (some ⟨b1, 0, none⟩)), (3, .string ((bs Lz))), (4, .int .i64 ((z : Int)))] a ∧ Mem w nof [pt b1 #[.int .i64 Gy.kind, .int .i64 ((n : Int)), .int .i64 Gy.cap, .slice ay3 Gy.wt.length cy3, .slice ay4 Gy.vl.length cy4, .slice ay5 n cy5] 25, own 3 1 (.slice ay3 Gy.wt.length cy3) Gy.wt.length (Gy.wt.map (Value.int .i64)), own 3 1 (.slice ay4 Gy.vl.length cy4) Gy.vl.length (Gy.vl.map (Value.int .i64)), own 22 1 (.slice ay5 n cy5) n ((rs.map orV)), bundle (rs.map (orC 3))] wv ∧ (z ≤ n) ∧ (rs.map (·.Y) = mat n (gU Gy z (z + 1))) ∧ (Lz ++ [32] = upT Gy n z (z + 1))) (fun (z, rs, Lz) => n - z) ((0, rsy, L0)) ⟨hA.sub ((.cons rfl (.cons rfl (.cons rfl .nil)))), hM, (Nat.zero_le _), hYz, hLT⟩ ?_
   clear hA hM a
   rintro ⟨z, rs, Lz⟩ a w7 ⟨hA, hM, hz_, hYs, hTs⟩ hNext
   refine Ends.seq (Ends.seq (Ends.region ?_))
   refine S.val hA (R.move rfl) rfl ?_; clear hA a; intro a hA
   refine S.val hA (R.fieldAddr (q := 1) fi25_1 rfl rfl rfl) rfl ?_; clear hA a; intro a hA
   refine S.val hA (R.load sz3 rfl (hM.cell (k := 0) rfl rfl)) rfl ?_; clear hA a; intro a hA
   refine S.val hA (R.lss rfl rfl) rfl ?_; clear hA a; intro a hA
   refine S.done ?_
   refine Ends.ite hA rfl (fun hc4 => ?_) (fun hc4 => ?_)
   ·
    have hzn : z < n := by omega
    refine Ends.skip (Ends.seq (Ends.block (Ends.seq (Ends.region ?_))))
    refine S.val hA (R.move rfl) rfl ?_; clear hA a; intro a hA
    refine S.val hA (R.addI rfl rfl (r := ((z + 1 : Nat) : Int)) (by omega) (by omega)) rfl ?_; clear hA a; intro a hA
    refine S.val hA (R.assign rfl) rfl ?_; clear hA a; intro a hA
    refine S.done ?_
    replace hA : St 87 [(1, _), (3, _), (4, _), (5, _)] a := hA.sub ((.cons rfl (.cons rfl (.cons rfl (.cons rfl .nil)))))
    refine Ends.block ?_
    refine Ends.loop (σ := Nat × List OwR × List UInt8) (fun (b, rs, Lb) (a : Act) (wv : World) => St 87 [(1, .pointer (some ⟨b1, 0, none⟩)), (3, .string ((bs Lb))), (4, .int .i64 ((z : Int))), (5, .int .i64 ((b : Int)))] a ∧ Mem w nof [pt b1 #[.int .i64 Gy.kind, .int .i64 ((n : Int)), .int .i64 Gy.cap, .slice ay3 Gy.wt.length cy3, .slice ay4 Gy.vl.length cy4, .slice ay5 n cy5] 25, own 3 1 (.slice ay3 Gy.wt.length cy3) Gy.wt.length (Gy.wt.map (Value.int .i64)), own 3 1 (.slice ay4 Gy.vl.length cy4) Gy.vl.length (Gy.vl.map (Value.int .i64)), own 22 1 (.slice ay5 n cy5) n ((rs.map orV)), bundle (rs.map (orC 3))] wv ∧ (z < b) ∧ (b ≤ n) ∧ (rs.map (·.Y) = mat n (gU Gy z b)) ∧ (Lb ++ [32] = upT Gy n z b)) (fun (b, rs, Lb) => n - b) ((z + 1, rs, Lz)) ⟨hA.sub ((.cons rfl (.cons rfl (.cons rfl (.cons rfl .nil))))), hM, (Nat.lt_succ_self z), (by omega), hYs, hTs⟩ ?_
    clear hA hM a
    rintro ⟨b, rs, Lb⟩ a w8 ⟨hA, hM, hzb, hb_, hYb, hTb⟩ hNext1
    refine Ends.seq (Ends.seq (Ends.region ?_))
    refine S.val hA (R.move rfl) rfl ?_; clear hA a; intro a hA
    refine S.val hA (R.fieldAddr (q := 1) fi25_1 rfl rfl rfl) rfl ?_; clear hA a; intro a hA
    refine S.val hA (R.load sz3 rfl (hM.cell (k := 0) rfl rfl)) rfl ?_; clear hA a; intro a hA
    refine S.val hA (R.lss rfl rfl) rfl ?_; clear hA a; intro a hA
    refine S.done ?_
    refine Ends.ite hA rfl (fun hc5 => ?_) (fun hc5 => ?_)
    ·
     have hbn : b < n := by omega
     refine Ends.skip (Ends.seq (Ends.block (Ends.seq ?_)))
     have hcv : ((rs.map (·.Y)).getD z []).getD b 0 = cel Gy z b := by rw [hYb, mat_cell hzn hbn, gU_at hzb]
     have hcc := hF.cell z b
     have hce : cel Gy z b = (Gy.cost.getD z []).getD b 0 := rfl
     have hrl := rows_len hYb
     have hrw9 : ((rs.map (·.Y)).getD z []).length = n := by rw [hYb, mat_row hzn]; simp
     have hTl := upT_len hF (n := n) (a := z) (b := b) (by omega) (by omega) (by omega)
     have hqh := hxI_hlf hzb hbn
     rw [hxI_lt hzb hbn] at hqh
     have hh3 := hlf_le n (by omega)
     rw [← hTb] at hTl
     simp only [List.length_append, List.length_cons, List.length_nil] at hTl
     have hcel : 0 ≤ cel Gy z b ∧ cel Gy z b ≤ 2147483647 := hcc
     have hrl2 : rs.length = n := hrl
     replace hM := Mem.eqL (L2 := [pt b1 #[.int .i64 Gy.kind, .int .i64 ((n : Int)), .int .i64 Gy.cap, .slice ay3 Gy.wt.length cy3, .slice ay4 Gy.vl.length cy4, .slice ay5 rs.length cy5] 25, own 3 1 (.slice ay3 Gy.wt.length cy3) Gy.wt.length (Gy.wt.map (Value.int .i64)), own 3 1 (.slice ay4 Gy.vl.length cy4) Gy.vl.length (Gy.vl.map (Value.int .i64)), own 22 1 (.slice ay5 rs.length cy5) rs.length ((rs.map orV)), bundle (rs.map (orC 3))]) hM (by rw [hrl])
     refine Ends.region ?_
     refine S.val hA (R.move rfl) rfl ?_; clear hA a; intro a hA
     refine S.val hA (R.to (v := .string (bs (Lb ++ ([32] : List UInt8)))) (R.addS rfl rfl (by show (bs Lb).size + (bs (([32] : List UInt8))).size ≤ _; simp only [bs_size, List.length_append, List.length_cons, List.length_nil]; omega)) (congrArg Value.string (bs_app Lb (([32] : List UInt8))))) rfl ?_; clear hA a; intro a hA
     refine S.val hA (R.fieldAddr (q := 5) fi25_5 rfl rfl rfl) rfl ?_; clear hA a; intro a hA
     refine S.val hA (R.load sz23 rfl (hM.cell (k := 0) rfl rfl)) rfl ?_; clear hA a; intro a hA
     refine S.val hA (R.move rfl) rfl ?_; clear hA a; intro a hA
     refine S.val hA (R.idxRn (hM.rowsV (k := 3) rfl (k2 := 4) rfl) (j := z) sl23 rfl rfl (by omega) (rfl)) rfl ?_; clear hA a; intro a hA
     obtain ⟨ra6, rc7, hrow8, hld9⟩ := (hM.rowsV_ (k := 3) rfl (k2 := 4) rfl).atP (i := z) (by rw [List.length_map]; omega)
     refine S.val hA (hld9 _ _ _ _ _ _ (Mem.start _) sz22 rfl) rfl ?_; clear hA a; intro a hA
     refine S.val hA (R.move rfl) rfl ?_; clear hA a; intro a hA
     refine S.val hA (R.idxI hrow8 (j := b) sl22 rfl rfl (by omega) (rfl)) rfl ?_; clear hA a; intro a hA
     refine S.val hA (R.to (v := .int .i64 (cel Gy z b)) (R.loadI (hrow8) sz3 rfl (by omega)) (congrArg (Value.int .i64) hcv)) rfl ?_; clear hA a; intro a hA
     have hil11 := itoa_len' (n := cel Gy z b) (by unfold bd64; omega)
     refine S.call hA (R.callF Tryd.func30 rfl rfl rfl) rfl (rwrite_any (cel Gy z b) (by omega) _) ?_; clear hA a
     rintro e w9 ⟨rfl, hb⟩
     replace hM := hM.callB hb; clear hb
     refine ⟨.string ((bs (Lib.itoa (cel Gy z b)))), rfl, fun a hA => ?_⟩
     refine S.val hA (R.to (v := .string (bs ((Lb ++ ([32] : List UInt8)) ++ Lib.itoa (cel Gy z b)))) (R.addS rfl rfl (by show (bs ((Lb ++ ([32] : List UInt8)))).size + (bs (Lib.itoa (cel Gy z b))).size ≤ _; simp only [bs_size, List.length_append, List.length_cons, List.length_nil]; omega)) (congrArg Value.string (bs_app ((Lb ++ ([32] : List UInt8))) (Lib.itoa (cel Gy z b))))) rfl ?_; clear hA a; intro a hA
     refine S.val hA (R.assign rfl) rfl ?_; clear hA a; intro a hA
     refine S.done ?_
     replace hA : St 87 [(1, _), (3, _), (4, _), (5, _)] a := hA.sub ((.cons rfl (.cons rfl (.cons rfl (.cons rfl .nil)))))
     replace hM := Mem.eqL (L2 := [pt b1 #[.int .i64 Gy.kind, .int .i64 ((n : Int)), .int .i64 Gy.cap, .slice ay3 Gy.wt.length cy3, .slice ay4 Gy.vl.length cy4, .slice ay5 n cy5] 25, own 3 1 (.slice ay3 Gy.wt.length cy3) Gy.wt.length (Gy.wt.map (Value.int .i64)), own 3 1 (.slice ay4 Gy.vl.length cy4) Gy.vl.length (Gy.vl.map (Value.int .i64)), own 22 1 (.slice ay5 n cy5) n ((rs.map orV)), bundle (rs.map (orC 3))]) hM (by rw [hrl])
     obtain ⟨Yb, ab, cb, hxb, hYb1, hYl1⟩ := row_of hYb hbn
     obtain ⟨Ya, aa, ca, hxa, hYa1, hYl0⟩ := row_of hYb hzn
     have hxa2 : (rs.eraseIdx b)[z]? = some ⟨Ya, aa, ca⟩ := by rw [List.getElem?_eraseIdx, if_pos hzb]; exact hxa
     replace hM := hM.front (k := 4) rfl
     replace hM := ((hM.openB hxb).front (k := 1) rfl).openB hxa2
     replace hM : Mem _ _ [own 3 1 (.slice aa Ya.length ca) Ya.length (Ya.map (Value.int .i64)), bundle (((rs.eraseIdx b).eraseIdx z).map (orC 3)), own 3 1 (.slice ab Yb.length cb) Yb.length (Yb.map (Value.int .i64)), pt b1 #[.int .i64 Gy.kind, .int .i64 ((n : Int)), .int .i64 Gy.cap, .slice ay3 Gy.wt.length cy3, .slice ay4 Gy.vl.length cy4, .slice ay5 n cy5] 25, own 3 1 (.slice ay3 Gy.wt.length cy3) Gy.wt.length (Gy.wt.map (Value.int .i64)), own 3 1 (.slice ay4 Gy.vl.length cy4) Gy.vl.length (Gy.vl.map (Value.int .i64)), own 22 1 (.slice ay5 n cy5) n ((rs.map orV))] _ := hM
     obtain ⟨ga, hga⟩ := hM.ownAt (k := 0) rfl (by omega)
     obtain ⟨gB, hgB⟩ := hM.ownAt (k := 2) rfl (by omega)
     obtain ⟨gv, hgv⟩ := hM.ownAt (k := 6) rfl (by omega)
     subst hga
     subst hgB
     rw [hgv] at hM
     replace hM : Mem _ _ [own 3 1 (.slice ((some ⟨ga, 0, none⟩)) Ya.length ca) Ya.length (Ya.map (Value.int .i64)), bundle (((rs.eraseIdx b).eraseIdx z).map (orC 3)), own 3 1 (.slice ((some ⟨gB, 0, none⟩)) Yb.length cb) Yb.length (Yb.map (Value.int .i64)), pt b1 #[.int .i64 Gy.kind, .int .i64 ((n : Int)), .int .i64 Gy.cap, .slice ay3 Gy.wt.length cy3, .slice ay4 Gy.vl.length cy4, .slice ((some ⟨gv, 0, none⟩)) n cy5] 25, own 3 1 (.slice ay3 Gy.wt.length cy3) Gy.wt.length (Gy.wt.map (Value.int .i64)), own 3 1 (.slice ay4 Gy.vl.length cy4) Gy.vl.length (Gy.vl.map (Value.int .i64)), own 22 1 (.slice ((some ⟨gv, 0, none⟩)) n cy5) n ((rs.map orV))] _ := hM
     refine Ends.drawn (Mem w nof [own 3 1 (.slice ((some ⟨ga, 0, none⟩)) Ya.length ca) Ya.length (Ya.map (Value.int .i64)), own 3 1 (.slice ((some ⟨gB, 0, none⟩)) Yb.length cb) Yb.length (Yb.map (Value.int .i64)), pt b1 #[.int .i64 Gy.kind, .int .i64 ((n : Int)), .int .i64 Gy.cap, .slice ay3 Gy.wt.length cy3, .slice ay4 Gy.vl.length cy4, .slice ((some ⟨gv, 0, none⟩)) n cy5] 25, own 3 1 (.slice ay3 Gy.wt.length cy3) Gy.wt.length (Gy.wt.map (Value.int .i64)), own 3 1 (.slice ay4 Gy.vl.length cy4) Gy.vl.length (Gy.vl.map (Value.int .i64)), own 22 1 (.slice ((some ⟨gv, 0, none⟩)) n cy5) n ((rs.map orV))]) (.cons (0, true) (.cons (1, true) (.cons (2, true) (.cons (3, true) (.cons (4, true) (.cons (5, true) (.cons (6, true) (.cons (7, true) (.cons (8, true) (.cons (9, true) (.cons (10, true) (.cons (11, true) (.cons (12, true) (.cons (13, true) (.cons (14, true) (.cons (15, false) .nil)))))))))))))))) 15 mixed (by kernel_rfl) (by kernel_rfl) (by kernel_rfl) (hM.drop 1).drew ?_
     replace hM := hM.drew
     refine D.valF hA rfl (fun _ => R.fieldAddr (q := 5) fi25_5 rfl rfl rfl) rfl ?_; clear hA a; intro a hA
     refine D.val hA rfl (by kernel_rfl) (fun _ hM => R.load sz23 rfl (hM.cell (k := 2) rfl rfl)) rfl ?_; clear hA a; intro a hA
     refine D.valF hA rfl (fun _ => R.move rfl) rfl ?_; clear hA a; intro a hA
     refine D.valF hA rfl (fun _ => R.indexAddr (q := b) sl23 rfl rfl (by omega) (by omega)) rfl ?_; clear hA a; intro a hA
     refine D.val hA rfl (by kernel_rfl) (fun _ hM => R.load sz22 rfl (hM.ownCell (k := 5) rfl (orV_of hxb))) rfl ?_; clear hA a; intro a hA
     refine D.valF hA rfl (fun _ => R.move rfl) rfl ?_; clear hA a; intro a hA
     refine D.valF hA rfl (fun _ => R.fieldAddr (q := 5) fi25_5 rfl rfl rfl) rfl ?_; clear hA a; intro a hA
     refine D.val hA rfl (by kernel_rfl) (fun _ hM => R.load sz23 rfl (hM.cell (k := 2) rfl rfl)) rfl ?_; clear hA a; intro a hA
     refine D.valF hA rfl (fun _ => R.move rfl) rfl ?_; clear hA a; intro a hA
     refine D.valF hA rfl (fun _ => R.indexAddr (q := z) sl23 rfl rfl (by omega) (by omega)) rfl ?_; clear hA a; intro a hA
     refine D.val hA rfl (by kernel_rfl) (fun _ hM => R.load sz22 rfl (hM.ownCell (k := 5) rfl (orV_of hxa))) rfl ?_; clear hA a; intro a hA
     refine D.valF hA rfl (fun _ => R.move rfl) rfl ?_; clear hA a; intro a hA
     refine D.valF hA rfl (fun _ => R.indexAddr (q := b) sl22 rfl rfl (by omega) (by omega)) rfl ?_; clear hA a; intro a hA
     refine D.val hA rfl (by kernel_rfl) (fun _ hM => R.load sz3 rfl (hM.ownCell (k := 0) rfl (mapi_get _ _ (by omega)))) rfl ?_; clear hA a; intro a hA
     refine D.valF hA rfl (fun _ => R.indexAddr (q := z) sl22 rfl rfl (by omega) (by omega)) rfl ?_; clear hA a; intro a hA
     refine D.storeO (k := 2) hA hM rfl sz3 rfl rfl rfl rfl (mapi_get Yb z (by first | omega | (simp only [List.length_set]; omega) | (simp; done))) ?_; clear hM; intro w10 hM; rw [mapi_set] at hM
     refine ⟨fun _ hne => absurd rfl hne, ?_⟩
     replace hM : Mem _ _ [own 3 1 (.slice ((some ⟨ga, 0, none⟩)) Ya.length ca) Ya.length (Ya.map (Value.int .i64)), bundle (((rs.eraseIdx b).eraseIdx z).map (orC 3)), own 3 1 (.slice ((some ⟨gB, 0, none⟩)) Yb.length cb) Yb.length (((Yb.set z (Ya.getD b 0))).map (Value.int .i64)), pt b1 #[.int .i64 Gy.kind, .int .i64 ((n : Int)), .int .i64 Gy.cap, .slice ay3 Gy.wt.length cy3, .slice ay4 Gy.vl.length cy4, .slice ((some ⟨gv, 0, none⟩)) n cy5] 25, own 3 1 (.slice ay3 Gy.wt.length cy3) Gy.wt.length (Gy.wt.map (Value.int .i64)), own 3 1 (.slice ay4 Gy.vl.length cy4) Gy.vl.length (Gy.vl.map (Value.int .i64)), own 22 1 (.slice ((some ⟨gv, 0, none⟩)) n cy5) n ((rs.map orV))] _ := hM
     refine D.done ?_
     replace hM := hM.front (k := 6) rfl
     replace hM := hM.front (k := 6) rfl
     replace hM := hM.front (k := 6) rfl
     replace hM := hM.front (k := 6) rfl
     replace hM := hM.front (k := 6) rfl
     replace hM := hM.front (k := 6) rfl
     replace hM := hM.front (k := 6) rfl
     replace hM := hM.firstN 7
     replace hM := closeSame6 (f := orC 3) (x := ⟨Ya, some ⟨ga, 0, none⟩, ca⟩) hM hxa2
     have hsb : ((Yb.set z (Ya.getD b 0))).length = Yb.length := List.length_set
     rw [← hsb] at hM
     replace hM := hM.front (k := 1) rfl
     replace hM := Mem.closeB (f := orC 3) (y := (⟨(Yb.set z (Ya.getD b 0)), (some ⟨gB, 0, none⟩), cb⟩ : OwR)) hM hxb
     rw [← setV hxb (u := (⟨(Yb.set z (Ya.getD b 0)), (some ⟨gB, 0, none⟩), cb⟩ : OwR)) (by show Value.slice _ _ _ = Value.slice _ _ _; rw [hsb]), ← hgv] at hM
     replace hM : Mem _ _ [bundle ((rs.set b (⟨(Yb.set z (Ya.getD b 0)), (some ⟨gB, 0, none⟩), cb⟩ : OwR)).map (orC 3)), pt b1 #[.int .i64 Gy.kind, .int .i64 ((n : Int)), .int .i64 Gy.cap, .slice ay3 Gy.wt.length cy3, .slice ay4 Gy.vl.length cy4, .slice ay5 n cy5] 25, own 3 1 (.slice ay3 Gy.wt.length cy3) Gy.wt.length (Gy.wt.map (Value.int .i64)), own 3 1 (.slice ay4 Gy.vl.length cy4) Gy.vl.length (Gy.vl.map (Value.int .i64)), own 22 1 (.slice ay5 n cy5) n (((rs.set b (⟨(Yb.set z (Ya.getD b 0)), (some ⟨gB, 0, none⟩), cb⟩ : OwR)).map orV))] _ := hM
     have hv9 : (Ya.getD b 0) = cel Gy z b := by rw [hYa1]; rw [show ((List.range n).map (gU Gy z b z)).getD b 0 = gU Gy z b z b by simp [List.getD, hbn], gU_at hzb]
     have hY3 : (rs.set b (⟨(Yb.set z (Ya.getD b 0)), (some ⟨gB, 0, none⟩), cb⟩ : OwR)).map (·.Y) = mat n (gU Gy z (b + 1)) := by
      have h1 := rows_setCell (a := b) (b := z) (x := (Ya.getD b 0)) (u := (⟨(Yb.set z (Ya.getD b 0)), (some ⟨gB, 0, none⟩), cb⟩ : OwR)) hYb (by rw [← hYb1])
      refine h1.trans ?_
      rw [hv9]
      exact gU_step hzb
     replace hA : St 87 [(1, _), (3, _), (4, _), (5, _)] a := hA.sub ((.cons rfl (.cons rfl (.cons rfl (.cons rfl .nil)))))
     refine Ends.inBlock (Ends.region ?_)
     refine S.val hA (R.move rfl) rfl ?_; clear hA a; intro a hA
     refine S.val hA (R.addI rfl rfl (r := ((b + 1 : Nat) : Int)) (by omega) (by omega)) rfl ?_; clear hA a; intro a hA
     refine S.val hA (R.assign rfl) rfl ?_; clear hA a; intro a hA
     refine S.done ?_
     replace hM := hM.front (k := 4) rfl
     replace hM := hM.front (k := 4) rfl
     replace hM := hM.front (k := 4) rfl
     replace hM := hM.front (k := 4) rfl
     replace hM := hM.firstN 5
     have hT9 : ((Lb ++ ([32] : List UInt8)) ++ Lib.itoa (cel Gy z b)) ++ [32] = upT Gy n z (b + 1) := by rw [upT_step hzb, ← hTb]
     exact hNext1 ((b + 1, (rs.set b (⟨(Yb.set z (Ya.getD b 0)), (some ⟨gB, 0, none⟩), cb⟩ : OwR)), ((Lb ++ ([32] : List UInt8)) ++ Lib.itoa (cel Gy z b)))) _ _ ((by show n - (b + 1) < n - b; omega)) ⟨hA.sub ((.cons rfl (.cons rfl (.cons rfl (.cons rfl .nil))))), hM, (by omega), (by omega), hY3, hT9⟩
    ·
     have hbn : b = n := by omega
     refine Ends.exit rfl ?_
     replace hA : St 87 [(1, _), (3, _), (4, _)] a := hA.sub ((.cons rfl (.cons rfl (.cons rfl .nil))))
     refine Ends.inBlock (Ends.region ?_)
     refine S.val hA (R.move rfl) rfl ?_; clear hA a; intro a hA
     refine S.val hA (R.addI rfl rfl (r := ((z : Int)) + 1) rfl (by omega)) rfl ?_; clear hA a; intro a hA
     refine S.val hA (R.assign rfl) rfl ?_; clear hA a; intro a hA
     refine S.done ?_
     replace hM := hM.front (k := 4) rfl
     replace hM := hM.front (k := 4) rfl
     replace hM := hM.front (k := 4) rfl
     replace hM := hM.front (k := 4) rfl
     replace hM := hM.front (k := 4) rfl
     replace hM := hM.firstN 5
     rw [hbn] at hTb hYb
     exact hNext ((z + 1, rs, Lb)) _ _ ((by show n - (z + 1) < n - z; omega)) ⟨hA.sub ((.cons rfl (.cons rfl (.cons rfl .nil)))), hM, (by omega), (hYb.trans gU_row), (hTb.trans upT_row)⟩
   ·
    have hzn : z = n := by omega
    refine Ends.exit rfl ?_
    replace hA : St 87 [(1, _), (3, _)] a := hA.sub ((.cons rfl (.cons rfl .nil)))
    refine Ends.seq ?_
    replace hM := hM.front (k := 4) rfl
    replace hM := hM.front (k := 4) rfl
    replace hM := hM.front (k := 4) rfl
    replace hM := hM.front (k := 4) rfl
    replace hM := hM.front (k := 4) rfl
    replace hM := hM.firstN 5
    rw [hzn] at hYs hTs
    have hYm := hYs.trans (gU_all (fun r => hF.diag hk3 r))
    have hlrm : rs.length = n := by have := congrArg List.length hYm; simpa [mirM, mat] using this
    replace hM := hM.front (k := 4) rfl
    replace hM := hM.front (k := 4) rfl
    replace hM := hM.front (k := 4) rfl
    replace hM := hM.front (k := 4) rfl
    obtain ⟨T, hT⟩ : ∃ T, upI Gy n = T := ⟨_, rfl⟩
    have hX9 : wr Gy (rs.map (·.Y)) = T := by rw [← hT, hYm]; exact Ins.ext hk3 hn fc (List.length_eq_zero_iff.1 fw) (List.length_eq_zero_iff.1 fv) rfl
    have hYT : rs.map (·.Y) = T.cost := by rw [← hX9]; rfl
    rw [← hlrm, show ((rs.length : Nat) : Int) = Gy.n by rw [hlrm, hn]] at hM
    replace hM := Mem.pack (cs := insL 3 22 (wr Gy (rs.map (·.Y))) ay3 cy3 ay4 cy4 ay5 cy5 rs) (L := [pt b1 #[.int .i64 ((wr Gy (rs.map (·.Y))).kind), .int .i64 ((wr Gy (rs.map (·.Y))).n), .int .i64 ((wr Gy (rs.map (·.Y))).cap), .slice ay3 ((wr Gy (rs.map (·.Y))).wt.length) cy3, .slice ay4 ((wr Gy (rs.map (·.Y))).vl.length) cy4, .slice ay5 rs.length cy5] 25]) hM
    rw [hX9] at hM
    obtain ⟨-, hy3, hy4, hy5⟩ := insR_of hM (k := 0) rfl hYT
    replace hM := hM.drop 0
    have hlct : rs.length = T.cost.length := by rw [← hYT, List.length_map]
    rw [hlct] at hM
    replace hM : Mem _ _ [pt b1 #[.int .i64 T.kind, .int .i64 T.n, .int .i64 T.cap, .slice ay3 T.wt.length cy3, .slice ay4 T.vl.length cy4, .slice ay5 T.cost.length cy5] 25] _ := hM
    have hprT : prs (bs Lz) = (T, 0, 0) := by rw [← hT]; exact up_text hF hk3 hn hTs
    have hLl := upT_len hF (n := n) (a := n) (b := n + 1) (by omega) (by omega) (by omega)
    have hh3 := hlf_le n (by omega)
    unfold hlf at hh3
    rw [← hTs] at hLl
    simp only [List.length_append, List.length_cons, List.length_nil] at hLl
    have hzT := (prs_form hprT).1
    have hmir := mir_up hT hzT
    have hFT := chk_inF hzT
    obtain ⟨hl1, hl2, hl3⟩ := inF_len hFT
    have hbx10 := hM.block (k := 0) rfl
    have hbs := hbs.trans (hM.below.mono hbs.size)
    have hx3 := hx3.mem hM
    have hx4 := hx4.mem hM
    have hx5 := hx5.mem hM
    replace hM := Mem.start w7
    refine Ends.region ?_
    refine S.val hA (R.move rfl) rfl ?_; clear hA a; intro a hA
    refine S.call hA (R.callF Tryd.func28 rfl rfl rfl) rfl (parse_eq ((bs Lz)) (by rw [bs_size]; omega) T 0 0 hprT _ (U8T.below hut (Mem.trans0 hbs hM.nilL))) ?_; clear hA a
    rintro e w11 ⟨ap113, cp113, ap114, cp114, ap115, cp115, rfl, ⟨hp113, hp114, hp115⟩, hb⟩
    replace hM := hM.callB hb; clear hb
    have hbs := hbs.trans (hM.below.mono hbs.size)
    have hx3 := hx3.mem hM
    have hx4 := hx4.mem hM
    have hx5 := hx5.mem hM
    have hy3 := hy3.mem hM
    have hy4 := hy4.mem hM
    have hy5 := hy5.mem hM
    have hbx10 := hM.keepB hbx10
    replace hM := Mem.start w11
    refine ⟨.tuple #[.agg #[.int .i64 T.kind, .int .i64 T.n, .int .i64 T.cap, .slice ap113 T.wt.length cp113, .slice ap114 T.vl.length cp114, .slice ap115 T.cost.length cp115], .int .i64 0, .int .i64 0], rfl, fun a hA => ?_⟩
    refine S.val hA (R.move rfl) rfl ?_; clear hA a; intro a hA
    refine S.val hA (R.extract (v := .agg #[.int .i64 T.kind, .int .i64 T.n, .int .i64 T.cap, .slice ap113 T.wt.length cp113, .slice ap114 T.vl.length cp114, .slice ap115 T.cost.length cp115]) rfl rfl) rfl ?_; clear hA a; intro a hA
    refine S.val hA (R.extract (v := .int .i64 0) rfl rfl) rfl ?_; clear hA a; intro a hA
    refine S.val hA (R.extract (v := .int .i64 0) rfl rfl) rfl ?_; clear hA a; intro a hA
    refine S.alloc hA hM info25 rfl rfl ?_; clear hA hM a; intro b12 w12 hb13 hM a hA
    replace hM : Mem _ _ [pt b12 cz0 25] _ := hM
    refine S.storeA (k := 0) hA hM sz25 rfl rfl rfl rfl rfl rfl ?_; clear hM
    intro w13 hM
    replace hM : Mem _ _ [pt b12 #[.int .i64 T.kind, .int .i64 T.n, .int .i64 T.cap, .slice ap113 T.wt.length cp113, .slice ap114 T.vl.length cp114, .slice ap115 T.cost.length cp115] 25] _ := hM
    refine S.val hA (R.assign rfl) rfl ?_; clear hA a; intro a hA
    refine S.val hA (R.assign rfl) rfl ?_; clear hA a; intro a hA
    refine S.done ?_
    replace hA : St 87 [(1, _), (6, _), (8, _)] a := hA.sub ((.cons rfl (.cons rfl (.cons rfl .nil))))
    refine Ends.seq (Ends.region ?_)
    refine S.val hA (R.move rfl) rfl ?_; clear hA a; intro a hA
    refine S.val hA (R.tt (R.eql rfl rfl) (by first | decide | simp | omega)) rfl ?_; clear hA a; intro a hA
    refine S.val hA (R.move rfl) rfl ?_; clear hA a; intro a hA
    refine S.valg (dj := 78) hA (by kernel_rfl) rfl (R.loadA sz25 rfl (hM.oldRange hbx10) rfl) rfl ?_; clear hA a; intro a hA
    refine S.valg (dj := 78) hA (by kernel_rfl) rfl (R.loadA sz25 rfl (hM.range (k := 0) rfl) rfl) rfl ?_; clear hA a; intro a hA
    refine S.callg (dj := 78) hA (by kernel_rfl) rfl (R.callF Tryd.func22 rfl rfl rfl) rfl (rSame_eq T ay3 cy3 ay4 cy4 ay5 cy5 ap113 cp113 ap114 cp114 ap115 cp115 _ (hy3.mem hM) (hy4.mem hM) (hy5.mem hM) (hp113.mem hM) (hp114.mem hM) (hp115.mem hM)) ?_; clear hA a
    rintro e w14 ⟨rfl, hb⟩
    replace hM := hM.callB hb; clear hb
    refine ⟨.bool true, rfl, fun a hA => ?_⟩
    refine S.val hA (R.pickT rfl rfl) rfl ?_; clear hA a; intro a hA
    refine S.val hA (R.move rfl) rfl ?_; clear hA a; intro a hA
    refine S.valg (dj := 83) hA (by kernel_rfl) rfl (R.loadA sz25 rfl (hM.range (k := 0) rfl) rfl) rfl ?_; clear hA a; intro a hA
    refine S.callg (dj := 83) hA (by kernel_rfl) rfl (R.callF Tryd.func24 rfl rfl rfl) rfl (mirror05 T ap113 cp113 ap114 cp114 ap115 cp115 ⟨by omega, by omega⟩ _ (hp113.mem hM) (hp114.mem hM) (hp115.mem hM)) ?_; clear hA a
    rintro e w15 ⟨m, hm, rfl, hb⟩
    replace hM := hM.callB hb; clear hb
    obtain rfl : m = true := hm.2 hmir
    refine ⟨.bool true, rfl, fun a hA => ?_⟩
    refine S.val hA (R.pickT rfl rfl) rfl ?_; clear hA a; intro a hA
    refine S.val hA (R.assign rfl) rfl ?_; clear hA a; intro a hA
    refine S.done ?_
    replace hA : St 87 [(2, _)] a := hA.sub ((.cons rfl .nil))
    refine Ends.ret1 Tryd.func10 Tryd.results10 hA rfl ?_
    exact ⟨rfl, Mem.trans0 hbs hM.nilL⟩
 ·
  refine Ends.region ?_
  refine S.call hA (R.callF Tryd.func27 rfl rfl rfl) rfl (parses_any _ (U8T.below hut (Mem.trans0 hbs hM.nilL))) ?_; clear hA a
  rintro e w16 ⟨rfl, hb⟩
  replace hM := hM.callB hb; clear hb
  refine ⟨.bool true, rfl, fun a hA => ?_⟩
  refine S.val hA (R.not rfl) rfl ?_; clear hA a; intro a hA
  refine S.val hA (R.move rfl) rfl ?_; clear hA a; intro a hA
  refine S.valg (dj := 13) hA (by kernel_rfl) rfl (R.loadA sz25 rfl (hM.range (k := 1) rfl) rfl) rfl ?_; clear hA a; intro a hA
  refine S.callg (dj := 13) hA (by kernel_rfl) rfl (R.callF Tryd.func19 rfl rfl rfl) rfl (rcheck05 Gy ay3 cy3 ay4 cy4 ay5 cy5 _ (insR_of hM (k := 0) rfl hYy).2.1 (insR_of hM (k := 0) rfl hYy).2.2.1 (insR_of hM (k := 0) rfl hYy).2.2.2) ?_; clear hA a
  rintro e w17 ⟨rfl, hb⟩
  replace hM := hM.callB hb; clear hb
  refine ⟨.int .i64 (chk Gy), rfl, fun a hA => ?_⟩
  refine S.valg (dj := 13) hA (by kernel_rfl) rfl (R.neq rfl rfl) rfl ?_; clear hA a; intro a hA
  refine S.val hA (R.pickF rfl rfl) rfl ?_; clear hA a; intro a hA
  refine S.val hA (R.move rfl) rfl ?_; clear hA a; intro a hA
  refine hA.split (d := 18) rfl ?_ ?_
  ·
   clear hA; intro hg14 hA
   refine S.no (dj := 18) hA (by kernel_rfl) rfl rfl rfl ?_; clear hA a; intro a hA
   refine S.no (dj := 18) hA (by kernel_rfl) rfl rfl rfl ?_; clear hA a; intro a hA
   refine S.no (dj := 18) hA (by kernel_rfl) rfl rfl rfl ?_; clear hA a; intro a hA
   refine S.val hA (R.pickT rfl rfl) rfl ?_; clear hA a; intro a hA
   refine S.done ?_
   replace hA : St 87 [(1, _), (22, _)] a := hA.sub ((.cons rfl (.cons rfl .nil)))
   exact hJ _ _ ⟨hA.sub (.cons rfl (.cons (by first | rfl | exact congrArg (fun b => some (Value.bool b)) (by first | exact decide_eq_decide.2 (by omega) | exact or_bool (by omega) | exact and_bool (by omega) | (simp; done) | (simp [hg14]; done) | (have h80 := hg14; (try simp at h80); simp [h80]; done) | exact (decide_eq_false (fun h9 => hg14 h9.1)).symm)) .nil)), hM⟩
  ·
   clear hA; intro hg14 hA
   refine S.valg (dj := 18) hA (by kernel_rfl) rfl (R.fieldAddr (q := 0) fi25_0 rfl rfl rfl) rfl ?_; clear hA a; intro a hA
   refine S.valg (dj := 18) hA (by kernel_rfl) rfl (R.load sz3 rfl (hM.cell (k := 1) rfl rfl)) rfl ?_; clear hA a; intro a hA
   refine S.valg (dj := 18) hA (by kernel_rfl) rfl (R.neq rfl rfl) rfl ?_; clear hA a; intro a hA
   refine S.val hA (R.pickF rfl rfl) rfl ?_; clear hA a; intro a hA
   refine S.done ?_
   replace hA : St 87 [(1, _), (22, _)] a := hA.sub ((.cons rfl (.cons rfl .nil)))
   exact hJ _ _ ⟨hA.sub (.cons rfl (.cons (by first | rfl | exact congrArg (fun b => some (Value.bool b)) (by first | exact decide_eq_decide.2 (by omega) | exact or_bool (by omega) | exact and_bool (by omega) | (simp; done) | (simp [hg14]; done) | (have h80 := hg14; (try simp at h80); simp [h80]; done) | exact (decide_eq_false (fun h9 => hg14 h9.1)).symm)) .nil)), hM⟩
theorem parseUppers_any (v : Value) (i : Ins) (w : World) (h1 : InsV w v i) (_h2 : wfI i) (hut : U8T w) :
    Calls Tryd.prog 10 #[v] w fun e w' => e = .returned (.bool true) ∧ Below w.heap.size w w' := by
  obtain ⟨aw, cw, av, cv, ac, cc, rfl, h3, h4, h5⟩ := h1.parts
  exact parseUppers_w i aw cw av cv ac cc w h3 h4 h5 hut
end Go.Proofs.YtakfcekfmdjklaaDoor
