/- The contract of interleave/interleavelaw32.right: it accepts what Solve returns. -/
import Derived.Test.YtdcgebafmceajaaSolve
import Derived.Test.YtdcgebafmceajaaSame
import Derived.Test.YtdcgebafmceajaaRCycle
namespace Go.Proofs.Ytdcgebafmceajaa
open Go.RowKit Go.Deep
set_option linter.unusedVariables false

theorem Ok.bounds {l : List D} {n : Nat} (h : Ok l n) : ∀ d ∈ l, -1048577 ≤ d.c ∧ d.c ≤ 1048577 := fun d hd => (h d hd).2

set_option maxHeartbeats 1000000 in
theorem right_ok (A : Option Addr) (n m c1 g : Nat) (l : List D) (w : World) (hl : IsD w w.heap.size A m l) (hm : m ≤ 1000) (hn : n ≤ 32) (hok : Ok l n) (hap : Apart l) (hlow : (after l n n).low < 0) (hx : Blk w g 3 (icells (after l n n).x)) :
    Calls Try.prog 15 #[.int .i64 n, .slice A m c1, .slice (some ⟨g, 0, none⟩) n n, .slice none 0 0, .bool true] w fun e w' => e = .returned (.bool true) ∧ Below w.heap.size w w' := by
  have hi := low_iff hok hap
  have HC := Lib.hid (greatest_any A n m c1 l w hl hm hn hok)
  have hlen := (after_len l n n).1
  have HX := Lib.hid hx
  have HLEN := Lib.hid hlen
  have HI := Lib.hid hi
  have HLOW := Lib.hid hlow
  clear hx hlen hi hlow
  go_enter Try.func15, Try.ntmps15
  go_wp2_with fail
  refine HC.out.mono ?_
  rintro e w1 ⟨hb1, h1⟩
  rcases h1 with ⟨h1, g1, rfl, hx1, hg1⟩ | ⟨h1, _⟩
  case inr => exfalso; have := HI.out.1.2 HLOW.out; omega
  rw [HI.out.2 HLOW.out] at hx1
  have HS1 : Hid (IsI w1 w1.heap.size (some ⟨g, 0, none⟩) n (after l n n).x) := (HX.out.below hb1 HX.out.lt).isI HLEN.out
  have HS2 : Hid (IsI w1 w1.heap.size (some ⟨g1, 0, none⟩) n (after l n n).x) := hx1.isI HLEN.out
  clear hx1 h1 hg1
  go_wp2_with fail
  refine (same_any _ _ n n n n _ _ _ HS1.out HS2.out (by omega) (by omega)).mono ?_
  rintro e w2 ⟨rfl, hb2⟩
  rw [decide_eq_true rfl]
  go_wp2_with fail
  go_ret
  exact ⟨rfl, hb1.trans (hb2.mono hb1.size)⟩

set_option maxHeartbeats 1000000 in
theorem right_no (A C : Option Addr) (n m c1 c2 : Nat) (l : List D) (c : List Int) (w : World) (hl : IsD w w.heap.size A m l) (hc : IsI w w.heap.size C c.length c) (hm : m ≤ 1000) (hn : n ≤ 32) (hcn : c.length ≤ 1000) (hok : Ok l n) (hap : Apart l) (hlow : 0 ≤ (after l n n).low) (hcy : cycB l c = true) :
    Calls Try.prog 15 #[.int .i64 n, .slice A m c1, .slice none 0 0, .slice C c.length c2, .bool false] w fun e w' => e = .returned (.bool true) ∧ Below w.heap.size w w' := by
  have hi := low_iff hok hap
  have HC := Lib.hid (greatest_any A n m c1 l w hl hm hn hok)
  have HI := Lib.hid hi
  have HLOW := Lib.hid hlow
  have HCY := Lib.hid hcy
  have HL := Lib.hid hl
  have HCC := Lib.hid hc
  have HBD := Lib.hid hok.bounds
  clear hi hlow hcy hl hc
  go_enter Try.func15, Try.ntmps15
  go_wp2_with fail
  refine HC.out.mono ?_
  rintro e w1 ⟨hb1, h1⟩
  rcases h1 with ⟨h1, _⟩ | ⟨h1, rfl⟩
  case inl => exfalso; have := HI.out.1.1 h1; have := HLOW.out; omega
  have HD : Hid (IsD w1 w1.heap.size A m l) := (HL.out.below hb1).more hb1.size
  have HE : Hid (IsI w1 w1.heap.size C c.length c) := (HCC.out.below hb1).more hb1.size
  clear h1
  go_wp2_with fail
  refine (rcycle_any A C m c.length c1 c2 l c _ HD.out HE.out hm hcn HBD.out).mono ?_
  rw [HCY.out]
  rintro e w2 ⟨rfl, hb2⟩
  go_wp2_with fail
  go_ret
  exact ⟨rfl, hb1.trans (hb2.mono hb1.size)⟩
end Go.Proofs.Ytdcgebafmceajaa
