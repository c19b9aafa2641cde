/- A Problem that came in by value. -/
import Derived.Test.YtdcgebafmceajaaSystem
import Derived.Test.YtdcgebafmceajaaSolve
import Derived.Test.YtdcgebafmceajaaAwake
namespace Go.Proofs.Ytdcgebafmceajaa
open Go.ChangeShapes Go.WideShapes Go.ChangeAt Go.RowKit Go.Deep
set_option linter.unusedVariables false

structure ProbIs (w : World) (s0 s1 s2 : Int) (A : Option Addr) (k0 c : Nat) : Prop where
  b0 : 0 ≤ s0 ∧ s0 ≤ 255
  b1 : 0 ≤ s1 ∧ s1 ≤ 255
  b2 : 0 ≤ s2 ∧ s2 ≤ 255
  le : k0 ≤ c
  u : IsU w w.heap.size A k0

theorem open_prob {H : Type} {enc : TypeId × Value → H} {W : World} {base : Nat} {v : Value} {d : DataW H} {p : List MemPlace} (hv : Value.okWide Try.prog W .any base 32 v) (h : DataW.Trod enc Try.prog W 0 (fun _ => true) true 32 v d p) :
    ∃ s0 s1 s2 A k0 c, v = .agg #[.int .u8 s0, .int .u8 s1, .int .u8 s2, .slice A k0 c] ∧ ProbIs W s0 s1 s2 A k0 c := by
  obtain ⟨cs, rfl, hsz⟩ := okWide_struct Try.underlying32 hv
  obtain ⟨l⟩ := cs
  match l, hsz.trans (show Try.prog.cellsOf 32 = 4 by kernel_rfl) with
  | [c0, c1, c2, c3], _ =>
    obtain ⟨fuel, hf⟩ := h
    obtain ⟨xs, n, _, _, _, hxl, hg⟩ := DataW.trod_struct Try.underlying32 hf
    have hx2 : xs.length = 2 := hxl
    match xs, hx2 with
    | [y0, y1], _ =>
      have g0 : DataW.trod enc Try.prog W 0 (fun _ => true) true n 29 [c0, c1, c2] = some y0 := by
        have := hg 0 _ rfl
        simpa [Value.cells, show Try.prog.cellsOf 29 = 3 by kernel_rfl] using this
      have g1 : DataW.trod enc Try.prog W 0 (fun _ => true) true n 30 [c3] = some y1 := by
        have := hg 1 _ rfl
        simpa [Value.cells, show Try.prog.cellsOf 30 = 1 by kernel_rfl] using this
      obtain ⟨ys, m, _, _, _, hyl, ha⟩ := DataW.trod_array Try.underlying29 g0
      match ys, hyl with
      | [z0, z1, z2], _ =>
        have e5 : Try.prog.cellsOf 5 = 1 := by kernel_rfl
        have a0 : DataW.trod enc Try.prog W 0 (fun _ => true) true m 5 [c0] = some z0 := by simpa [e5] using ha 0 (by omega)
        have a1 : DataW.trod enc Try.prog W 0 (fun _ => true) true m 5 [c1] = some z1 := by simpa [e5] using ha 1 (by omega)
        have a2 : DataW.trod enc Try.prog W 0 (fun _ => true) true m 5 [c2] = some z2 := by simpa [e5] using ha 2 (by omega)
        obtain ⟨s0, q0, _, w0⟩ := DataW.trod_int Try.underlying5 a0
        obtain ⟨s1, q1, _, w1⟩ := DataW.trod_int Try.underlying5 a1
        obtain ⟨s2, q2, _, w2⟩ := DataW.trod_int Try.underlying5 a2
        simp only [List.cons.injEq, and_true] at q0 q1 q2
        subst q0 q1 q2
        rcases open_ints Try.underlying30 Try.underlying5 e5 g1 with ⟨hcs, _⟩ | ⟨a, l', c', zs, hcs, _, hl, hm, hz, _, hcell, hwz⟩
        · simp only [List.cons.injEq, and_true] at hcs
          subst hcs
          exact ⟨s0, s1, s2, none, 0, 0, rfl, bounds_u8 w0, bounds_u8 w1, bounds_u8 w2, Nat.le_refl _, ⟨fun h => absurd h (by omega)⟩⟩
        · simp only [List.cons.injEq, and_true] at hcs
          subst hcs
          simp only [if_true] at hz
          refine ⟨s0, s1, s2, some a, l', c', rfl, bounds_u8 w0, bounds_u8 w1, bounds_u8 w2, hl, ⟨fun h0 => ?_⟩⟩
          have h00 := hcell 0 (by omega)
          obtain ⟨b, off, spot⟩ := a
          have hs : spot = none := by simpa [Addr.add] using addr_none h00
          subst hs
          refine ⟨b, off, rfl, ?_, fun i hi => ?_⟩
          · have := World.block_lt_of_cell? W _ h00
            rw [add_mk] at this
            exact this
          · have h1 := hcell i (by omega)
            rw [add_mk] at h1
            have hb := bounds_u8 (hwz (zs.getD i 0) (by rw [getD_of_lt _ _ (by omega)]; exact List.getElem_mem _))
            exact ⟨_, hb.1, hb.2, h1⟩

theorem Prob_sys {w : World} {s0 s1 s2 : Int} {A : Option Addr} {k0 c : Nat} (h : ProbIs w s0 s1 s2 A k0 c) : Calls Try.prog 16 #[.agg #[.int .u8 s0, .int .u8 s1, .int .u8 s2, .slice A k0 c]] w (SysPost w) := by
  by_cases h3 : 300 < k0
  · refine system_any A 300 k0 c s0 s1 s2 w ⟨fun h0 => ?_⟩ (by omega) (by rw [if_pos (by omega)]; rfl) h.le h.b0 h.b1 h.b2
    obtain ⟨b, off, e, hb, hc⟩ := h.u.cells (by omega)
    exact ⟨b, off, e, hb, fun i hi => hc i (by omega)⟩
  · exact system_any A k0 k0 c s0 s1 s2 w h.u (by omega) (if_neg (by omega)) h.le h.b0 h.b1 h.b2
theorem ProbIs.alloc {w : World} {s0 s1 s2 : Int} {A : Option Addr} {k0 c : Nat} (h : ProbIs w s0 s1 s2 A k0 c) (o : Obj) : ProbIs (w.alloc o) s0 s1 s2 A k0 c :=
  ⟨h.b0, h.b1, h.b2, h.le, ⟨fun hn => by
    obtain ⟨b, off, e, hb, hc⟩ := (h.u.below ((Below.refl w.heap.size w).alloc (Nat.le_refl _) o)).cells hn
    exact ⟨b, off, e, by simp; omega, hc⟩⟩⟩
theorem ok_of_sys {n : Nat} {l : List D} (h : ∀ d ∈ l, SysD n d) : Ok l n := fun d hd => by obtain ⟨h1, h2, h3, h4⟩ := h d hd; exact ⟨h1, by omega, by omega⟩
theorem ap_of_sys {n : Nat} {l : List D} (h : ∀ d ∈ l, SysD n d) : Apart l := fun d hd => (h d hd).2.1
end Go.Proofs.Ytdcgebafmceajaa
