/- An append onto a row of the call's own, that keeps what the old slice shows; rows of the call's own over calls that touch one block. -/
import Derived.Test.YtdcgebafmceajaaRing
import Derived.ArgAppend
namespace Go.Proofs.Ytdcgebafmceajaa
open Go.RowKit Go.Deep
set_option linter.unusedVariables false

theorem own_base {w : World} {b b' e size n : Nat} {v : Value} {xs : List Value} (h : w.ownsRow b e size v n xs) (hb : b' ≤ b) : w.ownsRow b' e size v n xs := by
  refine ⟨h.1, ?_⟩
  rcases h.2 with h0 | ⟨g, cap, cur, hv, hg, hr⟩
  · exact .inl h0
  · exact .inr ⟨g, cap, cur, hv, by omega, hr⟩
theorem Touch.grown1 {w w' : World} {g : Nat} (h : Touch [g] w w') : w.grownBy w' (some g) := ⟨h.os, h.tape, h.output, h.size, fun k hk hne => h.block k hk (by simpa using fun e => hne (by rw [e]))⟩
theorem own_touch {w w' : World} {g b e size n : Nat} {v : Value} {xs : List Value} (h : w.ownsRow b e size v n xs) (ht : Touch [g] w w') (hne : v.ownBlock ≠ some g) : w'.ownsRow b e size v n xs := h.kept ht.grown1 (.inr hne)
theorem own_ne_lt {w : World} {g b e size n : Nat} {v : Value} {xs : List Value} (h : w.ownsRow b e size v n xs) (hg : g < b) : v.ownBlock ≠ some g := fun e => by have := (h.lt g e).1; omega
theorem own_ne_new {w : World} {g b e size n : Nat} {v : Value} {xs : List Value} (h : w.ownsRow b e size v n xs) (hg : w.heap.size ≤ g) : v.ownBlock ≠ some g := fun e => by have := (h.lt g e).2; omega

section
variable {P : Program} (w : World)
theorem run_append_keep (base : Nat) (t ty e : TypeId) (i : TypeInfo) (z : Value) (size bytes : Nat) (ht : P.underlying t = some (.slice e)) (hi : P.info? e = some i) (hz : i.zero = some z)
    (hsize : i.size = size) (hby : i.bytes = bytes) (hzs : z.cells.size = size) (hsz : 0 < size)
    (v : Value) (n : Nat) (xs : List Value) (hown : w.ownsRow base e size v n xs)
    (a : Addr) (m c : Nat) (news : List Value) (hl : news.length = m * size) (hnews : ∀ j u, news[j]? = some u → w.cell? (a.add j) = some u) (h1 : ∀ u ∈ news, u.oneCell' = true)
    (h63 : n + m ≤ maxLen) (hbytes : (n + m) * bytes ≤ 140737488355328) (hbase : base ≤ w.heap.size) :
    ∃ v' w', (Builtin.append_ #[t, t] ty #[v, .slice (some a) m c]).run P w = .ok v' w' ∧ w'.ownsRow base e size v' (n + m) (xs ++ news) ∧ w.grownBy w' v.ownBlock ∧
      ∀ g, v.ownBlock = some g → ∀ j, j < n * size → w'.cell? ⟨g, j, none⟩ = w.cell? ⟨g, j, none⟩ := by
  rcases hown.2 with ⟨rfl, rfl⟩ | ⟨g, cap, cur, rfl, hg, hh, hnc, hcm, hcs, htk⟩
  · obtain ⟨v', w', h2, h3, h4, _⟩ := run_append_own (P := P) w base t ty e i z size bytes ht hi hz hsize hby hzs hsz _ _ _ hown a m c news hl hnews h1 h63 hbytes hbase
    exact ⟨v', w', h2, h3, h4, fun g hg => by simp [Value.ownBlock] at hg⟩
  · by_cases hroom : n + m ≤ cap
    · obtain ⟨w', h2, h3, h4⟩ := run_append_fits (P := P) w base t ty e i size ht hi hsize g n cap xs hown a m c news hl hnews h1 hroom
      refine ⟨_, w', h2, h3, h4, fun g' hg' j hj => ?_⟩
      obtain rfl : g = g' := by simpa [Value.ownBlock] using hg'
      rw [h3.cellAt j (by rw [Nat.add_mul]; omega), hown.cellAt j hj, List.getElem?_append_left (by rw [hown.1]; exact hj)]
    · obtain ⟨v', w', h2, h3, h4⟩ := run_append_arg_grows (P := P) w t ty e i z size bytes ht hi hz hsize hby hzs hsz ⟨g, 0, none⟩ n cap xs hown.1 (hown.cells (g := g) rfl) a m c news hl hnews (by omega) h63 hbytes
      refine ⟨v', w', h2, own_base h3 hbase, ⟨h4.os, h4.tape, h4.output, h4.size, fun k hk _ => h4.block k hk (by simp)⟩, fun g' hg' j hj => ?_⟩
      obtain rfl : g = g' := by simpa [Value.ownBlock] using hg'
      exact World.cell?_of_block (h4.block g (hown.lt g rfl).2 (by simp))

theorem wpList_append_keep {ops : Array Oper} {rest : List Oper} {o : Oper} {a : Act} {Q : Exit → Act → World → Prop} (hgd : o.guard = none) (s x : Operand) (t : TypeId)
    (ho : o.op = .call { callee := .builtin .append, args := #[s, x], argTypes := #[t, t] })
    (base : Nat) (e : TypeId) (i : TypeInfo) (z : Value) (size bytes : Nat) (ht : P.underlying t = some (.slice e)) (hi : P.info? e = some i) (hz : i.zero = some z)
    (hsize : i.size = size) (hby : i.bytes = bytes) (hzs : z.cells.size = size) (hsz : 0 < size)
    (v : Value) (n : Nat) (xs : List Value) (hs : a.eval s = v) (hown : w.ownsRow base e size v n xs)
    (ad : Addr) (m c : Nat) (news : List Value) (hx : a.eval x = .slice (some ad) m c) (hl : news.length = m * size) (hnews : ∀ j u, news[j]? = some u → w.cell? (ad.add j) = some u) (h1 : ∀ u ∈ news, u.oneCell' = true)
    (h63 : n + m ≤ maxLen) (hbytes : (n + m) * bytes ≤ 140737488355328) (hbase : base ≤ w.heap.size)
    (h : ∀ v' w', w'.ownsRow base e size v' (n + m) (xs ++ news) → w.grownBy w' v.ownBlock → (∀ g, v.ownBlock = some g → ∀ j, j < n * size → w'.cell? ⟨g, j, none⟩ = w.cell? ⟨g, j, none⟩) → wpList P ops Q rest (a.put o.dst v') w') : wpList P ops Q (o :: rest) a w :=
  wpList_plain hgd fun _ hK => by
    obtain ⟨v', w', hrun, h2, h3, h4⟩ := run_append_keep (P := P) w base t o.type e i z size bytes ht hi hz hsize hby hzs hsz v n xs hown ad m c news hl hnews h1 h63 hbytes hbase
    unfold Oper.wp execOp
    simp only [ho, resolve, invoke, builtin, Sem.run_bind, Sem.run_pure, Result.andThen_ok, List.map_toArray, List.map_cons, List.map_nil, hs, hx, hrun]
    exact hK _ _ (h v' w' h2 h3 h4)
end
end Go.Proofs.Ytdcgebafmceajaa
