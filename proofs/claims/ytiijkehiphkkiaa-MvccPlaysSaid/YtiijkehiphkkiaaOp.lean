/-
  A script, the argument of the four laws of the clock, opened: its cells, and how long it can be.
-/
import Derived.Test.YtiijkehiphkkiaaRows
import Derived.WalkKit
import Derived.ProofKit
import Derived.OpenShut
import Derived.SizedLaws
import Derived.Deep.SlicePairs
import Derived.OneCell
namespace Go.Proofs.Ytiijkehiphkkiaa
open Go.ChangeShapes Go.WideShapes Go.ChangeAt Go.RowKit Go.Deep

/-- A slice of N calls: the cells of each. -/
def OpsAt (w : World) (b off N : Nat) (K T : Nat → Int) : Prop :=
  b < w.heap.size ∧ ∀ i, i < N → w.cell? ⟨b, off + i * 2, none⟩ = some (.int .i64 (K i)) ∧ w.cell? ⟨b, off + i * 2 + 1, none⟩ = some (.int .i64 (T i)) ∧ (Lit.int .i64 (T i)).wf = true

theorem cell_at {w : World} {a : Addr} {j : Nat} {v : Value} (h : w.cell? (a.add j) = some v) (h0 : a.spot = none) : w.cell? ⟨a.block, a.off + j, none⟩ = some v := by
  obtain ⟨b, off, sp⟩ := a
  simp only at h0
  subst h0
  rw [← h]; congr 1
  cases j <;> simp [Addr.add]

theorem spot_none {w : World} {a : Addr} {v : Value} (h : w.cell? (a.add 0) = some v) : a.spot = none ∧ a.block < w.heap.size := by
  have e : a.add 0 = a := by simp [Addr.add]
  rw [e] at h
  unfold World.cell? at h
  cases hh : w.heap[a.block]? with
  | none => rw [hh] at h; cases h
  | some o =>
    refine ⟨?_, lt_of_block hh⟩
    rw [hh] at h
    cases o with
    | cells c t f =>
      simp only at h
      by_cases hs : a.spot.isSome = true
      · rw [if_pos hs] at h; cases h
      · simpa using hs
    | _ => cases h

theorem open_ops {H : Type} {enc : TypeId × Value → H} {W : World} {p : Option Addr} {len cap : Nat} {d : DataW H} {ps : List MemPlace} {ts : List TypeId} {ds : List (DataW H)} {j : Nat}
    (hsz : (DataW.weightsEach Try.prog ts ds).all (· ≤ reachBytes) = true) (ht : ts[j]? = some 22) (hd : ds[j]? = some d)
    (h : DataW.Trod enc Try.prog W 0 (fun _ => true) true 22 (.slice p len cap) d ps) :
    len * 16 ≤ 140737488351232 ∧ (len = 0 ∨ ∃ b off K T, p = some ⟨b, off, none⟩ ∧ OpsAt W b off len K T) := by
  obtain ⟨fuel, hf⟩ := h
  have hb : Try.prog.bytesOf 28 = 16 := by kernel_rfl
  rcases open_slice_pairs Try.underlying22 Try.underlying28 (by kernel_rfl) rfl rfl (by kernel_rfl) (by kernel_rfl) hf with ⟨hcs, _⟩ | ⟨a, l, c, m, n, V0, V1, D0, D1, P0, P1, hcs, _, hl, hm, hmm, hx, hi⟩
  · simp [Value.cells] at hcs
    obtain ⟨rfl, rfl, rfl⟩ := hcs
    exact ⟨by simp, .inl rfl⟩
  · simp [Value.cells] at hcs
    obtain ⟨rfl, rfl, rfl⟩ := hcs
    obtain ⟨hx, _⟩ := Prod.mk.inj hx
    subst hx
    have z := sized_slice hsz ht hd Try.underlying22
    rw [hb] at z
    simp at z
    have z2 : len * 16 ≤ 140737488351232 := Nat.le_trans (Nat.mul_le_mul_right _ (by omega)) z
    refine ⟨z2, ?_⟩
    by_cases h0 : len = 0
    · exact .inl h0
    · right
      have hm2 : m = cap := by simpa using hmm
      obtain ⟨q0, _⟩ := hi 0 (by omega)
      obtain ⟨sp, hlt⟩ := spot_none q0
      have hint : ∀ i, ∃ x y : Int, i < m → V0 i = .int .i64 x ∧ V1 i = .int .i64 y ∧ (Lit.int .i64 y).wf = true := fun i => by
        by_cases hi' : i < m
        · obtain ⟨_, _, t0, t1⟩ := hi i hi'
          obtain ⟨x, e0, _, _⟩ := DataW.trod_int Try.underlying3 t0
          obtain ⟨y, e1, _, wy⟩ := DataW.trod_int Try.underlying2 t1
          simp at e0 e1
          exact ⟨x, y, fun _ => ⟨e0, e1, wy⟩⟩
        · exact ⟨0, 0, fun h => absurd h hi'⟩
      refine ⟨a.block, a.off, fun i => Classical.choose (hint i), fun i => Classical.choose (Classical.choose_spec (hint i)), ?_, hlt, fun i hil => ?_⟩
      · obtain ⟨b, off, s⟩ := a; simp only at sp; subst sp; rfl
      · obtain ⟨e0, e1, wy⟩ := Classical.choose_spec (Classical.choose_spec (hint i)) (by omega)
        obtain ⟨c0, c1, _, _⟩ := hi i (by omega)
        refine ⟨?_, ?_, wy⟩
        · rw [cell_at c0 sp, e0]
        · have := cell_at c1 sp
          rw [← Nat.add_assoc] at this
          rw [this, e1]

end Go.Proofs.Ytiijkehiphkkiaa
