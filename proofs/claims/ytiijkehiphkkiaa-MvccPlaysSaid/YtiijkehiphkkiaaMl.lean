/-
  The contracts of the package mvcc, the lists: slices.Repeat at one time, (set).list, Flight and Pins. No conditions but sizes.
-/
import Derived.Test.YtiijkehiphkkiaaMw
import Derived.Test.YtiijkehiphkkiaaLay
import Derived.OwnWalk
import Derived.Laws.CopyOwn
import Derived.Deep.RegionLaw
import Derived.Deep.AppendLies
namespace Go.Proofs.Ytiijkehiphkkiaa
open Go.RowKit Go.Maps

theorem info2 : (Try.prog.info? 2).map (fun i => (i.zero, i.size, i.bytes)) = some (some (.int .i64 0), 1, 8) := by kernel_rfl
theorem size2 : (Try.prog.info? 2).map (·.size) = some 1 := by kernel_rfl

theorem mul_one (k : Nat) (hk : k < 18446744073709551616) (w : World) : Calls Try.prog 110 #[.int .u64 1, .int .u64 k] w fun e w' => e = .returned (.tuple #[.int .u64 0, .int .u64 k]) ∧ w = w' :=
  (Try.bits_Mul 1 k (by omega) hk w).mono fun e w' ⟨he, hw⟩ => ⟨by
    rw [he]
    have e1 : 1 * k / 18446744073709551616 = 0 := by rw [Nat.one_mul]; exact Nat.div_eq_of_lt hk
    have e2 : 1 * k % 18446744073709551616 = k := by rw [Nat.one_mul]; exact Nat.mod_eq_of_lt hk
    rw [e1, e2]; rfl, hw.symm⟩

theorem heap_of_owns {w : World} {base g k : Nat} {e : TypeId} {xs : List Value} (h : w.ownsRow base e 1 (.slice (some ⟨g, 0, none⟩) k k) k xs) : w.heap[g]? = some (.cells xs.toArray e (0, 0)) := by
  obtain ⟨h1, h2⟩ := h
  rcases h2 with ⟨h2, _⟩ | ⟨g', cap, cur, hv, hb, hg, h3, h4, h5, h6⟩
  · cases h2
  · cases hv
    rw [hg, ← h6, List.take_of_length_le (by simp; omega)]

theorem made_zero {w : World} {base g k : Nat} {e : TypeId} (h : w.ownsRow base e 1 (.slice (some ⟨g, 0, none⟩) k k) k (madeCells (Value.int IntKind.i64 0).cells (k * 1)).toList) :
    w.heap[g]? = some (.cells (List.replicate k (.int .i64 0)).toArray e (0, 0)) := by
  have h2 := heap_of_owns h
  rw [h2, show (Value.int IntKind.i64 0).cells = #[.int .i64 0] from rfl, toList_madeCells_one, Nat.mul_one]

/-- Block g holds t as often as m says, and then zeros, k in all. -/
def RepAt (w : World) (g k m : Nat) (t : Int) : Prop := w.heap[g]? = some (.cells (List.replicate m (Value.int .i64 t) ++ List.replicate (k - m) (Value.int .i64 0)).toArray 2 (0, 0))
theorem RepAt.out {w : World} {g k m : Nat} {t : Int} (h : RepAt w g k m t) : w.heap[g]? = some (.cells (List.replicate m (Value.int .i64 t) ++ List.replicate (k - m) (Value.int .i64 0)).toArray 2 (0, 0)) := h
theorem RepAt.cells {w : World} {g k m : Nat} {t : Int} (h : RepAt w g k m t) : ∀ j v, (List.replicate (min m (k - m)) (Value.int .i64 t))[j]? = some v → w.cell? ((⟨g, 0, none⟩ : Addr).add j) = some v := by
  intro j v hj
  rw [List.getElem?_replicate] at hj
  by_cases e : j < min m (k - m)
  · rw [if_pos e] at hj; cases hj
    have h1 : (List.replicate m (Value.int .i64 t) ++ List.replicate (k - m) (Value.int .i64 0))[j]? = some (.int .i64 t) := by rw [List.getElem?_append_left (by simp; omega), List.getElem?_replicate, if_pos (by omega)]
    have e2 : ((⟨g, 0, none⟩ : Addr).add j) = ⟨g, j, none⟩ := by cases j <;> simp [Addr.add]
    rw [e2]
    simp only [World.cell?, h.out]
    simpa using h1
  · rw [if_neg e] at hj; cases hj

theorem splice_first {w : World} {g k : Nat} {t : Int} (h1 : 1 ≤ k) : Hid (w.heap[g]? = some (.cells (splice (List.replicate k (Value.int .i64 0)) 0 [.int .i64 t]).toArray 2 (0, 0))) = RepAt w g k 1 t := by
  unfold Hid RepAt splice
  obtain ⟨k, rfl⟩ : ∃ m, k = m + 1 := ⟨k - 1, by omega⟩
  simp [List.replicate_succ]

theorem RepAt.more {w : World} {g k m : Nat} {t : Int} (hm : m ≤ k) (h : Hid (w.heap[g]? = some (.cells (splice (List.replicate m (Value.int .i64 t) ++ List.replicate (k - m) (Value.int .i64 0)) m (List.replicate (min m (k - m)) (Value.int .i64 t))).toArray 2 (0, 0)))) :
    RepAt w g k (m + min m (k - m)) t := by
  have h1 := h.out
  unfold RepAt
  rw [h1]
  congr 3
  unfold splice
  rw [List.take_left' (by simp), List.drop_append, List.length_replicate, List.length_replicate, List.drop_of_length_le (by simp), List.nil_append, ← List.append_assoc, List.replicate_append_replicate, List.drop_replicate]
  congr 2
  omega

theorem RepAt.full {w : World} {g k : Nat} {t : Int} (h : RepAt w g k k t) : w.heap[g]? = some (.cells (List.replicate k (Value.int .i64 t)).toArray 2 (0, 0)) := by
  unfold RepAt at h
  simpa using h

theorem reps_one (n : Nat) (t : Int) : ∀ v ∈ List.replicate n (Value.int .i64 t), v.oneCell' = true := by
  intro v hv; rw [(List.mem_replicate.1 hv).2]; rfl

theorem one_cell {w : World} {a : Addr} {v : Value} (h : w.cell? a = some v) : ∀ j u, [v][j]? = some u → w.cell? (a.add j) = some u := by
  intro j u hj
  cases j with
  | zero => simp at hj; subst hj; exact h
  | succ j => simp at hj

set_option maxRecDepth 100000 in
set_option maxHeartbeats 1000000 in
theorem repeat_any (bx k : Nat) (t : Int) (w : World) (hc : w.cell? ⟨bx, 0, none⟩ = some (.int .i64 t)) (hb : bx < w.heap.size) (h1 : 1 ≤ k) (hk : k * 8 ≤ 281474976710656) :
    Calls Try.prog 91 #[.slice (some ⟨bx, 0, none⟩) 1 1, .int .i64 k] w fun e w' => ∃ g, e = .returned (.slice (some ⟨g, 0, none⟩) k k) ∧ w.heap.size ≤ g ∧ w'.heap[g]? = some (.cells (List.replicate k (.int .i64 t)).toArray 2 (0, 0)) ∧ Below w.heap.size w w' := by
  obtain ⟨i0, hi, hz0, hz1, hz2⟩ := info_parts info2
  go_enter Try.func91, Try.ntmps91
  go_wp2_with (first
    | (go_at_call 110; refine (mul_one k (by omega) _).mono ?_; rintro e w' ⟨rfl, rfl⟩)
    | (at_make; refine wpList_make_full _ rfl _ _ 26 rfl w.heap.size 2 i0 (.int .i64 0) 1 Try.underlying26 hi hz0 hz1 .i64 .i64 _ _ k rfl rfl rfl rfl (by rw [hz2]; omega) (by unfold maxLen; omega) (Nat.le_refl _) ?_; intro w1 hown1 hgrow1; have HZ := Lib.hid (made_zero hown1); have hg1 := (Below.refl w.heap.size w).grown hgrow1 (Nat.le_refl _) (fun r e => by cases e); have hc1 : w1.cell? ⟨bx, 0, none⟩ = some (.int .i64 t) := (hg1.cell (p := ⟨bx, 0, none⟩) hb).trans hc; clear hown1 hgrow1)
    | (with_reducible refine wpList_copy_splice rfl (.tmp 31) (.tmp 32) 26 26 rfl 2 Try.underlying26 size2 _ _ _ _ _ _ rfl rfl w.heap.size 0 (List.replicate k (.int .i64 0)) 2 HZ.out [.int .i64 t] (by simp [Nat.min_def]; omega) (fun _ => ⟨rfl, _, rfl, one_cell hc1⟩) (by simp; omega) (by simp [Value.oneCell']) w.heap.size w hg1 (Nat.le_refl _) ?_))
  intro w2 H2 hb2
  rw [splice_first h1] at H2
  go_wp2
  go_loopw [8] (fun v wr => ∃ m : Nat, 1 ≤ m ∧ m ≤ k ∧ v = .int .i64 m ∧ RepAt wr w.heap.size k m t ∧ Below w.heap.size w wr) (fun v _ => k - (intOf v).toNat)
  case atStart => exact ⟨1, by omega, h1, rfl, H2, hb2⟩
  case round =>
    obtain ⟨m, hm1, hm2, rfl, hR, hbr⟩ := hrel
    by_cases hlt : m < k
    · go_wp2
      have hne : ¬ k = m := by omega
      have hR' : RepAt wr.drew w.heap.size k m t := hR
      go_region_law (refine step_copy_splice rfl (.tmp 41) (.tmp 44) 26 26 rfl 2 Try.underlying26 size2 (some ⟨w.heap.size, m, none⟩) (some ⟨w.heap.size, 0, none⟩) (k - m) (k - m) m k ?hd ?hs w.heap.size m (List.replicate m (Value.int .i64 t) ++ List.replicate (k - m) (Value.int .i64 0)) 2 (RepAt.out hR') (List.replicate (min m (k - m)) (Value.int .i64 t)) (by simp [Nat.min_def]) (fun _ => ⟨rfl, _, rfl, RepAt.cells hR'⟩) (by simp; omega) (reps_one _ _) w.heap.size w hbr.drew (Nat.le_refl _) ?h; (case hd => go_simp); (case hs => go_simp); intro w3 H3 hb3)
      have hlen : (List.replicate (min m (k - m)) (Value.int .i64 t)).length = min m (k - m) := by simp
      have H4 := RepAt.more (by omega) H3
      clear H3
      go_wp2
      go_roundw
      case rel =>
        (repeat apply Exists.intro)
        refine ⟨⟨m + min m (k - m), by omega, by omega, ?e8, H4, hb3⟩, ?fr⟩
        case fr => rfl
        case e8 => exact congrArg _ ((IntWalk.i64_in _ (by omega)).trans (by omega))
      case measure =>
        change k - (IntKind.i64.wrap ((m : Int) + ((min m (k - m) : Nat) : Int))).toNat < k - ((m : Int)).toNat
        rw [IntWalk.i64_in _ (by omega)]; omega
    · obtain rfl : m = k := by omega
      go_wp2
      go_ret
      exact ⟨_, rfl, Nat.le_refl _, RepAt.full hR, hbr⟩

/-- A list without what comes twice. -/
def dd : List Int → List Int
  | [] => []
  | a :: l => if a ∈ l then dd l else a :: dd l

theorem mem_dd (x : Int) : ∀ l : List Int, x ∈ dd l ↔ x ∈ l
  | [] => by simp [dd]
  | a :: l => by
    have h := mem_dd x l
    unfold dd
    by_cases e : a ∈ l
    · rw [if_pos e, h]; simp only [List.mem_cons]
      exact ⟨fun h => .inr h, fun h => h.elim (fun h => h ▸ e) id⟩
    · rw [if_neg e]; simp only [List.mem_cons, h]

theorem nodup_dd : ∀ l : List Int, (dd l).Nodup
  | [] => by simp [dd]
  | a :: l => by
    have h := nodup_dd l
    unfold dd
    by_cases e : a ∈ l
    · rw [if_pos e]; exact h
    · rw [if_neg e]; exact List.nodup_cons.2 ⟨fun h' => e ((mem_dd a l).1 h'), h⟩

/-- The times of ks, each as often as it stands in l. -/
def spread (l ks : List Int) : List Int := ks.flatMap fun t => List.replicate (l.count t) t

theorem count_spread (l : List Int) (x : Int) : ∀ ks : List Int, ks.Nodup → (spread l ks).count x = if x ∈ ks then l.count x else 0
  | [], _ => by simp [spread]
  | a :: ks, h => by
    have h2 := List.nodup_cons.1 h
    have ih := count_spread l x ks h2.2
    unfold spread at ih ⊢
    rw [List.flatMap_cons, List.count_append, ih, List.count_replicate]
    by_cases e : x = a
    · subst e; simp [h2.1]
    · have e2 : ¬ a = x := fun h => e h.symm
      simp [e, e2]

theorem sorted_spread (l : List Int) : ∀ ks : List Int, ks.Pairwise (· ≤ ·) → (spread l ks).Pairwise (· ≤ ·)
  | [], _ => by simp [spread]
  | a :: ks, h => by
    have h2 := List.pairwise_cons.1 h
    have ih := sorted_spread l ks h2.2
    unfold spread at ih ⊢
    rw [List.flatMap_cons, List.pairwise_append]
    refine ⟨List.pairwise_replicate.2 (.inr (Int.le_refl _)), ih, fun x hx y hy => ?_⟩
    rw [(List.mem_replicate.1 hx).2]
    obtain ⟨t, ht, hyt⟩ := List.mem_flatMap.1 hy
    rw [(List.mem_replicate.1 hyt).2]
    exact h2.1 t ht

/-- A list in rising order. -/
def rise (l : List Int) : List Int := l.mergeSort fun x y => decide (x ≤ y)

theorem rise_sorted (l : List Int) : (rise l).Pairwise (· ≤ ·) := by
  have h := List.pairwise_mergeSort (le := fun x y : Int => decide (x ≤ y)) (fun a b c h1 h2 => by simp at *; omega) (fun a b => by simp; omega) l
  exact h.imp (fun h => by simpa using h)

theorem rise_perm (l : List Int) : (rise l).Perm l := List.mergeSort_perm _ _

theorem eq_of_sorted {a b : List Int} (h1 : a.Pairwise (· ≤ ·)) (h2 : b.Pairwise (· ≤ ·)) (h : a.Perm b) : a = b :=
  h.eq_of_pairwise (fun x y _ _ h3 h4 => by omega) h1 h2

theorem spread_rise {l ss : List Int} (h : ss.Perm (dd l)) : spread l (rise ss) = rise l := by
  have hn : (rise ss).Nodup := ((rise_perm ss).trans h).nodup_iff.2 (nodup_dd l)
  refine eq_of_sorted (sorted_spread l _ (rise_sorted ss)) (rise_sorted l) (List.perm_iff_count.2 fun x => ?_)
  rw [count_spread l x _ hn, (rise_perm l).count_eq]
  by_cases e : x ∈ l
  · rw [if_pos (((rise_perm ss).trans h).mem_iff.2 ((mem_dd x l).2 e))]
  · rw [List.count_eq_zero.2 e]; simp

end Go.Proofs.Ytiijkehiphkkiaa
