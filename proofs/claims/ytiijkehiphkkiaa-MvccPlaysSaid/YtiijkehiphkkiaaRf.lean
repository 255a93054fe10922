/-
  The reference of the clock: its functions on lists of times, over slices of the call's own.
-/
import Derived.Test.YtiijkehiphkkiaaEn
namespace Go.Proofs.Ytiijkehiphkkiaa
open Go.RowKit Go.Maps Go.Sort

/-- An own slice's cells. -/
theorem Ints.cells {w : World} {B : Nat} {g cap : Nat} {l : List Int} (h : Ints w B (.slice (some ⟨g, 0, none⟩) l.length cap) l) : ∀ j, (hj : j < l.length) → ∃ x, x = l[j] ∧ w.cell? ⟨g, j, none⟩ = some (.int .i64 x) := fun j hj =>
  ⟨_, rfl, by rw [h.row.cellAt j (by omega), List.getElem?_map, List.getElem?_eq_getElem hj]; rfl⟩

theorem Ints.shape {w : World} {B : Nat} {v : Value} {l : List Int} (h : Ints w B v l) : (v = .slice none 0 0 ∧ l = []) ∨
    ∃ g cap, v = .slice (some ⟨g, 0, none⟩) l.length cap ∧ B ≤ g ∧ g < w.heap.size ∧ l.length ≤ 9223372036854775807 := by
  rcases h.row.2 with ⟨rfl, hz⟩ | ⟨g, cap, cur, rfl, p2, p3, p4, p5, p6, p7⟩
  · exact .inl ⟨rfl, List.eq_nil_of_length_eq_zero hz⟩
  · exact .inr ⟨g, cap, rfl, p2, lt_of_block p3, by unfold maxLen at p5; omega⟩

theorem Ints.drewN {w : World} {B : Nat} {v : Value} {l : List Int} (h : Ints w B v l) (k : Nat) : Ints (w.drewN k) B v l := ⟨h.row⟩
theorem _root_.Go.RowKit.Below.dN {B : Nat} {w w' : World} (h : Below B w w') (k : Nat) : Below B w (w'.drewN k) := ⟨h.os, h.tape, h.output, h.size, h.block⟩

theorem empty_row (w : World) (B : Nat) (h : B ≤ w.heap.size) : Ints (w.alloc (.cells #[] 2 (0, 0))) B (.slice (some ⟨w.heap.size, 0, none⟩) 0 0) [] :=
  ⟨⟨rfl, .inr ⟨w.heap.size, 0, #[], rfl, h, (MapKept.heap_alloc _ _).1, Nat.le_refl _, by unfold maxLen; omega, rfl, rfl⟩⟩⟩

theorem take_snoc_i (l : List Int) (j : Nat) (hj : j < l.length) (x : Int) (hx : x = l[j]) : l.take (j + 1) = l.take j ++ [x] := by
  rw [hx, List.take_succ_eq_append_getElem hj]

set_option maxRecDepth 100000 in
set_option maxHeartbeats 1000000 in
theorem put_any (B : Nat) (v : Value) (l : List Int) (t : Int) (w : World) (hI : Ints w B v l) (hl : (l.length + 1) * 8 ≤ 140737488355328) :
    Calls Try.prog 92 #[v, .int .i64 t] w fun e w' => ∃ v', e = .returned v' ∧ Ints w' w.heap.size v' (l ++ [t]) ∧ Below w.heap.size w w' := by
  obtain ⟨i0, hi, hz0, hz1, hz2⟩ := info_parts info2
  have h0 := empty_row w w.heap.size (Nat.le_refl _)
  have hb0 : Below w.heap.size w (w.alloc (.cells #[] 2 (0, 0))) := (Below.refl _ _).alloc (Nat.le_refl _) _
  rcases hI.shape with ⟨rfl, rfl⟩ | ⟨g, cap, rfl, hBg, hg, hl63⟩
  · go_enter Try.func92, Try.ntmps92
    go_wp2
    refine wp_loop_rounds 1 ?_
    rw [rounds_succ]
    have hszb := hb0.size
    generalize w.alloc (.cells #[] 2 (0, 0)) = wb at *
    go_wp2_with (at_builtin; refine wpList_append_own _ rfl _ _ 26 rfl w.heap.size 2 i0 (.int .i64 0) 1 8 Try.underlying26 hi hz0 hz1 hz2 rfl (by decide) _ _ _ rfl (h0.below ((Below.refl _ _).alloc (Nat.le_refl _) _)).row ⟨wb.heap.size, 0, none⟩ 1 1 [.int .i64 t] rfl (by simp) (cell_one_new _ _ _) (by simp [Value.oneCell']) (by simp; unfold maxLen; omega) (by simp) (by simp; omega) ?_; intro v' w4 hown4 hgrow4 hnil4)
    go_ret
    exact ⟨_, rfl, ⟨by simpa using hown4⟩, (hb0.alloc hszb _).grown hgrow4 (by simp; omega) h0.ownBlock⟩
  · have HC := Lib.hid hI.cells
    clear hI
    go_enter Try.func92, Try.ntmps92
    go_wp2
    go_loopw [5, 6] (fun v5 v6 wr => ∃ j : Nat, j ≤ l.length ∧ v6 = .int .i64 j ∧ Ints wr w.heap.size v5 (l.take j) ∧ Below w.heap.size w wr) (fun _ v6 _ => l.length - (intOf v6).toNat)
    case atStart => exact ⟨0, by omega, rfl, h0, hb0⟩
    case round =>
      obtain ⟨j, hj, rfl, hR, hbr⟩ := hrel
      have hszr := hbr.size
      by_cases hjl : j < l.length
      · have HJL := Lib.hid hjl
        obtain ⟨x, hx, hc⟩ := HC.out j hjl
        have hcell := (hbr.cell (p := ⟨g, j, none⟩) hg).trans hc
        have HT := Lib.hid (take_snoc_i l j hjl x hx)
        have htl : (l.take j).length ≤ j := List.length_take_le _ _
        clear hx hc
        go_wp2_with (at_builtin; refine wpList_append_own _ rfl _ _ 26 rfl w.heap.size 2 i0 (.int .i64 0) 1 8 Try.underlying26 hi hz0 hz1 hz2 rfl (by decide) _ _ _ rfl (hR.below ((Below.refl _ _).alloc (Nat.le_refl _) _)).row ⟨wr.heap.size, 0, none⟩ 1 1 [.int .i64 x] rfl (by simp) (cell_one_new _ _ _) (by simp [Value.oneCell']) (by unfold maxLen; omega) (by omega) (by simp; omega) ?_; intro v' w4 hown4 hgrow4 hnil4)
        go_roundw
        case rel =>
          have hjl2 := HJL.out
          refine ⟨j + 1, by omega, by go_num, ⟨?_⟩, (hbr.alloc hszr _).grown hgrow4 (by simp; omega) hR.ownBlock⟩
          rw [HT.out]; simpa using hown4
        case measure => have hjl2 := HJL.out; simp [intOf]; omega
      · obtain rfl : j = l.length := by omega
        rw [List.take_length] at hR
        go_wp2_with (at_builtin; refine wpList_append_own _ rfl _ _ 26 rfl w.heap.size 2 i0 (.int .i64 0) 1 8 Try.underlying26 hi hz0 hz1 hz2 rfl (by decide) _ _ _ rfl (hR.below ((Below.refl _ _).alloc (Nat.le_refl _) _)).row ⟨wr.heap.size, 0, none⟩ 1 1 [.int .i64 t] rfl (by simp) (cell_one_new _ _ _) (by simp [Value.oneCell']) (by unfold maxLen; omega) (by omega) (by simp; omega) ?_; intro v' w4 hown4 hgrow4 hnil4)
        go_ret
        exact ⟨_, rfl, ⟨by simpa using hown4⟩, (hbr.alloc hszr _).grown hgrow4 (by simp; omega) hR.ownBlock⟩

theorem erase_snoc (p : List Int) (x t : Int) : (p ++ [x]).erase t = if t ∈ p then p.erase t ++ [x] else if x = t then p else p ++ [x] := by
  rw [List.erase_append]
  by_cases h : t ∈ p
  · rw [if_pos h, if_pos h]
  · rw [if_neg h, if_neg h]
    by_cases e : x = t
    · subst e; simp
    · rw [if_neg e, List.erase_of_not_mem (by simpa using fun h => e h.symm)]

set_option maxRecDepth 100000 in
set_option maxHeartbeats 2000000 in
theorem without_any (B : Nat) (v : Value) (l : List Int) (t : Int) (w : World) (hI : Ints w B v l) (hl : l.length * 8 ≤ 140737488355328) :
    Calls Try.prog 65 #[v, .int .i64 t] w fun e w' => ∃ v', e = .returned (.tuple #[v', .bool (isIn t l)]) ∧ Ints w' w.heap.size v' (l.erase t) ∧ Below w.heap.size w w' := by
  obtain ⟨i0, hi, hz0, hz1, hz2⟩ := info_parts info2
  have h0 := empty_row w w.heap.size (Nat.le_refl _)
  have hb0 : Below w.heap.size w (w.alloc (.cells #[] 2 (0, 0))) := (Below.refl _ _).alloc (Nat.le_refl _) _
  rcases hI.shape with ⟨rfl, rfl⟩ | ⟨g, cap, rfl, hBg, hg, hl63⟩
  · go_enter Try.func65, Try.ntmps65
    go_wp2
    refine wp_loop_rounds 1 ?_
    rw [rounds_succ]
    go_wp2
    go_ret2
    exact ⟨_, rfl, h0, hb0⟩
  · have HC := Lib.hid hI.cells
    clear hI
    go_enter Try.func65, Try.ntmps65
    go_wp2
    go_loopw [6, 7, 8] (fun v6 v7 v8 wr => ∃ j : Nat, j ≤ l.length ∧ v8 = .int .i64 j ∧ v7 = .bool (isIn t (l.take j)) ∧ Ints wr w.heap.size v6 ((l.take j).erase t) ∧ Below w.heap.size w wr) (fun _ _ v8 _ => l.length - (intOf v8).toNat)
    case atStart => exact ⟨0, by omega, rfl, rfl, h0, hb0⟩
    case round =>
      obtain ⟨j, hj, rfl, rfl, hR, hbr⟩ := hrel
      have hszr := hbr.size
      by_cases hjl : j < l.length
      · have HJL := Lib.hid hjl
        obtain ⟨x, hx, hc⟩ := HC.out j hjl
        have hcell := (hbr.cell (p := ⟨g, j, none⟩) hg).trans hc
        have htl : (l.take j).length ≤ j := List.length_take_le _ _
        have htl2 := List.length_erase_le (a := t) (l := l.take j)
        have hes := erase_snoc (l.take j) x t
        rw [← take_snoc_i l j hjl x hx] at hes
        by_cases hxt : x = t
        · have gb : (x == t) = true := by rw [beq_iff_eq]; exact hxt
          by_cases hin : t ∈ l.take j
          · have gi : isIn t (l.take j) = true := by simpa [isIn] using hin
            rw [if_pos hin] at hes
            have gi2 : isIn t (l.take (j + 1)) = true := isIn_snoc_yes l j hjl t x hx hxt
            have HE := Lib.hid hes; have HI2 := Lib.hid gi2
            clear hx hc hxt hin hes gi2
            go_wp2_with (at_builtin; refine wpList_append_own _ rfl _ _ 26 rfl w.heap.size 2 i0 (.int .i64 0) 1 8 Try.underlying26 hi hz0 hz1 hz2 rfl (by decide) _ _ _ rfl (hR.below ((Below.refl _ _).alloc (Nat.le_refl _) _)).row ⟨wr.heap.size, 0, none⟩ 1 1 [.int .i64 x] rfl (by simp) (cell_one_new _ _ _) (by simp [Value.oneCell']) (by unfold maxLen; omega) (by omega) (by simp; omega) ?_; intro v' w4 hown4 hgrow4 hnil4)
            go_roundw
            case rel =>
              have hjl2 := HJL.out
              refine ⟨j + 1, by omega, by go_num, by rw [HI2.out], ⟨?_⟩, (hbr.alloc hszr _).grown hgrow4 (by simp; omega) hR.ownBlock⟩
              rw [HE.out]; simpa using hown4
            case measure => have hjl2 := HJL.out; simp [intOf]; omega
          · have gi : isIn t (l.take j) = false := by simpa [isIn] using hin
            rw [if_neg hin, if_pos hxt] at hes
            have gi2 : isIn t (l.take (j + 1)) = true := isIn_snoc_yes l j hjl t x hx hxt
            have h5 : (l.take j).erase t = l.take j := List.erase_of_not_mem hin
            have HE := Lib.hid hes; have HI2 := Lib.hid gi2; have H5 := Lib.hid h5
            clear hx hc hxt hin hes gi2 h5
            go_wp2
            go_roundw
            case rel =>
              have hjl2 := HJL.out
              refine ⟨j + 1, by omega, by go_num, by rw [HI2.out], ?_, hbr⟩
              rw [HE.out, ← H5.out]; exact hR
            case measure => have hjl2 := HJL.out; simp [intOf]; omega
        · have gb : (x == t) = false := by rw [beq_eq_false_iff_ne]; exact hxt
          have he2 : (l.take (j + 1)).erase t = (l.take j).erase t ++ [x] := by
            by_cases hin : t ∈ l.take j
            · rw [hes, if_pos hin]
            · rw [hes, if_neg hin, if_neg hxt, List.erase_of_not_mem hin]; exact take_snoc_i l j hjl x hx
          have gi2 : isIn t (l.take (j + 1)) = isIn t (l.take j) := isIn_snoc_no l j hjl t x hx hxt
          have HE := Lib.hid he2; have HI2 := Lib.hid gi2
          clear hx hc hxt hes gi2 he2
          go_wp2_with (at_builtin; refine wpList_append_own _ rfl _ _ 26 rfl w.heap.size 2 i0 (.int .i64 0) 1 8 Try.underlying26 hi hz0 hz1 hz2 rfl (by decide) _ _ _ rfl (hR.below ((Below.refl _ _).alloc (Nat.le_refl _) _)).row ⟨wr.heap.size, 0, none⟩ 1 1 [.int .i64 x] rfl (by simp) (cell_one_new _ _ _) (by simp [Value.oneCell']) (by unfold maxLen; omega) (by omega) (by simp; omega) ?_; intro v' w4 hown4 hgrow4 hnil4)
          all_goals
            go_roundw
            case rel =>
              have hjl2 := HJL.out
              refine ⟨j + 1, by omega, by go_num, by rw [HI2.out], ⟨?_⟩, (hbr.alloc hszr _).grown hgrow4 (by simp; omega) hR.ownBlock⟩
              rw [HE.out]; simpa using hown4
            case measure => have hjl2 := HJL.out; simp [intOf]; omega
      · obtain rfl : j = l.length := by omega
        rw [List.take_length] at hR
        go_wp2
        go_ret2
        exact ⟨_, by rw [List.take_length]; rfl, hR, hbr⟩

theorem leastOf_snoc (l : List Int) (x t : Int) : leastOf (l ++ [x]) t = min (leastOf l t) x := by
  simp [leastOf, List.foldl_append]

set_option maxRecDepth 100000 in
set_option maxHeartbeats 1000000 in
theorem least_ref (B : Nat) (v : Value) (l : List Int) (t : Int) (w : World) (hI : Ints w B v l) :
    Calls Try.prog 63 #[v, .int .i64 t] w fun e w' => e = .returned (.int .i64 (leastOf l t)) ∧ w = w' := by
  rcases hI.shape with ⟨rfl, rfl⟩ | ⟨g, cap, rfl, hBg, hg, hl63⟩
  · go_enter Try.func63, Try.ntmps63
    go_wp2
    refine wp_loop_rounds 1 ?_
    rw [rounds_succ]
    go_wp2
    go_ret
    exact ⟨rfl, rfl⟩
  · have HC := Lib.hid hI.cells
    clear hI
    go_enter Try.func63, Try.ntmps63
    go_wp2
    go_loop [1, 5] (fun v1 v5 => ∃ j : Nat, j ≤ l.length ∧ v5 = .int .i64 j ∧ v1 = .int .i64 (leastOf (l.take j) t)) (fun _ v5 => l.length - (intOf v5).toNat)
    case atStart => exact ⟨0, by omega, rfl, rfl⟩
    case round =>
      obtain ⟨j, hj, rfl, rfl⟩ := hrel
      by_cases hjl : j < l.length
      · have HJL := Lib.hid hjl
        obtain ⟨x, hx, hc⟩ := HC.out j hjl
        have hes := leastOf_snoc (l.take j) x t
        rw [← take_snoc_i l j hjl x hx] at hes
        have HE := Lib.hid hes
        clear hx hes
        by_cases hxt : x < leastOf (l.take j) t
        · have HX := Lib.hid hxt
          go_wp2
          go_round
          case rel => have := HX.out; exact ⟨j + 1, by have := HJL.out; omega, by go_num, by rw [HE.out]; congr 1; omega⟩
          case measure => have hjl2 := HJL.out; simp [intOf]; omega
        · have HX := Lib.hid hxt
          go_wp2
          go_round
          case rel => have := HX.out; exact ⟨j + 1, by have := HJL.out; omega, by go_num, by rw [HE.out]; congr 1; omega⟩
          case measure => have hjl2 := HJL.out; simp [intOf]; omega
      · obtain rfl : j = l.length := by omega
        go_wp2
        go_ret
        exact ⟨rfl, rfl⟩

set_option maxRecDepth 100000 in
set_option maxHeartbeats 2000000 in
/-- 'Sorted' at a list in rising order and a permutation of it. -/
theorem sorted_ref (B : Nat) (va vb : Value) (la lb : List Int) (w : World) (hA : Ints w B va la) (hB : Ints w B vb lb) (hs : la.Pairwise (· ≤ ·)) (hp : la.Perm lb) (hl : lb.length * 8 ≤ 140737488355328) :
    Calls Try.prog 30 #[va, vb] w fun e w' => e = .returned (.bool true) ∧ Below w.heap.size w w' := by
  have hlen : la.length = lb.length := hp.length_eq
  have hl2 : la.length * 8 ≤ 140737488355328 := by omega
  rcases hA.shape with ⟨rfl, rfl⟩ | ⟨g, cap, rfl, hBg, hg, hl63⟩
  · have hb0 : lb = [] := List.eq_nil_of_length_eq_zero hlen.symm
    subst hb0
    rcases hB.shape with ⟨rfl, _⟩ | ⟨g, cap, rfl, hBg, hg, hl63⟩
    all_goals
      go_enter Try.func30, Try.ntmps30
      go_wp2
      refine wp_loop_rounds 1 ?_
      rw [rounds_succ]
      go_wp2
      go_ret
      exact ⟨rfl, Below.refl _ _⟩
  · have hB0 : Ints w 0 vb lb := hB.mono (Nat.zero_le _)
    rcases hB.shape with ⟨rfl, hb0⟩ | ⟨gb, capb, rfl, hBgb, hgb, hlb63⟩
    · have ha0 : la = [] := by rw [hb0] at hlen; exact List.eq_nil_of_length_eq_zero hlen
      subst ha0
      go_enter Try.func30, Try.ntmps30
      go_wp2
      refine wp_loop_rounds 1 ?_
      rw [rounds_succ]
      go_wp2
      go_ret
      exact ⟨rfl, Below.refl _ _⟩
    · have HC := Lib.hid hA.cells
      have HS := Lib.hid hs; have HP := Lib.hid hp; have HL := Lib.hid hlen
      have hle1 : la.length ≤ lb.length := by omega
      have hle2 : lb.length ≤ la.length := by omega
      have hne : ((la.length : Int) != (lb.length : Int)) = false := by simp [hlen]
      clear hA hs hp hlen hB
      go_enter Try.func30, Try.ntmps30
      go_wp2
      go_loopw [5, 6] (fun v5 v6 wr => ∃ (j : Nat) (lr : List Int), j ≤ la.length ∧ v6 = .int .i64 j ∧ Ints wr 0 v5 lr ∧ Hid ((la.drop j).Perm lr) ∧ lr.length ≤ lb.length ∧ Below w.heap.size w wr) (fun _ v6 _ => la.length - (intOf v6).toNat)
      case atStart => exact ⟨0, lb, by omega, rfl, hB0, HP, Nat.le_refl _, Below.refl _ _⟩
      case round =>
        obtain ⟨j, lr, hj, rfl, hR, hPr, hll, hbr⟩ := hrel
        have hszr := hbr.size
        by_cases hjl : j < la.length
        · have HJL := Lib.hid hjl
          obtain ⟨x, hx, hc⟩ := HC.out j hjl
          have hgr : g < wr.heap.size := by omega
          have hcell := (hbr.cell (p := ⟨g, j, none⟩) hg).trans hc
          have hdr : la.drop j = x :: la.drop (j + 1) := by rw [hx]; exact List.drop_eq_getElem_cons hjl
          have hp2 := hPr.out
          rw [hdr] at hp2
          have hin : x ∈ lr := hp2.mem_iff.1 (by simp)
          have gi : isIn x lr = true := by simpa [isIn] using hin
          have hp3 : (la.drop (j + 1)).Perm (lr.erase x) := by have := hp2.erase x; simpa using this
          have hel := List.length_erase_le (a := x) (l := lr)
          have HP3 := Lib.hid hp3
          rcases Nat.eq_zero_or_pos j with rfl | hj0
          · clear hx hc hdr hp2 hin hp3
            go_wp2_with (go_at_call 65; refine (without_any 0 _ lr x _ hR (by omega)).mono ?_; rintro e w3 ⟨v3, rfl, h3, t3⟩)
            go_quiet (fail)
            go_wp2
            go_roundw
            case rel =>
              have hjl2 := HJL.out
              exact ⟨1, lr.erase x, by omega, by go_num, (h3.mono (Nat.zero_le _)).drewN _, HP3, by omega, hbr.trans ((t3.mono hszr).dN _)⟩
            case measure => have hjl2 := HJL.out; simp [intOf]; omega
          · obtain ⟨y, hy, hcy⟩ := HC.out (j - 1) (by omega)
            have hcelly := (hbr.cell (p := ⟨g, j - 1, none⟩) hg).trans hcy
            have hxy : y ≤ x := by
              rw [hx, hy]
              exact List.pairwise_iff_getElem.1 HS.out (j - 1) j (by omega) hjl (by omega)
            clear hx hc hdr hp2 hin hp3 hy hcy
            go_wp2_with (go_at_call 65; refine (without_any 0 _ lr x _ hR (by omega)).mono ?_; rintro e w3 ⟨v3, rfl, h3, t3⟩; have hc3 := (t3.cell (p := ⟨g, j, none⟩) hgr).trans hcell; have hc4 := (t3.cell (p := ⟨g, j - 1, none⟩) hgr).trans hcelly)
            have q1 : IntKind.i64.wrap ((j : Int) - 1) = (j : Int) - 1 := IntWalk.i64_in _ (by omega)
            have q2 : (0 : Int) ≤ (j : Int) - 1 := by omega
            have q3 : ((j : Int) - 1).toNat = j - 1 := by omega
            have q4 : decide ((0 : Int) < (j : Int)) = true := by simpa using hj0
            have q5 : (j : Int) - 1 < (la.length : Int) := by omega
            go_quiet (fail)
            clear q1 q2 q3 q4 q5
            go_wp2
            go_roundw
            case rel =>
              have hjl2 := HJL.out
              exact ⟨j + 1, lr.erase x, by omega, by go_num, (h3.mono (Nat.zero_le _)).drewN _, HP3, by omega, hbr.trans ((t3.mono hszr).dN _)⟩
            case measure => have hjl2 := HJL.out; simp [intOf]; omega
        · go_wp2
          go_ret
          exact ⟨rfl, hbr⟩

end Go.Proofs.Ytiijkehiphkkiaa
