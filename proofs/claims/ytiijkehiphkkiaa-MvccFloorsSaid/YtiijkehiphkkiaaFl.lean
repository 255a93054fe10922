/-
  MvccFloors walked: for every script the law returns true.
-/
import Derived.Test.YtiijkehiphkkiaaOt
namespace Go.Proofs.Ytiijkehiphkkiaa
open Go.RowKit Go.Maps Go.Sort

theorem floor_le (s : St) : s.floor ≤ s.mark ∧ ∀ x ∈ s.P, s.floor ≤ x := leastOf_le s.P s.mark

theorem floor_mono {s s' : St} (h1 : s.mark ≤ s'.mark) (h2 : ∀ x ∈ s'.P, x ∈ s.P ∨ s.mark ≤ x) : s.floor ≤ s'.floor := by
  have h := floor_le s
  unfold St.floor at h ⊢
  rcases leastOf_mem s'.P s'.mark with e | e
  · rw [e]; omega
  · rcases h2 _ e with h3 | h3
    · have := h.2 _ h3; omega
    · omega

theorem other_pins (s : St) (k t : Int) : s.mark ≤ (s.other k t).mark ∧ ∀ x ∈ (s.other k t).P, x ∈ s.P ∨ s.mark ≤ x := by
  have he : ∀ y, s.mark ≤ (s.end y).mark ∧ ∀ x ∈ (s.end y).P, x ∈ s.P ∨ s.mark ≤ x := fun y => by
    unfold St.end; split <;> exact ⟨Int.le_refl _, fun x hx => .inl hx⟩
  unfold St.other
  split
  · exact ⟨Int.le_refl _, fun x hx => .inl hx⟩
  split
  · exact he t
  split
  · exact he t
  split
  · unfold St.move; split
    · exact ⟨Int.le_refl _, fun x hx => .inl hx⟩
    · exact ⟨by show s.mark ≤ t; omega, fun x hx => .inl hx⟩
  split
  · unfold St.pin; split
    · exact ⟨Int.le_refl _, fun x hx => .inl hx⟩
    · split
      · exact ⟨Int.le_refl _, fun x hx => .inl hx⟩
      · refine ⟨Int.le_refl _, fun x hx => ?_⟩
        rcases List.mem_cons.1 hx with rfl | hx
        · exact .inr (by omega)
        · exact .inl hx
  split
  · unfold St.unpin; split
    · exact ⟨Int.le_refl _, fun x hx => .inl (List.mem_of_mem_erase hx)⟩
    · exact ⟨Int.le_refl _, fun x hx => .inl hx⟩
  split
  · split
    · exact ⟨Int.le_refl _, fun x hx => .inl hx⟩
    · exact he _
  · exact ⟨Int.le_refl _, fun x hx => .inl hx⟩

/-- Pins' list, by its length. -/
theorem pins_len (c n : Nat) (s : St) (w : World) (h : ClockAt w c n s) (hn : n * 8 ≤ 140737488355328) :
    Calls Try.prog 24 #[.pointer (some ⟨c + 2, 0, none⟩)] w fun e w' => (e = .returned (.slice none 0 0) ∧ s.P.length ≤ 0 ∧ ClockAt w' c n s ∧ Below w.heap.size w w') ∨
      ∃ g cap L, e = .returned (.slice (some ⟨g, 0, none⟩) L cap) ∧ L ≤ s.P.length ∧ s.P.length ≤ L ∧ L ≤ 9223372036854775807 ∧ (∀ j, j < L → ∃ x, w'.cell? ⟨g, j, none⟩ = some (.int .i64 x) ∧ s.floor ≤ x) ∧ ClockAt w' c n s ∧ Below w.heap.size w w' :=
  (pins_any c n s w h hn).mono fun e w' ⟨v, he, hI, hb⟩ => by
    have hl : (rise s.P).length = s.P.length := by simp [rise]
    rcases hI.row.2 with ⟨rfl, hz⟩ | ⟨g, cap, cur, rfl, p2, p3, p4, p5, p6, p7⟩
    · exact .inl ⟨he, by omega, h.below hb, hb⟩
    · refine .inr ⟨g, cap, _, he, by omega, by omega, by unfold maxLen at p5; omega, fun j hj => ?_, h.below hb, hb⟩
      have hm : (rise s.P)[j] ∈ s.P := (rise_perm s.P).mem_iff.1 (List.getElem_mem hj)
      refine ⟨(rise s.P)[j], ?_, (floor_le s).2 _ hm⟩
      rw [hI.row.cellAt j (by omega), List.getElem?_map, List.getElem?_eq_getElem hj]; rfl

/-- Between two calls. -/
def FloorsAt (w : World) (c k : Nat) (v4 : Value) (wr : World) : Prop :=
  ∃ (s : St) (n : Nat), n ≤ k ∧ ClockAt wr c n s ∧ v4 = .int .i64 s.floor ∧ Below w.heap.size w wr

/-- Behind the call, ahead of the questions. -/
def FloorsMid (w : World) (c k : Nat) (fl : Int) (wr : World) : Prop :=
  ∃ (s : St) (n : Nat), n ≤ k ∧ ClockAt wr c n s ∧ fl ≤ s.floor ∧ Below w.heap.size w wr

set_option maxRecDepth 100000 in
set_option maxHeartbeats 2000000 in
theorem floors_any (b off N cap : Nat) (K T : Nat → Int) (w : World) (h : OpsAt w b off N K T) (hN : 0 < N) (hcap : N * 16 ≤ 140737488351232) :
    Calls Try.prog 5 #[.slice (some ⟨b, off, none⟩) N cap] w fun e w' => e = .returned (.bool true) ∧ Below w.heap.size w w' := by
  go_enter Try.func5, Try.ntmps5
  go_wp2_with (first
    | (go_at_call 11; refine (made_any _).mono ?_; rintro e w1 ⟨rfl, h1, b1, z1⟩; have Z1 := Lib.hid z1; clear z1)
    | (go_at_call 12; refine (alive_any _).mono ?_; rintro e w2 ⟨rfl, b2⟩; replace h1 := h1.below b2)
    | (go_at_call 22; refine (floor_any w.heap.size 0 _ _ h1).mono ?_; rintro e w3 ⟨rfl, b3⟩))
  have h0 : FloorsAt w w.heap.size 0 (.int .i64 (St.floor ⟨0, -1, 0, [], []⟩)) w3 :=
    ⟨_, 0, Nat.le_refl _, h1.below b3, rfl, (b1.trans (b2.mono b1.size)).trans (b3.mono (b1.trans (b2.mono b1.size)).size)⟩
  clear h1 b1 b2 Z1 b3
  go_loopw [4, 23] (fun v4 vi wr => ∃ k : Nat, k ≤ N ∧ vi = .int .i64 k ∧ FloorsAt w w.heap.size k v4 wr) (fun _ vi _ => N - (intOf vi).toNat)
  case atStart => exact ⟨0, by omega, rfl, h0⟩
  case round =>
    obtain ⟨k, hk, rfl, hE⟩ := hrel
    clear h0
    by_cases hlt : k < N
    · obtain ⟨s, n, hn, hC, rfl, hbr⟩ := hE
      obtain ⟨hbs, hops⟩ := h
      obtain ⟨q0, q1, wt⟩ := hops k hlt
      have q0' := (hbr.cell (p := ⟨b, off + k * 2, none⟩) hbs).trans q0
      have q1' := (hbr.cell (p := ⟨b, off + k * 2 + 1, none⟩) hbs).trans q1
      have HOPS := Lib.hid hops; clear hops q0 q1
      obtain ⟨wo, rfl⟩ : ∃ wo : World, wo = wr := ⟨_, rfl⟩
      have HLT := Lib.hid hlt
      have hA := hC.below ((Below.refl wo.heap.size wo).alloc (Nat.le_refl _) (.cells #[.int .i64 (K k), .int .i64 (T k)] 28 (0, 0)))
      have hB := hbr.alloc hbr.size (.cells #[.int .i64 (K k), .int .i64 (T k)] 28 (0, 0))
      go_upto_if 29 with fail
      have hO0 : (wo.alloc (.cells #[.int .i64 (K k), .int .i64 (T k)] 28 (0, 0))).cell? ⟨wo.heap.size, 0, none⟩ = some (.int .i64 (K k)) := two_cells.1
      have hO1 : (wo.alloc (.cells #[.int .i64 (K k), .int .i64 (T k)] 28 (0, 0))).cell? ⟨wo.heap.size, 1, none⟩ = some (.int .i64 (T k)) := two_cells.2
      have Z : Hid ((wo.alloc (.cells #[.int .i64 (K k), .int .i64 (T k)] 28 (0, 0))).heap.size = wo.heap.size + 1) := two_size
      generalize wo.alloc (.cells #[.int .i64 (K k), .int .i64 (T k)] 28 (0, 0)) = wb at *
      have hlt3 := HLT.out
      have hm0 := hA.mark0
      have hm1 := hA.mark1
      go_cut [] (fun wx => FloorsMid w w.heap.size (k + 1) s.floor wx)
      case first =>
        by_cases h7 : K k = 7
        · have g7 : (K k == 7) = true := by rw [beq_iff_eq]; exact h7
          clear h7
          have ho1 : (wb.cell? ⟨wo.heap.size, 1, none⟩) = some (.int .i64 (T k)) := hO1
          have hwo : wo.heap.size < wb.heap.size := by have := Z.out; omega
          have hwc : w.heap.size + 2 < wo.heap.size := hC.lt
          go_wp2_with (go_at_call 23; refine (mark_any w.heap.size n s _ hA).mono ?_; rintro e w2 ⟨rfl, rfl⟩)
          refine (pins_len w.heap.size n s _ hA (by omega)).mono ?_
          rintro e w3 (⟨rfl, l1, h3, t3⟩ | ⟨g3, cap3, L3, rfl, l1, l2, l3, -, h3, t3⟩)
          all_goals
            have o3 := (t3.cell (p := ⟨wo.heap.size, 1, none⟩) hwo).trans ho1
            by_cases hc1 : T k < 0 ∨ 1099511627776 < T k
            · have hp : (s.pinErr (T k) = 1) ∧ s.pin (T k) = s := by unfold St.pinErr St.pin; rw [if_pos hc1, if_pos hc1]; exact ⟨rfl, rfl⟩
              have HP := Lib.hid hp; clear hp
              rcases hc1 with hc1 | hc1
              all_goals
                go_wp2_with (go_at_call 25; refine (pin_arg w.heap.size n s (T k) _ h3 (by omega)).mono ?_; rintro e w4 ⟨rfl, rfl⟩)
                go_meet
                exact ⟨s, n, by omega, h3, Int.le_refl _, hB.trans (t3.mono (by omega))⟩
            · by_cases hc2 : T k < s.mark
              · go_wp2_with (go_at_call 25; refine (pin_old w.heap.size n s (T k) _ h3 (by omega) (by omega) hc2).mono ?_; rintro e w4 ⟨rfl, rfl⟩)
                go_meet
                exact ⟨s, n, by omega, h3, Int.le_refl _, hB.trans (t3.mono (by omega))⟩
              · have d1 : s.mark ≤ T k := by omega
                have d2 : T k ≤ 1099511627776 := by omega
                have d3 : 0 ≤ T k := by omega
                go_wp2_with fail
                refine (pin_yes w.heap.size n s (T k) _ h3 d3 d2 d1 (by omega)).mono ?_
                rintro e w4 ⟨rfl, h4, t4⟩
                have hz4 : wo.heap.size < w3.heap.size := by have := t3.size; omega
                have o4 : w4.cell? ⟨wo.heap.size, 1, none⟩ = some (.int .i64 (T k)) := (World.cell?_of_block (w := w3) (w' := w4) (a := ⟨wo.heap.size, 1, none⟩) (t4.block wo.heap.size hz4 (.inr (by omega)))).trans o3
                have b4 : Below w.heap.size w3 w4 := t4.low h3
                have hfm : s.floor ≤ St.floor { s with P := T k :: s.P } := floor_mono (Int.le_refl _) (fun x hx => by
                  rcases List.mem_cons.1 hx with rfl | hx
                  · exact .inr d1
                  · exact .inl hx)
                have hPl : (T k :: s.P).length = s.P.length + 1 := rfl
                have u1 : (T k :: s.P).length ≤ s.P.length + 1 := by omega
                have u2 : s.P.length + 1 ≤ (T k :: s.P).length := by omega
                clear hPl
                go_wp2_with fail
                refine (pins_len w.heap.size (n + 1) _ _ h4 (by omega)).mono ?_
                rintro e w5 (⟨rfl, m1, h5, t5⟩ | ⟨g5, cap5, L5, rfl, m1, m2, m3, -, h5, t5⟩)
                · have m4 : (T k :: s.P).length ≤ 0 := m1
                  omega
                · have m4 : L5 ≤ (T k :: s.P).length := m1
                  have m5 : (T k :: s.P).length ≤ L5 := m2
                  go_wp2
                  go_meet
                  exact ⟨_, n + 1, by omega, h5, hfm, ((hB.trans (t3.mono (by omega))).trans b4).trans (t5.mono (by have := t4.size; have := t3.size; omega))⟩
        · have g7 : (K k == 7) = false := by rw [beq_eq_false_iff_ne]; exact h7
          clear h7
          by_cases h2 : K k = 2
          · have g2 : (K k == 2) = true := by rw [beq_iff_eq]; exact h2
            clear h2
            go_wp2_with (go_at_call 13; refine (begin_any w.heap.size n s _ hA (by omega)).mono ?_; rintro e w3 ⟨rfl, hC3, t3⟩)
            go_meet
            refine ⟨_, n + 1, by omega, hC3, floor_mono ?_ (fun x hx => .inl ?_), hB.trans (t3.low hA)⟩
            · unfold St.begin; split <;> exact Int.le_refl _
            · unfold St.begin at hx; split at hx <;> exact hx
          · have g2 : (K k == 2) = false := by rw [beq_eq_false_iff_ne]; exact h2
            clear h2
            go_wp2_with (go_at_call 19; refine (other_any w.heap.size n s (K k) (T k) _ hA (by omega) wt).mono ?_; rintro e w3 ⟨rfl, hC3, t3⟩)
            go_meet
            have ho := other_pins s (K k) (T k)
            exact ⟨_, n + 1, by omega, hC3, floor_mono ho.1 ho.2, hB.trans (t3.low hA)⟩
      case rest =>
        obtain ⟨s', n', hn', hC', hfl', hbr'⟩ := hcut
        have hfm := (floor_le s').1
        go_wp2_with (first
          | (go_at_call 22; refine (floor_any w.heap.size n' s' _ hC').mono ?_; rintro e w3 ⟨rfl, t3⟩; replace hC' := hC'.below t3; replace hbr' := hbr'.trans (t3.mono hbr'.size); clear t3)
          | (go_at_call 23; refine (mark_any w.heap.size n' s' _ hC').mono ?_; rintro e w3 ⟨rfl, rfl⟩)
          | (go_at_call 24; refine (pins_len w.heap.size n' s' _ hC' (by omega)).mono ?_; rintro e w5 (⟨rfl, l1, h3, t3⟩ | ⟨g3, cap3, L, rfl, l1, l2, l3, l4, h3, t3⟩)))
        · refine wp_loop_rounds 1 ?_
          rw [rounds_succ]
          go_wp2
          go_roundw
          case rel => exact ⟨k + 1, by omega, by go_num, ⟨s', n', hn', h3, rfl, hbr'.trans (t3.mono hbr'.size)⟩⟩
          case measure => simp [intOf]; omega
        · have HC5 := Lib.hid l4
          clear l4
          go_loop [87] (fun v87 => ∃ j : Nat, j ≤ L ∧ v87 = .int .i64 j) (fun v87 => L - (intOf v87).toNat)
          case atStart => exact ⟨0, by omega, rfl⟩
          case round =>
            obtain ⟨j, hj, rfl⟩ := hrel
            by_cases hjl : j < L
            · have HJL := Lib.hid hjl
              obtain ⟨x, d1, x1⟩ := HC5.out j hjl
              go_wp2
              go_round
              case rel => exact ⟨j + 1, by have := HJL.out; omega, by go_num⟩
              case measure => have := HJL.out; simp [intOf]; omega
            · go_wp2
              go_roundw
              case rel => exact ⟨k + 1, by omega, by go_num, ⟨s', n', hn', h3, rfl, hbr'.trans (t3.mono hbr'.size)⟩⟩
              case measure => simp [intOf]; omega
    · go_wp2
      go_ret
      obtain ⟨s, n, hn, hC, rfl, hbr⟩ := hE
      exact ⟨rfl, hbr⟩

set_option maxRecDepth 100000 in
set_option maxHeartbeats 1000000 in
theorem floors_zero (p : Option Addr) (cap : Nat) (w : World) : Calls Try.prog 5 #[.slice p 0 cap] w fun e w' => e = .returned (.bool true) ∧ Below w.heap.size w w' := by
  go_enter Try.func5, Try.ntmps5
  go_wp2_with (first
    | (go_at_call 11; refine (made_any _).mono ?_; rintro e w1 ⟨rfl, h1, b1, z1⟩; have Z1 := Lib.hid z1; clear z1)
    | (go_at_call 12; refine (alive_any _).mono ?_; rintro e w2 ⟨rfl, b2⟩; replace h1 := h1.below b2)
    | (go_at_call 22; refine (floor_any w.heap.size 0 _ _ h1).mono ?_; rintro e w3 ⟨rfl, b3⟩))
  have b4 : Below w.heap.size w w3 := (b1.trans (b2.mono b1.size)).trans (b3.mono (b1.trans (b2.mono b1.size)).size)
  refine wp_loop_rounds 1 ?_
  rw [rounds_succ]
  go_wp2
  go_ret
  exact ⟨rfl, b4⟩

end Go.Proofs.Ytiijkehiphkkiaa
