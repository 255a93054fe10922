/-
  MvccRises walked: for every script the law returns true.
-/
import Derived.Test.YtiijkehiphkkiaaOt
namespace Go.Proofs.Ytiijkehiphkkiaa
open Go.RowKit Go.Maps Go.Sort

/-- What is in flight isn't above the last one given out. -/
def Under (s : St) : Prop := ∀ x ∈ s.F, x ≤ s.last

theorem Under.begin {s : St} (h : Under s) : Under { s with last := s.next, F := s.next :: s.F } := by
  have hx : s.last < s.next := by unfold St.next; omega
  intro x hx'
  rcases List.mem_cons.1 hx' with rfl | h'
  · exact Int.le_refl _
  · have := h x h'; show x ≤ s.next; omega

theorem other_sub (s : St) (k t : Int) : (∀ x ∈ (s.other k t).F, x ∈ s.F) ∧ (s.other k t).last = s.last ∧ s.now ≤ (s.other k t).now ∨ s.now > 1099511627777 := by
  by_cases hn : s.now > 1099511627777
  · exact .inr hn
  left
  have he : ∀ y, (∀ x ∈ (s.end y).F, x ∈ s.F) ∧ (s.end y).last = s.last ∧ s.now ≤ (s.end y).now := fun y => by
    unfold St.end; split
    · exact ⟨fun x hx => List.mem_of_mem_erase hx, rfl, Int.le_refl _⟩
    · exact ⟨fun x hx => hx, rfl, Int.le_refl _⟩
  unfold St.other
  split
  · exact ⟨fun x hx => hx, rfl, by show s.now ≤ s.now + _; omega⟩
  split
  · exact he t
  split
  · exact he t
  split
  · unfold St.move; split <;> exact ⟨fun x hx => hx, rfl, Int.le_refl _⟩
  split
  · unfold St.pin; split
    · exact ⟨fun x hx => hx, rfl, Int.le_refl _⟩
    · split <;> exact ⟨fun x hx => hx, rfl, Int.le_refl _⟩
  split
  · unfold St.unpin; split <;> exact ⟨fun x hx => hx, rfl, Int.le_refl _⟩
  split
  · split
    · exact ⟨fun x hx => hx, rfl, Int.le_refl _⟩
    · exact he _
  · exact ⟨fun x hx => hx, rfl, Int.le_refl _⟩

theorem clean_mono {s s' : St} (h1 : s.next ≤ s'.next) (h2 : ∀ x ∈ s'.F, x ∈ s.F ∨ s.next ≤ x) : s.clean ≤ s'.clean := by
  have h := leastOf_le s.F s.next
  unfold St.clean
  rcases leastOf_mem s'.F s'.next with e | e
  · rw [e]; omega
  · rcases h2 _ e with h3 | h3
    · have := h.2 _ h3; omega
    · omega

theorem clean_lt {s : St} : s.clean < s.next ∧ ∀ x ∈ s.F, s.clean < x := by
  have h := leastOf_le s.F s.next
  unfold St.clean
  exact ⟨by omega, fun x hx => by have := h.2 x hx; omega⟩

/-- Between two calls. -/
def RisesAt (w : World) (c k : Nat) (v4 v5 : Value) (wr : World) : Prop :=
  ∃ (s : St) (n : Nat) (cl : Int), n ≤ k ∧ ClockAt wr c n s ∧ Under s ∧ v4 = .int .i64 s.last ∧ v5 = .int .i64 cl ∧ -1 ≤ cl ∧ cl ≤ s.clean ∧ Below w.heap.size w wr

/-- Behind the call, ahead of the questions. -/
def RisesMid (w : World) (c k : Nat) (cl : Int) (v4 : Value) (wr : World) : Prop :=
  ∃ (s : St) (n : Nat), n ≤ k ∧ ClockAt wr c n s ∧ Under s ∧ v4 = .int .i64 s.last ∧ cl ≤ s.clean ∧ Below w.heap.size w wr

set_option maxRecDepth 100000 in
set_option maxHeartbeats 2000000 in
theorem rises_any (b off N cap : Nat) (K T : Nat → Int) (w : World) (h : OpsAt w b off N K T) (hN : 0 < N) (hcap : N * 16 ≤ 140737488351232) :
    Calls Try.prog 4 #[.slice (some ⟨b, off, none⟩) N cap] w fun e w' => e = .returned (.bool true) ∧ Below w.heap.size w w' := by
  go_enter Try.func4, Try.ntmps4
  go_wp2_with (first
    | (go_at_call 11; refine (made_any _).mono ?_; rintro e w1 ⟨rfl, h1, b1, z1⟩; have Z1 := Lib.hid z1; clear z1)
    | (go_at_call 12; refine (alive_any _).mono ?_; rintro e w2 ⟨rfl, b2⟩))
  have h0 : RisesAt w w.heap.size 0 (.int .i64 (-1)) (.int .i64 (-1)) w2 :=
    ⟨_, 0, -1, Nat.le_refl _, h1.below b2, by simp [Under], rfl, rfl, by omega, by decide, b1.trans (b2.mono b1.size)⟩
  clear h1 b1 b2 Z1
  go_loopw [4, 5, 22] (fun v4 v5 vi wr => ∃ k : Nat, k ≤ N ∧ vi = .int .i64 k ∧ RisesAt w w.heap.size k v4 v5 wr) (fun _ _ vi _ => N - (intOf vi).toNat)
  case atStart => exact ⟨0, by omega, rfl, h0⟩
  case round =>
    obtain ⟨k, hk, rfl, hE⟩ := hrel
    clear h0
    by_cases hlt : k < N
    · obtain ⟨s, n, cl, hn, hC, hF, rfl, rfl, hcl0, hcl1, hbr⟩ := hE
      obtain ⟨hbs, hops⟩ := h
      obtain ⟨q0, q1, wt⟩ := hops k hlt
      have q0' := (hbr.cell (p := ⟨b, off + k * 2, none⟩) hbs).trans q0
      have q1' := (hbr.cell (p := ⟨b, off + k * 2 + 1, none⟩) hbs).trans q1
      have HOPS := Lib.hid hops; clear hops q0 q1
      obtain ⟨wo, rfl⟩ : ∃ wo : World, wo = wr := ⟨_, rfl⟩
      have HLT := Lib.hid hlt
      have hA := hC.below ((Below.refl wo.heap.size wo).alloc (Nat.le_refl _) (.cells #[.int .i64 (K k), .int .i64 (T k)] 28 (0, 0)))
      have hB := hbr.alloc hbr.size (.cells #[.int .i64 (K k), .int .i64 (T k)] 28 (0, 0))
      by_cases h5 : K k = 5
      · have g5 : (K k == 5) = true := by rw [beq_iff_eq]; exact h5
        clear h5
        go_wp2
        go_roundw
        case rel => exact ⟨k + 1, by have := HLT.out; omega, by go_num, ⟨s, n, cl, by omega, hA, hF, rfl, rfl, hcl0, hcl1, hB⟩⟩
        case measure => have := HLT.out; simp [intOf]; omega
      · have g5 : (K k == 5) = false := by rw [beq_eq_false_iff_ne]; exact h5
        clear h5
        go_upto_if 31 with fail
        have hO0 : (wo.alloc (.cells #[.int .i64 (K k), .int .i64 (T k)] 28 (0, 0))).cell? ⟨wo.heap.size, 0, none⟩ = some (.int .i64 (K k)) := two_cells.1
        have hO1 : (wo.alloc (.cells #[.int .i64 (K k), .int .i64 (T k)] 28 (0, 0))).cell? ⟨wo.heap.size, 1, none⟩ = some (.int .i64 (T k)) := two_cells.2
        generalize wo.alloc (.cells #[.int .i64 (K k), .int .i64 (T k)] 28 (0, 0)) = wb at *
        have hlt3 := HLT.out
        go_cut [4] (fun v4 wx => RisesMid w w.heap.size (k + 1) cl v4 wx)
        case first =>
          by_cases h2 : K k = 2
          · have g2 : (K k == 2) = true := by rw [beq_iff_eq]; exact h2
            clear h2
            have hcl := (clean_lt (s := s)).1
            have hl1 : s.last < s.next ∧ s.now ≤ s.next := by unfold St.next; omega
            by_cases hm : 1099511627776 < s.next
            · go_wp2_with (first
                | (go_at_call 18; refine (now_any w.heap.size n s _ hA).mono ?_; rintro e w3 ⟨rfl, rfl⟩)
                | (go_at_call 13; refine (begin_no w.heap.size n s _ hA hm).mono ?_; rintro e w3 ⟨rfl, hC3, t3⟩))
              go_meet
              exact ⟨s, n, by omega, hC3, hF, rfl, hcl1, hB.trans (t3.low hA)⟩
            · have hm2 : s.next ≤ 1099511627776 := by omega
              have hcm : s.clean ≤ St.clean { s with last := s.next, F := s.next :: s.F } := clean_mono (by show s.next ≤ max s.now (s.next + 1); omega) (fun x hx => by
                rcases List.mem_cons.1 hx with rfl | hx
                · exact .inr (Int.le_refl _)
                · exact .inl hx)
              go_wp2_with (first
                | (go_at_call 18; refine (now_any w.heap.size n s _ hA).mono ?_; rintro e w3 ⟨rfl, rfl⟩)
                | (go_at_call 13; refine (begin_yes w.heap.size n s _ hA hm2 (by omega)).mono ?_; rintro e w3 ⟨rfl, hC3, t3⟩))
              go_meet
              exact ⟨_, n + 1, by omega, hC3, hF.begin, rfl, by omega, hB.trans (t3.low hA)⟩
          · have g2 : (K k == 2) = false := by rw [beq_eq_false_iff_ne]; exact h2
            clear h2
            obtain ⟨o1, o2, o3⟩ : (∀ x ∈ (s.other (K k) (T k)).F, x ∈ s.F) ∧ (s.other (K k) (T k)).last = s.last ∧ s.now ≤ (s.other (K k) (T k)).now := by
              rcases other_sub s (K k) (T k) with h | h
              · exact h
              · have := hA.now1; omega
            have hcm : s.clean ≤ (s.other (K k) (T k)).clean := clean_mono (by unfold St.next; rw [o2]; omega) (fun x hx => .inl (o1 x hx))
            have O1 := Lib.hid o1; have O2 := Lib.hid o2; clear o1 o2 o3
            go_wp2_with (go_at_call 19; refine (other_any w.heap.size n s (K k) (T k) _ hA (by omega) wt).mono ?_; rintro e w3 ⟨rfl, hC3, t3⟩)
            go_meet
            exact ⟨_, n + 1, by omega, hC3, fun x hx => by rw [O2.out]; exact hF x (O1.out x hx), by rw [O2.out], by omega, hB.trans (t3.low hA)⟩
        case rest =>
          obtain ⟨s', n', hn', hC', hF', rfl, hcl', hbr'⟩ := hcut
          have hF2 := Lib.hid hF'
          clear hF'
          go_wp2_with (first
            | (go_at_call 20; refine (clean_any w.heap.size n' s' _ hC').mono ?_; rintro e w3 ⟨rfl, t3⟩; replace hC' := hC'.below t3; replace hbr' := hbr'.trans (t3.mono hbr'.size); clear t3)
            | (go_at_call 21; refine (last_any w.heap.size n' s' _ hC').mono ?_; rintro e w3 ⟨rfl, rfl⟩)
            | (go_at_call 17; refine (flight_any w.heap.size n' s' _ hC' (by omega)).mono ?_; rintro e w5 ⟨v5, rfl, hI5, hb5⟩; rcases hI5.row.2 with ⟨hv5, hz5⟩ | ⟨g5, cap5, cur5, hv5, p2, p3, p4, p5, p6, p7⟩ <;> subst hv5))
          · -- nothing is in flight
            refine wp_loop_rounds 1 ?_
            rw [rounds_succ]
            go_wp2
            go_roundw
            case rel => exact ⟨k + 1, by omega, by go_num, ⟨s', n', s'.clean, hn', hC'.below hb5, hF2.out, rfl, rfl, by omega, Int.le_refl _, hbr'.trans (hb5.mono hbr'.size)⟩⟩
            case measure => simp [intOf]; omega
          · have hc5 : ∀ j, (hj : j < (rise s'.F).length) → ∃ x, w5.cell? ⟨g5, j, none⟩ = some (.int .i64 x) ∧ s'.clean < x ∧ x ≤ s'.last := fun j hj => by
              have hm : (rise s'.F)[j] ∈ s'.F := (rise_perm s'.F).mem_iff.1 (List.getElem_mem hj)
              refine ⟨(rise s'.F)[j], ?_, (clean_lt (s := s')).2 _ hm, hF2.out _ hm⟩
              rw [hI5.row.cellAt j (by omega), List.getElem?_map, List.getElem?_eq_getElem hj]; rfl
            obtain ⟨L, hL⟩ : ∃ L, L = (rise s'.F).length := ⟨_, rfl⟩
            rw [← hL] at hc5 p4 ⊢
            have HC5 := Lib.hid hc5
            have hL63 : L ≤ 9223372036854775807 := by unfold maxLen at p5; omega
            clear hc5 p2 p3 p6 p7 hI5 hL
            go_loop [81] (fun v81 => ∃ j : Nat, j ≤ L ∧ v81 = .int .i64 j) (fun v81 => L - (intOf v81).toNat)
            case atStart => exact ⟨0, by omega, rfl⟩
            case round =>
              obtain ⟨j, hj, rfl⟩ := hrel
              by_cases hjl : j < L
              · have HJL := Lib.hid hjl
                obtain ⟨x, d1, x1, x2⟩ := HC5.out j hjl
                go_wp2
                go_round
                case rel => exact ⟨j + 1, by have := HJL.out; omega, by go_num⟩
                case measure => have := HJL.out; simp [intOf]; omega
              · go_wp2
                go_roundw
                case rel => exact ⟨k + 1, by omega, by go_num, ⟨s', n', s'.clean, hn', hC'.below hb5, hF2.out, rfl, rfl, by omega, Int.le_refl _, hbr'.trans (hb5.mono hbr'.size)⟩⟩
                case measure => simp [intOf]; omega
    · go_wp2
      go_ret
      obtain ⟨s, n, cl, hn, hC, hF, rfl, rfl, hcl0, hcl1, hbr⟩ := hE
      exact ⟨rfl, hbr⟩

set_option maxRecDepth 100000 in
set_option maxHeartbeats 1000000 in
theorem rises_zero (p : Option Addr) (cap : Nat) (w : World) : Calls Try.prog 4 #[.slice p 0 cap] w fun e w' => e = .returned (.bool true) ∧ Below w.heap.size w w' := by
  go_enter Try.func4, Try.ntmps4
  go_wp2_with (first
    | (go_at_call 11; refine (made_any _).mono ?_; rintro e w1 ⟨rfl, h1, b1, z1⟩; have Z1 := Lib.hid z1; clear z1)
    | (go_at_call 12; refine (alive_any _).mono ?_; rintro e w2 ⟨rfl, b2⟩))
  have b3 : Below w.heap.size w w2 := b1.trans (b2.mono b1.size)
  refine wp_loop_rounds 1 ?_
  rw [rounds_succ]
  go_wp2
  go_ret
  exact ⟨rfl, b3⟩

end Go.Proofs.Ytiijkehiphkkiaa
