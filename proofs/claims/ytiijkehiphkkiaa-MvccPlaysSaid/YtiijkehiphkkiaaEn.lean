/-
  MvccEnds walked: for every script the law returns true.
-/
import Derived.Test.YtiijkehiphkkiaaMa
import Derived.Test.YtiijkehiphkkiaaOp
import Derived.Deep.DeepCutAuto
import Derived.Deep.CutBlock
namespace Go.Proofs.Ytiijkehiphkkiaa
open Go.RowKit Go.Maps Go.Sort

/-- What is in flight falls from the last one given out. -/
def Falls (s : St) : Prop := s.F.Pairwise (· > ·) ∧ ∀ x ∈ s.F, x ≤ s.last

/-- Between two calls: the clock; what is open; nothing that was there has turned. -/
def EndsAt (w : World) (c B k : Nat) (vo : Value) (wr : World) : Prop :=
  ∃ (s : St) (n : Nat), n ≤ k ∧ ClockAt wr c n s ∧ Falls s ∧ Ints wr B vo s.F.reverse ∧ Below w.heap.size w wr ∧ B ≤ wr.heap.size ∧ vo ≠ .slice none 0 0

theorem EndsAt.below {w wr w' : World} {c B k : Nat} {vo : Value} (h : EndsAt w c B k vo wr) (hb : Below wr.heap.size wr w') : EndsAt w c B k vo w' := by
  obtain ⟨s, n, hn, hC, hF, hI, hbr, hsz, hnn⟩ := h
  exact ⟨s, n, hn, hC.below hb, hF, hI.below hb, hbr.trans (hb.mono hbr.size), Nat.le_trans hsz hb.size, hnn⟩

theorem Ints.turn {w w' : World} {B c : Nat} {v : Value} {l : List Int} (h : Ints w B v l) (t : Turn c w w') (hc : c + 3 ≤ B) : Ints w' B v l := by
  obtain ⟨h1, h2⟩ := h.row
  refine ⟨⟨h1, ?_⟩⟩
  rcases h2 with h2 | ⟨g, cap, cur, r1, r2, r3, r⟩
  · exact .inl h2
  · exact .inr ⟨g, cap, cur, r1, r2, (t.block g (lt_of_block r3) (by omega)).trans r3, r⟩

theorem commit_yes (c n : Nat) (s : St) (t : Int) (w : World) (h : ClockAt w c n s) (hn : n < 4611686018427387904) (ht : (Lit.int .i64 t).wf = true) (hm : t ∈ s.F) :
    Calls Try.prog 14 #[.pointer (some ⟨c + 2, 0, none⟩), .int .i64 t] w fun e w' => e = .returned (.int .i64 0) ∧ ClockAt w' c (n + 1) { s with F := s.F.erase t } ∧ Turn c w w' :=
  (commit_any c n s t w h hn ht).mono fun e w' ⟨a, b, d⟩ => ⟨by rw [a]; simp [St.endErr, hm], by simpa [St.end, hm] using b, d⟩
theorem commit_no (c n : Nat) (s : St) (t : Int) (w : World) (h : ClockAt w c n s) (hn : n < 4611686018427387904) (ht : (Lit.int .i64 t).wf = true) (hm : t ∉ s.F) :
    Calls Try.prog 14 #[.pointer (some ⟨c + 2, 0, none⟩), .int .i64 t] w fun e w' => e = .returned (.int .i64 172) ∧ ClockAt w' c (n + 1) s ∧ Turn c w w' :=
  (commit_any c n s t w h hn ht).mono fun e w' ⟨a, b, d⟩ => ⟨by rw [a]; simp [St.endErr, hm], by simpa [St.end, hm] using b, d⟩
theorem abort_yes (c n : Nat) (s : St) (t : Int) (w : World) (h : ClockAt w c n s) (hn : n < 4611686018427387904) (ht : (Lit.int .i64 t).wf = true) (hm : t ∈ s.F) :
    Calls Try.prog 15 #[.pointer (some ⟨c + 2, 0, none⟩), .int .i64 t] w fun e w' => e = .returned (.int .i64 0) ∧ ClockAt w' c (n + 1) { s with F := s.F.erase t } ∧ Turn c w w' :=
  (abort_any c n s t w h hn ht).mono fun e w' ⟨a, b, d⟩ => ⟨by rw [a]; simp [St.endErr, hm], by simpa [St.end, hm] using b, d⟩
theorem abort_no (c n : Nat) (s : St) (t : Int) (w : World) (h : ClockAt w c n s) (hn : n < 4611686018427387904) (ht : (Lit.int .i64 t).wf = true) (hm : t ∉ s.F) :
    Calls Try.prog 15 #[.pointer (some ⟨c + 2, 0, none⟩), .int .i64 t] w fun e w' => e = .returned (.int .i64 172) ∧ ClockAt w' c (n + 1) s ∧ Turn c w w' :=
  (abort_any c n s t w h hn ht).mono fun e w' ⟨a, b, d⟩ => ⟨by rw [a]; simp [St.endErr, hm], by simpa [St.end, hm] using b, d⟩

theorem ClockAt.low {w w' : World} {c n : Nat} {s : St} (h : ClockAt w c n s) (hb : Below (c + 3) w w') : ClockAt w' c n s :=
  h.kept (hb.block _ (by omega)) (hb.block _ (by omega)) (hb.block _ (by omega))

/-- Is a time among these? -/
def isIn (t : Int) (l : List Int) : Bool := decide (t ∈ l)
/-- Those that are another time. -/
def others (t : Int) (l : List Int) : List Int := l.filter fun x => !decide (x = t)

theorem isIn_snoc_yes (l : List Int) (j : Nat) (hj : j < l.length) (t x : Int) (hx : x = l[j]) (h : x = t) : isIn t (l.take (j + 1)) = true := by
  subst h; rw [List.take_succ_eq_append_getElem hj]; simp only [isIn, decide_eq_true_eq, List.mem_append, List.mem_singleton]; exact .inr hx
theorem isIn_snoc_no (l : List Int) (j : Nat) (hj : j < l.length) (t x : Int) (hx : x = l[j]) (h : ¬ x = t) : isIn t (l.take (j + 1)) = isIn t (l.take j) := by
  have h' : ¬ t = l[j] := fun e => h (hx.trans e.symm)
  unfold isIn
  rw [List.take_succ_eq_append_getElem hj, Bool.eq_iff_iff]; simp only [decide_eq_true_eq, List.mem_append, List.mem_singleton]
  exact ⟨fun e => e.elim id (fun e => absurd e h'), .inl⟩
theorem others_snoc_yes (l : List Int) (j : Nat) (hj : j < l.length) (t x : Int) (hx : x = l[j]) (h : x = t) : others t (l.take (j + 1)) = others t (l.take j) := by
  unfold others; rw [List.take_succ_eq_append_getElem hj, List.filter_append]; simp [← hx, h]
theorem others_snoc_no (l : List Int) (j : Nat) (hj : j < l.length) (t x : Int) (hx : x = l[j]) (h : ¬ x = t) : others t (l.take (j + 1)) = others t (l.take j) ++ [x] := by
  unfold others; rw [List.take_succ_eq_append_getElem hj, List.filter_append]; simp [← hx, h]
theorem others_le (t : Int) (l : List Int) (j : Nat) : (others t (l.take j)).length ≤ j := by
  unfold others
  exact Nat.le_trans (List.length_filter_le _ _) (List.length_take_le _ _)
theorem others_reverse {F : List Int} (h : F.Pairwise (· > ·)) (t : Int) : others t F.reverse = (F.erase t).reverse := by
  have hn : F.Nodup := h.imp (fun h => by omega)
  unfold others
  rw [List.filter_reverse, hn.erase_eq_filter]
  congr 1
theorem erase_falls {s : St} (h : Falls s) (t : Int) : Falls { s with F := s.F.erase t } :=
  ⟨h.1.sublist List.erase_sublist, fun x hx => h.2 x (List.mem_of_mem_erase hx)⟩

theorem two_cells {w : World} {a b : Value} {t : TypeId} : (w.alloc (.cells #[a, b] t (0, 0))).cell? ⟨w.heap.size, 0, none⟩ = some a ∧ (w.alloc (.cells #[a, b] t (0, 0))).cell? ⟨w.heap.size, 1, none⟩ = some b := by
  have h := (MapKept.heap_alloc w (.cells #[a, b] t (0, 0))).1
  refine ⟨?_, ?_⟩ <;> (simp only [World.cell?, h]; rfl)
theorem two_size {w : World} {o : Obj} : Hid ((w.alloc o).heap.size = w.heap.size + 1) := by
  show _ = _
  simp

theorem kinds4 (x : Int) : (x == 2) = true ∨ ((x == 2) = false ∧ (x == 3) = true) ∨ ((x == 2) = false ∧ (x == 3) = false ∧ (x == 4) = true) ∨ ((x == 2) = false ∧ (x == 3) = false ∧ (x == 4) = false ∧ (x == 1) = true) ∨
    ((x == 2) = false ∧ (x == 3) = false ∧ (x == 4) = false ∧ (x == 1) = false) := by
  simp only [beq_iff_eq, beq_eq_false_iff_ne]; omega

theorem rise_reverse {F : List Int} (h : F.Pairwise (· > ·)) : rise F = F.reverse :=
  eq_of_sorted (rise_sorted F) (List.pairwise_reverse.2 (h.imp (fun h => by omega))) ((rise_perm F).trans (List.reverse_perm F).symm)

theorem Falls.tick {s : St} (h : Falls s) (t : Int) : Falls (s.tick t) := h
theorem Falls.begin {s : St} (h : Falls s) : Falls { s with last := s.next, F := s.next :: s.F } := by
  have hx : s.last < s.next := by unfold St.next; omega
  refine ⟨List.pairwise_cons.2 ⟨fun y hy => ?_, h.1⟩, fun x hx' => ?_⟩
  · have := h.2 y hy; omega
  · rcases List.mem_cons.1 hx' with rfl | h'
    · exact Int.le_refl _
    · have := h.2 x h'; show x ≤ s.next; omega

set_option maxRecDepth 100000 in
set_option maxHeartbeats 2000000 in
theorem ends_any (b off N cap : Nat) (K T : Nat → Int) (w : World) (h : OpsAt w b off N K T) (hN : 0 < N) (hcap : N * 16 ≤ 140737488351232) :
    Calls Try.prog 3 #[.slice (some ⟨b, off, none⟩) N cap] w fun e w' => e = .returned (.bool true) ∧ Below w.heap.size w w' := by
  go_enter Try.func3, Try.ntmps3
  go_wp2_with (first
    | (go_at_call 11; refine (made_any _).mono ?_; rintro e w1 ⟨rfl, h1, b1, z1⟩; have Z1 := Lib.hid z1; clear z1)
    | (go_at_call 12; refine (alive_any _).mono ?_; rintro e w2 ⟨rfl, b2⟩))
  have e2 : (w2.alloc (.cells #[] 2 (0, 0))).heap.size = w2.heap.size + 1 := by simp
  have s2 : w.heap.size + 3 ≤ w2.heap.size := by rw [← Z1.out]; exact b2.size
  have h0 : EndsAt w w.heap.size (w.heap.size + 3) 0 (.slice (some ⟨w2.heap.size, 0, none⟩) 0 0) (w2.alloc (.cells #[] 2 (0, 0))) := by
    have b3 : Below w.heap.size w w2 := b1.trans (b2.mono b1.size)
    refine ⟨_, 0, Nat.le_refl _, (h1.below b2).below ((Below.refl _ _).alloc (Nat.le_refl _) _), ⟨List.Pairwise.nil, by simp⟩, ⟨by simp, .inr ⟨w2.heap.size, 0, #[], rfl, s2, (MapKept.heap_alloc _ _).1, by simp, by unfold maxLen; omega, by simp, by simp⟩⟩, b3.alloc b3.size _, by rw [e2]; omega, by simp⟩
  clear e2 h1 b1 b2 Z1
  go_loopw [4, 27] (fun vo vi wr => ∃ k : Nat, k ≤ N ∧ vi = .int .i64 k ∧ EndsAt w w.heap.size (w.heap.size + 3) k vo wr) (fun _ vi _ => N - (intOf vi).toNat)
  case atStart => exact ⟨0, by omega, rfl, h0⟩
  case round =>
    obtain ⟨k, hk, rfl, hE⟩ := hrel
    clear h0
    by_cases hlt : k < N
    · have hb := hE
      obtain ⟨s, n, hn, hC, hF, hI, hbr, hsz, hnn⟩ := hE
      obtain ⟨hbs, hops⟩ := h
      obtain ⟨q0, q1, wt⟩ := hops k hlt
      have q0' := (hbr.cell (p := ⟨b, off + k * 2, none⟩) hbs).trans q0
      have q1' := (hbr.cell (p := ⟨b, off + k * 2 + 1, none⟩) hbs).trans q1
      have HOPS := Lib.hid hops; clear hops q0 q1
      obtain ⟨wo, rfl⟩ : ∃ wo : World, wo = wr := ⟨_, rfl⟩
      go_upto_block 2 with fail
      have hA := hC.below ((Below.refl wo.heap.size wo).alloc (Nat.le_refl _) (.cells #[.int .i64 (K k), .int .i64 (T k)] 28 (0, 0)))
      have hJ := hI.below ((Below.refl wo.heap.size wo).alloc (Nat.le_refl _) (.cells #[.int .i64 (K k), .int .i64 (T k)] 28 (0, 0)))
      have hB := hbr.alloc hbr.size (.cells #[.int .i64 (K k), .int .i64 (T k)] 28 (0, 0))
      have hlt2 := Lib.hid hlt
      obtain ⟨i0, hi, hz0, hz1, hz2⟩ := info_parts info2
      have hO0 : (wo.alloc (.cells #[.int .i64 (K k), .int .i64 (T k)] 28 (0, 0))).cell? ⟨wo.heap.size, 0, none⟩ = some (.int .i64 (K k)) := two_cells.1
      have hO1 : (wo.alloc (.cells #[.int .i64 (K k), .int .i64 (T k)] 28 (0, 0))).cell? ⟨wo.heap.size, 1, none⟩ = some (.int .i64 (T k)) := two_cells.2
      have Z : Hid ((wo.alloc (.cells #[.int .i64 (K k), .int .i64 (T k)] 28 (0, 0))).heap.size = wo.heap.size + 1) := two_size
      have hFl := hA.fl.le
      generalize wo.alloc (.cells #[.int .i64 (K k), .int .i64 (T k)] 28 (0, 0)) = wb at *
      go_cut [4] (fun v4 wx => EndsAt w w.heap.size (w.heap.size + 3) (k + 1) v4 wx)
      case first =>
        rcases kinds4 (K k) with g2 | ⟨g2, g3⟩ | ⟨g2, g3, g4⟩ | ⟨g2, g3, g4, g1⟩ | ⟨g2, g3, g4, g1⟩
        · -- Begin
          by_cases hm : 1099511627776 < s.next
          · go_wp2_with (go_at_call 13; refine (begin_no w.heap.size n s _ hA hm).mono ?_; rintro e w3 ⟨rfl, hC3, t3⟩)
            go_meet
            exact ⟨s, n, by omega, hC3, hF, hJ.turn t3 (Nat.le_refl _), hB.trans (t3.low hA), by have := t3.size; have := Z.out; omega, hnn⟩
          · go_wp2_with (first
              | (go_at_call 13; refine (begin_yes w.heap.size n s _ hA (by omega) (by omega)).mono ?_; rintro e w3 ⟨rfl, hC3, t3⟩)
              | (at_builtin; refine wpList_append_own _ rfl _ _ 26 rfl (w.heap.size + 3) 2 i0 (.int .i64 0) 1 8 Try.underlying26 hi hz0 hz1 hz2 rfl (by decide) _ _ _ rfl ((hJ.turn t3 (Nat.le_refl _)).below ((Below.refl _ _).alloc (Nat.le_refl _) _)).row ⟨w3.heap.size, 0, none⟩ 1 1 [.int .i64 s.next] rfl (by simp) (cell_one_new _ _ _) (by simp [Value.oneCell']) (by simp; unfold maxLen; omega) (by simp; omega) (by have := t3.size; have := Z.out; simp; omega) ?_; intro v' w4 hown4 hgrow4 hnil4))
            go_meet
            have z3 := t3.size
            have z0 := Z.out
            have b4 : Below (w.heap.size + 3) w3 w4 := ((Below.refl _ w3).alloc (by omega) _).grown hgrow4 (by simp; omega) (hJ.ownBlock)
            refine ⟨_, n + 1, by omega, hC3.low b4, hF.begin, ⟨?_⟩, (hB.trans (t3.low hA)).trans (b4.mono (by omega)), by have := b4.size; omega, fun e => hnn (hnil4.1 e).1⟩
            simpa using hown4
        · -- Commit
          obtain ⟨op, hop⟩ : ∃ op, op = s.F.reverse := ⟨_, rfl⟩
          have hJ2 := hJ
          rw [← hop] at hJ2
          have hopl : op.length = s.F.length := by rw [hop]; simp
          have HOP := Lib.hid hop; have HOPL := Lib.hid hopl
          have hol : op.length ≤ n := by omega
          clear hop hopl hJ
          rcases hJ2.row.2 with ⟨h0, _⟩ | ⟨g, cap4, cur, rfl, a2, a3, a4, a5, a6, a7⟩
          · exact absurd h0 hnn
          have hcells : ∀ j, (hj : j < op.length) → wb.cell? ⟨g, j, none⟩ = some (.int .i64 op[j]) := fun j hj => by
            rw [hJ2.row.cellAt j (by omega), List.getElem?_map, List.getElem?_eq_getElem hj]; rfl
          have hgb : g < wb.heap.size := lt_of_block a3
          have hob : wo.heap.size < wb.heap.size := by have := Z.out; omega
          have HC := Lib.hid hcells
          clear hcells a2 a3 a6 a7
          go_upto_block 3 with fail
          go_cut [9, 10] (fun v9 v10 wx => v9 = .bool (isIn (T k) op) ∧ Ints wx wb.heap.size v10 (others (T k) op) ∧ v10 ≠ .slice none 0 0 ∧ Below wb.heap.size wb wx)
          case first =>
            go_wp2_with fail
            go_loopw [9, 10, 52] (fun v9 v10 v52 wx => ∃ j : Nat, j ≤ op.length ∧ v52 = .int .i64 j ∧ v9 = .bool (isIn (T k) (op.take j)) ∧ Ints wx wb.heap.size v10 (others (T k) (op.take j)) ∧ v10 ≠ .slice none 0 0 ∧ Below wb.heap.size wb wx) (fun _ _ v52 _ => op.length - (intOf v52).toNat)
            case atStart =>
              refine ⟨0, by omega, rfl, rfl, ⟨rfl, .inr ⟨wb.heap.size, 0, #[], rfl, Nat.le_refl _, (MapKept.heap_alloc _ _).1, (show (0 : Nat) ≤ 0 from Nat.le_refl _), by unfold maxLen; omega, rfl, rfl⟩⟩, by simp, (Below.refl _ _).alloc (Nat.le_refl _) _⟩
            case round =>
              obtain ⟨j, hj, rfl, rfl, hR, hRn, hbx⟩ := hrel
              by_cases hjl : j < op.length
              · have HJL := Lib.hid hjl
                have hcell1 := (hbx.cell (p := ⟨wo.heap.size, 1, none⟩) hob).trans hO1
                have hol2 := others_le (T k) op j
                obtain ⟨x, hx⟩ : ∃ x, x = op[j] := ⟨_, rfl⟩
                have hcell : wr.cell? ⟨g, j, none⟩ = some (.int .i64 x) := by rw [hx]; exact (hbx.cell (p := ⟨g, j, none⟩) hgb).trans (HC.out j hjl)
                by_cases hxt : x = T k
                · have hbt : (x == T k) = true := by rw [beq_iff_eq]; exact hxt
                  have H1 := Lib.hid (isIn_snoc_yes op j hjl (T k) x hx hxt)
                  have H2 := Lib.hid (others_snoc_yes op j hjl (T k) x hx hxt)
                  clear hx hxt
                  go_wp2
                  go_roundw
                  case rel =>
                    have hjl2 := HJL.out
                    exact ⟨j + 1, by omega, by go_num, by rw [H1.out], by rw [H2.out]; exact hR, hRn, hbx⟩
                  case measure => have hjl2 := HJL.out; simp [intOf]; omega
                · have hbt : (x == T k) = false := by rw [beq_eq_false_iff_ne]; exact hxt
                  have H1 := Lib.hid (isIn_snoc_no op j hjl (T k) x hx hxt)
                  have H2 := Lib.hid (others_snoc_no op j hjl (T k) x hx hxt)
                  clear hx hxt
                  go_wp2_with (first
                    | (at_builtin; refine wpList_append_own _ rfl _ _ 26 rfl wb.heap.size 2 i0 (.int .i64 0) 1 8 Try.underlying26 hi hz0 hz1 hz2 rfl (by decide) _ _ _ rfl (hR.below ((Below.refl _ _).alloc (Nat.le_refl _) _)).row ⟨wr.heap.size, 0, none⟩ 1 1 [.int .i64 x] rfl (by simp) (cell_one_new _ _ _) (by simp [Value.oneCell']) (by unfold maxLen; omega) (by omega) (by have := hbx.size; simp; omega) ?_; intro v' w4 hown4 hgrow4 hnil4))
                  go_roundw
                  case rel =>
                    have hjl2 := HJL.out
                    refine ⟨j + 1, by omega, by go_num, by rw [H1.out], ⟨?_⟩, fun e => hRn (hnil4.1 e).1, (hbx.alloc hbx.size _).grown hgrow4 (by have := hbx.size; simp; omega) hR.ownBlock⟩
                    rw [H2.out]; simpa using hown4
                  case measure => have hjl2 := HJL.out; simp [intOf]; omega
              · obtain rfl : j = op.length := by omega
                go_wp2
                go_meet
                rw [List.take_length] at hR
                exact ⟨by rw [List.take_length], hR, hRn, hbx⟩
          case rest =>
            obtain ⟨rfl, hR, hRn, hbx⟩ := hcut
            have hcell0 := (hbx.cell (p := ⟨wo.heap.size, 0, none⟩) hob).trans hO0
            have hcell1 := (hbx.cell (p := ⟨wo.heap.size, 1, none⟩) hob).trans hO1
            have hD := hA.below hbx
            have hszb := hbx.size
            by_cases hm : T k ∈ s.F
            · have hd : isIn (T k) op = true := by rw [HOP.out]; simpa [isIn] using hm
              go_wp2_with (go_at_call 14; refine (commit_yes w.heap.size n s (T k) _ hD (by omega) wt hm).mono ?_; rintro e w3 ⟨rfl, hC3, t3⟩)
              go_meet
              have hR2 := hR
              rw [HOP.out, others_reverse hF.1] at hR2
              refine ⟨_, n + 1, by omega, hC3, erase_falls hF (T k), (hR2.mono (by omega)).turn t3 (Nat.le_refl _), (hB.trans (hbx.mono (by omega))).trans (t3.low hD), by have := t3.size; omega, hRn⟩
            · have hd : isIn (T k) op = false := by rw [HOP.out]; simpa [isIn] using hm
              go_wp2_with (go_at_call 14; refine (commit_no w.heap.size n s (T k) _ hD (by omega) wt hm).mono ?_; rintro e w3 ⟨rfl, hC3, t3⟩)
              go_meet
              have hR2 := hR
              rw [HOP.out, others_reverse hF.1, List.erase_of_not_mem hm] at hR2
              refine ⟨_, n + 1, by omega, hC3, hF, (hR2.mono (by omega)).turn t3 (Nat.le_refl _), (hB.trans (hbx.mono (by omega))).trans (t3.low hD), by have := t3.size; omega, hRn⟩
        · -- Abort
          obtain ⟨op, hop⟩ : ∃ op, op = s.F.reverse := ⟨_, rfl⟩
          have hJ2 := hJ
          rw [← hop] at hJ2
          have hopl : op.length = s.F.length := by rw [hop]; simp
          have HOP := Lib.hid hop; have HOPL := Lib.hid hopl
          have hol : op.length ≤ n := by omega
          clear hop hopl hJ
          rcases hJ2.row.2 with ⟨h0, _⟩ | ⟨g, cap4, cur, rfl, a2, a3, a4, a5, a6, a7⟩
          · exact absurd h0 hnn
          have hcells : ∀ j, (hj : j < op.length) → wb.cell? ⟨g, j, none⟩ = some (.int .i64 op[j]) := fun j hj => by
            rw [hJ2.row.cellAt j (by omega), List.getElem?_map, List.getElem?_eq_getElem hj]; rfl
          have hgb : g < wb.heap.size := lt_of_block a3
          have hob : wo.heap.size < wb.heap.size := by have := Z.out; omega
          have HC := Lib.hid hcells
          clear hcells a2 a3 a6 a7
          go_upto_block 3 with fail
          go_cut [9, 10] (fun v9 v10 wx => v9 = .bool (isIn (T k) op) ∧ Ints wx wb.heap.size v10 (others (T k) op) ∧ v10 ≠ .slice none 0 0 ∧ Below wb.heap.size wb wx)
          case first =>
            go_wp2_with fail
            go_loopw [9, 10, 52] (fun v9 v10 v52 wx => ∃ j : Nat, j ≤ op.length ∧ v52 = .int .i64 j ∧ v9 = .bool (isIn (T k) (op.take j)) ∧ Ints wx wb.heap.size v10 (others (T k) (op.take j)) ∧ v10 ≠ .slice none 0 0 ∧ Below wb.heap.size wb wx) (fun _ _ v52 _ => op.length - (intOf v52).toNat)
            case atStart =>
              refine ⟨0, by omega, rfl, rfl, ⟨rfl, .inr ⟨wb.heap.size, 0, #[], rfl, Nat.le_refl _, (MapKept.heap_alloc _ _).1, (show (0 : Nat) ≤ 0 from Nat.le_refl _), by unfold maxLen; omega, rfl, rfl⟩⟩, by simp, (Below.refl _ _).alloc (Nat.le_refl _) _⟩
            case round =>
              obtain ⟨j, hj, rfl, rfl, hR, hRn, hbx⟩ := hrel
              by_cases hjl : j < op.length
              · have HJL := Lib.hid hjl
                have hcell1 := (hbx.cell (p := ⟨wo.heap.size, 1, none⟩) hob).trans hO1
                have hol2 := others_le (T k) op j
                obtain ⟨x, hx⟩ : ∃ x, x = op[j] := ⟨_, rfl⟩
                have hcell : wr.cell? ⟨g, j, none⟩ = some (.int .i64 x) := by rw [hx]; exact (hbx.cell (p := ⟨g, j, none⟩) hgb).trans (HC.out j hjl)
                by_cases hxt : x = T k
                · have hbt : (x == T k) = true := by rw [beq_iff_eq]; exact hxt
                  have H1 := Lib.hid (isIn_snoc_yes op j hjl (T k) x hx hxt)
                  have H2 := Lib.hid (others_snoc_yes op j hjl (T k) x hx hxt)
                  clear hx hxt
                  go_wp2
                  go_roundw
                  case rel =>
                    have hjl2 := HJL.out
                    exact ⟨j + 1, by omega, by go_num, by rw [H1.out], by rw [H2.out]; exact hR, hRn, hbx⟩
                  case measure => have hjl2 := HJL.out; simp [intOf]; omega
                · have hbt : (x == T k) = false := by rw [beq_eq_false_iff_ne]; exact hxt
                  have H1 := Lib.hid (isIn_snoc_no op j hjl (T k) x hx hxt)
                  have H2 := Lib.hid (others_snoc_no op j hjl (T k) x hx hxt)
                  clear hx hxt
                  go_wp2_with (first
                    | (at_builtin; refine wpList_append_own _ rfl _ _ 26 rfl wb.heap.size 2 i0 (.int .i64 0) 1 8 Try.underlying26 hi hz0 hz1 hz2 rfl (by decide) _ _ _ rfl (hR.below ((Below.refl _ _).alloc (Nat.le_refl _) _)).row ⟨wr.heap.size, 0, none⟩ 1 1 [.int .i64 x] rfl (by simp) (cell_one_new _ _ _) (by simp [Value.oneCell']) (by unfold maxLen; omega) (by omega) (by have := hbx.size; simp; omega) ?_; intro v' w4 hown4 hgrow4 hnil4))
                  go_roundw
                  case rel =>
                    have hjl2 := HJL.out
                    refine ⟨j + 1, by omega, by go_num, by rw [H1.out], ⟨?_⟩, fun e => hRn (hnil4.1 e).1, (hbx.alloc hbx.size _).grown hgrow4 (by have := hbx.size; simp; omega) hR.ownBlock⟩
                    rw [H2.out]; simpa using hown4
                  case measure => have hjl2 := HJL.out; simp [intOf]; omega
              · obtain rfl : j = op.length := by omega
                go_wp2
                go_meet
                rw [List.take_length] at hR
                exact ⟨by rw [List.take_length], hR, hRn, hbx⟩
          case rest =>
            obtain ⟨rfl, hR, hRn, hbx⟩ := hcut
            have hcell0 := (hbx.cell (p := ⟨wo.heap.size, 0, none⟩) hob).trans hO0
            have hcell1 := (hbx.cell (p := ⟨wo.heap.size, 1, none⟩) hob).trans hO1
            have hD := hA.below hbx
            have hszb := hbx.size
            by_cases hm : T k ∈ s.F
            · have hd : isIn (T k) op = true := by rw [HOP.out]; simpa [isIn] using hm
              go_wp2_with (go_at_call 15; refine (abort_yes w.heap.size n s (T k) _ hD (by omega) wt hm).mono ?_; rintro e w3 ⟨rfl, hC3, t3⟩)
              go_meet
              have hR2 := hR
              rw [HOP.out, others_reverse hF.1] at hR2
              refine ⟨_, n + 1, by omega, hC3, erase_falls hF (T k), (hR2.mono (by omega)).turn t3 (Nat.le_refl _), (hB.trans (hbx.mono (by omega))).trans (t3.low hD), by have := t3.size; omega, hRn⟩
            · have hd : isIn (T k) op = false := by rw [HOP.out]; simpa [isIn] using hm
              go_wp2_with (go_at_call 15; refine (abort_no w.heap.size n s (T k) _ hD (by omega) wt hm).mono ?_; rintro e w3 ⟨rfl, hC3, t3⟩)
              go_meet
              have hR2 := hR
              rw [HOP.out, others_reverse hF.1, List.erase_of_not_mem hm] at hR2
              refine ⟨_, n + 1, by omega, hC3, hF, (hR2.mono (by omega)).turn t3 (Nat.le_refl _), (hB.trans (hbx.mono (by omega))).trans (t3.low hD), by have := t3.size; omega, hRn⟩
        · -- Tick
          go_wp2_with (go_at_call 16; refine (tick_any w.heap.size n s (T k) _ hA wt).mono ?_; rintro e w3 ⟨rfl, hC3, t3⟩)
          go_meet
          exact ⟨_, n, by omega, hC3, hF.tick _, hJ.turn t3 (Nat.le_refl _), hB.trans (t3.low hA), by have := t3.size; have := Z.out; omega, hnn⟩
        · go_wp2
          go_meet
          exact ⟨s, n, by omega, hA, hF, hJ, hB, by have := Z.out; omega, hnn⟩
      case rest =>
        obtain ⟨s', n', hn', hC', hF', hI', hbr', hsz', hnn'⟩ := hcut
        have hFl' := hC'.fl.le
        obtain ⟨op, hop⟩ : ∃ op, op = s'.F.reverse := ⟨_, rfl⟩
        have hJ2 := hI'
        rw [← hop] at hJ2
        have hrise : rise s'.F = op := by rw [hop]; exact rise_reverse hF'.1
        have hol : op.length ≤ n' := by rw [hop]; simpa using hFl'
        have HRI := Lib.hid hrise
        have hE' : EndsAt w w.heap.size (w.heap.size + 3) (k + 1) u4 wc := ⟨s', n', hn', hC', hF', hI', hbr', hsz', hnn'⟩
        clear hop hrise hFl'
        rcases hJ2.row.2 with ⟨h0, _⟩ | ⟨g, cap4, cur, hv4, a2, a3, a4, a5, a6, a7⟩
        · exact absurd h0 hnn'
        have hgb : g < wc.heap.size := lt_of_block a3
        have hcells : ∀ j, (hj : j < op.length) → wc.cell? ⟨g, j, none⟩ = some (.int .i64 op[j]) := fun j hj => by
          rw [hv4] at hJ2
          rw [hJ2.row.cellAt j (by omega), List.getElem?_map, List.getElem?_eq_getElem hj]; rfl
        have HC := Lib.hid hcells; have HE := Lib.hid hE'
        clear hcells a2 a3 a6 a7 hJ2 hI' hE' hnn'
        have hlt3 := hlt2.out
        subst hv4
        go_wp2_with (go_at_call 17; refine (flight_any w.heap.size n' s' _ hC' (by omega)).mono ?_; rintro e w5 ⟨v5, rfl, hI5, hb5⟩; rw [HRI.out] at hI5; rcases hI5.row.2 with ⟨hv5, hz5⟩ | ⟨g5, cap5, cur5, hv5, p2, p3, p4, p5, p6, p7⟩ <;> subst hv5)
        · -- nothing is open
          have hop0 : op = [] := List.eq_nil_of_length_eq_zero hz5
          have hol0 : op.length = 0 := hz5
          have HO0 := Lib.hid hol0
          refine wp_loop_rounds 1 ?_
          rw [rounds_succ]
          go_wp2
          go_roundw
          case rel =>
            refine ⟨k + 1, by omega, by go_num, ?_⟩
            have he := HE.out
            rw [HO0.out] at he
            exact he.below hb5
          case measure => simp [intOf]; omega
        · have hc5 : ∀ j, (hj : j < op.length) → w5.cell? ⟨g5, j, none⟩ = some (.int .i64 op[j]) := fun j hj => by
            rw [hI5.row.cellAt j (by omega), List.getElem?_map, List.getElem?_eq_getElem hj]; rfl
          have HC5 := Lib.hid hc5
          clear hc5 p2 p3 p6 p7 hI5
          go_loop [104] (fun v104 => ∃ j : Nat, j ≤ op.length ∧ v104 = .int .i64 j) (fun v104 => op.length - (intOf v104).toNat)
          case atStart => exact ⟨0, by omega, rfl⟩
          case round =>
            obtain ⟨j, hj, rfl⟩ := hrel
            by_cases hjl : j < op.length
            · have HJL := Lib.hid hjl
              obtain ⟨x, hx⟩ : ∃ x, x = op[j] := ⟨_, rfl⟩
              have d1 : w5.cell? ⟨g5, j, none⟩ = some (.int .i64 x) := by rw [hx]; exact HC5.out j hjl
              have d2 : w5.cell? ⟨g, j, none⟩ = some (.int .i64 x) := by rw [hx]; exact (hb5.cell (p := ⟨g, j, none⟩) hgb).trans (HC.out j hjl)
              clear hx
              go_wp2
              go_round
              case rel => exact ⟨j + 1, by have := HJL.out; omega, by go_num⟩
              case measure => have := HJL.out; simp [intOf]; omega
            · go_wp2
              go_roundw
              case rel => exact ⟨k + 1, by omega, by go_num, HE.out.below hb5⟩
              case measure => simp [intOf]; omega
    · go_wp2
      go_ret
      obtain ⟨s, n, hn, hC, hF, hI, hbr, hsz, hnn⟩ := hE
      exact ⟨rfl, hbr⟩

set_option maxRecDepth 100000 in
set_option maxHeartbeats 1000000 in
theorem ends_zero (p : Option Addr) (cap : Nat) (w : World) : Calls Try.prog 3 #[.slice p 0 cap] w fun e w' => e = .returned (.bool true) ∧ Below w.heap.size w w' := by
  go_enter Try.func3, Try.ntmps3
  go_wp2_with (first
    | (go_at_call 11; refine (made_any _).mono ?_; rintro e w1 ⟨rfl, h1, b1, z1⟩; have Z1 := Lib.hid z1; clear z1)
    | (go_at_call 12; refine (alive_any _).mono ?_; rintro e w2 ⟨rfl, b2⟩))
  have b3 : Below w.heap.size w w2 := b1.trans (b2.mono b1.size)
  refine wp_loop_rounds 1 ?_
  rw [rounds_succ]
  go_wp2
  go_ret
  exact ⟨rfl, b3.alloc b3.size _⟩

end Go.Proofs.Ytiijkehiphkkiaa
