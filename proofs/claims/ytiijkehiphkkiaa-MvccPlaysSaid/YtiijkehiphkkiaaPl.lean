/-
  MvccPlays walked: for every script the law returns true.
-/
import Derived.Test.YtiijkehiphkkiaaAs
import Derived.Deep.RegionHeld3
set_option linter.unusedVariables false
namespace Go.Proofs.Ytiijkehiphkkiaa
open Go.RowKit Go.Maps Go.Sort

theorem ClockAt.heap {w w1 : World} {c n : Nat} {s : St} (h : ClockAt w c n s) (e : w1.heap = w.heap) : ClockAt w1 c n s := h.kept (by rw [e]) (by rw [e]) (by rw [e])
theorem ClockAt.later {w w1 w' : World} {c n : Nat} {s : St} (h : ClockAt w c n s) (e : w1.heap = w.heap) (hb : Below w1.heap.size w1 w') : ClockAt w' c n s := (h.heap e).below hb
theorem Ints.heap {w w1 : World} {B : Nat} {v : Value} {l : List Int} (h : Ints w B v l) (e : w1.heap = w.heap) : Ints w1 B v l :=
  ⟨by have := h.row; unfold World.ownsRow at this ⊢; rw [e]; exact this⟩
theorem RefAt.heap {w w1 : World} {B : Nat} {s : St} {vf vp : Value} (h : RefAt w B s vf vp) (e : w1.heap = w.heap) : RefAt w1 B s vf vp := by
  obtain ⟨⟨lf, f1, f2⟩, ⟨lp, p1, p2⟩⟩ := h
  exact ⟨⟨lf, f1.heap e, f2⟩, ⟨lp, p1.heap e, p2⟩⟩
theorem RefAt.later {w w1 w' : World} {B : Nat} {s : St} {vf vp : Value} (h : RefAt w B s vf vp) (e : w1.heap = w.heap) (hb : Below w1.heap.size w1 w') : RefAt w' B s vf vp := (h.heap e).below hb

/-- A block that can be written over. -/
def Buf (w : World) (g L : Nat) : Prop := ∃ cur, w.heap[g]? = some (.cells cur 2 (0, 0)) ∧ L ≤ cur.size
theorem Buf.of {w : World} {B g cap : Nat} {l : List Int} (h : Ints w B (.slice (some ⟨g, 0, none⟩) l.length cap) l) : Buf w g l.length := by
  rcases h.row.2 with ⟨h2, _⟩ | ⟨g', cap', cur, e, _, h3, h4, _, h6, _⟩
  · cases h2
  · cases e; exact ⟨cur, h3, by omega⟩
theorem Buf.at {w : World} {g L j : Nat} (h : Buf w g L) (hj : j < L) : (∃ u, w.cell? ⟨g, j, none⟩ = some u) ∧ w.frozen? ⟨g, j, none⟩ = false := by
  obtain ⟨cur, h1, h2⟩ := h
  refine ⟨⟨cur[j]'(by omega), ?_⟩, five_free h1 j⟩
  simp only [World.cell?, h1]
  simp
theorem Buf.set {w : World} {g L : Nat} (h : Buf w g L) (j : Nat) (u : Value) : Buf (w.setCell ⟨g, j, none⟩ u) g L := by
  obtain ⟨cur, h1, h2⟩ := h
  exact ⟨_, block_setCell h1, by simpa using h2⟩
theorem Ints.from {w w' : World} {B : Nat} {v : Value} {l : List Int} (h : Ints w B v l) (hq : ∀ q, B ≤ q → w'.heap[q]? = w.heap[q]?) : Ints w' B v l := by
  obtain ⟨h1, h2⟩ := h.row
  refine ⟨⟨h1, ?_⟩⟩
  rcases h2 with h2 | ⟨g, cap, cur, r1, r2, r3, r⟩
  · exact .inl h2
  · exact .inr ⟨g, cap, cur, r1, r2, (hq g r2).trans r3, r⟩

/-- The clock, its reference, the box of the reference's state. -/
structure Both (w0 w : World) (c B bm n : Nat) (s : St) (fa pa : Option Addr) (fn fc pn pc : Nat) : Prop where
  clock : ClockAt w c n s
  ref : RefAt w B s (.slice fa fn fc) (.slice pa pn pc)
  box : w.heap[bm]? = some (.cells #[.int .i64 s.now, .int .i64 s.last, .int .i64 s.mark, .slice fa fn fc, .slice pa pn pc] 39 (0, 0))
  low : Below w0.heap.size w0 w
  size : B ≤ w.heap.size

theorem Both.heap {w0 w w1 : World} {c B bm n : Nat} {s : St} {fa pa : Option Addr} {fn fc pn pc : Nat} (h : Both w0 w c B bm n s fa pa fn fc pn pc) (e : w1.heap = w.heap) (e1 : w1.os = w.os) (e2 : w1.tape = w.tape) (e3 : w1.output = w.output) : Both w0 w1 c B bm n s fa pa fn fc pn pc :=
  ⟨h.clock.heap e, h.ref.heap e, by rw [e]; exact h.box, ⟨e1.trans h.low.os, e2.trans h.low.tape, e3.trans h.low.output, by rw [e]; exact h.low.size, fun k hk => by rw [e]; exact h.low.block k hk⟩, by rw [e]; exact h.size⟩
theorem Both.below {w0 w w' : World} {c B bm n : Nat} {s : St} {fa pa : Option Addr} {fn fc pn pc : Nat} (h : Both w0 w c B bm n s fa pa fn fc pn pc) (hb : Below w.heap.size w w') : Both w0 w' c B bm n s fa pa fn fc pn pc :=
  ⟨h.clock.below hb, h.ref.below hb, (hb.block _ (lt_of_block h.box)).trans h.box, h.low.trans (hb.mono h.low.size), Nat.le_trans h.size hb.size⟩
theorem Both.later {w0 w w1 w' : World} {c B bm n : Nat} {s : St} {fa pa : Option Addr} {fn fc pn pc : Nat} (h : Both w0 w c B bm n s fa pa fn fc pn pc) (e : w1.heap = w.heap) (e1 : w1.os = w.os) (e2 : w1.tape = w.tape) (e3 : w1.output = w.output) (hb : Below w1.heap.size w1 w') : Both w0 w' c B bm n s fa pa fn fc pn pc :=
  (h.heap e e1 e2 e3).below hb

theorem Both.stored {w0 w : World} {c B bm n : Nat} {s : St} {fa pa : Option Addr} {fn fc pn pc : Nat} {x0 x1 x2 x3 x4 : Value} (hC : ClockAt w c n s) (hR : RefAt w B s (.slice fa fn fc) (.slice pa pn pc))
    (hX : w.heap[bm]? = some (.cells #[x0, x1, x2, x3, x4] 39 (0, 0))) (hl : Below w0.heap.size w0 w) (hB : B ≤ w.heap.size) (h1 : c + 2 < bm) (h2 : w0.heap.size ≤ bm) :
    Both w0 (((((w.setCell ⟨bm, 0, none⟩ (.int .i64 s.now)).setCell ⟨bm, 1, none⟩ (.int .i64 s.last)).setCell ⟨bm, 2, none⟩ (.int .i64 s.mark)).setCell ⟨bm, 3, none⟩ (.slice fa fn fc)).setCell ⟨bm, 4, none⟩ (.slice pa pn pc)) c B bm n s fa pa fn fc pn pc :=
  ⟨hC.fives bm h1 _ _ _ _ _, hR.setR hX _ _ _ _ _, block_setCell (block_setCell (block_setCell (block_setCell (block_setCell hX)))), five_set hl bm h2 _ _ _ _ _, by simpa only [size_set] using hB⟩

/-- Between two calls. -/
def PlaysAt (w0 : World) (c B bm k : Nat) (w : World) : Prop := ∃ s n fa pa fn fc pn pc, n ≤ k ∧ Both w0 w c B bm n s fa pa fn fc pn pc

set_option maxRecDepth 100000 in
set_option maxHeartbeats 2000000 in
theorem plays_any (b off N cap : Nat) (K T : Nat → Int) (w : World) (h : OpsAt w b off N K T) (hN : 0 < N) (hcap : N * 16 ≤ 140737488351232) :
    Calls Try.prog 6 #[.slice (some ⟨b, off, none⟩) N cap] w fun e w' => e = .returned (.bool true) ∧ Below w.heap.size w w' := by
  go_enter Try.func6, Try.ntmps6
  go_wp2_with (first
    | (go_at_call 11; refine (made_any _).mono ?_; rintro e w1 ⟨rfl, h1, b1, z1⟩; have Z1 := Lib.hid z1; clear z1)
    | (go_at_call 12; refine (alive_any _).mono ?_; rintro e w2 ⟨rfl, b2⟩)
    | (go_at_call 26; refine (ref_new _).mono ?_; unfold St.val; rintro e w3 ⟨rfl, b3⟩))
  have s2 : w.heap.size + 3 ≤ w3.heap.size := by rw [← Z1.out]; exact Nat.le_trans b2.size b3.size
  have b13 : Below w.heap.size w w3 := (b1.trans (b2.mono b1.size)).trans (b3.mono (b1.trans (b2.mono b1.size)).size)
  have hA := (Below.refl w3.heap.size w3).alloc (Nat.le_refl _) (.cells #[.int .i64 0, .int .i64 (-1), .int .i64 0, .slice none 0 0, .slice none 0 0] 39 (0, 0))
  have h0 : PlaysAt w w.heap.size (w.heap.size + 3) w3.heap.size 0 (w3.alloc (.cells #[.int .i64 0, .int .i64 (-1), .int .i64 0, .slice none 0 0, .slice none 0 0] 39 (0, 0))) :=
    ⟨⟨0, -1, 0, [], []⟩, 0, none, none, 0, 0, 0, 0, Nat.le_refl _, ((h1.below b2).below b3).below hA, ⟨⟨[], Ints.nil _ _, List.Perm.nil⟩, ⟨[], Ints.nil _ _, List.Perm.nil⟩⟩, (MapKept.heap_alloc _ _).1, b13.trans (hA.mono (by omega)), by have := hA.size; omega⟩
  clear h1 b1 b2 b3 Z1 b13 hA
  obtain ⟨bm, hbm⟩ : ∃ bm, bm = w3.heap.size := ⟨_, rfl⟩
  rw [← hbm] at h0 s2
  rw [← hbm]
  generalize w3.alloc (.cells #[.int .i64 0, .int .i64 (-1), .int .i64 0, .slice none 0 0, .slice none 0 0] 39 (0, 0)) = w4 at *
  clear hbm
  go_loopw [23] (fun vi wr => ∃ k : Nat, k ≤ N ∧ vi = .int .i64 k ∧ PlaysAt w w.heap.size (w.heap.size + 3) bm k wr) (fun vi _ => N - (intOf vi).toNat)
  case atStart => exact ⟨0, by omega, rfl, h0⟩
  case round =>
    obtain ⟨k, hk, rfl, hE⟩ := hrel
    clear h0
    by_cases hlt : k < N
    · obtain ⟨s, n, fa, pa, fn, fc, pn, pc, hn, hBo⟩ := hE
      obtain ⟨hbs, hops⟩ := h
      obtain ⟨q0, q1, wt⟩ := hops k hlt
      have hbr := hBo.low
      have q0' := (hbr.cell (p := ⟨b, off + k * 2, none⟩) hbs).trans q0
      have q1' := (hbr.cell (p := ⟨b, off + k * 2 + 1, none⟩) hbs).trans q1
      have HOPS := Lib.hid hops; clear hops q0 q1
      obtain ⟨wo, rfl⟩ : ∃ wo : World, wo = wr := ⟨_, rfl⟩
      have HLT := Lib.hid hlt
      have hbx := lt_of_block hBo.box
      have hA := (Below.refl wo.heap.size wo).alloc (Nat.le_refl _) (.cells #[.int .i64 (K k), .int .i64 (T k)] 28 (0, 0))
      have hBA := hBo.below hA
      obtain ⟨c0, c1, c2, c3, c4⟩ := five_cells hBo.box
      have hszo := hBo.size
      have hszA : (wo.alloc (.cells #[.int .i64 (K k), .int .i64 (T k)] 28 (0, 0))).heap.size = wo.heap.size + 1 := by simp
      have HSZ := Lib.hid hszA; clear hszA
      go_wp2_with (go_at_call 27; refine (asks_any (w.heap.size + 3) w.heap.size n s (K k) (T k) fa pa fn fc pn pc _ hBA.clock hBA.ref (Nat.le_refl _) hBA.size (by omega) wt).mono ?_; rintro e w5 ⟨vf, vp, rfl, hC5, hR5, t5⟩; generalize s.asks (K k) (T k) = s' at *; obtain ⟨⟨qa, qn, qc, rfl⟩, ⟨ra, rn, rc, rfl⟩⟩ := hR5.slices; have hM5 := (t5.block bm (by have := HSZ.out; omega) (.inr (by omega))).trans hBA.box; have Z5 := t5.size; obtain ⟨d0, d1, d2, d3, d4⟩ := five_cells hM5; have f0 := five_free hM5 0; have f1 := five_free hM5 1; have f2 := five_free hM5 2; have f3 := five_free hM5 3; have f4 := five_free hM5 4; have hbm5 : bm < w5.heap.size := lt_of_block hM5; unfold St.val; clear c0 c1 c2 c3 c4)
      have hl5 : Below w.heap.size w w5 := hBA.low.trans (t5.below (Nat.le_refl _) (by have := hbr.size; have := HSZ.out; omega))
      have hB6 := (Both.stored (w0 := w) hC5 hR5 hM5 hl5 (by have := HSZ.out; omega) (by omega) (by omega)).below ((Below.refl _ _).alloc (Nat.le_refl _) (.cells #[.int .i64 s'.now, .int .i64 s'.last, .int .i64 s'.mark, .slice qa qn qc, .slice ra rn rc] 39 (0, 0)))
      generalize (((((w5.setCell ⟨bm, 0, none⟩ (.int .i64 s'.now)).setCell ⟨bm, 1, none⟩ (.int .i64 s'.last)).setCell ⟨bm, 2, none⟩ (.int .i64 s'.mark)).setCell ⟨bm, 3, none⟩ (.slice qa qn qc)).setCell ⟨bm, 4, none⟩ (.slice ra rn rc)).alloc (.cells #[.int .i64 s'.now, .int .i64 s'.last, .int .i64 s'.mark, .slice qa qn qc, .slice ra rn rc] 39 (0, 0)) = w6 at *
      clear d0 d1 d2 d3 d4 f0 f1 f2 f3 f4 hM5 hC5 hR5 hl5 t5 Z5 hBA hbm5 hA q0' q1'
      have ho := hB6.clock.ok
      have hk1 : k + 1 ≤ N := HLT.out
      go_cut [71] (fun v71 wx => v71 = .bool false ∧ Both w wx w.heap.size (w.heap.size + 3) bm (n + 1) s' qa ra qn qc rn rc)
      case first =>
        go_region_held3 (fun w' => w'.cell? ⟨bm, 0, none⟩ = some (.int .i64 s'.now) ∧ w'.cell? ⟨bm, 1, none⟩ = some (.int .i64 s'.last) ∧ w'.cell? ⟨bm, 2, none⟩ = some (.int .i64 s'.mark) ∧ w'.cell? ⟨bm, 3, none⟩ = some (.slice qa qn qc) ∧ w'.cell? ⟨bm, 4, none⟩ = some (.slice ra rn rc))
          (first | exact five_cells (Both.box (Both.heap hB6 (by rfl) (by rfl) (by rfl) (by rfl))) | go_keep)
          (first
            | (go_at_call 18; refine (now_any w.heap.size (n + 1) s' _ (hB6.clock.heap (by rfl))).mono ?_; rintro e w7 ⟨rfl, rfl⟩)
            | (go_at_call 21; refine (last_any w.heap.size (n + 1) s' _ (hB6.clock.heap (by rfl))).mono ?_; rintro e w7 ⟨rfl, rfl⟩)
            | (go_at_call 23; refine (mark_any w.heap.size (n + 1) s' _ (hB6.clock.heap (by rfl))).mono ?_; rintro e w7 ⟨rfl, rfl⟩)
            | (go_at_call 20; refine (clean_any w.heap.size (n + 1) s' _ (hB6.clock.heap (by rfl))).mono ?_; rintro e w7 ⟨rfl, ta⟩; replace hB6 := hB6.later (by rfl) (by rfl) (by rfl) (by rfl) ta; clear ta)
            | (go_at_call 28; refine (ref_clean (w.heap.size + 3) s' _ _ _ (hB6.ref.heap (by rfl)) ho).mono ?_; rintro e w7 ⟨rfl, ta⟩; replace hB6 := hB6.later (by rfl) (by rfl) (by rfl) (by rfl) ta; clear ta)
            | (go_at_call 22; refine (floor_any w.heap.size (n + 1) s' _ (hB6.clock.heap (by rfl))).mono ?_; rintro e w7 ⟨rfl, ta⟩; replace hB6 := hB6.later (by rfl) (by rfl) (by rfl) (by rfl) ta; clear ta)
            | (go_at_call 29; refine (ref_floor (w.heap.size + 3) s' _ _ _ (hB6.ref.heap (by rfl))).mono ?_; rintro e w7 ⟨rfl, ta⟩; replace hB6 := hB6.later (by rfl) (by rfl) (by rfl) (by rfl) ta; clear ta))
        go_wp2_with fail
        go_meet
        exact ⟨rfl, hB6.heap rfl rfl rfl rfl⟩
      case rest =>
        obtain ⟨rfl, hB7⟩ := hcut
        clear hB6
        obtain ⟨⟨lf, if7, pf7⟩, ⟨lp, ip7, pp7⟩⟩ := hB7.ref
        have hlf := pf7.length_eq; have hlp := pp7.length_eq
        have nF := hB7.clock.fl.le; have nP := hB7.clock.pi.le
        go_wp2_with fail
        refine (flight_any w.heap.size (n + 1) s' _ hB7.clock (by omega)).mono ?_
        rintro e w8 ⟨vx, rfl, hIx, tx⟩
        have hB8 := hB7.below tx
        go_wp2_with fail
        refine (pins_any w.heap.size (n + 1) s' _ hB8.clock (by omega)).mono ?_
        rintro e w9 ⟨vy, rfl, hIy, ty⟩
        have hB9 := hB8.below ty
        have hIx9 := hIx.below ty
        obtain ⟨e0, e1, e2, e3, e4⟩ := five_cells hB9.box
        go_wp2_with fail
        refine (sorted_ref 0 _ _ (rise s'.F) lf _ (hIx9.mono (Nat.zero_le _)) (((if7.below tx).below ty).mono (Nat.zero_le _)) (rise_sorted _) ((rise_perm _).trans pf7.symm) (by omega)).mono ?_
        rintro e w10 ⟨rfl, t10⟩
        have hB10 := hB9.below t10
        clear e0 e1 e2 e3 e4
        obtain ⟨e0, e1, e2, e3, e4⟩ := five_cells hB10.box
        go_wp2_with fail
        refine (sorted_ref 0 _ _ (rise s'.P) lp _ ((hIy.below t10).mono (Nat.zero_le _)) ((((ip7.below tx).below ty).below t10).mono (Nat.zero_le _)) (rise_sorted _) ((rise_perm _).trans pp7.symm) (by omega)).mono ?_
        rintro e w11 ⟨rfl, t11⟩
        have hB11 := hB10.below t11
        have hx11 := (hIx9.below t10).below t11
        have hy11 := (hIy.below t10).below t11
        clear e0 e1 e2 e3 e4
        have b11 : Below wc.heap.size wc w11 := ((tx.trans (ty.mono tx.size)).trans (t10.mono (Nat.le_trans tx.size ty.size))).trans (t11.mono (Nat.le_trans (Nat.le_trans tx.size ty.size) t10.size))
        have z8 := tx.size
        have hIx8 := hIx
        clear hB8 hB9 hB10 hB11 hIx hIy hIx9 tx ty t10 t11 if7 ip7
        go_upto_region 15 with fail
        rcases hx11.shape with ⟨rfl, hx0⟩ | ⟨gx, capx, rfl, hgx, hgx2, hLx⟩
        · go_wp2_with fail
          refine wp_loop_rounds 1 ?_
          rw [rounds_succ]
          go_upto_region 20 with fail
          rcases hy11.shape with ⟨rfl, hy0⟩ | ⟨gy, capy, rfl, hgy, hgy2, hLy⟩
          · go_wp2_with fail
            refine wp_loop_rounds 1 ?_
            rw [rounds_succ]
            go_wp2
            go_roundw
            case rel => exact ⟨k + 1, by omega, by go_num, ⟨s', n + 1, _, _, _, _, _, _, by omega, hB7.below (b11)⟩⟩
            case measure => simp [intOf]; omega
          · have hbufy := Buf.of hy11
            generalize (rise s'.P).length = Ly at *
            go_wp2_with fail
            go_loopw [99] (fun v99 wr => ∃ j : Nat, j ≤ Ly ∧ v99 = .int .i64 j ∧ Below wc.heap.size wc wr ∧ Buf wr gy Ly) (fun v99 _ => Ly - (intOf v99).toNat)
            case atStart => exact ⟨0, by omega, rfl, b11, hbufy⟩
            case round =>
              obtain ⟨j, hj, rfl, hbj, hbuf⟩ := hrel
              by_cases hjl : j < Ly
              · have HJL := Lib.hid hjl
                obtain ⟨⟨u, hu⟩, hfz⟩ := hbuf.at hjl
                go_wp2
                go_roundw
                case rel => exact ⟨j + 1, by have := HJL.out; omega, by go_num, hbj.setCell (by simp; omega) _, hbuf.set _ _⟩
                case measure => have := HJL.out; simp [intOf]; omega
              · go_wp2
                go_roundw
                case rel => exact ⟨k + 1, by omega, by go_num, ⟨s', n + 1, _, _, _, _, _, _, by omega, hB7.below hbj⟩⟩
                case measure => simp [intOf]; omega
        · have hbufx := Buf.of hx11
          have hgx8 : gx < w8.heap.size := by
            obtain ⟨_, h2⟩ := hIx8.row
            rcases h2 with ⟨h2, _⟩ | ⟨g', cap', cur', e', _, h3, _⟩
            · cases h2
            · cases e'; exact lt_of_block h3
          generalize (rise s'.F).length = Lx at *
          go_wp2_with fail
          go_loopw [90] (fun v90 wr => ∃ j : Nat, j ≤ Lx ∧ v90 = .int .i64 j ∧ Below wc.heap.size wc wr ∧ Buf wr gx Lx ∧ w11.heap.size = wr.heap.size ∧ Hid (∀ q, w8.heap.size ≤ q → wr.heap[q]? = w11.heap[q]?)) (fun v90 _ => Lx - (intOf v90).toNat)
          case atStart => exact ⟨0, by omega, rfl, b11, hbufx, rfl, Lib.hid fun _ _ => rfl⟩
          case round =>
            obtain ⟨j, hj, rfl, hbj, hbuf, hsj, hqj⟩ := hrel
            by_cases hjl : j < Lx
            · have HJL := Lib.hid hjl
              have HSJ := Lib.hid hsj
              clear hsj
              obtain ⟨⟨u, hu⟩, hfz⟩ := hbuf.at hjl
              go_wp2
              go_roundw
              case rel => exact ⟨j + 1, by have := HJL.out; omega, by go_num, hbj.setCell (by simp; omega) _, hbuf.set _ _, by rw [size_set]; exact HSJ.out, Lib.hid fun q hq => (Below.heap_setCell _ _ _ _ (by simp; omega)).trans (hqj.out q hq)⟩
              case measure => have := HJL.out; simp [intOf]; omega
            · replace hy11 : Ints wr w8.heap.size vy (rise s'.P) := hy11.from hqj.out
              have hbj0 := hbj
              clear hsj hqj hbuf hbufx hbj
              go_upto_region 20 with fail
              rcases hy11.shape with ⟨rfl, hy0⟩ | ⟨gy, capy, rfl, hgy, hgy2, hLy⟩
              · go_wp2_with fail
                refine wp_loop_rounds 1 ?_
                rw [rounds_succ]
                go_wp2
                go_roundw
                case rel => exact ⟨k + 1, by omega, by go_num, ⟨s', n + 1, _, _, _, _, _, _, by omega, hB7.below (hbj0)⟩⟩
                case measure => simp [intOf]; omega
              · have hbufy := Buf.of hy11
                generalize (rise s'.P).length = Ly at *
                go_wp2_with fail
                go_loopw [99] (fun v99 wr => ∃ j : Nat, j ≤ Ly ∧ v99 = .int .i64 j ∧ Below wc.heap.size wc wr ∧ Buf wr gy Ly) (fun v99 _ => Ly - (intOf v99).toNat)
                case atStart => exact ⟨0, by omega, rfl, hbj0, hbufy⟩
                case round =>
                  obtain ⟨j2, hj2, rfl, hbj, hbuf⟩ := hrel
                  by_cases hjl2 : j2 < Ly
                  · have HJL := Lib.hid hjl2
                    obtain ⟨⟨u, hu⟩, hfz⟩ := hbuf.at hjl2
                    go_wp2
                    go_roundw
                    case rel => exact ⟨j2 + 1, by have := HJL.out; omega, by go_num, hbj.setCell (by simp; omega) _, hbuf.set _ _⟩
                    case measure => have := HJL.out; simp [intOf]; omega
                  · go_wp2
                    go_roundw
                    case rel => exact ⟨k + 1, by omega, by go_num, ⟨s', n + 1, _, _, _, _, _, _, by omega, hB7.below hbj⟩⟩
                    case measure => simp [intOf]; omega
    · obtain ⟨s, n, fa, pa, fn, fc, pn, pc, hn, hBo⟩ := hE
      have nF := hBo.clock.fl.le; have nP := hBo.clock.pi.le
      go_wp2_with fail
      go_region_held3 (fun w' => w'.cell? ⟨bm, 3, none⟩ = some (.slice fa fn fc) ∧ w'.cell? ⟨bm, 4, none⟩ = some (.slice pa pn pc))
        (first | exact (five_cells (Both.box (Both.heap hBo (by rfl) (by rfl) (by rfl) (by rfl)))).2.2.2 | go_keep)
        (first
          | (go_at_call 17; refine (flight_any w.heap.size n s _ (hBo.clock.heap (by rfl)) (by omega)).mono ?_; rintro e w7 ⟨vx, rfl, hIx, ta⟩; replace hBo := hBo.later (by rfl) (by rfl) (by rfl) (by rfl) ta; clear ta)
          | (go_at_call 24; clear hIx; refine (pins_any w.heap.size n s _ (hBo.clock.heap (by rfl)) (by omega)).mono ?_; rintro e w7 ⟨vy, rfl, hIy, ta⟩; replace hBo := hBo.later (by rfl) (by rfl) (by rfl) (by rfl) ta; clear ta)
          | (go_at_call_of 30 vx; obtain ⟨⟨lf, i1, p1⟩, _⟩ := id hBo.ref; refine (sorted_ref 0 _ _ (rise s.F) lf _ ((hIx.heap (by rfl)).mono (Nat.zero_le _)) ((i1.heap (by rfl)).mono (Nat.zero_le _)) (rise_sorted _) ((rise_perm _).trans p1.symm) (by have := p1.length_eq; omega)).mono ?_; rintro e w7 ⟨rfl, ta⟩; replace hBo := hBo.later (by rfl) (by rfl) (by rfl) (by rfl) ta; clear ta)
          | (go_at_call_of 30 vy; obtain ⟨_, ⟨lf, i1, p1⟩⟩ := id hBo.ref; refine (sorted_ref 0 _ _ (rise s.P) lf _ ((hIy.heap (by rfl)).mono (Nat.zero_le _)) ((i1.heap (by rfl)).mono (Nat.zero_le _)) (rise_sorted _) ((rise_perm _).trans p1.symm) (by have := p1.length_eq; omega)).mono ?_; rintro e w7 ⟨rfl, ta⟩; replace hBo := hBo.later (by rfl) (by rfl) (by rfl) (by rfl) ta; clear ta))
      go_wp2
      go_ret
      exact ⟨rfl, (hBo.heap rfl rfl rfl rfl).low⟩

set_option maxRecDepth 100000 in
set_option maxHeartbeats 2000000 in
theorem plays_zero (p : Option Addr) (cap : Nat) (w : World) : Calls Try.prog 6 #[.slice p 0 cap] w fun e w' => e = .returned (.bool true) ∧ Below w.heap.size w w' := by
  go_enter Try.func6, Try.ntmps6
  go_wp2_with (first
    | (go_at_call 11; refine (made_any _).mono ?_; rintro e w1 ⟨rfl, h1, b1, z1⟩; have Z1 := Lib.hid z1; clear z1)
    | (go_at_call 12; refine (alive_any _).mono ?_; rintro e w2 ⟨rfl, b2⟩)
    | (go_at_call 26; refine (ref_new _).mono ?_; unfold St.val; rintro e w3 ⟨rfl, b3⟩))
  have s2 : w.heap.size + 3 ≤ w3.heap.size := by rw [← Z1.out]; exact Nat.le_trans b2.size b3.size
  have b13 : Below w.heap.size w w3 := (b1.trans (b2.mono b1.size)).trans (b3.mono (b1.trans (b2.mono b1.size)).size)
  have hA := (Below.refl w3.heap.size w3).alloc (Nat.le_refl _) (.cells #[.int .i64 0, .int .i64 (-1), .int .i64 0, .slice none 0 0, .slice none 0 0] 39 (0, 0))
  have h0 : PlaysAt w w.heap.size (w.heap.size + 3) w3.heap.size 0 (w3.alloc (.cells #[.int .i64 0, .int .i64 (-1), .int .i64 0, .slice none 0 0, .slice none 0 0] 39 (0, 0))) :=
    ⟨⟨0, -1, 0, [], []⟩, 0, none, none, 0, 0, 0, 0, Nat.le_refl _, ((h1.below b2).below b3).below hA, ⟨⟨[], Ints.nil _ _, List.Perm.nil⟩, ⟨[], Ints.nil _ _, List.Perm.nil⟩⟩, (MapKept.heap_alloc _ _).1, b13.trans (hA.mono (by omega)), by have := hA.size; omega⟩
  clear h1 b1 b2 b3 Z1 b13 hA
  obtain ⟨bm, hbm⟩ : ∃ bm, bm = w3.heap.size := ⟨_, rfl⟩
  rw [← hbm] at h0 s2
  rw [← hbm]
  generalize w3.alloc (.cells #[.int .i64 0, .int .i64 (-1), .int .i64 0, .slice none 0 0, .slice none 0 0] 39 (0, 0)) = w4 at *
  clear hbm
  refine wp_loop_rounds 1 ?_
  rw [rounds_succ]
  obtain ⟨s, n, fa, pa, fn, fc, pn, pc, hn, hBo⟩ := h0
  have nF := hBo.clock.fl.le; have nP := hBo.clock.pi.le
  go_wp2_with fail
  go_region_held3 (fun w' => w'.cell? ⟨bm, 3, none⟩ = some (.slice fa fn fc) ∧ w'.cell? ⟨bm, 4, none⟩ = some (.slice pa pn pc))
    (first | exact (five_cells (Both.box (Both.heap hBo (by rfl) (by rfl) (by rfl) (by rfl)))).2.2.2 | go_keep)
    (first
      | (go_at_call 17; refine (flight_any w.heap.size n s _ (hBo.clock.heap (by rfl)) (by omega)).mono ?_; rintro e w7 ⟨vx, rfl, hIx, ta⟩; replace hBo := hBo.later (by rfl) (by rfl) (by rfl) (by rfl) ta; clear ta)
      | (go_at_call 24; clear hIx; refine (pins_any w.heap.size n s _ (hBo.clock.heap (by rfl)) (by omega)).mono ?_; rintro e w7 ⟨vy, rfl, hIy, ta⟩; replace hBo := hBo.later (by rfl) (by rfl) (by rfl) (by rfl) ta; clear ta)
      | (go_at_call_of 30 vx; obtain ⟨⟨lf, i1, p1⟩, _⟩ := id hBo.ref; refine (sorted_ref 0 _ _ (rise s.F) lf _ ((hIx.heap (by rfl)).mono (Nat.zero_le _)) ((i1.heap (by rfl)).mono (Nat.zero_le _)) (rise_sorted _) ((rise_perm _).trans p1.symm) (by have := p1.length_eq; omega)).mono ?_; rintro e w7 ⟨rfl, ta⟩; replace hBo := hBo.later (by rfl) (by rfl) (by rfl) (by rfl) ta; clear ta)
      | (go_at_call_of 30 vy; obtain ⟨_, ⟨lf, i1, p1⟩⟩ := id hBo.ref; refine (sorted_ref 0 _ _ (rise s.P) lf _ ((hIy.heap (by rfl)).mono (Nat.zero_le _)) ((i1.heap (by rfl)).mono (Nat.zero_le _)) (rise_sorted _) ((rise_perm _).trans p1.symm) (by have := p1.length_eq; omega)).mono ?_; rintro e w7 ⟨rfl, ta⟩; replace hBo := hBo.later (by rfl) (by rfl) (by rfl) (by rfl) ta; clear ta))
  go_wp2
  go_ret
  exact ⟨rfl, (hBo.heap rfl rfl rfl rfl).low⟩


end Go.Proofs.Ytiijkehiphkkiaa
