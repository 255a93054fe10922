/-
  Parts of the proof: Sd, Se, Sf, Sh.
-/
import Derived.Test.YtgcpiofpjogjcaaGreatDoorQ17
import Derived.Test.YtgcpiofpjogjcaaGreatDoorQ2
import Derived.Laws.ResultCell
import Derived.Laws.Rows
import Derived.Test.YtgcpiofpjogjcaaGreatDoorQ6
import Derived.Test.YtgcpiofpjogjcaaGreatDoorQ10
import Derived.Laws.OwnMore
section
/-
  The document's append and its loss of power, walked by hand: set, do, Do, On.
-/
namespace Go.Proofs.YtgcpiofpjogjcaaGreatDoor.PK
open Go.RowKit Go.Maps Go.Sort Go.Proofs.YtgcpiofpjogjcaaGreatDoorW.PrintWords Go.Proofs.YtgcpiofpjogjcaaGreatDoorW.PrintLast Go.Proofs.YtgcpiofpjogjcaaGreatDoorW.PrintMore
set_option linter.unusedVariables false
set_option linter.unusedSimpArgs false
variable {own : Nat → Prop} {w w' : World}

theorem alloc3 (w : World) (o1 o2 o3 : Obj) : (((w.alloc o1).alloc o2).alloc o3).heap[w.heap.size]? = some o1 ∧ (((w.alloc o1).alloc o2).alloc o3).heap[w.heap.size + 1]? = some o2 ∧ (((w.alloc o1).alloc o2).alloc o3).heap[w.heap.size + 1 + 1]? = some o3 := by
  have s1 : (w.alloc o1).heap.size = w.heap.size + 1 := by simp
  have s2 : ((w.alloc o1).alloc o2).heap.size = w.heap.size + 1 + 1 := by simp
  have B1 : Below (w.alloc o1).heap.size (w.alloc o1) (((w.alloc o1).alloc o2).alloc o3) := ((Below.refl _ _).alloc (Nat.le_refl _) o2).alloc (by simp) o3
  have B2 : Below ((w.alloc o1).alloc o2).heap.size ((w.alloc o1).alloc o2) (((w.alloc o1).alloc o2).alloc o3) := (Below.refl _ _).alloc (Nat.le_refl _) o3
  refine ⟨(B1.block _ (by omega)).trans (heap_alloc_new w o1), ?_, ?_⟩
  · have := heap_alloc_new (w.alloc o1) o2
    rw [s1] at this
    exact (B2.block _ (by omega)).trans this
  · have := heap_alloc_new ((w.alloc o1).alloc o2) o3
    rw [s2] at this
    exact this
theorem alloc2 (w : World) (o1 o2 : Obj) : ((w.alloc o1).alloc o2).heap[w.heap.size]? = some o1 ∧ ((w.alloc o1).alloc o2).heap[w.heap.size + 1]? = some o2 := by
  obtain ⟨h1, h2, _⟩ := alloc3 w o1 o2 o2
  have B : Below ((w.alloc o1).alloc o2).heap.size ((w.alloc o1).alloc o2) (((w.alloc o1).alloc o2).alloc o2) := (Below.refl _ _).alloc (Nat.le_refl _) o2
  exact ⟨(B.block _ (by simp; omega)).symm.trans h1, (B.block _ (by simp)).symm.trans h2⟩
theorem Turn.widen {own own' : Nat → Prop} {w w' : World} (h : Turn own w w') (ho : ∀ k, own k → own' k) : Turn own' w w' := ⟨h.os, h.tape, h.output, h.size, fun k hk hn => h.block k hk (fun e => hn (ho k e))⟩
theorem Turn.put {own : Nat → Prop} {a b : World} (h : Turn own a b) (p : Addr) (u : Value) (ho : own p.block) : Turn own a (b.setCell p u) := h.trans (Turn.setCell p u ho)
theorem Turn.of_low {own : Nat → Prop} {B : Nat} {w w' : World} (h : Below B w w') (ho : ∀ k, B ≤ k → own k) : Turn own w w' := ⟨h.os, h.tape, h.output, h.size, fun k hk hn => h.block k (by
  rcases Nat.lt_or_ge k B with h1 | h1
  · exact h1
  · exact absurd (ho k h1) hn)⟩
/-- Seven cells of a block written. -/
theorem put7 {w : World} {g : Nat} {t : TypeId} {x0 x1 x2 x3 x4 x5 x6 : Value} (h : w.heap[g]? = some (.cells #[x0, x1, x2, x3, x4, x5, x6] t (0, 0))) (a0 a1 a2 a3 a4 a5 a6 : Value) :
    (((((((w.setCell ⟨g, 0, none⟩ a0).setCell ⟨g, 1, none⟩ a1).setCell ⟨g, 2, none⟩ a2).setCell ⟨g, 3, none⟩ a3).setCell ⟨g, 4, none⟩ a4).setCell ⟨g, 5, none⟩ a5).setCell ⟨g, 6, none⟩ a6).heap[g]? = some (.cells #[a0, a1, a2, a3, a4, a5, a6] t (0, 0)) ∧ Turn (fun k => k = g) w (((((((w.setCell ⟨g, 0, none⟩ a0).setCell ⟨g, 1, none⟩ a1).setCell ⟨g, 2, none⟩ a2).setCell ⟨g, 3, none⟩ a3).setCell ⟨g, 4, none⟩ a4).setCell ⟨g, 5, none⟩ a5).setCell ⟨g, 6, none⟩ a6) := by
  refine ⟨?_, ?_⟩
  · exact blk_put (cs := #[a0, a1, a2, a3, a4, a5, x6]) (blk_put (cs := #[a0, a1, a2, a3, a4, x5, x6]) (blk_put (cs := #[a0, a1, a2, a3, x4, x5, x6]) (blk_put (cs := #[a0, a1, a2, x3, x4, x5, x6]) (blk_put (cs := #[a0, a1, x2, x3, x4, x5, x6]) (blk_put (cs := #[a0, x1, x2, x3, x4, x5, x6]) (blk_put h 0 _ rfl) 1 _ rfl) 2 _ rfl) 3 _ rfl) 4 _ rfl) 5 _ rfl) 6 _ rfl
  · exact ((((((((Turn.refl (fun k => k = g) w).put ⟨g, 0, none⟩ a0 rfl).put ⟨g, 1, none⟩ a1 rfl).put ⟨g, 2, none⟩ a2 rfl).put ⟨g, 3, none⟩ a3 rfl).put ⟨g, 4, none⟩ a4 rfl).put ⟨g, 5, none⟩ a5 rfl).put ⟨g, 6, none⟩ a6 rfl)
theorem results_row_tmp {P : Program} {fn : Func} {p u : Tmp} {ty : TypeId} (h : fn.results = #[.cell p ty, .tmp u]) (tmps : Array Value) (w : World) (g : Nat) (t : TypeId) (cs : Array Value) (fr : Nat × Nat) (d : TypeDesc)
    (hp : tmps.getD p undef = .pointer (some ⟨g, 0, none⟩)) (hg : w.heap[g]? = some (.cells cs t fr))
    (hu : P.underlying ty = some d) (hd : (match d with | .struct _ | .array _ _ => true | _ => false) = true) (hi : (P.info? ty).map (·.size) = some cs.size) :
    (results fn tmps).run P w = .ok (.tuple #[.agg cs, tmps.getD u undef]) w := by
  have hp' : tmps[p]?.getD undef = .pointer (some ⟨g, 0, none⟩) := by simpa using hp
  rw [results_cell_tmp h]
  simp [hp', asAddr, run_loadVar_row w g t ty cs fr d hg hu hd hi, Result.andThen]
/-- A call of a Go function by its contract, as one step of a region that draws. -/
theorem step_call {P : Program} {ops : Array Oper} {o : Oper} {a : Act} {w : World} {K : Act → World → Prop} {Q : Exit → Act → World → Prop} {E : Prop} (hgd : o.guard = none) (f : FuncId) (args : Array Value) (hrun : (execOp a.eval o).run P w = .ok (.enter f args) w)
    {Post : Ending → World → Prop} (hc : Calls P f args w Post) (h : ∀ e w', Post e w' → ∃ v, e = .returned v ∧ K (a.put o.dst v) w') : if Region.wanted o (yielded ops a.tmps) = true then Oper.wp P o a w K Q else E := by
  have hw : Region.wanted o (yielded ops a.tmps) = true := by simp [Region.wanted, hgd]
  rw [if_pos hw]
  unfold Oper.wp
  rw [hrun, Oper.upon_enter]
  refine hc.mono fun e w'' hh => ?_
  obtain ⟨v, rfl, hK⟩ := h e w'' hh
  exact hK
theorem C_zero {α : Type} (d : Kd α) (w : World) (A : Option Addr) : d.C w A 0 [] := ⟨rfl, by omega, fun h => absurd h (by omega)⟩
/-- Place i of the files: its cells, and what they lead to. -/
theorem at_FB {ok : Nat → Prop} {A : Option Addr} {n : Nat} {bs : List S54} (h : Kd.F k54 w ok A n bs) (i : Nat) (hi : i < bs.length) :
    ∃ ad A' c', A = some ad ∧ w.cell? (ad.add (i * 2)) = some (.slice A' (bs.getD i z54).f0.length c') ∧ w.cell? ⟨(ad.add (i * 2)).block, (ad.add (i * 2)).off + 1, none⟩ = some (.int .i64 (bs.getD i z54).f1) ∧ (bs.getD i z54).f0.length ≤ c' ∧
      Kd.F (Kd.int .u8) w ok A' (bs.getD i z54).f0.length (bs.getD i z54).f0 ∧ Kd.FK k54 w ok (bs.getD i z54) [.slice A' (bs.getD i z54).f0.length c', .int .i64 (bs.getD i z54).f1] := by
  have hl := Kd.F_len h
  obtain ⟨ad, c, rfl, hcl, hK, hcc0, _⟩ := Kd.F_get h z54 (i : Int) (by omega) (by omega)
  simp only [Int.toNat_natCast] at hK hcc0
  have hcc : ∀ j u, c[j]? = some u → w.cell? (ad.add (i * 2 + j)) = some u := hcc0
  obtain ⟨A', c', rfl, l0, g0⟩ := k54_openF hK
  exact ⟨ad, A', c', rfl, hcc 0 _ rfl, by rw [← add_field _ _ 1 (by omega)]; exact hcc 1 _ rfl, l0, g0, hK⟩

set_option maxRecDepth 100000 in
set_option maxHeartbeats 3200000 in
theorem set_any (A0 : Option Addr) (c0 : Nat) (bs : List S54) (p1 p2 p4 : Option Addr) (n1 c1 n2 c2 n4 c4 : Nat) (room st : Int) (off : Bool) (id : Nat) (A2 : Option Addr) (cx : Nat) (xs : List Int) (sf : Int) (ok : Nat → Prop) (w : World)
    (hF : Kd.F k54 w ok A0 bs.length bs) (hc0 : bs.length ≤ c0) (hx : Kd.F (Kd.int .u8) w ok A2 xs.length xs) (hcx : xs.length ≤ cx) (hl : bs.length ≤ 1099511627776) (hid : id < bs.length) :
    Calls Tryz.prog 73 #[.agg #[.slice A0 bs.length c0, .slice p1 n1 c1, .slice p2 n2 c2, .int .i64 room, .slice p4 n4 c4, .int .i64 st, .bool off], .int .i64 id, .agg #[.slice A2 xs.length cx, .int .i64 sf]] w fun e w' =>
      ∃ A c, e = .returned (.agg #[.slice A bs.length c, .slice p1 n1 c1, .slice p2 n2 c2, .int .i64 room, .slice p4 n4 c4, .int .i64 st, .bool off]) ∧ bs.length ≤ c ∧ Kd.F k54 w' (fun k => ok k ∨ w.heap.size ≤ k) A bs.length (bs.set id ⟨xs, sf⟩) ∧ Below w.heap.size w w' := by
  obtain ⟨wa, hwa⟩ : ∃ wa, wa = ((w.alloc (.cells #[.slice A0 bs.length c0, .slice p1 n1 c1, .slice p2 n2 c2, .int .i64 room, .slice p4 n4 c4, .int .i64 st, .bool off] 35)).alloc (.cells #[.slice A2 xs.length cx, .int .i64 sf] 54)).alloc (.cells #[.slice none 0 0, .slice none 0 0, .slice none 0 0, .int .i64 0, .slice none 0 0, .int .i64 0, .bool false] 35) := ⟨_, rfl⟩
  have hza : wa.heap.size = w.heap.size + 3 := by rw [hwa]; simp
  have hba : Below w.heap.size w wa := by rw [hwa]; exact (((Below.refl _ _).alloc (Nat.le_refl _) _).alloc (by simp) _).alloc (by simp; omega) _
  obtain ⟨k3, k5, k6⟩ : _ ∧ _ ∧ _ := hwa ▸ alloc3 w (.cells #[.slice A0 bs.length c0, .slice p1 n1 c1, .slice p2 n2 c2, .int .i64 room, .slice p4 n4 c4, .int .i64 st, .bool off] 35) (.cells #[.slice A2 xs.length cx, .int .i64 sf] 54) (.cells #[.slice none 0 0, .slice none 0 0, .slice none 0 0, .int .i64 0, .slice none 0 0, .int .i64 0, .bool false] 35)
  obtain ⟨ys, hys⟩ : ∃ ys, ys = bs.set id ⟨xs, sf⟩ := ⟨_, rfl⟩
  have hyl : ys.length = bs.length := by rw [hys, List.length_set]
  have hFK : Kd.FK k54 w ok (⟨xs, sf⟩ : S54) [.slice A2 xs.length cx, .int .i64 sf] := k54_mkF w ok (⟨xs, sf⟩ : S54) hcx hx
  have HFK := Lib.hid hFK; have HF := Lib.hid hF; have HYS := Lib.hid hys; have K3 := Lib.hid k3; have K5 := Lib.hid k5; have K6 := Lib.hid k6; have BA := Lib.hid hba
  clear hFK hF hx k3 k5 k6 hba
  rw [← hys]
  clear hys
  go_enter Tryz.func73, Tryz.ntmps73
  go_upto_region 1 with fail
  simp only [← hwa]
  clear hwa
  go_wp2
  go_loopw [7, 8] (fun s7 s8 wr => ∃ i : Nat, i ≤ bs.length ∧ s8 = .int .i64 i ∧ Kd.N k54 54 wr wa.heap.size (fun k => (ok k ∧ k < w.heap.size) ∨ wa.heap.size ≤ k) s7 (ys.take i) ∧ Below wa.heap.size wa wr) (fun _ s8 _ => bs.length - (intOf s8).toNat)
  case atStart => exact ⟨0, Nat.zero_le _, rfl, Kd.R_N ⟨fun k hk => .inr (by simp [Value.ownBlock] at hk; omega), [], own_empty wa _ _ (by omega), Reps.none _ _⟩, (Below.refl _ _).alloc (Nat.le_refl _) _⟩
  case round =>
    obtain ⟨i, hi, rfl, hN, hbr⟩ := hrel
    have hb3 := (hbr.block _ (by omega)).trans K3.out
    obtain ⟨r0, r1, r2, r3, r4, r5, r6⟩ := seven_cells hb3
    obtain ⟨oA, oc, rfl⟩ := Kd.N_slice hN
    have hszr := hbr.size
    have HN := Lib.hid hN; have HB := Lib.hid hbr; have HB3 := Lib.hid hb3
    clear hN hbr hb3
    by_cases hlt : i < bs.length
    · clear r1 r2 r3 r4 r5 r6
      have hlt' : i < ys.length := by omega
      have htk : ys.take (i + 1) = ys.take i ++ [ys[i]] := List.take_succ_eq_append_getElem hlt'
      have hll : (ys.take i).length ≤ 1099511627776 := by rw [List.length_take]; omega
      have HT := Lib.hid htk
      clear htk
      have hfresh : ∀ k, wr.heap.size ≤ k → (ok k ∧ k < w.heap.size) ∨ wa.heap.size ≤ k := fun k hk => .inr (by omega)
      have hokp : ∀ k, (ok k ∧ k < w.heap.size) → ((ok k ∧ k < w.heap.size) ∨ wa.heap.size ≤ k) ∧ some k ≠ (Value.slice oA (ys.take i).length oc).ownBlock := fun k hk => ⟨.inl hk, fun e => by have := Kd.N_base HN.out k e.symm; omega⟩
      have HFR := Lib.hid hfresh; have HOK := Lib.hid hokp
      clear hfresh hokp
      by_cases hii : i = id
      · subst hii
        have hyi : ys[i] = ⟨xs, sf⟩ := by simp only [HYS.out, List.getElem_set_self]
        rw [hyi] at HT
        have hp : Kd.FK k54 wr (fun k => ok k ∧ k < w.heap.size) (⟨xs, sf⟩ : S54) [.slice A2 xs.length cx, .int .i64 sf] := Kd.FK_below (Kd.FK_bound HFK.out) (BA.out.trans (HB.out.mono BA.out.size))
        have HP := Lib.hid hp
        obtain ⟨d0, d1⟩ := two_cells ((HB.out.block _ (by omega)).trans K5.out)
        clear hp hyi
        go_wp2_with (at_builtin; refine Kd.N_append k54 (w0 := wa) (W := wr) wa.heap.size rfl _ _ 30 54 _ 32 rfl Tryz.underlying30 info54 rfl (by decide) (by omega) (.slice oA _ oc) (ys.take i) (⟨xs, sf⟩ : S54) [.slice A2 xs.length cx, .int .i64 sf] (fun k => (ok k ∧ k < w.heap.size) ∨ wa.heap.size ≤ k) (fun k => ok k ∧ k < w.heap.size) rfl rfl HP.out HOK.out HFR.out HN.out HB.out HB.out.size (by omega) ?_; intro v1 w4 hR4 hb4 hg4 hat4)
        refine ⟨⟨i + 1, by omega, by go_num, ?_, hb4⟩, by simp [intOf]; omega⟩
        rw [HT.out]; exact hR4
      · have u1 : decide ((i : Int) = (id : Int)) = false := by simp; omega
        obtain ⟨ad, A', c', rfl, q0, q1, ql, _, qK⟩ := at_FB HF.out i hlt
        have l0 := World.block_lt_of_cell? w _ q0
        have l1 := World.block_lt_of_cell? w _ q1
        have hyi : ys[i] = bs.getD i z54 := by simp only [HYS.out]; rw [List.getElem_set_ne (by omega), List.getD_eq_getElem?_getD, List.getElem?_eq_getElem hlt, Option.getD_some]
        rw [hyi] at HT
        have hbw := BA.out.trans (HB.out.mono BA.out.size)
        have s0 := (hbw.cell l0).trans q0
        have s1 := (hbw.cell l1).trans q1
        have hp := Kd.FK_below (Kd.FK_bound qK) hbw
        clear qK q0 q1 l0 l1 hyi hbw
        generalize bs.getD i z54 = b at *
        have HP := Lib.hid hp
        clear hp
        go_wp2_with (at_builtin; refine Kd.N_append k54 (w0 := wa) (W := wr) wa.heap.size rfl _ _ 30 54 _ 32 rfl Tryz.underlying30 info54 rfl (by decide) (by omega) (.slice oA _ oc) (ys.take i) b [.slice A' b.f0.length c', .int .i64 b.f1] (fun k => (ok k ∧ k < w.heap.size) ∨ wa.heap.size ≤ k) (fun k => ok k ∧ k < w.heap.size) rfl rfl HP.out HOK.out HFR.out HN.out HB.out HB.out.size (by omega) ?_; intro v1 w4 hR4 hb4 hg4 hat4)
        refine ⟨⟨i + 1, by omega, by go_num, ?_, hb4⟩, by simp [intOf]; omega⟩
        rw [HT.out]; exact hR4
    · obtain rfl : i = bs.length := by omega
      have hb6 := (HB.out.block _ (by omega)).trans K6.out
      have z0 := all_free HB3.out 0
      obtain ⟨g0, g1, g2, g3, g4, g5, g6⟩ := seven_cells hb6
      have y0 := all_free hb6 0
      have y1 := all_free hb6 1
      have y2 := all_free hb6 2
      have y3 := all_free hb6 3
      have y4 := all_free hb6 4
      have y5 := all_free hb6 5
      have y6 := all_free hb6 6
      go_wp2
      have hb7 := (Below.heap_setCell wr ⟨w.heap.size, 0, none⟩ (.slice oA bs.length oc) (w.heap.size + 1 + 1) (by simp only; omega)).trans hb6
      obtain ⟨hb8, ht8⟩ := put7 hb7 (.slice oA bs.length oc) (.slice p1 n1 c1) (.slice p2 n2 c2) (.int .i64 room) (.slice p4 n4 c4) (.int .i64 st) (.bool off)
      refine bodyPost_ret (results_cell_row rfl _ _ (w.heap.size + 1 + 1) 35 #[.slice oA bs.length oc, .slice p1 n1 c1, .slice p2 n2 c2, .int .i64 room, .slice p4 n4 c4, .int .i64 st, .bool off] (0, 0) _ rfl hb8 Tryz.underlying35 rfl (by kernel_rfl)) rfl ?_
      have ht9 : Turn (fun k => k = w.heap.size ∨ k = w.heap.size + 1 + 1) wr _ := (Turn.setCell _ _ (.inl rfl)).trans (ht8.widen (fun k hk => .inr hk))
      have hN := HN.out
      rw [← hyl, List.take_length] at hN
      have hN2 := Kd.N_reads' hN
      refine ⟨oA, oc, rfl, by have := hN2.2.1; omega, ?_, (BA.out.trans (HB.out.mono (by omega))).trans (ht9.below (fun k hk => by omega) (by omega))⟩
      have hF1 := Kd.N_F hN
      rw [hyl] at hF1
      exact Kd.F_mono (Kd.F_step hF1 (fun k hk hlt => ht9.block k hlt (fun e => by omega))) (fun k hk => by rcases hk with hk | hk; exact .inl hk.1; exact .inr (by omega))

/-! ### Find, Used, Files, answered -/
theorem rfind_any (A0 A1 A2 A4 : Option Addr) (c0 c1 c2 c4 : Nat) (bs : List S54) (dir : List S93) (room st : Int) (off : Bool) (s : ByteArray) (w : World) (hB : Kd.C k54 w A0 bs.length bs) (hc0 : bs.length ≤ c0) (hD : Kd.C k93 w A1 dir.length dir) (hc1 : dir.length ≤ c1) (hl : dir.length ≤ 400) :
    Calls Tryz.prog 22 #[.agg #[.slice A0 bs.length c0, .slice A1 dir.length c1, .slice A2 0 c2, .int .i64 room, .slice A4 0 c4, .int .i64 st, .bool off], .string s] w fun e w' => e = .returned (.int .i64 (findE dir s)) ∧ Below w.heap.size w w' := by
  obtain ⟨k, hk⟩ := (find_nil bs dir room [] st off s (by omega)).rounds
  exact stoaref14_Find.calls k A0 c0 bs A1 c1 dir A2 c2 [] room A4 c4 [] st off s _ w hB hc0 hD hc1 (C_zero _ _ _) (Nat.zero_le _) (C_zero _ _ _) (Nat.zero_le _) hk
theorem rused_any (A0 A1 A2 A4 : Option Addr) (c0 c1 c2 c4 : Nat) (bs : List S54) (dir : List S93) (room st : Int) (off : Bool) (w : World) (hB : Kd.C k54 w A0 bs.length bs) (hc0 : bs.length ≤ c0) (hD : Kd.C k93 w A1 dir.length dir) (hc1 : dir.length ≤ c1) (hf : Fits bs dir) (hl : dir.length ≤ 400) (hs : ∀ p ∈ contE bs dir, p.2.length ≤ 140737488355328) :
    Calls Tryz.prog 72 #[.agg #[.slice A0 bs.length c0, .slice A1 dir.length c1, .slice A2 0 c2, .int .i64 room, .slice A4 0 c4, .int .i64 st, .bool off]] w fun e w' => e = .returned (.int .i64 (usedC (contE bs dir))) ∧ Below w.heap.size w w' := by
  obtain ⟨k, hk⟩ := (used_law bs dir room [] st off hf hl hs).rounds
  exact stoaref14_Used.calls k A0 c0 bs A1 c1 dir A2 c2 [] room A4 c4 [] st off _ w hB hc0 hD hc1 (C_zero _ _ _) (Nat.zero_le _) (C_zero _ _ _) (Nat.zero_le _) hk
theorem rfiles_any (A0 A1 A2 A4 : Option Addr) (c0 c1 c2 c4 : Nat) (bs : List S54) (dir : List S93) (room st : Int) (off : Bool) (w : World) (hB : Kd.C k54 w A0 bs.length bs) (hc0 : bs.length ≤ c0) (hD : Kd.C k93 w A1 dir.length dir) (hc1 : dir.length ≤ c1) (hf : Fits bs dir) (hl : dir.length ≤ 400) (hs : ∀ p ∈ contE bs dir, p.2.length ≤ 140737488355328) :
    Calls Tryz.prog 15 #[.agg #[.slice A0 bs.length c0, .slice A1 dir.length c1, .slice A2 0 c2, .int .i64 room, .slice A4 0 c4, .int .i64 st, .bool off]] w fun e w' => ∃ v, e = .returned v ∧ Kd.S k40 40 w' w.heap.size (fun k => w.heap.size ≤ k) v (filesE bs dir) ∧ Below w.heap.size w w' := by
  obtain ⟨k, hk⟩ := (files_law bs dir room [] st off hf hl hs).rounds
  refine (stoaref14_Files.calls k A0 c0 bs A1 c1 dir A2 c2 [] room A4 c4 [] st off _ w hB hc0 hD hc1 (C_zero _ _ _) (Nat.zero_le _) (C_zero _ _ _) (Nat.zero_le _) hk).mono ?_
  rintro e w' ⟨v, rfl, hS, hb⟩
  exact ⟨v, rfl, Kd.S_mono (Kd.S_bound hS) (fun k hk => hk.2.1), hb⟩
theorem catE_l1 (a b : List Int) (hb : a.length + b.length ≤ 140737488351232) : ∀ (n i : Nat) (out : List Int), i + n = b.length → out.length + n ≤ 140737488351232 → Ev (fun k => stoaref01_Cat.l1 k b out (i : Int)) (out ++ b.drop i) := by
  intro n
  induction n with
  | zero =>
    intro i out h ho
    refine Ev.step (f := fun _ => some out) (fun k => ?_) ?_
    · rw [stoaref01_Cat.l1, if_neg (by omega)]
    · rw [List.drop_of_length_le (by omega), List.append_nil]; exact Ev.now _
  | succ n ih =>
    intro i out h ho
    have hi : i < b.length := by omega
    refine Ev.step (f := fun k => stoaref01_Cat.l1 k b (out ++ [b[i]]) ((i + 1 : Nat) : Int)) (fun k => ?_) ?_
    · rw [stoaref01_Cat.l1, if_pos (by omega), if_pos (by omega), if_pos (by omega), rd_at hi, w64s i (by omega)]
    · rw [List.drop_eq_getElem_cons hi]
      exact Ev.to (ih (i + 1) _ (by omega) (by rw [List.length_append, List.length_singleton]; omega)) (by rw [List.append_assoc]; rfl)
theorem catE_l0 (a b : List Int) (hb : a.length + b.length ≤ 140737488351232) : ∀ (n i : Nat) (out : List Int), i + n = a.length → out.length + n + b.length ≤ 140737488351232 → Ev (fun k => stoaref01_Cat.l0 k a b out (i : Int)) (out ++ a.drop i ++ b) := by
  intro n
  induction n with
  | zero =>
    intro i out h ho
    refine Ev.step (f := fun k => stoaref01_Cat.l1 k b out 0) (fun k => ?_) ?_
    · rw [stoaref01_Cat.l0, if_neg (by omega)]
    · rw [List.drop_of_length_le (by omega), List.append_nil]
      have := catE_l1 a b hb b.length 0 out (by omega) (by omega)
      rw [List.drop_zero] at this
      exact this
  | succ n ih =>
    intro i out h ho
    have hi : i < a.length := by omega
    refine Ev.step (f := fun k => stoaref01_Cat.l0 k a b (out ++ [a[i]]) ((i + 1 : Nat) : Int)) (fun k => ?_) ?_
    · rw [stoaref01_Cat.l0, if_pos (by omega), if_pos (by omega), if_pos (by omega), rd_at hi, w64s i (by omega)]
    · rw [List.drop_eq_getElem_cons hi]
      exact Ev.to (ih (i + 1) _ (by omega) (by rw [List.length_append, List.length_singleton]; omega)) (by rw [List.append_assoc, List.append_assoc, List.append_assoc]; rfl)
theorem catE_law (a b : List Int) (hb : a.length + b.length ≤ 140737488351232) : Ev (fun k => stoaref01_Cat.f k a b) (a ++ b) := by
  unfold stoaref01_Cat.f
  have := catE_l0 a b hb a.length 0 [] (by omega) (by simp; omega)
  rw [List.drop_zero, List.nil_append] at this
  exact this

/-! ### do -/
def DoMade (bs : List S54) (dir : List S93) (room st : Int) (s : ByteArray) (xs : List Int) (A1 A2 A4 : Option Addr) (c1 c2 c4 : Nat) (ok : Nat → Prop) (w : World) (e : Ending) (w' : World) : Prop :=
  ∃ A c, e = .returned (.tuple #[.agg #[.slice A bs.length c, .slice A1 dir.length c1, .slice A2 0 c2, .int .i64 room, .slice A4 0 c4, .int .i64 st, .bool false], .int .i64 (appB bs dir room s xs).2]) ∧ bs.length ≤ c ∧ Kd.F k54 w' (fun k => ok k ∨ w.heap.size ≤ k) A bs.length (appB bs dir room s xs).1 ∧ Below w.heap.size w w'
set_option maxRecDepth 100000 in
set_option maxHeartbeats 3200000 in
theorem do_any (A0 A1 A2 A4 Ab : Option Addr) (c0 c1 c2 c4 cb : Nat) (bs : List S54) (dir : List S93) (room st : Int) (s : ByteArray) (xs : List Int) (ok : Nat → Prop) (w : World)
    (hF : Kd.F k54 w ok A0 bs.length bs) (hc0 : bs.length ≤ c0) (hD : Kd.C k93 w A1 dir.length dir) (hc1 : dir.length ≤ c1) (hb : Kd.C (Kd.int .u8) w Ab xs.length xs) (hcb : xs.length ≤ cb) (hfit : Fits bs dir) (hl : dir.length ≤ 400) (hbl : bs.length ≤ 400) (hs : ∀ p ∈ contE bs dir, p.2.length ≤ 140737488351232) (hxl : xs.length ≤ 140737488351232) (hr : 0 ≤ room ∧ room ≤ 16777216) :
    Calls Tryz.prog 49 #[.agg #[.slice A0 bs.length c0, .slice A1 dir.length c1, .slice A2 0 c2, .int .i64 room, .slice A4 0 c4, .int .i64 st, .bool false], .int .i64 2, .string s, .string ⟨#[]⟩, .slice Ab xs.length cb] w (DoMade bs dir room st s xs A1 A2 A4 c1 c2 c4 ok w) := by
  obtain ⟨wa, hwa⟩ : ∃ wa, wa = (w.alloc (.cells #[.slice A0 bs.length c0, .slice A1 dir.length c1, .slice A2 0 c2, .int .i64 room, .slice A4 0 c4, .int .i64 st, .bool false] 35)).alloc (.cells #[.slice none 0 0, .slice none 0 0, .slice none 0 0, .int .i64 0, .slice none 0 0, .int .i64 0, .bool false] 35) := ⟨_, rfl⟩
  have hza : wa.heap.size = w.heap.size + 2 := by rw [hwa]; simp
  have hba : Below w.heap.size w wa := by rw [hwa]; exact ((Below.refl _ _).alloc (Nat.le_refl _) _).alloc (by simp) _
  obtain ⟨k5, k10⟩ : _ ∧ _ := hwa ▸ alloc2 w (.cells #[.slice A0 bs.length c0, .slice A1 dir.length c1, .slice A2 0 c2, .int .i64 room, .slice A4 0 c4, .int .i64 st, .bool false] 35) (.cells #[.slice none 0 0, .slice none 0 0, .slice none 0 0, .int .i64 0, .slice none 0 0, .int .i64 0, .bool false] 35)
  have hfi := rfind_any A0 A1 A2 A4 c0 c1 c2 c4 bs dir room st false s wa (Kd.C_below (Kd.F_now hF) hba) hc0 (Kd.C_below hD hba) hc1 hl
  obtain ⟨r0, r1, r2, r3, r4, r5, r6⟩ := seven_cells k5
  have HF := Lib.hid hF; have HD := Lib.hid hD; have HX := Lib.hid hb; have K5 := Lib.hid k5; have K10 := Lib.hid k10; have BA := Lib.hid hba; have HS := Lib.hid hs; have HFIT := Lib.hid hfit
  clear hF hD hb k5 k10 hba hs hfit
  go_enter Tryz.func49, Tryz.ntmps49
  go_upto_region 1 with fail
  simp only [← hwa]
  clear hwa
  go_upto_region 12 with (go_at_call 22; refine hfi.mono ?_; rintro e w1 ⟨rfl, hb1⟩)
  clear hfi
  have hb5 := (hb1.block _ (by omega)).trans K5.out
  have hb10 := (hb1.block _ (by omega)).trans K10.out
  have hsz1 := hb1.size
  have B1 := Lib.hid (BA.out.trans (hb1.mono BA.out.size))
  obtain ⟨r0, r1, r2, r3, r4, r5, r6⟩ := seven_cells hb5
  by_cases hneg : findE dir s < 0
  · have hap : appB bs dir room s xs = (bs, 143) := by unfold appB; rw [if_pos hneg]
    generalize findE dir s = f at *
    obtain ⟨g0, g1, g2, g3, g4, g5, g6⟩ := seven_cells hb10
    have y0 := all_free hb10 0
    have y1 := all_free hb10 1
    have y2 := all_free hb10 2
    have y3 := all_free hb10 3
    have y4 := all_free hb10 4
    have y5 := all_free hb10 5
    have y6 := all_free hb10 6
    have u1 : decide (f < 0) = true := by simpa using hneg
    go_wp2
    obtain ⟨hb8, ht8⟩ := put7 hb10 (.slice A0 bs.length c0) (.slice A1 dir.length c1) (.slice A2 0 c2) (.int .i64 room) (.slice A4 0 c4) (.int .i64 st) (.bool false)
    refine bodyPost_ret (results_row_tmp rfl _ _ (w.heap.size + 1) 35 #[.slice A0 bs.length c0, .slice A1 dir.length c1, .slice A2 0 c2, .int .i64 room, .slice A4 0 c4, .int .i64 st, .bool false] (0, 0) _ rfl hb8 Tryz.underlying35 rfl (by kernel_rfl)) rfl ?_
    unfold DoMade
    rw [hap]
    exact ⟨A0, c0, rfl, hc0, Kd.F_mono (Kd.F_step (Kd.F_below (Kd.F_bound HF.out) B1.out) (fun k hk hlt => ht8.block k hlt (fun e => by have := hk.2; omega))) (fun k hk => .inl hk.1), B1.out.trans (ht8.below (fun k hk => by omega) (by omega))⟩
  · obtain ⟨n, hn⟩ : ∃ n : Nat, findE dir s = (n : Int) := ⟨(findE dir s).toNat, by omega⟩
    have hnl : n < bs.length := by
      obtain ⟨e0, he0, _, hf0⟩ := findE_mem (dir := dir) (s := s) (by omega)
      have := HFIT.out e0 he0
      omega
    have hap : appB bs dir room s xs = if room - (usedC (contE bs dir) : Int) < xs.length then (bs, 142) else (bs.set n ⟨(bs.getD n z54).f0 ++ xs, (bs.getD n z54).f1⟩, 0) := by
      unfold appB
      rw [if_neg hneg, hn, Int.toNat_natCast]
    rw [hn]
    obtain ⟨ad, A', c', rfl, q0, q1, ql, qF, _⟩ := at_FB HF.out n hnl
    have l0 := World.block_lt_of_cell? w _ q0
    have l1 := World.block_lt_of_cell? w _ q1
    have s0 := (B1.out.cell l0).trans q0
    have s1 := (B1.out.cell l1).trans q1
    have hcl : (contE bs dir).length = dir.length := by simp [contE]
    have hus0 : usedC (contE bs dir) ≤ 400 * 140737488355328 := Nat.le_trans (usedC_le _ (fun p hp => by have := HS.out p hp; omega)) (Nat.mul_le_mul_right _ (by omega))
    have hbl2 : (bs.getD n z54).f0.length ≤ usedC (contE bs dir) := by
      obtain ⟨e0, he0, _, hf0⟩ := findE_mem (dir := dir) (s := s) (by omega)
      have h1 : (key e0.f0, (bodyOf bs e0).f0) ∈ contE bs dir := by rw [contE_eq]; exact List.mem_map.2 ⟨e0, he0, rfl⟩
      have h2 := usedC_mem h1
      have h3 : bodyOf bs e0 = bs.getD n z54 := by unfold bodyOf; rw [← hf0, hn, Int.toNat_natCast]
      rw [h3] at h2
      exact h2
    generalize bs.getD n z54 = b at *
    have QF := Lib.hid qF
    have u1 : decide ((n : Int) < 0) = false := by simp
    have HAP := Lib.hid hap; have HB10 := Lib.hid hb10; have HB5 := Lib.hid hb5
    clear qF q0 q1 hap
    go_upto_region 17 with fail
    obtain ⟨wb, hwb⟩ : ∃ wb, wb = w1.alloc (.cells #[.slice A' b.f0.length c', .int .i64 b.f1] 54) := ⟨_, rfl⟩
    have hbb : Below w1.heap.size w1 wb := by rw [hwb]; exact (Below.refl _ _).alloc (Nat.le_refl _) _
    have hzb : wb.heap.size = w1.heap.size + 1 := by rw [hwb]; simp
    have k14 : wb.heap[w1.heap.size]? = some (.cells #[.slice A' b.f0.length c', .int .i64 b.f1] 54 (0, 0)) := by rw [hwb]; exact heap_alloc_new w1 _
    simp only [← hwb]
    clear hwb hb5 hb10 s0 s1 l0 l1
    clear r0 r1 r2 r3 r4 r5 r6
    obtain ⟨r0, r1, r2, r3, r4, r5, r6⟩ := seven_cells ((hbb.block _ (by omega)).trans HB5.out)
    obtain ⟨v0, v1⟩ := two_cells k14
    have hdw : Below wb.heap.size wb wb.drew := (Below.refl _ _).drew
    have hbW : Below w.heap.size w wb := B1.out.trans (hbb.mono (by omega))
    have hus := rused_any (some ad) A1 A2 A4 c0 c1 c2 c4 bs dir room st false wb.drew (Kd.C_below (Kd.F_now HF.out) (hbW.trans (hdw.mono hbW.size))) hc0 (Kd.C_below HD.out (hbW.trans (hdw.mono hbW.size))) hc1 HFIT.out hl (fun p hp => by have := HS.out p hp; omega)
    have hwr : IntKind.i64.wrap (room - (usedC (contE bs dir) : Int)) = room - (usedC (contE bs dir) : Int) := IntWalk.i64_in _ ⟨by omega, by omega⟩
    have BW := Lib.hid hbW; have K14 := Lib.hid k14
    clear hbW k14
    by_cases hbig : room - (usedC (contE bs dir) : Int) < (xs.length : Int)
    · have hap := HAP.out
      rw [if_pos hbig] at hap
      have HAQ := Lib.hid hap; have HDD := Lib.hid (decide_eq_true hbig)
      clear hap hbig
      go_region_held3 (fun w' => w'.cell? ⟨w.heap.size, 0, none⟩ = some (.slice (some ad) bs.length c0) ∧ w'.cell? ⟨w.heap.size, 1, none⟩ = some (.slice A1 dir.length c1) ∧ w'.cell? ⟨w.heap.size, 2, none⟩ = some (.slice A2 0 c2) ∧ w'.cell? ⟨w.heap.size, 3, none⟩ = some (.int .i64 room) ∧ w'.cell? ⟨w.heap.size, 4, none⟩ = some (.slice A4 0 c4) ∧ w'.cell? ⟨w.heap.size, 5, none⟩ = some (.int .i64 st) ∧ w'.cell? ⟨w.heap.size, 6, none⟩ = some (.bool false))
        (go_keep)
        (first
          | (go_at_call 72; refine hus.mono ?_; rintro e w2 ⟨rfl, hb20⟩; have hb2 : Below wb.heap.size wb w2 := hdw.trans hb20; have hz2 := hb2.size; have e0 := (hb2.cell (p := ⟨w.heap.size, 0, none⟩) (by simp only; omega)).trans r0; have e1 := (hb2.cell (p := ⟨w.heap.size, 1, none⟩) (by simp only; omega)).trans r1; have e2 := (hb2.cell (p := ⟨w.heap.size, 2, none⟩) (by simp only; omega)).trans r2; have e3 := (hb2.cell (p := ⟨w.heap.size, 3, none⟩) (by simp only; omega)).trans r3; have e4 := (hb2.cell (p := ⟨w.heap.size, 4, none⟩) (by simp only; omega)).trans r4; have e5 := (hb2.cell (p := ⟨w.heap.size, 5, none⟩) (by simp only; omega)).trans r5; have e6 := (hb2.cell (p := ⟨w.heap.size, 6, none⟩) (by simp only; omega)).trans r6))
      all_goals simp only [HDD.out]
      all_goals
        have hb10 := (hb2.block _ (by omega)).trans ((hbb.block _ (by omega)).trans HB10.out)
        obtain ⟨g0, g1, g2, g3, g4, g5, g6⟩ := seven_cells hb10
        have y0 := all_free hb10 0
        have y1 := all_free hb10 1
        have y2 := all_free hb10 2
        have y3 := all_free hb10 3
        have y4 := all_free hb10 4
        have y5 := all_free hb10 5
        have y6 := all_free hb10 6
        go_wp2
        obtain ⟨hb8, ht8⟩ := put7 hb10 (.slice (some ad) bs.length c0) (.slice A1 dir.length c1) (.slice A2 0 c2) (.int .i64 room) (.slice A4 0 c4) (.int .i64 st) (.bool false)
        refine bodyPost_ret (results_row_tmp rfl _ _ (w.heap.size + 1) 35 #[.slice (some ad) bs.length c0, .slice A1 dir.length c1, .slice A2 0 c2, .int .i64 room, .slice A4 0 c4, .int .i64 st, .bool false] (0, 0) _ rfl hb8 Tryz.underlying35 rfl (by kernel_rfl)) rfl ?_
        unfold DoMade
        rw [HAQ.out]
        have hbw := BW.out.trans (hb2.mono BW.out.size)
        exact ⟨some ad, c0, rfl, hc0, Kd.F_mono (Kd.F_step (Kd.F_below (Kd.F_bound HF.out) hbw) (fun k hk hlt => ht8.block k hlt (fun e => by have := hk.2; omega))) (fun k hk => .inl hk.1), hbw.trans (ht8.below (fun k hk => by omega) (by omega))⟩
    · have hap := HAP.out
      rw [if_neg hbig] at hap
      have hcl2 : b.f0.length + xs.length ≤ 140737488351232 := by omega
      obtain ⟨zs, hzs⟩ : ∃ zs, zs = b.f0 ++ xs := ⟨_, rfl⟩
      have hzl : zs.length ≤ 140737488351232 := by rw [hzs, List.length_append]; exact hcl2
      obtain ⟨kc, hkc⟩ := (catE_law b.f0 xs hcl2).rounds
      rw [← hzs] at hkc hap
      have HAQ := Lib.hid hap; have HDD := Lib.hid (decide_eq_false hbig); have HKC := Lib.hid hkc
      clear hap hbig hkc hzs
      go_region_held3 (fun w' => w'.cell? ⟨w.heap.size, 0, none⟩ = some (.slice (some ad) bs.length c0) ∧ w'.cell? ⟨w.heap.size, 1, none⟩ = some (.slice A1 dir.length c1) ∧ w'.cell? ⟨w.heap.size, 2, none⟩ = some (.slice A2 0 c2) ∧ w'.cell? ⟨w.heap.size, 3, none⟩ = some (.int .i64 room) ∧ w'.cell? ⟨w.heap.size, 4, none⟩ = some (.slice A4 0 c4) ∧ w'.cell? ⟨w.heap.size, 5, none⟩ = some (.int .i64 st) ∧ w'.cell? ⟨w.heap.size, 6, none⟩ = some (.bool false))
        (go_keep)
        (first
          | (go_at_call 72; refine hus.mono ?_; rintro e w2 ⟨rfl, hb20⟩; have hb2 : Below wb.heap.size wb w2 := hdw.trans hb20; have hz2 := hb2.size; have e0 := (hb2.cell (p := ⟨w.heap.size, 0, none⟩) (by simp only; omega)).trans r0; have e1 := (hb2.cell (p := ⟨w.heap.size, 1, none⟩) (by simp only; omega)).trans r1; have e2 := (hb2.cell (p := ⟨w.heap.size, 2, none⟩) (by simp only; omega)).trans r2; have e3 := (hb2.cell (p := ⟨w.heap.size, 3, none⟩) (by simp only; omega)).trans r3; have e4 := (hb2.cell (p := ⟨w.heap.size, 4, none⟩) (by simp only; omega)).trans r4; have e5 := (hb2.cell (p := ⟨w.heap.size, 5, none⟩) (by simp only; omega)).trans r5; have e6 := (hb2.cell (p := ⟨w.heap.size, 6, none⟩) (by simp only; omega)).trans r6; have t0 := (hb2.cell (p := ⟨w1.heap.size, 0, none⟩) (by simp only; omega)).trans v0; have t1 := (hb2.cell (p := ⟨w1.heap.size, 1, none⟩) (by simp only; omega)).trans v1))
      simp only [HDD.out]
      clear r0 r1 r2 r3 r4 r5 r6 v0 v1 hus
      go_upto_region 19 with fail
      have ne14 : w1.heap.size ≠ w.heap.size + 1 := by omega
      have ne41 : w.heap.size + 1 ≠ w1.heap.size := by omega
      have hdw2 : Below w2.heap.size w2 w2.drew := (Below.refl _ _).drew
      have hbw2 : Below w.heap.size w w2 := BW.out.trans (hb2.mono BW.out.size)
      have hq0 : Kd.F (Kd.int .u8) w2.drew ok A' b.f0.length b.f0 := Kd.F_below QF.out (hbw2.trans (hdw2.mono hbw2.size))
      have hca := stoaref01_Cat.calls kc A' c' b.f0 Ab cb xs zs w2.drew (Kd.F_now hq0) ql (Kd.C_below HX.out (hbw2.trans (hdw2.mono hbw2.size))) hcb HKC.out
      have BW2 := Lib.hid hbw2
      clear hq0 hbw2
      go_region_held3 (fun w' => w'.cell? ⟨w.heap.size, 0, none⟩ = some (.slice (some ad) bs.length c0) ∧ w'.cell? ⟨w.heap.size, 1, none⟩ = some (.slice A1 dir.length c1) ∧ w'.cell? ⟨w.heap.size, 2, none⟩ = some (.slice A2 0 c2) ∧ w'.cell? ⟨w.heap.size, 3, none⟩ = some (.int .i64 room) ∧ w'.cell? ⟨w.heap.size, 4, none⟩ = some (.slice A4 0 c4) ∧ w'.cell? ⟨w.heap.size, 5, none⟩ = some (.int .i64 st) ∧ w'.cell? ⟨w.heap.size, 6, none⟩ = some (.bool false) ∧ w'.cell? ⟨w1.heap.size, 0, none⟩ = some (.slice A' b.f0.length c') ∧ w'.cell? ⟨w1.heap.size, 1, none⟩ = some (.int .i64 b.f1))
        (go_keep)
        (first
          | (go_at_call 74; refine hca.mono ?_; rintro e w3 ⟨v3, rfl, hR3, hb30⟩; obtain ⟨A3, c3, rfl⟩ := Kd.R_slice hR3; have hb3 : Below w2.heap.size w2 w3 := hdw2.trans hb30; have hz3 := hb3.size; have p0 := (hb3.cell (p := ⟨w.heap.size, 0, none⟩) (by simp only; omega)).trans e0; have p1 := (hb3.cell (p := ⟨w.heap.size, 1, none⟩) (by simp only; omega)).trans e1; have p2 := (hb3.cell (p := ⟨w.heap.size, 2, none⟩) (by simp only; omega)).trans e2; have p3 := (hb3.cell (p := ⟨w.heap.size, 3, none⟩) (by simp only; omega)).trans e3; have p4 := (hb3.cell (p := ⟨w.heap.size, 4, none⟩) (by simp only; omega)).trans e4; have p5 := (hb3.cell (p := ⟨w.heap.size, 5, none⟩) (by simp only; omega)).trans e5; have p6 := (hb3.cell (p := ⟨w.heap.size, 6, none⟩) (by simp only; omega)).trans e6; have x0 := (hb3.cell (p := ⟨w1.heap.size, 0, none⟩) (by simp only; omega)).trans t0; have x1 := (hb3.cell (p := ⟨w1.heap.size, 1, none⟩) (by simp only; omega)).trans t1; have hbw3 := BW2.out.trans (hb3.mono BW2.out.size); have hse := set_any (some ad) c0 bs A1 A2 A4 dir.length c1 0 c2 0 c4 room st false n A3 c3 zs b.f1 (fun k => (ok k ∧ k < w.heap.size) ∨ w2.heap.size ≤ k) w3 (Kd.F_mono (Kd.F_below (Kd.F_bound HF.out) hbw3) (fun k hk => .inl hk)) hc0 (Kd.F_mono (Kd.F_bound (Kd.R_F (Kd.R_mono (Kd.R_bound hR3) (ok' := fun k => w2.drew.heap.size ≤ k) (fun k hk => hk.2.1)))) (fun k hk => .inr (by have := hk.1; simp only [World.drew] at this; omega))) (Kd.R_reads' hR3).2.1 (by omega) hnl; have R3 := Lib.hid hR3; have BW3 := Lib.hid hbw3; clear hR3 hbw3)
          | (go_at_call 73; refine hse.mono ?_; rintro e w4 ⟨A4', c4', rfl, hc4', hF4, hb4⟩; have hz4 := hb4.size; have o0 := (hb4.cell (p := ⟨w.heap.size, 0, none⟩) (by simp only; omega)).trans p0; have o1 := (hb4.cell (p := ⟨w.heap.size, 1, none⟩) (by simp only; omega)).trans p1; have o2 := (hb4.cell (p := ⟨w.heap.size, 2, none⟩) (by simp only; omega)).trans p2; have o3 := (hb4.cell (p := ⟨w.heap.size, 3, none⟩) (by simp only; omega)).trans p3; have o4 := (hb4.cell (p := ⟨w.heap.size, 4, none⟩) (by simp only; omega)).trans p4; have o5 := (hb4.cell (p := ⟨w.heap.size, 5, none⟩) (by simp only; omega)).trans p5; have o6 := (hb4.cell (p := ⟨w.heap.size, 6, none⟩) (by simp only; omega)).trans p6; have qa := (hb4.cell (p := ⟨w1.heap.size, 0, none⟩) (by simp only; omega)).trans x0; have qb := (hb4.cell (p := ⟨w1.heap.size, 1, none⟩) (by simp only; omega)).trans x1; have hb10 := (hb4.block _ (by omega)).trans ((hb3.block _ (by omega)).trans ((hb2.block _ (by omega)).trans ((hbb.block _ (by omega)).trans HB10.out))); obtain ⟨g0, g1, g2, g3, g4, g5, g6⟩ := seven_cells hb10; have y0 := all_free hb10 0; have y1 := all_free hb10 1; have y2 := all_free hb10 2; have y3 := all_free hb10 3; have y4 := all_free hb10 4; have y5 := all_free hb10 5; have y6 := all_free hb10 6))
      all_goals go_wp2
      all_goals
        obtain ⟨hb8, ht8⟩ := put7 hb10 (.slice A4' bs.length c4') (.slice A1 dir.length c1) (.slice A2 0 c2) (.int .i64 room) (.slice A4 0 c4) (.int .i64 st) (.bool false)
        refine bodyPost_ret (results_row_tmp rfl _ _ (w.heap.size + 1) 35 #[.slice A4' bs.length c4', .slice A1 dir.length c1, .slice A2 0 c2, .int .i64 room, .slice A4 0 c4, .int .i64 st, .bool false] (0, 0) _ rfl hb8 Tryz.underlying35 rfl (by kernel_rfl)) rfl ?_
        unfold DoMade
        rw [HAQ.out]
        refine ⟨A4', c4', rfl, hc4', ?_, (BW3.out.trans (hb4.mono BW3.out.size)).trans (ht8.below (fun k hk => by omega) (by omega))⟩
        refine Kd.F_mono (Kd.F_step hF4 (fun k hk hlt => ht8.block k hlt (fun e => ?_))) (fun k hk => ?_)
        · rcases hk with (hk | hk) | hk
          · have := hk.2; omega
          · omega
          · omega
        · rcases hk with (hk | hk) | hk
          · exact .inl hk.1
          · exact .inr (by omega)
          · exact .inr (by omega)

end Go.Proofs.YtgcpiofpjogjcaaGreatDoor.PK
end
section
/-
  The document's steps under a fate, and its loss of power, walked by hand: Do, On.
-/
namespace Go.Proofs.YtgcpiofpjogjcaaGreatDoor.PK
open Go.RowKit Go.Maps Go.Sort Go.Proofs.YtgcpiofpjogjcaaGreatDoorW.PrintWords Go.Proofs.YtgcpiofpjogjcaaGreatDoorW.PrintLast Go.Proofs.YtgcpiofpjogjcaaGreatDoorW.PrintMore
set_option linter.unusedVariables false
set_option linter.unusedSimpArgs false
variable {own : Nat → Prop} {w w' : World}

/-! ### Do -/
set_option maxRecDepth 100000 in
set_option maxHeartbeats 3200000 in
theorem Do_any (A0 A1 A2 A4 Ab : Option Addr) (c0 c1 c2 c4 cb : Nat) (bs : List S54) (dir : List S93) (room : Int) (s : ByteArray) (xs : List Int) (ok : Nat → Prop) (w : World)
    (hF : Kd.F k54 w ok A0 bs.length bs) (hc0 : bs.length ≤ c0) (hD : Kd.C k93 w A1 dir.length dir) (hc1 : dir.length ≤ c1) (hb : Kd.C (Kd.int .u8) w Ab xs.length xs) (hcb : xs.length ≤ cb) (hfit : Fits bs dir) (hl : dir.length ≤ 400) (hbl : bs.length ≤ 400) (hs : ∀ p ∈ contE bs dir, p.2.length ≤ 140737488351232) (hxl : xs.length ≤ 140737488351232) (hr : 0 ≤ room ∧ room ≤ 16777216) :
    Calls Tryz.prog 14 #[.agg #[.slice A0 bs.length c0, .slice A1 dir.length c1, .slice A2 0 c2, .int .i64 room, .slice A4 0 c4, .int .i64 0, .bool false], .int .i64 2, .string s, .string ⟨#[]⟩, .slice Ab xs.length cb] w (DoMade bs dir room 1 s xs A1 A2 A4 c1 c2 c4 ok w) := by
  obtain ⟨wa, hwa⟩ : ∃ wa, wa = (w.alloc (.cells #[.slice A0 bs.length c0, .slice A1 dir.length c1, .slice A2 0 c2, .int .i64 room, .slice A4 0 c4, .int .i64 0, .bool false] 35)).alloc (.cells #[.slice none 0 0, .slice none 0 0, .slice none 0 0, .int .i64 0, .slice none 0 0, .int .i64 0, .bool false] 35) := ⟨_, rfl⟩
  have hza : wa.heap.size = w.heap.size + 2 := by rw [hwa]; simp
  have hba : Below w.heap.size w wa := by rw [hwa]; exact ((Below.refl _ _).alloc (Nat.le_refl _) _).alloc (by simp) _
  obtain ⟨k5, k10⟩ : _ ∧ _ := hwa ▸ alloc2 w (.cells #[.slice A0 bs.length c0, .slice A1 dir.length c1, .slice A2 0 c2, .int .i64 room, .slice A4 0 c4, .int .i64 0, .bool false] 35) (.cells #[.slice none 0 0, .slice none 0 0, .slice none 0 0, .int .i64 0, .slice none 0 0, .int .i64 0, .bool false] 35)
  obtain ⟨r0, r1, r2, r3, r4, r5, r6⟩ := seven_cells k5
  have z5 := all_free k5 5
  have HF := Lib.hid hF; have HD := Lib.hid hD; have HX := Lib.hid hb; have K5 := Lib.hid k5; have K10 := Lib.hid k10; have BA := Lib.hid hba; have HS := Lib.hid hs; have HFIT := Lib.hid hfit
  clear hF hD hb k5 k10 hba hs hfit
  go_enter Tryz.func14, Tryz.ntmps14
  go_upto_region 1 with fail
  simp only [← hwa]
  clear hwa
  go_wp2
  obtain ⟨wc, hwc⟩ : ∃ wc, wc = (wa.setCell ⟨w.heap.size, 5, none⟩ (.int .i64 1)).alloc (.cells #[.int .i64 0, .int .i64 0, .int .i64 0] 69) := ⟨_, rfl⟩
  have ht0 : Turn (fun k => k = w.heap.size) wa (wa.setCell ⟨w.heap.size, 5, none⟩ (.int .i64 1)) := Turn.setCell _ _ rfl
  have hsz0 : (wa.setCell ⟨w.heap.size, 5, none⟩ (.int .i64 1)).heap.size = w.heap.size + 2 := by simp [World.setCell, hza]
  have hzc : wc.heap.size = w.heap.size + 3 := by rw [hwc]; simp [hza]
  have hbs : Below (w.heap.size + 2) (wa.setCell ⟨w.heap.size, 5, none⟩ (.int .i64 1)) wc := by rw [hwc, ← hsz0]; exact (Below.refl _ _).alloc (Nat.le_refl _) _
  have hbc : Below w.heap.size w wc := (BA.out.trans (ht0.below (fun k hk => by omega) (by omega))).trans (hbs.mono (by omega))
  have kc5 : wc.heap[w.heap.size]? = some (.cells #[.slice A0 bs.length c0, .slice A1 dir.length c1, .slice A2 0 c2, .int .i64 room, .slice A4 0 c4, .int .i64 1, .bool false] 35 (0, 0)) :=
    (hbs.block _ (by omega)).trans (blk_put K5.out 5 _ rfl)
  have kc10 : wc.heap[w.heap.size + 1]? = some (.cells #[.slice none 0 0, .slice none 0 0, .slice none 0 0, .int .i64 0, .slice none 0 0, .int .i64 0, .bool false] 35 (0, 0)) :=
    (hbs.block _ (by omega)).trans ((ht0.block _ (by omega) (by omega)).trans K10.out)
  have kc12 : wc.heap[w.heap.size + 2]? = some (.cells #[.int .i64 0, .int .i64 0, .int .i64 0] 69 (0, 0)) := by
    have := heap_alloc_new (wa.setCell ⟨w.heap.size, 5, none⟩ (.int .i64 1)) (.cells #[.int .i64 0, .int .i64 0, .int .i64 0] 69)
    rw [hsz0] at this
    rw [hwc]; exact this
  simp only [← hwc]
  clear hwc r0 r1 r2 r3 r4 r5 r6 z5 ht0 hbs
  obtain ⟨r0, r1, r2, r3, r4, r5, r6⟩ := seven_cells kc5
  have f1 : wc.cell? ⟨w.heap.size + 2, 1, none⟩ = some (.int .i64 0) := by simp [World.cell?, kc12]
  have hdo := do_any A0 A1 A2 A4 Ab c0 c1 c2 c4 cb bs dir room 1 s xs (fun k => ok k ∧ k < w.heap.size) wc (Kd.F_below (Kd.F_bound HF.out) hbc) hc0 (Kd.C_below HD.out hbc) hc1 (Kd.C_below HX.out hbc) hcb HFIT.out hl hbl HS.out hxl hr
  have KC := Lib.hid kc10; have BC := Lib.hid hbc
  clear kc5 kc10 kc12 hbc
  go_loopw [13] (fun s13 wr => s13 = .int .i64 (-1) ∧ wr = wc) (fun _ _ => 0)
  case atStart => exact ⟨rfl, rfl⟩
  case round =>
    obtain ⟨rfl, rfl⟩ := hrel
    go_upto_region 22 with fail
    go_wp2_with (go_at_call 49; refine hdo.mono ?_; rintro e w5 ⟨A, c, rfl, hcA, hFA, hb5⟩; have hz5 := hb5.size; have hb10 := (hb5.block _ (by omega)).trans KC.out; obtain ⟨g0, g1, g2, g3, g4, g5, g6⟩ := seven_cells hb10; have y0 := all_free hb10 0; have y1 := all_free hb10 1; have y2 := all_free hb10 2; have y3 := all_free hb10 3; have y4 := all_free hb10 4; have y5 := all_free hb10 5; have y6 := all_free hb10 6)
    obtain ⟨hb8, ht8⟩ := put7 hb10 (.slice A bs.length c) (.slice A1 dir.length c1) (.slice A2 0 c2) (.int .i64 room) (.slice A4 0 c4) (.int .i64 1) (.bool false)
    refine bodyPost_ret (results_row_tmp rfl _ _ (w.heap.size + 1) 35 #[.slice A bs.length c, .slice A1 dir.length c1, .slice A2 0 c2, .int .i64 room, .slice A4 0 c4, .int .i64 1, .bool false] (0, 0) _ rfl hb8 Tryz.underlying35 rfl (by kernel_rfl)) rfl ?_
    unfold DoMade
    refine ⟨A, c, rfl, hcA, ?_, (BC.out.trans (hb5.mono BC.out.size)).trans (ht8.below (fun k hk => by omega) (by omega))⟩
    refine Kd.F_mono (Kd.F_step hFA (fun k hk hlt => ht8.block k hlt (fun e => ?_))) (fun k hk => ?_)
    · rcases hk with hk | hk
      · have := hk.2; omega
      · omega
    · rcases hk with hk | hk
      · exact .inl hk.1
      · exact .inr (by omega)

/-! ### On -/
def OnMade (bs : List S54) (dir : List S93) (room st : Int) (w : World) (e : Ending) (w' : World) : Prop :=
  ∃ A0 c0 A1 c1 A4 c4, e = .returned (.agg #[.slice A0 dir.length c0, .slice A1 dir.length c1, .slice none 0 0, .int .i64 room, .slice A4 0 c4, .int .i64 st, .bool false]) ∧ dir.length ≤ c0 ∧ dir.length ≤ c1 ∧ Kd.C k54 w' A0 dir.length (onB bs dir) ∧ Kd.C k93 w' A1 dir.length (onD dir) ∧ Below w.heap.size w w'
set_option maxRecDepth 100000 in
set_option maxHeartbeats 6400000 in
theorem ron_any (A0 A1 A2 A4 : Option Addr) (c0 c1 c2 c4 : Nat) (bs : List S54) (dir : List S93) (room st : Int) (w : World)
    (hB : Kd.C k54 w A0 bs.length bs) (hc0 : bs.length ≤ c0) (ok : Nat → Prop) (hD : Kd.F k93 w ok A1 dir.length dir) (hc1 : dir.length ≤ c1) (hfit : Fits bs dir) (hl : dir.length ≤ 400) (hs : ∀ e ∈ dir, (bodyOf bs e).f0.length ≤ 140737488351232 ∧ 0 ≤ (bodyOf bs e).f1 ∧ (bodyOf bs e).f1 ≤ (bodyOf bs e).f0.length) :
    Calls Tryz.prog 16 #[.agg #[.slice A0 bs.length c0, .slice A1 dir.length c1, .slice A2 0 c2, .int .i64 room, .slice A4 0 c4, .int .i64 st, .bool false], .slice none 0 0] w (OnMade bs dir room st w) := by
  obtain ⟨wa, hwa⟩ : ∃ wa, wa = (w.alloc (.cells #[.slice A0 bs.length c0, .slice A1 dir.length c1, .slice A2 0 c2, .int .i64 room, .slice A4 0 c4, .int .i64 st, .bool false] 35)).alloc (.cells #[.slice none 0 0, .slice none 0 0, .slice none 0 0, .int .i64 0, .slice none 0 0, .int .i64 0, .bool false] 35) := ⟨_, rfl⟩
  have hza : wa.heap.size = w.heap.size + 2 := by rw [hwa]; simp
  have hba : Below w.heap.size w wa := by rw [hwa]; exact ((Below.refl _ _).alloc (Nat.le_refl _) _).alloc (by simp) _
  obtain ⟨k2, k4⟩ : _ ∧ _ := hwa ▸ alloc2 w (.cells #[.slice A0 bs.length c0, .slice A1 dir.length c1, .slice A2 0 c2, .int .i64 room, .slice A4 0 c4, .int .i64 st, .bool false] 35) (.cells #[.slice none 0 0, .slice none 0 0, .slice none 0 0, .int .i64 0, .slice none 0 0, .int .i64 0, .bool false] 35)
  obtain ⟨r0, r1, r2, r3, r4, r5, r6⟩ := seven_cells k2
  have HB := Lib.hid hB; have HD := Lib.hid hD; have K2 := Lib.hid k2; have K4 := Lib.hid k4; have BA := Lib.hid hba; have HS := Lib.hid hs; have HFIT := Lib.hid hfit
  have hdw : Below wa.heap.size wa wa.drew := (Below.refl _ _).drew
  have hke := stoaref14_keep.calls none 0 [] 0 0 wa.drew (Kd.C_nil _ _) (Nat.le_refl _) (by unfold stoaref14_keep.f; rfl)
  clear hB hD k2 k4 hba hs hfit
  go_enter Tryz.func16, Tryz.ntmps16
  go_upto_region 1 with fail
  simp only [← hwa]
  clear hwa
  go_region_held3 (fun w' => w'.cell? ⟨w.heap.size, 0, none⟩ = some (.slice A0 bs.length c0) ∧ w'.cell? ⟨w.heap.size, 1, none⟩ = some (.slice A1 dir.length c1) ∧ w'.cell? ⟨w.heap.size, 2, none⟩ = some (.slice A2 0 c2) ∧ w'.cell? ⟨w.heap.size, 3, none⟩ = some (.int .i64 room) ∧ w'.cell? ⟨w.heap.size, 4, none⟩ = some (.slice A4 0 c4) ∧ w'.cell? ⟨w.heap.size, 5, none⟩ = some (.int .i64 st) ∧ w'.cell? ⟨w.heap.size, 6, none⟩ = some (.bool false))
    (go_keep)
    (first
      | (go_at_call 52; refine hke.mono ?_; rintro e w2 ⟨rfl, hd2⟩; have hb2 : Below wa.heap.size wa w2 := hdw.trans hd2.below; have hz2 := hb2.size; have hbw2 := BA.out.trans (hb2.mono BA.out.size); obtain ⟨ka, hka⟩ := (after_nil bs dir room [] st false 0).rounds; have haf := stoaref14_After.calls ka A0 c0 bs ok A1 c1 dir A2 c2 [] room A4 c4 [] st false 0 dir w2 (Kd.C_below HB.out hbw2) hc0 (Kd.V_mk hc1 (Kd.F_below HD.out hbw2)) (C_zero _ _ _) (Nat.zero_le _) (C_zero _ _ _) (Nat.zero_le _) hka; have e0 := (hb2.cell (p := ⟨w.heap.size, 0, none⟩) (by simp only; omega)).trans r0; have e1 := (hb2.cell (p := ⟨w.heap.size, 1, none⟩) (by simp only; omega)).trans r1; have e2 := (hb2.cell (p := ⟨w.heap.size, 2, none⟩) (by simp only; omega)).trans r2; have e3 := (hb2.cell (p := ⟨w.heap.size, 3, none⟩) (by simp only; omega)).trans r3; have e4 := (hb2.cell (p := ⟨w.heap.size, 4, none⟩) (by simp only; omega)).trans r4; have e5 := (hb2.cell (p := ⟨w.heap.size, 5, none⟩) (by simp only; omega)).trans r5; have e6 := (hb2.cell (p := ⟨w.heap.size, 6, none⟩) (by simp only; omega)).trans r6)
      | (go_at_call 51; refine haf.mono ?_; rintro e w3 ⟨v3, rfl, hV3, hb30⟩; obtain ⟨A3, c3, rfl⟩ := Kd.V_slice hV3; have hb3 : Below wa.heap.size wa w3 := hb2.trans (hb30.mono hb2.size); have hz3 := hb3.size; have p0 := (hb3.cell (p := ⟨w.heap.size, 0, none⟩) (by simp only; omega)).trans r0; have p1 := (hb3.cell (p := ⟨w.heap.size, 1, none⟩) (by simp only; omega)).trans r1; have p2 := (hb3.cell (p := ⟨w.heap.size, 2, none⟩) (by simp only; omega)).trans r2; have p3 := (hb3.cell (p := ⟨w.heap.size, 3, none⟩) (by simp only; omega)).trans r3; have p4 := (hb3.cell (p := ⟨w.heap.size, 4, none⟩) (by simp only; omega)).trans r4; have p5 := (hb3.cell (p := ⟨w.heap.size, 5, none⟩) (by simp only; omega)).trans r5; have p6 := (hb3.cell (p := ⟨w.heap.size, 6, none⟩) (by simp only; omega)).trans r6))
  clear hke haf e0 e1 e2 e3 e4 e5 e6
  go_upto_region 3 with fail
  obtain ⟨wb, hwb⟩ : ∃ wb, wb = w3.alloc (.cells #[.slice none 0 0, .slice none 0 0, .slice none 0 0, .int .i64 room, .slice A4 0 c4, .int .i64 st, .bool false] 35) := ⟨_, rfl⟩
  have hbb : Below w3.heap.size w3 wb := by rw [hwb]; exact (Below.refl _ _).alloc (Nat.le_refl _) _
  have hzb : wb.heap.size = w3.heap.size + 1 := by rw [hwb]; simp
  have k6 : wb.heap[w3.heap.size]? = some (.cells #[.slice none 0 0, .slice none 0 0, .slice none 0 0, .int .i64 room, .slice A4 0 c4, .int .i64 st, .bool false] 35 (0, 0)) := by rw [hwb]; exact heap_alloc_new w3 _
  have hF3 := Kd.F_below (Kd.F_bound (Kd.V_at hV3).2.2) hbb
  have hb23 : Below w.heap.size w wb := BA.out.trans ((hb3.mono BA.out.size).trans (hbb.mono (by omega)))
  have K2b := Lib.hid ((hbb.block _ (by omega)).trans ((hb3.block _ (by omega)).trans K2.out))
  have K4b := Lib.hid ((hbb.block _ (by omega)).trans ((hb3.block _ (by omega)).trans K4.out))
  have FD := Lib.hid hF3; have BB := Lib.hid hb23; have K6 := Lib.hid k6
  simp only [← hwb]
  clear hwb hF3 hb23 k6 hV3 hb30 hd2 p0 p1 p2 p3 p4 p5 p6 r0 r1 r2 r3 r4 r5 r6 hb2 hb3
  go_wp2
  go_loopw [7] (fun s7 wr => ∃ (i : Nat) (oA dA : Option Addr) (oc dc : Nat), i ≤ dir.length ∧ s7 = .int .i64 i ∧ wr.heap[w3.heap.size]? = some (.cells #[.slice oA i oc, .slice dA i dc, .slice none 0 0, .int .i64 room, .slice A4 0 c4, .int .i64 st, .bool false] 35 (0, 0)) ∧ Kd.R k54 54 wr wb.heap.size (fun k => wb.heap.size ≤ k) (.slice oA i oc) ((onB bs dir).take i) ∧ Kd.R k93 93 wr wb.heap.size (fun k => wb.heap.size ≤ k) (.slice dA i dc) ((onD dir).take i) ∧ Turn (fun k => k = w3.heap.size ∨ wb.heap.size ≤ k) wb wr) (fun s7 _ => dir.length - (intOf s7).toNat)
  case atStart => exact ⟨0, none, none, 0, 0, Nat.zero_le _, rfl, K6.out, Kd.R_nil _ _ _ _ _, Kd.R_nil _ _ _ _ _, Turn.refl _ _⟩
  case round =>
    obtain ⟨i, oA, dA, oc, dc, hi, rfl, hk6, hRB, hRD, htr⟩ := hrel
    have hszr := htr.size
    have hbr : Below w.heap.size w wr := BB.out.trans (htr.below (fun k hk => by rcases hk with hk | hk <;> omega) (by omega))
    have hFr := Kd.F_step FD.out (fun k hk hlt => htr.block k hlt (fun e => by have := hk.2; rcases e with e | e <;> omega))
    have hk2 := (htr.block _ (by omega) (fun e => by rcases e with e | e <;> omega)).trans K2b.out
    have hk4 := (htr.block _ (by omega) (fun e => by rcases e with e | e <;> omega)).trans K4b.out
    have KR6 := Lib.hid hk6; have RB := Lib.hid hRB; have RD := Lib.hid hRD; have TR := Lib.hid htr; have BR := Lib.hid hbr; have FR := Lib.hid hFr; have KR2 := Lib.hid hk2; have KR4 := Lib.hid hk4
    clear hk6 hRB hRD htr hbr hFr hk2 hk4
    by_cases hlt : i < dir.length
    · obtain ⟨h0, h1⟩ := HFIT.out _ (List.getElem_mem hlt)
      obtain ⟨hs1, hs2, hs3⟩ := HS.out _ (List.getElem_mem hlt)
      obtain ⟨m, hm⟩ : ∃ m : Nat, dir[i].f1 = m := ⟨dir[i].f1.toNat, by omega⟩
      obtain ⟨sf, hsf⟩ : ∃ sf : Nat, (bodyOf bs dir[i]).f1 = sf := ⟨(bodyOf bs dir[i]).f1.toNat, by omega⟩
      obtain ⟨ad, rfl, q0, q1⟩ := at_T93 (Kd.F_now FR.out) (i : Int) (by omega) (by omega)
      rw [rdE_at hlt, Int.toNat_natCast] at q0 q1
      obtain ⟨ae, A', c', rfl, v0, v1, ql, qC⟩ := at_T54 (Kd.C_below HB.out BR.out) (m : Int) (by omega) (by omega)
      have hbo : rd_T54 bs (m : Int) = bodyOf bs dir[i] := by rw [← hm]; rfl
      rw [hbo] at v0 v1 ql qC
      rw [Int.toNat_natCast] at v0 v1
      rw [hm] at q1
      rw [hsf] at v1
      have hxb : (onB bs dir).take (i + 1) = (onB bs dir).take i ++ [⟨(bodyOf bs dir[i]).f0.take sf, sf⟩] := by
        have hl2 : i < (onB bs dir).length := by simp [onB]; omega
        rw [List.take_succ_eq_append_getElem hl2]
        simp [onB, hsf]
      have hxd : (onD dir).take (i + 1) = (onD dir).take i ++ [⟨dir[i].f0, i⟩] := by
        have hl2 : i < (onD dir).length := by simp [onD]; omega
        rw [List.take_succ_eq_append_getElem hl2]
        simp [onD]
      have hml : m < bs.length := by omega
      have hadb : ad.block < w3.heap.size := by
        obtain ⟨adx, cx, hex, _, _, _, hin⟩ := Kd.F_get FR.out z93 (i : Int) (by omega) (by omega)
        injection hex with hex
        subst hex
        exact (hin (by decide)).2
      have hsl : sf ≤ (bodyOf bs dir[i]).f0.length := by omega
      generalize bodyOf bs dir[i] = b at *
      generalize dir[i] = en at *
      obtain ⟨r0, r1, r2, r3, r4, r5, r6⟩ := seven_cells KR2.out
      have XB := Lib.hid hxb; have XD := Lib.hid hxd; have QC := Lib.hid qC
      clear hxb hxd qC r1 r2 r3 r4 r5 r6 h0 h1 hm hbo
      go_wp2
      have n0 := World.new_ne wr _ r0
      have n1 := World.new_ne wr _ q1
      have n2 := World.new_ne wr _ v0
      have n3 := World.new_ne wr _ v1
      go_region_held3 (fun w' => w'.cell? ⟨w.heap.size, 0, none⟩ = some (.slice (some ae) bs.length c0) ∧ w'.cell? ⟨(ad.add (i * 2)).block, (ad.add (i * 2)).off + 1, none⟩ = some (.int .i64 m) ∧ w'.cell? (ae.add (m * 2)) = some (.slice A' b.f0.length c') ∧ w'.cell? ⟨(ae.add (m * 2)).block, (ae.add (m * 2)).off + 1, none⟩ = some (.int .i64 sf))
        (go_keep) (fail)
      obtain ⟨wf, hwf⟩ : ∃ wf, wf = (wr.alloc (.cells #[.slice A' b.f0.length c', .int .i64 sf] 54)).drew := ⟨_, rfl⟩
      have hbf : Below wr.heap.size wr wf := by rw [hwf]; exact ((Below.refl _ _).alloc (Nat.le_refl _) _).drew
      have hzf : wf.heap.size = wr.heap.size + 1 := by rw [hwf]; simp
      have k8 : wf.heap[wr.heap.size]? = some (.cells #[.slice A' b.f0.length c', .int .i64 sf] 54 (0, 0)) := by rw [hwf]; exact heap_alloc_new wr _
      have q2 := World.block_lt_of_cell? wr _ q0
      have sn := (hbf.cell q2).trans q0
      have KF8 := Lib.hid k8; have BF := Lib.hid hbf; have Q0 := Lib.hid q0
      simp only [← hwf]
      clear hwf n0 n1 n2 n3 r0 q1 v0 v1 k8 q2 hbf
      obtain ⟨u0, u1⟩ := two_cells KF8.out
      go_upto_region 8 with fail
      have hke2 : ∀ W, Calls Tryz.prog 52 #[.slice none 0 0, .int .i64 ((i : Int) + 1)] W fun e w' => e = .returned (.int .i64 0) ∧ Drawn0 W w' := fun W => stoaref14_keep.calls none 0 [] ((i : Int) + 1) 0 W (Kd.C_nil _ _) (Nat.le_refl _) (by unfold stoaref14_keep.f; rw [if_neg (by simp; omega)])
      have hwr : IntKind.i64.wrap ((b.f0.length : Int) - (sf : Int)) = (b.f0.length : Int) - (sf : Int) := IntWalk.i64_in _ ⟨by omega, by omega⟩
      go_quiet (first | (go_at_call 52; refine (hke2 _).mono ?_; rintro e w4 ⟨rfl, ⟨nd, rfl⟩⟩; (try first | exact ⟨rfl, _, World.drewN_drewN _ _ _⟩ | exact ⟨rfl, _, Eq.trans (World.drewN_drewN _ _ _) (congrArg (World.drewN _) (Nat.add_assoc _ _ _))⟩)))
      go_upto_if 47 with fail
      go_cut [9] (fun s9 wx => s9 = .int .i64 sf ∧ Below wf.heap.size wf wx)
      case first =>
        have hws : IntKind.i64.wrap ((sf : Int) + 0) = (sf : Int) := IntWalk.i64_in _ ⟨by omega, by omega⟩
        by_cases hcs : sf < b.f0.length
        · have hd1 : decide ((0 : Int) < (b.f0.length : Int) - (sf : Int)) = true := by simp; omega
          have hd2 : decide ((sf : Int) < (b.f0.length : Int)) = true := by simp; omega
          have hd3 : decide (sf < b.f0.length) = true := by simpa using hcs
          go_upto_region 9 with fail
          go_quiet (first | (go_at_call 52; refine (hke2 _).mono ?_; rintro e w4 ⟨rfl, ⟨nd, rfl⟩⟩; (try first | exact ⟨rfl, _, World.drewN_drewN _ _ _⟩ | exact ⟨rfl, _, Eq.trans (World.drewN_drewN _ _ _) (congrArg (World.drewN _) (Nat.add_assoc _ _ _))⟩)))
          go_wp2
          go_meet
          case rel => exact ⟨by simp, by repeat (first | exact Below.refl _ _ | apply below_drew | apply pw_below_drewN)⟩
        · have hd1 : decide ((0 : Int) < (b.f0.length : Int) - (sf : Int)) = false := by simp; omega
          have hd2 : decide ((sf : Int) < (b.f0.length : Int)) = false := by simp; omega
          have hd3 : decide (sf < b.f0.length) = false := by simpa using hcs
          go_wp2
          go_meet
          case rel => exact ⟨by simp; omega, by repeat (first | exact Below.refl _ _ | apply below_drew | apply pw_below_drewN)⟩
      case rest =>
        obtain ⟨rfl, hbc⟩ := hcut
        have hbrc : Below wr.heap.size wr wc := BF.out.trans (hbc.mono BF.out.size)
        obtain ⟨g0, g1, g2, g3, g4, g5, g6⟩ := seven_cells KR6.out
        have ga := all_free KR6.out 0
        have gb := all_free KR6.out 1
        have xc : wc.cell? ⟨w3.heap.size, 0, none⟩ = some (.slice oA i oc) := (hbrc.cell (p := ⟨w3.heap.size, 0, none⟩) (by simp only; omega)).trans g0
        have fc : wc.cell? ⟨wr.heap.size, 0, none⟩ = some (.slice A' b.f0.length c') := (hbc.cell (p := ⟨wr.heap.size, 0, none⟩) (by simp only; omega)).trans u0
        have hzc := hbc.size
        obtain ⟨ys, hys⟩ : ∃ ys, ys = b.f0.take sf := ⟨_, rfl⟩
        have hkp : stoaref01_Piece.f (sf + 2) b.f0 0 (sf : Int) = some ys := by rw [hys]; exact piece_law b.f0 sf hsl (by omega)
        have hpi := stoaref01_Piece.calls (sf + 2) A' c' b.f0 0 (sf : Int) ys wc.drew (Kd.C_below QC.out hbrc.drew) ql hkp
        have hxb := XB.out
        rw [← hys] at hxb
        have HXB := Lib.hid hxb; have BRC := Lib.hid hbrc
        have hbl6 : ((onB bs dir).take i).length ≤ 400 := by rw [List.length_take]; omega
        have hdl6 : ((onD dir).take i).length ≤ 400 := by rw [List.length_take]; omega
        clear hxb hkp hys hbrc u0 u1 sn hke2
        have hl7 : ((onB bs dir).take i ++ [(⟨ys, sf⟩ : S54)]).length = i + 1 := by rw [List.length_append, List.length_take, List.length_singleton]; simp [onB]; omega
        go_upto_region 10 with fail
        go_cut [9] (fun s9 wx => s9 = .int .i64 sf ∧ ∃ (A7 : Option Addr) (c7 : Nat), wx.heap[w3.heap.size]? = some (.cells #[.slice A7 (i + 1) c7, .slice dA i dc, .slice none 0 0, .int .i64 room, .slice A4 0 c4, .int .i64 st, .bool false] 35 (0, 0)) ∧ Kd.R k54 54 wx wb.heap.size (fun k => wb.heap.size ≤ k) (.slice A7 (i + 1) c7) ((onB bs dir).take (i + 1)) ∧ Kd.R k93 93 wx wb.heap.size (fun k => wb.heap.size ≤ k) (.slice dA i dc) ((onD dir).take i) ∧ Turn (fun k => k = w3.heap.size ∨ wb.heap.size ≤ k) wr wx)
        case first =>
         go_region_law (first
          | (refine step_call rfl 53 #[.slice A' b.f0.length c', .int .i64 0, .int .i64 sf] ?hr hpi ?_; (case hr => kernel_rfl); rintro e w6 ⟨v6, rfl, hR6, hb60⟩; obtain ⟨A6, c6, rfl⟩ := Kd.R_slice hR6; refine ⟨_, rfl, ?_⟩; have hb6 : Below wr.heap.size wr w6 := BRC.out.drew.trans (hb60.mono BRC.out.size); have hz6 := hb6.size; have x6 : w6.cell? ⟨w3.heap.size, 0, none⟩ = some (.slice oA i oc) := (hb6.cell (p := ⟨w3.heap.size, 0, none⟩) (by simp only; omega)).trans g0; have n6 := World.new_ne w6 _ x6; have xa : (w6.alloc (.cells #[.slice A6 ys.length c6, .int .i64 sf] 54)).cell? ⟨w3.heap.size, 0, none⟩ = some (.slice oA i oc) := cell_old x6; have HP6 := Lib.hid (k54_mkM w6 wb.heap.size (fun k => wc.heap.size ≤ k) (⟨ys, sf⟩ : S54) (Kd.R_lower (Kd.R_mono (Kd.R_bound hR6) (fun k hk => hk.2.1)) (show wb.heap.size ≤ wc.heap.size by omega))); have HOK6 := Lib.hid (show ∀ k, wc.heap.size ≤ k → wb.heap.size ≤ k ∧ some k ≠ (Value.slice oA i oc).ownBlock from fun k hk => ⟨by omega, fun e => (by have := Kd.R_lt RB.out k e.symm; omega)⟩); have HFR6 := Lib.hid (show ∀ k, w6.heap.size ≤ k → wb.heap.size ≤ k from fun k hk => by omega); have HR6 := Lib.hid (Kd.R_below RB.out hb6); have HB6 := Lib.hid (hb6.mono (show wb.heap.size ≤ wr.heap.size from hszr)); have HD6 := Lib.hid (Kd.R_below RD.out hb6); have hzb6 : wb.heap.size ≤ w6.heap.size := (by omega); clear hR6 hb60)
          | (refine Kd.R_append_step k54 (w0 := wr) (W := w6) wb.heap.size (by rfl) (.tmp 56) (.tmp 63) 30 54 _ 32 rfl Tryz.underlying30 info54 rfl (by decide) (by omega) (.slice oA i oc) ((onB bs dir).take i) (⟨ys, sf⟩ : S54) [.slice A6 ys.length c6, .int .i64 sf] (fun k => wb.heap.size ≤ k) (fun k => wc.heap.size ≤ k) rfl rfl HP6.out HOK6.out HFR6.out HR6.out HB6.out hzb6 (by omega) ?_; intro v7 w7 hR7 hb7 hg7 hat7; obtain ⟨A7, c7, hv7⟩ := Kd.R_slice hR7; rw [hl7] at hv7; subst hv7; have x7 := (hb7.cell (p := ⟨w3.heap.size, 0, none⟩) (by simp only; omega)).trans g0; have y7 := (hb7.frozen (p := ⟨w3.heap.size, 0, none⟩) (by simp only; omega)).trans ga))
         all_goals go_wp2
         all_goals go_meet
         all_goals
          case rel =>
            refine ⟨rfl, A7, c7, blk_put ((hb7.block _ (by omega)).trans KR6.out) 0 _ rfl, ?_, Kd.R_far (p := ⟨w3.heap.size, 0, none⟩) (Kd.R_over' HD6.out (Kd.R_typed HR6.out) (by decide) hg7) (fun k hk => by simp only; omega) _, (Turn.of_low hb7 (fun k hk => .inr hk)).put _ _ (.inl rfl)⟩
            rw [HXB.out]
            exact Kd.R_far (p := ⟨w3.heap.size, 0, none⟩) hR7 (fun k hk => by simp only; omega) _
        case rest =>
          clear hpi xc fc hbc hzc
          obtain ⟨rfl, A7, c7, hk7, hRB7, hRD7, ht7⟩ := hcut
          obtain ⟨g0, g1, g2, g3, g4, g5, g6⟩ := seven_cells hk7
          have ga := all_free hk7 1
          have hz7 := ht7.size
          have sn7 : wc.cell? (ad.add (i * 2)) = some (.string en.f0) := (World.cell?_of_block (ht7.block _ (by rw [add_block]; omega) (by rw [add_block]; omega))).trans Q0.out
          have xa : (wc.alloc (.cells #[.string en.f0, .int .i64 i] 93)).cell? ⟨w3.heap.size, 1, none⟩ = some (.slice dA i dc) := cell_old g1
          have n6 := World.new_ne wc _ g1
          have hl9 : ((onD dir).take i ++ [(⟨en.f0, i⟩ : S93)]).length = i + 1 := by rw [List.length_append, List.length_take, List.length_singleton]; simp [onD]; omega
          have HRD := Lib.hid (Kd.R_below hRD7 ((Below.refl _ wc).drew))
          have HRB := Lib.hid (Kd.R_below hRB7 ((Below.refl _ wc).drew))
          have K7 := Lib.hid hk7; have T7 := Lib.hid ht7
          have hzd : wb.heap.size ≤ wc.drew.heap.size := by simp only [World.drew]; omega
          have HFR := Lib.hid (show ∀ k, wc.drew.heap.size ≤ k → wb.heap.size ≤ k from fun k hk => Nat.le_trans hzd hk)
          have HBD := Lib.hid (show Below wb.heap.size wc wc.drew from (Below.refl _ wc).drew)
          have hbd : Below wc.heap.size wc wc.drew := (Below.refl _ wc).drew
          clear hk7 hRB7 hRD7 ht7
          go_upto_region 11 with fail
          go_region_law (refine Kd.R_append_step k93 (w0 := wc) (W := wc.drew) wb.heap.size (by rfl) (.tmp 67) (.tmp 75) 31 93 _ 24 rfl Tryz.underlying31 info93 rfl (by decide) (by omega) (.slice dA i dc) ((onD dir).take i) (⟨en.f0, i⟩ : S93) [.string en.f0, .int .i64 i] (fun k => wb.heap.size ≤ k) (fun _ => False) rfl rfl (k93_mkM _ _ _ (⟨en.f0, i⟩ : S93)) (fun _ hk => hk.elim) HFR.out HRD.out HBD.out hzd (by omega) ?_; intro v9 w9 hR9 hb9 hg9 hat9; obtain ⟨A9, c9, hv9⟩ := Kd.R_slice hR9; rw [hl9] at hv9; subst hv9; have x9 := (hb9.cell (p := ⟨w3.heap.size, 1, none⟩) (by simp only; omega)).trans g1; have y9 := (hb9.frozen (p := ⟨w3.heap.size, 1, none⟩) (by simp only; omega)).trans ga)
          all_goals go_wp2
          all_goals
            refine ⟨⟨i + 1, _, A9, _, c9, by omega, by go_num, blk_put ((hb9.block _ (by omega)).trans K7.out) 1 _ rfl, Kd.R_far (p := ⟨w3.heap.size, 1, none⟩) (Kd.R_over' HRB.out (Kd.R_typed HRD.out) (by decide) hg9) (fun k hk => by simp only; omega) _, ?_, (TR.out.trans T7.out).trans ((Turn.of_low hb9 (fun k hk => .inr hk)).put _ _ (.inl rfl))⟩, by simp [intOf]; omega⟩
            rw [XD.out]
            exact Kd.R_far (p := ⟨w3.heap.size, 1, none⟩) hR9 (fun k hk => by simp only; omega) _
    · obtain rfl : i = dir.length := by omega
      obtain ⟨g0, g1, g2, g3, g4, g5, g6⟩ := seven_cells KR6.out
      obtain ⟨e0, e1, e2, e3, e4, e5, e6⟩ := seven_cells KR4.out
      have y0 := all_free KR4.out 0
      have y1 := all_free KR4.out 1
      have y2 := all_free KR4.out 2
      have y3 := all_free KR4.out 3
      have y4 := all_free KR4.out 4
      have y5 := all_free KR4.out 5
      have y6 := all_free KR4.out 6
      go_wp2
      obtain ⟨hb8, ht8⟩ := put7 KR4.out (.slice oA dir.length oc) (.slice dA dir.length dc) (.slice none 0 0) (.int .i64 room) (.slice A4 0 c4) (.int .i64 st) (.bool false)
      refine bodyPost_ret (results_cell_row rfl _ _ (w.heap.size + 1) 35 #[.slice oA dir.length oc, .slice dA dir.length dc, .slice none 0 0, .int .i64 room, .slice A4 0 c4, .int .i64 st, .bool false] (0, 0) _ rfl hb8 Tryz.underlying35 rfl (by kernel_rfl)) rfl ?_
      have hlb : (onB bs dir).take dir.length = onB bs dir := List.take_of_length_le (by simp [onB])
      have hld : (onD dir).take dir.length = onD dir := List.take_of_length_le (by simp [onD])
      have h1 := RB.out
      have h2 := RD.out
      rw [hlb] at h1
      rw [hld] at h2
      have h3 := Kd.R_reads' (Kd.R_step h1 (fun k hk hlt => ht8.block k hlt (fun e => by omega)))
      have h4 := Kd.R_reads' (Kd.R_step h2 (fun k hk hlt => ht8.block k hlt (fun e => by omega)))
      refine ⟨oA, oc, dA, dc, A4, c4, rfl, h3.2.1, h4.2.1, ?_, ?_, BR.out.trans (ht8.below (fun k hk => by omega) (by omega))⟩
      · have := h3.2.2
        rw [← h3.1] at this
        exact this
      · have := h4.2.2
        rw [← h4.1] at this
        exact this
end Go.Proofs.YtgcpiofpjogjcaaGreatDoor.PK
end
section
/-
  DiskMemory: what is read off lists of files; a disk behind an append; Spoil at a row of one's own.
-/
namespace Go.Proofs.YtgcpiofpjogjcaaGreatDoor.PK
open Go.RowKit Go.Maps Go.Sort Go.Proofs.YtgcpiofpjogjcaaGreatDoorW.PrintWords Go.Proofs.YtgcpiofpjogjcaaGreatDoorW.PrintLast Go.Proofs.YtgcpiofpjogjcaaGreatDoorW.PrintMore
set_option linter.unusedVariables false
set_option linter.unusedSimpArgs false
variable {own : Nat → Prop} {w w' : World}

/-! ### Lists of files -/
theorem list_choose {n : Nat} {P : Nat → Value → Prop} (h : ∀ i, i < n → ∃ v, P i v) : ∃ us : List Value, us.length = n ∧ ∀ i (hi : i < us.length), P i us[i] := by
  induction n with
  | zero => exact ⟨[], rfl, fun i hi => absurd hi (by simp)⟩
  | succ n ih =>
    obtain ⟨us, hl, hu⟩ := ih (fun i hi => h i (by omega))
    obtain ⟨v, hv⟩ := h n (by omega)
    refine ⟨us ++ [v], by simp [hl], fun i hi => ?_⟩
    rw [List.length_append, List.length_singleton] at hi
    rcases Nat.lt_or_ge i us.length with h1 | h1
    · rw [List.getElem_append_left h1]; exact hu i h1
    · have : i = n := by omega
      subst this
      rw [List.getElem_append_right (by omega)]
      simpa [hl] using hv
/-- The rows of a list of files: where they lie, and that each lies alone. -/
theorem files_us {α : Type} {d : Kd α} (proj : α → List Int) (hM : ∀ {w base ok x cs}, d.M w base ok x cs → ∃ nm v, cs = [nm, v] ∧ (Kd.int .u8).R 5 w base ok v (proj x)) (hsz : d.sz = 2) (z : α) {e n c base : Nat} {ok : Nat → Prop} {A : Option Addr} {l : List α} (h : Kd.S d e w base ok (.slice A n c) l) :
    ∃ (us : List Value) (f : Nat → Nat), us.length = l.length ∧ ∀ i (hi : i < us.length) (hl : i < l.length), (∃ ad, A = some ad ∧ w.cell? ⟨(ad.add (i * 2)).block, (ad.add (i * 2)).off + 1, none⟩ = some us[i]) ∧ (Kd.int .u8).R 5 w base (fun k => ok k ∧ f k = i) us[i] (proj l[i]) := by
  have hr := Kd.S_reads' h
  obtain ⟨f, hR⟩ := h
  have hch : ∀ i, i < l.length → ∃ v, ∀ hl : i < l.length, (∃ ad, A = some ad ∧ w.cell? ⟨(ad.add (i * 2)).block, (ad.add (i * 2)).off + 1, none⟩ = some v) ∧ (Kd.int .u8).R 5 w base (fun k => ok k ∧ f k = i) v (proj l[i]) := by
    intro i hi
    obtain ⟨ad, rfl, _⟩ := hr.2.2.2.2 (by omega)
    obtain ⟨cs, hcl, hM1, hcc⟩ := Kd.R_getA hR (z, 0) (i : Int) (by omega) (by omega)
    rw [Int.toNat_natCast, List.getD_eq_getElem?_getD, Kd.zip_at (List.getElem?_eq_getElem hi), Option.getD_some] at hM1
    have hM2 : d.M w base (fun k => (ok k ∧ some k ≠ (Value.slice (some ad) n c).ownBlock) ∧ f k = i) l[i] cs := hM1
    obtain ⟨nm, v, rfl, hv⟩ := hM hM2
    refine ⟨v, fun _ => ⟨⟨ad, rfl, ?_⟩, Kd.R_mono hv (fun k hk => ⟨hk.1.1, hk.2⟩)⟩⟩
    have h1 := hcc 1 v rfl
    rw [Int.toNat_natCast, show (Kd.tag f d).sz = 2 from hsz] at h1
    rw [← add_field _ _ 1 (by omega)]
    exact h1
  obtain ⟨us, hl, hu⟩ := list_choose hch
  exact ⟨us, f, hl, fun i hi hl2 => hu i hi hl2⟩
theorem fileM {w : World} {base : Nat} {ok : Nat → Prop} {x : ByteArray × List Int} {cs : List Value} (h : fileK.M w base ok x cs) : ∃ nm v, cs = [nm, v] ∧ (Kd.int .u8).R 5 w base ok v x.2 := by
  obtain ⟨_, _, rfl, rfl, v, rfl, hv⟩ := h
  exact ⟨_, v, rfl, hv⟩
theorem fileM2 {w : World} {base : Nat} {ok : Nat → Prop} {x : S40} {cs : List Value} (h : k40.M w base ok x cs) : ∃ nm v, cs = [nm, v] ∧ (Kd.int .u8).R 5 w base ok v x.f1 := by
  obtain ⟨v, rfl, hv⟩ := k40_openM h
  exact ⟨_, v, rfl, hv⟩
/-- Behind Datas: rows of bytes each in a block of its own. -/
theorem ent_row {w w' : World} {base base' B : Nat} {ok : Nat → Prop} {us : List Value} {f : Nat → Nat} {es : List (List Int)} {v : Value} (hl : us.length = es.length) (hR : ∀ i (hi : i < us.length) (hl : i < es.length), (Kd.int .u8).R 5 w base (fun k => ok k ∧ f k = i) us[i] es[i]) (hok : ∀ k, ok k → k < B)
    (hrow : w'.ownsRow base' 23 1 v us.length us) (hb : base ≤ base') (hk : ∀ k, k < w.heap.size → w'.heap[k]? = w.heap[k]?) : EntX w' base B v us (us.map Value.ownBlock) es := by
  have hog : ∀ i g, (us.map Value.ownBlock)[i]? = some (some g) → ∃ hi : i < us.length, us[i].ownBlock = some g := by
    intro i g h
    rw [List.getElem?_map, Option.map_eq_some_iff] at h
    obtain ⟨u, hu, hg⟩ := h
    obtain ⟨hi, rfl⟩ := List.getElem?_eq_some_iff.1 hu
    exact ⟨hi, hg⟩
  refine ⟨by rw [← hl]; exact own_weaken hrow hb, by simp [hl], fun i j g hij hi hj => ?_, fun i g hi => ?_, fun i hi => ?_⟩
  · obtain ⟨i1, hi⟩ := hog i g hi
    obtain ⟨j1, hj⟩ := hog j g hj
    have h1 : f g = i := ((hR i i1 (by omega)).1 g hi).2
    have h2 : f g = j := ((hR j j1 (by omega)).1 g hj).2
    omega
  · obtain ⟨i1, hi⟩ := hog i g hi
    exact hok g ((hR i i1 (by omega)).1 g hi).1
  · have hi1 : i < us.length := by omega
    refine ⟨us[i], us[i].ownBlock, List.getElem?_eq_getElem hi1, by rw [List.getElem?_map, List.getElem?_eq_getElem hi1]; rfl, ?_⟩
    have hr := hR i hi1 hi
    exact (Byt.of_own (Kd.own_of_R hr)).keep (fun g hg => hk g (Kd.R_lt hr g hg))
/-- Others have written elsewhere. -/
theorem EntX.away {w w' : World} {base B : Nat} {v : Value} {vs : List Value} {ogs : List (Option Nat)} {es : List (List Int)} (h : EntX w base B v vs ogs es) (hd : ∀ k, base ≤ k → k < B → k < w.heap.size → w'.heap[k]? = w.heap[k]?) (hr : ∀ k, v.ownBlock = some k → w'.heap[k]? = w.heap[k]?) : EntX w' base B v vs ogs es :=
  ⟨own_move h.row hr, h.len, h.apart, h.low, fun i hi => by
    obtain ⟨u, og, hu, hog, hB⟩ := h.each i hi
    exact ⟨u, og, hu, hog, hB.keep (fun g hg => hd g (hB.base_le g hg) (h.low i g (by rw [hog, hg])) (hB.lt g hg))⟩⟩
theorem Side.turn {base B : Nat} {w w' : World} (h : Side base B w w') (ht : w'.tape = w.tape) : Turn (zn base B) w w' :=
  ⟨h.os, ht, h.output, h.size, fun k hk hn => h.block k hk (by unfold zn at hn; omega)⟩

/-! ### Spoil at a row of one's own -/
theorem nums_set (xs : List Int) (i : Nat) (x : Int) : (nums .u8 xs).set i (.int .u8 x) = nums .u8 (xs.set i x) := by
  unfold nums
  rw [List.map_set]
set_option maxHeartbeats 1000000 in
set_option maxRecDepth 100000 in
theorem spoil_own (base : Nat) (v : Value) (xs : List Int) (w : World) (h : w.ownsRow base 5 1 v xs.length (nums .u8 xs)) (hl : xs.length ≤ 140737488355328) :
    Calls Tryz.prog 10 #[v] w fun e w' => e = .returned (.tuple #[]) ∧ w'.ownsRow base 5 1 v xs.length (nums .u8 (xs.map tw)) ∧ w.grownBy w' v.ownBlock := by
  obtain ⟨A0, c0, rfl⟩ := own_slice h
  have H0 := Lib.hid h
  clear h
  go_enter Tryz.func10, Tryz.ntmps10
  go_wp2
  go_loopw [2] (fun vi wq => ∃ i : Nat, i ≤ xs.length ∧ vi = .int .i64 i ∧ wq.ownsRow base 5 1 (.slice A0 xs.length c0) xs.length (nums .u8 (spo xs i)) ∧ w.grownBy wq (Value.slice A0 xs.length c0).ownBlock) (fun vi _ => xs.length - (intOf vi).toNat)
  case atStart => exact ⟨0, by omega, rfl, by rw [spo_zero]; exact H0.out, ⟨rfl, rfl, rfl, Nat.le_refl _, fun _ _ _ => rfl⟩⟩
  case round =>
    obtain ⟨i, hi, rfl, hB, hg⟩ := hrel
    by_cases hlt : i < xs.length
    · obtain ⟨g, cap, hgo, hv, hcell, hfr⟩ := (Byt.of_own hB).cell (i := i) (by rw [spo_length]; exact hlt)
      rw [spo_get xs i hlt] at hcell
      rw [spo_length] at hv
      injection hv with hv _ hcap
      subst hv
      subst hcap
      obtain ⟨x, hx⟩ : ∃ x, x = xs[i] := ⟨_, rfl⟩
      rw [← hx] at hcell
      have HB := Lib.hid hB; have HX := Lib.hid hx; have HLT := Lib.hid hlt
      clear hB hx hgo
      go_wp2
      obtain ⟨k1, k2⟩ := HB.out.stored i (.int .u8 (tw x))
      rw [nums_set, HX.out, spo_set xs i hlt, ← HX.out] at k1
      exact ⟨⟨i + 1, by omega, by go_num, k1, hg.trans k2⟩, by simp [intOf]; omega⟩
    · obtain rfl : i = xs.length := by omega
      rw [spo_all] at hB
      go_wp2
      first | go_end0 | ((try simp only [Exit.inBlock, Exit.then]); refine bodyPost_ret (results_none rfl _ _ _) rfl ?_)
      exact ⟨rfl, hB, hg⟩

/-! ### The program's disk behind an append -/
theorem look_findC {dat : Nat → List Int} {l : Dir} (k : List UInt8) : findC (cont dat l) k = false ↔ look l k = none := by
  unfold findC look cont
  rw [List.any_map, Option.map_eq_none_iff, List.find?_eq_none, List.any_eq_false]
  simp [Function.comp]
structure Appended (S' : Dk) (c c' : Cont) : Prop where
  calm : S'.calm
  chg : S'.chg = []
  safe : S'.safe = S'.now
  now : cont S'.dat S'.now = c'
  left : S'.leftCont [] = c
  leftD : S'.leftDir [] = S'.now
theorem appended_of {S S' : Dk} {room : Int} {c : Cont} {d : Nat} {s : ByteArray} {xs : List Int} {x : Int} (hL : Loaded S room c) (hD : DiskAt w own d S)
    (hs : S.stepSaid (S.stepped.appE s xs.length) (fun T => T = S.stepped.appended s xs) (fun n T => T = S.stepped.parted s xs n) x S') : x = (appS c room (key s) xs).2 ∧ Appended S' c (appS c room (key s) xs).1 := by
  obtain ⟨hx, hS⟩ := said_plain hL.calm.plan hL.calm.off hs
  obtain ⟨bn, bs, pc, cc, pp, cp, pd, cd, hI⟩ := hD
  have hsrt := hI.now.sorted
  have hu : used S.dat S.now = usedC c := by rw [used_C, hL.cont]
  have hfc : findC c (key s) = false ↔ look S.now (key s) = none := by rw [← hL.cont]; exact look_findC _
  have hself : Appended S.stepped c c := by
    refine ⟨⟨hL.calm.plan, hL.calm.off⟩, hL.chg, hL.safe, hL.cont, ?_, ?_⟩
    · exact (left_all (S := S.stepped) hL.chg hL.safe hL.saf hL.cont []).2
    · exact (left_all (S := S.stepped) hL.chg hL.safe hL.saf hL.cont []).1
  subst hx
  subst hS
  unfold Dk.appE Dk.appended appS
  show (if look S.now (key s) = none then (143 : Int) else if S.room - (used S.dat S.now : Nat) < (xs.length : Int) then 142 else 0) = _ ∧ Appended (match look S.now (key s) with | none => S.stepped | some f => if S.room - (used S.dat S.now : Nat) < (xs.length : Int) then S.stepped else S.stepped.setFile f (S.dat f ++ xs) (S.saf f)) c _
  rw [hu, hL.room]
  cases hl : look S.now (key s) with
  | none =>
    rw [if_pos rfl, if_pos (hfc.2 hl)]
    exact ⟨rfl, hself⟩
  | some f =>
    have hn1 : ¬ (some f = (none : Option Nat)) := by simp
    have hn2 : ¬ (findC c (key s) = false) := fun h => by rw [hfc.1 h] at hl; cases hl
    rw [if_neg hn1, if_neg hn2]
    simp only
    by_cases h2 : room - (usedC c : Int) < (xs.length : Int)
    · rw [if_pos h2, if_pos h2, if_pos h2]
      exact ⟨rfl, hself⟩
    · rw [if_neg h2, if_neg h2, if_neg h2]
      have hm := look_mem hl
      have hfn : ∀ p ∈ S.now, p.1 ≠ key s → p.2 ≠ f := fun p hp hk he => hk (by rw [hL.inj p hp (key s, f) hm he])
      refine ⟨rfl, ⟨hL.calm.plan, hL.calm.off⟩, hL.chg, hL.safe, ?_, ?_, ?_⟩
      · show cont (upd S.dat f (S.dat f ++ xs)) S.now = appC c (key s) xs
        rw [← hL.cont]
        unfold appC cont
        rw [List.map_map]
        refine List.map_congr_left (fun p hp => ?_)
        simp only [Function.comp]
        by_cases hk : p.1 = key s
        · have hp2 : p.2 = f := by
            have h3 : look S.now p.1 = some p.2 := look_of_mem hsrt (show (p.1, p.2) ∈ S.now from hp)
            rw [hk, hl] at h3
            injection h3 with h3
            exact h3.symm
          rw [if_pos hk, hp2, upd_same]
        · rw [if_neg hk, upd_other _ _ (hfn p hp hk)]
      · unfold Dk.leftCont
        have hd : (S.stepped.setFile f (S.dat f ++ xs) (S.saf f)).leftDir [] = S.now := by
          unfold Dk.leftDir
          show (S.chg.take _).foldl applyC S.safe = S.now
          rw [hL.chg, List.take_nil]
          exact hL.safe
        rw [hd, ← hL.cont]
        unfold cont
        apply List.ext_getElem?
        intro i
        rw [List.getElem?_mapIdx, List.getElem?_map]
        cases hi : S.now[i]? with
        | none => rfl
        | some p =>
          have hp : p ∈ S.now := List.mem_of_getElem? hi
          simp only [Option.map_some, Option.some.injEq, Prod.mk.injEq, true_and]
          unfold Dk.leftLen
          show (upd S.dat f (S.dat f ++ xs) p.2).take (upd S.saf f (S.saf f) p.2 + min (keepN [] (i + 1)) _) = S.dat p.2
          have hk0 : keepN [] (i + 1) = 0 := by simp [keepN]
          rw [hk0, Nat.zero_min, Nat.add_zero]
          by_cases he : p.2 = f
          · rw [he, upd_same, upd_same, ← he, hL.saf p hp, List.take_left]
          · rw [upd_other _ _ he, upd_other _ _ he, hL.saf p hp, List.take_length]
      · unfold Dk.leftDir
        show (S.chg.take _).foldl applyC S.safe = S.now
        rw [hL.chg, List.take_nil]
        exact hL.safe
theorem appS_short {c : Cont} {room : Int} {k : List UInt8} {xs : List Int} (hc : ∀ p ∈ c, p.2.length ≤ 140737488351232) (hr : room ≤ 16777216) : ∀ p ∈ (appS c room k xs).1, p.2.length ≤ 140737488351232 := by
  intro p hp
  unfold appS at hp
  split at hp
  · exact hc p hp
  · split at hp
    · exact hc p hp
    · rename_i h1 h2
      unfold appC at hp
      obtain ⟨q, hq, rfl⟩ := List.mem_map.1 hp
      split
      · have := usedC_mem hq
        rw [List.length_append]
        omega
      · exact hc q hq
theorem insC_mem {x p : List UInt8 × List Int} : ∀ {c : Cont}, p ∈ insC x c → p = x ∨ p ∈ c
  | [], h => by rw [insC] at h; exact .inl (List.mem_singleton.1 h)
  | y :: r, h => by
    rw [insC] at h
    split at h
    · rcases List.mem_cons.1 h with h | h
      · exact .inl h
      · exact .inr h
    · rcases List.mem_cons.1 h with rfl | h
      · exact .inr (List.mem_cons_self ..)
      · rcases insC_mem h with h | h
        · exact .inl h
        · exact .inr (List.mem_cons_of_mem _ h)
theorem ldC_short : ∀ (fs : List (ByteArray × List Int)) (c : Cont), (∀ p ∈ c, p.2.length ≤ 140737488351232) → (∀ p ∈ fs, p.2.length ≤ 140737488351232) → ∀ p ∈ (ldC c fs).2, p.2.length ≤ 140737488351232
  | [], c, hc, _ => by rw [ldC]; exact hc
  | q :: r, c, hc, hf => by
    rw [ldC]
    split
    · refine ldC_short r _ (fun p hp => ?_) (fun p hp => hf p (List.mem_cons_of_mem _ hp))
      rcases insC_mem hp with rfl | hp
      · exact hf q (List.mem_cons_self ..)
      · exact hc p hp
    · intro p hp; cases hp
end Go.Proofs.YtgcpiofpjogjcaaGreatDoor.PK
end
section
/-
  DiskMemory: how two lists of files compare, and their rows.
-/
namespace Go.Proofs.YtgcpiofpjogjcaaGreatDoor.PK
open Go.RowKit Go.Maps Go.Sort Go.Proofs.YtgcpiofpjogjcaaGreatDoorW.PrintWords Go.Proofs.YtgcpiofpjogjcaaGreatDoorW.PrintLast Go.Proofs.YtgcpiofpjogjcaaGreatDoorW.PrintMore
set_option linter.unusedVariables false
set_option linter.unusedSimpArgs false
variable {own : Nat → Prop} {w w' : World}

theorem filesE_len (bs : List S54) (dir : List S93) : (filesE bs dir).length = dir.length := by simp [filesE]
theorem contE_len (bs : List S54) (dir : List S93) : (contE bs dir).length = dir.length := by simp [contE]
theorem alike_x {Ax An : Option Addr} {nx nn cx cn e1 e2 b1 b2 : Nat} {ok1 ok2 : Nat → Prop} {c : Cont} {bs : List S54} {dir : List S93} (hx : Kd.S fileK e1 w b1 ok1 (.slice Ax nx cx) (listed c)) (hn : Kd.S k40 e2 w b2 ok2 (.slice An nn cn) (filesE bs dir)) (hc : contE bs dir = c) (hs : ∀ p ∈ c, p.2.length ≤ 140737488351232) (hl : c.length ≤ 400) :
    Calls Tryz.prog 19 #[.slice Ax nx cx, .slice An nn cn] w fun e w' => e = .returned (.bool true) ∧ Drawn0 w w' := by
  obtain ⟨ex, lx, Cx⟩ := Kd.S_reads' hx
  obtain ⟨en, ln, Cn⟩ := Kd.S_reads' hn
  have hlx : ((listed c).map toF).length = (listed c).length := List.length_map ..
  have := alike_any Ax An cx cn ((listed c).map toF) (filesE bs dir) w (by rw [hlx]; exact fileC_toF Cx) (by rw [hlx]; omega) Cn (by omega) (by rw [hlx, listed_length]; omega) (by
    intro p hp
    obtain ⟨q, hq, rfl⟩ := List.mem_map.1 hp
    obtain ⟨r, hr, rfl⟩ := List.mem_map.1 hq
    have := hs r hr
    show r.2.length < _
    omega)
  rw [hlx, alike_files bs dir c hc, ← ex, ← en] at this
  exact this
/-- Datas: the rows of a list of files, each in a block of its own. -/
theorem datas_ent {α : Type} {d : Kd α} (proj : α → List Int) (hM : ∀ {w base ok x cs}, d.M w base ok x cs → ∃ nm v, cs = [nm, v] ∧ (Kd.int .u8).R 5 w base ok v (proj x)) (hsz : d.sz = 2) (z : α) {e n c base B : Nat} {ok : Nat → Prop} {A : Option Addr} {l : List α} (h : Kd.S d e w base ok (.slice A n c) l) (hok : ∀ k, ok k → k < B) (hl : l.length ≤ 400) (hbase : base ≤ w.heap.size) :
    Calls Tryz.prog 21 #[.slice A n c] w fun e w' => ∃ v us, e = .returned v ∧ EntX w' base B v us (us.map Value.ownBlock) (l.map proj) ∧ Below w.heap.size w w' ∧ (∀ k, v.ownBlock = some k → w.heap.size ≤ k) := by
  obtain ⟨us, f, hul, hus⟩ := files_us proj hM hsz z h
  obtain ⟨en, _, _⟩ := Kd.S_reads' h
  subst en
  have hd := datas_any A c us w (fun u hu => by
    obtain ⟨i, hi, rfl⟩ := List.mem_iff_getElem.1 hu
    obtain ⟨A', c', he⟩ := Kd.R_slice (hus i hi (by omega)).2
    exact ⟨_, _, _, he⟩) (by omega) (fun i hi => (hus i hi (by omega)).1)
  rw [hul] at hd
  refine hd.mono ?_
  rintro e w' ⟨v, rfl, hrow, hb'⟩
  refine ⟨v, us, rfl, ?_, hb', fun k hk => own_base hrow k hk⟩
  rw [← hul] at hrow
  exact ent_row (by rw [List.length_map]; exact hul) (fun i hi hi2 => by
    rw [List.getElem_map]
    exact (hus i hi (by rw [List.length_map] at hi2; exact hi2)).2) hok hrow hbase (fun k hk => hb'.block k hk)
/-- What is wanted lies elsewhere. -/
theorem EntX.want {base B base2 B2 n c : Nat} {A : Option Addr} {vs : List Value} {ogs : List (Option Nat)} {es : List (List Int)} (h : EntX w base B (.slice A n c) vs ogs es) (hd : B ≤ base2 ∨ B2 ≤ base) (hr : ∀ k, (Value.slice A n c).ownBlock = some k → k < base2 ∨ B2 ≤ k) : ∀ w', Side base2 B2 w w' → Kd.C (Kd.slice 5 (Kd.int .u8)) w' A es.length es := by
  intro w' hs
  have h2 := h.away (w' := w') (fun k h1 h2 h3 => hs.block k h3 (by omega)) (fun k hk => hs.block k (own_lt h.row k hk) (hr k hk))
  obtain ⟨A', c', he, hl, hC⟩ := h2.entB.reads
  injection he with he _ _
  subst he
  exact hC
theorem datas_files (c : Cont) : (listed c).map (fun p => p.2) = c.map (fun p => p.2) := by simp [listed]
theorem datas_filesE (bs : List S54) (dir : List S93) : (filesE bs dir).map (fun p => p.f1) = (contE bs dir).map (fun p => p.2) := by rw [contE_eq]; simp [filesE]
/-- How far the document's files are safe behind an append. -/
theorem appB_safe {bs : List S54} {dir : List S93} {c : Cont} (h : RefC bs dir c) (hu : Uniq bs dir) (room : Int) (s : ByteArray) (xs : List Int) : ∀ e ∈ dir, 0 ≤ (bodyOf (appB bs dir room s xs).1 e).f1 ∧ (bodyOf (appB bs dir room s xs).1 e).f1 ≤ (bodyOf (appB bs dir room s xs).1 e).f0.length := by
  intro e he
  obtain ⟨g0, g1⟩ := hu.fits e he
  have hsf : (bodyOf bs e).f1 = (bodyOf bs e).f0.length := h.saf _ (by unfold bodyOf; rw [List.getD_eq_getElem?_getD, List.getElem?_eq_getElem (show e.f1.toNat < bs.length by omega), Option.getD_some]; exact List.getElem_mem _)
  have hall : 0 ≤ (bodyOf bs e).f1 ∧ (bodyOf bs e).f1 ≤ (bodyOf bs e).f0.length := by rw [hsf]; omega
  unfold appB
  split
  · exact hall
  · split
    · exact hall
    · rename_i h1 h2
      obtain ⟨e0, he0, hk0, hf0⟩ := findE_mem (dir := dir) (s := s) (by omega)
      rw [hf0]
      by_cases hid : e.f1 = e0.f1
      · obtain rfl := hu.ids e he e0 he0 hid
        have hb : bodyOf (bs.set e.f1.toNat ⟨(bs.getD e.f1.toNat z54).f0 ++ xs, (bs.getD e.f1.toNat z54).f1⟩) e = ⟨(bodyOf bs e).f0 ++ xs, (bodyOf bs e).f1⟩ := by
          unfold bodyOf
          rw [List.getD_eq_getElem?_getD (l := bs.set _ _), List.getElem?_set_self (by omega)]
          rfl
        rw [hb]
        simp only [List.length_append]
        omega
      · have hb : bodyOf (bs.set e0.f1.toNat ⟨(bs.getD e0.f1.toNat z54).f0 ++ xs, (bs.getD e0.f1.toNat z54).f1⟩) e = bodyOf bs e := by
          have := hu.fits e0 he0
          unfold bodyOf
          rw [List.getD_eq_getElem?_getD (l := bs.set _ _), List.getElem?_set_ne (by omega), ← List.getD_eq_getElem?_getD]
        rw [hb]
        exact hall
/-- A file of the program's disk and of the document's. -/
theorem read_id {S' : Dk} {bs : List S54} {dir : List S93} {c' : Cont} {nm : ByteArray} {n : Nat} (hs : Srt S'.now) (h1 : cont S'.dat S'.now = c') (h2 : contE bs dir = c') (hn : findE dir nm = n) : ∃ f, look S'.now (key nm) = some f ∧ S'.dat f = (bs.getD n z54).f0 := by
  obtain ⟨e, he, hk, hf⟩ := findE_mem (dir := dir) (s := nm) (by omega)
  have hm : (key e.f0, (bodyOf bs e).f0) ∈ cont S'.dat S'.now := by
    rw [h1, ← h2, contE_eq]; exact List.mem_map.2 ⟨e, he, rfl⟩
  obtain ⟨p, hp, hpe⟩ := List.mem_map.1 hm
  injection hpe with hp1 hp2
  refine ⟨p.2, ?_, ?_⟩
  · rw [← hk, ← hp1]
    exact look_of_mem hs hp
  · rw [hp2]
    unfold bodyOf
    rw [← hf, hn, Int.toNat_natCast]
end Go.Proofs.YtgcpiofpjogjcaaGreatDoor.PK
end
