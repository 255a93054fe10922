/-
  A step's fate, walked.
-/
import Derived.Test.YtgcpiofpjogjcaaGreatDoorDh
import Derived.LoopTactic
import Derived.Deep.LoopGhost
namespace Go.Proofs.YtgcpiofpjogjcaaGreatDoor.PK
open Go.RowKit Go.Maps Go.Proofs.YtgcpiofpjogjcaaGreatDoorW.PrintWords
set_option linter.unusedVariables false
set_option linter.unusedSimpArgs false
variable {own : Nat → Prop} {w w' : World}

def fatA (c : Fat) : Value := .agg #[.int .i64 c.step, .int .i64 c.kind, .int .i64 c.n]
set_option maxRecDepth 100000 in
theorem fate1_any (xb d : Nat) (st : Int) (c : Fat) (w : World) (hx : w.cell? ⟨xb, 0, none⟩ = some (.pointer (some ⟨d, 0, none⟩))) (h5 : w.cell? ⟨d, 5, none⟩ = some (.int .i64 st)) :
    Calls Tryz.prog 83 #[fatA c, .pointer (some ⟨xb, 0, none⟩)] w fun e w' => e = .returned (.bool (c.step == st)) ∧ Below w.heap.size w w' := by
  have lx := World.block_lt_of_cell? w _ hx
  have ld := World.block_lt_of_cell? w _ h5
  unfold fatA
  have hb : Below w.heap.size w (w.alloc (.cells #[.int .i64 c.step, .int .i64 c.kind, .int .i64 c.n] 69)) := (Below.refl _ _).alloc (Nat.le_refl _) _
  have x1 := (hb.cell (p := ⟨xb, 0, none⟩) lx).trans hx
  have d1 := (hb.cell (p := ⟨d, 5, none⟩) ld).trans h5
  go_enter Tryz.func83, Tryz.ntmps83
  go_wp2
  go_quiet (fail)
  go_wp2
  go_ret
  exact ⟨rfl, pw_below_drewN hb _⟩

/-- The first fate of a step. -/
def firstAt (st : Int) : List Fat → Nat → Option Nat
  | [], _ => none
  | c :: l, i => if c.step = st then some i else firstAt st l (i + 1)
def firstIx (st : Int) (l : List Fat) : Int := match firstAt st l 0 with | some i => (i : Int) | none => -1
theorem fateV_length (l : List Fat) : (l.flatMap fateV).length = l.length * 3 := by
  induction l with
  | nil => rfl
  | cons c l ih => simp only [List.flatMap_cons, List.length_append, List.length_cons, ih]; simp [fateV]; omega
theorem fateV_get (l : List Fat) (i : Nat) (h : i < l.length) : (l.flatMap fateV)[i * 3]? = some (.int .i64 l[i].step) ∧ (l.flatMap fateV)[i * 3 + 1]? = some (.int .i64 l[i].kind) ∧ (l.flatMap fateV)[i * 3 + 2]? = some (.int .i64 l[i].n) := by
  induction l generalizing i with
  | nil => simp at h
  | cons c l ih =>
    cases i with
    | zero => simp [fateV]
    | succ i =>
      have := ih i (by simpa using h)
      simp only [List.flatMap_cons, fateV, List.getElem_cons_succ]
      rw [show (i + 1) * 3 = i * 3 + 3 from by omega, show i * 3 + 3 + 1 = i * 3 + 1 + 3 from by omega, show i * 3 + 3 + 2 = i * 3 + 2 + 3 from by omega]
      simp only [List.cons_append, List.nil_append, List.getElem?_cons_succ]
      exact this
theorem plan_cells {e n c : Nat} {p : Option Addr} {l : List Fat} (h : w.ownsRow 0 e 3 (.slice p n c) n (l.flatMap fateV)) (hn : n = l.length) (i : Nat) (hi : i < l.length) :
    ∃ b, p = some ⟨b, 0, none⟩ ∧ b < w.heap.size ∧ w.cell? ⟨b, i * 3, none⟩ = some (.int .i64 l[i].step) ∧ w.cell? ⟨b, i * 3 + 1, none⟩ = some (.int .i64 l[i].kind) ∧ w.cell? ⟨b, i * 3 + 2, none⟩ = some (.int .i64 l[i].n) := by
  obtain ⟨h1, h2⟩ := h
  rcases h2 with ⟨h2, h3⟩ | ⟨g, cap, cur, hv, hg, hh, hnc, hcm, hsz, htake⟩
  · omega
  · injection hv with hv _ _
    have hget : ∀ j, j < n * 3 → w.cell? ⟨g, j, none⟩ = (l.flatMap fateV)[j]? := fun j hj => by
      rw [← htake]
      simp [World.cell?, hh, List.getElem?_take, hj]
    obtain ⟨q0, q1, q2⟩ := fateV_get l i hi
    exact ⟨g, hv, lt_of_block hh, (hget _ (by omega)).trans q0, (hget _ (by omega)).trans q1, (hget _ (by omega)).trans q2⟩

set_option maxRecDepth 100000 in
set_option maxHeartbeats 1600000 in
theorem indexFunc_any (xb d : Nat) (st : Int) (l : List Fat) (p : Option Addr) (c : Nat) (w : World) (hx : w.cell? ⟨xb, 0, none⟩ = some (.pointer (some ⟨d, 0, none⟩))) (h5 : w.cell? ⟨d, 5, none⟩ = some (.int .i64 st))
    (hp : w.ownsRow 0 69 3 (.slice p l.length c) l.length (l.flatMap fateV)) (hl : l.length ≤ 4611686018427387904) :
    Calls Tryz.prog 82 #[.slice p l.length c, .func (.func 83) #[] #[.pointer (some ⟨xb, 0, none⟩)]] w fun e w' => e = .returned (.int .i64 (firstIx st l)) ∧ Below w.heap.size w w' := by
  have lx := World.block_lt_of_cell? w _ hx
  have ld := World.block_lt_of_cell? w _ h5
  have HP := Lib.hid hp
  clear hp
  go_enter Tryz.func82, Tryz.ntmps82
  go_wp2
  go_loopw [5, 8] (fun _ s8 wr => ∃ k : Nat, k ≤ l.length ∧ s8 = .int .i64 k ∧ Below w.heap.size w wr ∧ firstAt st l 0 = firstAt st (l.drop k) k) (fun _ s8 _ => l.length - (intOf s8).toNat)
  case atStart => exact ⟨0, Nat.zero_le _, rfl, Below.refl _ _, by simp⟩
  case round =>
    obtain ⟨k, hk, rfl, hb, hf⟩ := hrel
    have HF := Lib.hid hf; clear hf
    by_cases hlt : k < l.length
    · obtain ⟨b, rfl, lb, q0, q1, q2⟩ := plan_cells HP.out rfl k hlt
      have r0 := (hb.cell (p := ⟨b, k * 3, none⟩) lb).trans q0
      have r1 := (hb.cell (p := ⟨b, k * 3 + 1, none⟩) lb).trans q1
      have r2 := (hb.cell (p := ⟨b, k * 3 + 2, none⟩) lb).trans q2
      have x1 := (hb.cell (p := ⟨xb, 0, none⟩) lx).trans hx
      have d1 := (hb.cell (p := ⟨d, 5, none⟩) ld).trans h5
      have hcall := fate1_any xb d st l[k] wr x1 d1
      unfold fatA at hcall
      have hdrop : l.drop k = l[k] :: l.drop (k + 1) := List.drop_eq_getElem_cons hlt
      by_cases hq : l[k].step = st
      · have hqb : (l[k].step == st) = true := by simpa using hq
        have hres : firstAt st l 0 = some k := by rw [HF.out, hdrop, firstAt, if_pos hq]
        rw [hqb] at hcall
        have HR := Lib.hid hres
        clear hres hdrop hq hqb
        go_wp2_with (go_at_call 83; refine hcall.mono ?_; rintro e w2 ⟨rfl, hb2⟩)
        go_ret
        exact ⟨ret_int (by unfold firstIx; rw [HR.out]), below_then hb hb.size hb2⟩
      · have hqb : (l[k].step == st) = false := by simpa using hq
        have hres : firstAt st l 0 = firstAt st (l.drop (k + 1)) (k + 1) := by rw [HF.out, hdrop, firstAt, if_neg hq]
        have HR := Lib.hid hres
        rw [hqb] at hcall
        clear hres hdrop hq hqb
        go_wp2_with (go_at_call 83; refine hcall.mono ?_; rintro e w2 ⟨rfl, hb2⟩)
        exact ⟨⟨k + 1, by omega, by go_num, below_then hb hb.size hb2, HR.out⟩, by simp [intOf]; omega⟩
    · obtain rfl : k = l.length := by omega
      have hres : firstAt st l 0 = none := by rw [HF.out]; simp [firstAt]
      have HR := Lib.hid hres
      clear hres
      go_wp2
      go_ret
      exact ⟨ret_int (by unfold firstIx; rw [HR.out]), hb⟩

theorem firstAt_lt' {st : Int} : ∀ {l : List Fat} {k i : Nat}, firstAt st l k = some i → k ≤ i ∧ i < k + l.length
  | [], _, _, h => by simp [firstAt] at h
  | c :: l, k, i, h => by
    unfold firstAt at h
    split at h
    · injection h with h; simp; omega
    · have := firstAt_lt' h; simp; omega
theorem firstAt_lt {st : Int} {l : List Fat} {i : Nat} (h : firstAt st l 0 = some i) : i < l.length := by have := firstAt_lt' h; omega
theorem three_cells {w : World} {b : Nat} {a0 a1 a2 : Value} {t : TypeId} (h : w.heap[b]? = some (.cells #[a0, a1, a2] t (0, 0))) :
    w.cell? ⟨b, 0, none⟩ = some a0 ∧ w.cell? ⟨b, 1, none⟩ = some a1 ∧ w.cell? ⟨b, 2, none⟩ = some a2 := by
  refine ⟨?_, ?_, ?_⟩ <;> simp [World.cell?, h]
/-- The next step's fate. -/
def Dk.fate (S : Dk) : Fat := match firstAt (S.steps + 1) S.plan 0 with | some i => S.plan.getD i ⟨0, 0, 0⟩ | none => ⟨0, 0, 0⟩
def Dk.stepped (S : Dk) : Dk := { S with steps := S.steps + 1 }
theorem DiskIn.setD {d bn bs cc cp : Nat} {pc pp : Option Addr} {pd : Nat → Option Addr} {cd : Nat → Nat} {S S' : Dk} (h : DiskIn w own d bn bs pc cc pp cp pd cd S) (hS : S' = { S with steps := S'.steps, off := S'.off }) (h0 : 0 ≤ S'.steps)
    (hb : w'.heap[d]? = some (.cells #[.int .i64 S.room, .map (some bn), .map (some bs), .slice pc S.chg.length cc, .slice pp S.plan.length cp, .int .i64 S'.steps, .bool S'.off] 82 (0, 0)))
    (hk : ∀ k, k < w.heap.size → k ≠ d → w'.heap[k]? = w.heap[k]?) : DiskIn w' own d bn bs pc cc pp cp pd cd S' := by
  obtain ⟨en, cn, hen⟩ := h.now.map
  obtain ⟨es, cs, hes⟩ := h.safe.map
  have hcells : ∀ k cur t m, w.heap[k]? = some (Obj.cells cur t m) → t ≠ 82 → w'.heap[k]? = w.heap[k]? := fun k cur t m hk1 ht1 =>
    hk k (lt_of_block hk1) (ty_ne hk1 h.blk ht1)
  rw [hS]
  exact { h with
    blk := hb
    now := h.now.kept (hk bn h.now.lt (fun e => map_ne h.blk hen e.symm))
    safe := h.safe.kept (hk bs h.safe.lt (fun e => map_ne h.blk hes e.symm))
    chg := ownsRow_kept h.chg (fun g hg => by
      cases pc with
      | none => simp [Value.ownBlock] at hg
      | some a =>
        simp only [Value.ownBlock, Option.some.injEq] at hg
        subst hg
        obtain ⟨cur, hcur⟩ := ownsRow_blk h.chg
        exact hcells _ _ _ _ hcur (by decide))
    plan := ownsRow_kept h.plan (fun g hg => by
      cases pp with
      | none => simp [Value.ownBlock] at hg
      | some a =>
        simp only [Value.ownBlock, Option.some.injEq] at hg
        subst hg
        obtain ⟨cur, hcur⟩ := ownsRow_blk h.plan
        exact hcells _ _ _ _ hcur (by decide))
    ref := h.ref
    files := fun f hf => (h.files f hf).kept (hcells _ _ _ _ (h.files f hf).blk (by decide)) (fun a ha => by
      have h1 := (h.files f hf).row
      rw [ha] at h1
      obtain ⟨cur, hcur⟩ := ownsRow_blk h1
      exact hcells _ _ _ _ hcur (by decide))
    steps0 := h0 }

set_option maxRecDepth 100000 in
set_option maxHeartbeats 1600000 in
theorem fate_any (d : Nat) (S : Dk) (w : World) (h : DiskAt w own d S) (hst : S.steps ≤ 4611686018427387904) (hpl : S.plan.length ≤ 4611686018427387904) :
    Calls Tryz.prog 71 #[.pointer (some ⟨d, 0, none⟩)] w fun e w' => e = .returned (fatA S.fate) ∧ DiskAt w' own d S.stepped ∧ Turn own w w' ∧ (∀ k, k < w.heap.size → k ≠ d → w'.heap[k]? = w.heap[k]?) := by
  obtain ⟨bn, bs, pc, cc, pp, cp, pd, cd, h⟩ := h
  obtain ⟨c0, c1, c2, c3, c4, c5, c6⟩ := seven_cells h.blk
  have f5 := all_free h.blk 5
  have hs0 := h.steps0
  have ld := lt_of_block h.blk
  obtain ⟨wb, hwb⟩ : ∃ wb, wb = (w.alloc (.cells #[.pointer (some ⟨d, 0, none⟩)] 26)).alloc (.cells #[.int .i64 0, .int .i64 0, .int .i64 0] 69) := ⟨_, rfl⟩
  have hwbs : wb.heap.size = w.heap.size + 2 := by rw [hwb]; simp
  have hbb : Below w.heap.size w wb := by rw [hwb]; exact ((Below.refl _ _).alloc (Nat.le_refl _) _).alloc (by simp) _
  have x0 : wb.cell? ⟨w.heap.size, 0, none⟩ = some (.pointer (some ⟨d, 0, none⟩)) := by rw [hwb]; simp [World.cell?_alloc_at]
  have r0 : wb.heap[w.heap.size + 1]? = some (.cells #[.int .i64 0, .int .i64 0, .int .i64 0] 69 (0, 0)) := by
    rw [hwb, show w.heap.size + 1 = (w.alloc (.cells #[.pointer (some ⟨d, 0, none⟩)] 26)).heap.size from by simp]; exact heap_alloc_new _ _
  have e5 := (hbb.cell (p := ⟨d, 5, none⟩) ld).trans c5
  have g5 := (hbb.frozen (p := ⟨d, 5, none⟩) ld).trans f5
  have hdb := (hbb.block d ld).trans h.blk
  obtain ⟨wc, hwc⟩ : ∃ wc, wc = wb.setCell ⟨d, 5, none⟩ (.int .i64 (S.steps + 1)) := ⟨_, rfl⟩
  have hdc : wc.heap[d]? = some (.cells #[.int .i64 S.room, .map (some bn), .map (some bs), .slice pc S.chg.length cc, .slice pp S.plan.length cp, .int .i64 (S.steps + 1), .bool S.off] 82 (0, 0)) := by rw [hwc]; exact block_setCell hdb
  have hco : ∀ k, k ≠ d → wc.heap[k]? = wb.heap[k]? := fun k hk => by rw [hwc]; exact Below.heap_setCell _ _ _ _ hk
  have hcs : wc.heap.size = w.heap.size + 2 := by rw [hwc]; simp [World.setCell, hwbs]
  have hin : DiskIn wc own d bn bs pc cc pp cp pd cd S.stepped := DiskIn.setD h rfl (by simp only [Dk.stepped]; omega) hdc (fun k hk hkd => (hco k hkd).trans (hbb.block k hk))
  have tc : Turn own w wc := (Turn.of_below hbb).trans (by rw [hwc]; exact Turn.setCell _ _ h.od)
  obtain ⟨d0, d1, d2, d3, d4, d5, d6⟩ := seven_cells hdc
  have xc : wc.cell? ⟨w.heap.size, 0, none⟩ = some (.pointer (some ⟨d, 0, none⟩)) := (World.cell?_of_block (w := wb) (a := ⟨w.heap.size, 0, none⟩) (hco _ (by simp only; omega))).trans x0
  have rc := (hco (w.heap.size + 1) (by omega)).trans r0
  have hidx := indexFunc_any w.heap.size d (S.steps + 1) S.plan pp cp wc xc d5 hin.plan hpl
  have hH := Lib.hid hin; have HT := Lib.hid tc; have HRC := Lib.hid rc; have H0 := Lib.hid h; have HCO := Lib.hid hco; have HBB := Lib.hid hbb; have HDC := Lib.hid hdc
  clear h c0 c1 c2 c3 c4 c5 c6 f5 hbb hdb r0 hdc hco hin tc rc
  go_enter Tryz.func71, Tryz.ntmps71
  go_upto_region 1 with fail
  simp only [← hwb]
  have HWB := Lib.hid hwb
  clear hwb
  go_upto_region 2 with fail
  simp only [← hwc]
  have HWC := Lib.hid hwc
  have ldc : d < wc.heap.size := by omega
  have lrc : w.heap.size + 1 < wc.heap.size := by omega
  clear hwc d0 d1 d2 d3 d5 d6 e5 g5 x0
  cases hfa : firstAt (S.steps + 1) S.plan 0 with
  | none =>
    have e1 : firstIx (S.steps + 1) S.plan = -1 := by unfold firstIx; rw [hfa]
    have e2 : S.fate = ⟨0, 0, 0⟩ := by unfold Dk.fate; rw [hfa]
    rw [e1] at hidx
    have HE := Lib.hid e2
    clear e1 e2 hfa
    go_wp2_with (go_at_call 82; refine hidx.mono ?_; rintro e w1 ⟨rfl, hb1⟩; have r1 := (hb1.block _ lrc).trans HRC.out; obtain ⟨q0, q1, q2⟩ := three_cells r1; have z0 := all_free r1 0; have z1 := all_free r1 1; have z2 := all_free r1 2)
    have h1 : ∀ a0 a1 a2 : Value, (((w1.setCell ⟨w.heap.size + 1, 0, none⟩ a0).setCell ⟨w.heap.size + 1, 1, none⟩ a1).setCell ⟨w.heap.size + 1, 2, none⟩ a2).heap[w.heap.size + 1]? = some (.cells #[a0, a1, a2] 69 (0, 0)) := fun a0 a1 a2 => block_setCell (block_setCell (block_setCell r1))
    have h2 : ∀ (a0 a1 a2 : Value) (k : Nat), k ≠ w.heap.size + 1 → (((w1.setCell ⟨w.heap.size + 1, 0, none⟩ a0).setCell ⟨w.heap.size + 1, 1, none⟩ a1).setCell ⟨w.heap.size + 1, 2, none⟩ a2).heap[k]? = w1.heap[k]? := fun a0 a1 a2 k hk => ((Below.heap_setCell _ _ _ _ hk).trans (Below.heap_setCell _ _ _ _ hk)).trans (Below.heap_setCell _ _ _ _ hk)
    refine bodyPost_ret (results_cell_row rfl _ _ (w.heap.size + 1) 69 _ (0, 0) _ rfl (h1 _ _ _) Tryz.underlying69 rfl (by kernel_rfl)) rfl ?_
    refine ⟨by rw [HE.out]; rfl, ⟨bn, bs, pc, cc, pp, cp, pd, cd, DiskIn.setD H0.out (S' := S.stepped) rfl (by simp only [Dk.stepped]; omega) ((h2 _ _ _ d (by omega)).trans ((hb1.block d ldc).trans HDC.out)) (fun k hk hkd => ((h2 _ _ _ k (by omega)).trans (hb1.block k (by omega))).trans ((HCO.out k hkd).trans (HBB.out.block k hk)))⟩, ?_⟩
    exact ⟨⟨hb1.os.trans HT.out.os, hb1.tape.trans HT.out.tape, hb1.output.trans HT.out.output, by have := hb1.size; simp [World.setCell]; omega, fun k hk hn => ((h2 _ _ _ k (by omega)).trans (hb1.block k (by omega))).trans (HT.out.block k hk hn)⟩, fun k hk hkd => ((h2 _ _ _ k (by omega)).trans (hb1.block k (by omega))).trans ((HCO.out k hkd).trans (HBB.out.block k hk))⟩
  | some i =>
    have hi := firstAt_lt hfa
    have e1 : firstIx (S.steps + 1) S.plan = (i : Int) := by unfold firstIx; rw [hfa]
    have e2 : S.fate = S.plan[i] := by unfold Dk.fate; rw [hfa]; simp only; rw [List.getD_eq_getElem?_getD, List.getElem?_eq_getElem hi]; rfl
    rw [e1] at hidx
    have HE := Lib.hid e2
    clear e1 e2 hfa
    obtain ⟨b, hpb, lb, p0, p1, p2⟩ := plan_cells hH.out.plan rfl i hi
    subst hpb
    simp only [Dk.stepped] at p0 p1 p2
    go_wp2_with (go_at_call 82; refine hidx.mono ?_; rintro e w1 ⟨rfl, hb1⟩; have r1 := (hb1.block _ lrc).trans HRC.out; obtain ⟨q0, q1, q2⟩ := three_cells r1; have z0 := all_free r1 0; have z1 := all_free r1 1; have z2 := all_free r1 2; have x11 := (hb1.cell (p := ⟨w.heap.size, 0, none⟩) (by simp only; omega)).trans xc; have d41 := (hb1.cell (p := ⟨d, 4, none⟩) ldc).trans d4; have p01 := (hb1.cell (p := ⟨b, i * 3, none⟩) lb).trans p0; have p11 := (hb1.cell (p := ⟨b, i * 3 + 1, none⟩) lb).trans p1; have p21 := (hb1.cell (p := ⟨b, i * 3 + 2, none⟩) lb).trans p2)
    have h1 : ∀ a0 a1 a2 : Value, (((w1.setCell ⟨w.heap.size + 1, 0, none⟩ a0).setCell ⟨w.heap.size + 1, 1, none⟩ a1).setCell ⟨w.heap.size + 1, 2, none⟩ a2).heap[w.heap.size + 1]? = some (.cells #[a0, a1, a2] 69 (0, 0)) := fun a0 a1 a2 => block_setCell (block_setCell (block_setCell r1))
    have h2 : ∀ (a0 a1 a2 : Value) (k : Nat), k ≠ w.heap.size + 1 → (((w1.setCell ⟨w.heap.size + 1, 0, none⟩ a0).setCell ⟨w.heap.size + 1, 1, none⟩ a1).setCell ⟨w.heap.size + 1, 2, none⟩ a2).heap[k]? = w1.heap[k]? := fun a0 a1 a2 k hk => ((Below.heap_setCell _ _ _ _ hk).trans (Below.heap_setCell _ _ _ _ hk)).trans (Below.heap_setCell _ _ _ _ hk)
    refine bodyPost_ret (results_cell_row rfl _ _ (w.heap.size + 1) 69 _ (0, 0) _ rfl (h1 _ _ _) Tryz.underlying69 rfl (by kernel_rfl)) rfl ?_
    refine ⟨by rw [HE.out]; rfl, ⟨bn, bs, pc, cc, _, cp, pd, cd, DiskIn.setD H0.out (S' := S.stepped) rfl (by simp only [Dk.stepped]; omega) ((h2 _ _ _ d (by omega)).trans ((hb1.block d ldc).trans HDC.out)) (fun k hk hkd => ((h2 _ _ _ k (by omega)).trans (hb1.block k (by omega))).trans ((HCO.out k hkd).trans (HBB.out.block k hk)))⟩, ?_⟩
    exact ⟨⟨hb1.os.trans HT.out.os, hb1.tape.trans HT.out.tape, hb1.output.trans HT.out.output, by have := hb1.size; simp [World.setCell]; omega, fun k hk hn => ((h2 _ _ _ k (by omega)).trans (hb1.block k (by omega))).trans (HT.out.block k hk hn)⟩, fun k hk hkd => ((h2 _ _ _ k (by omega)).trans (hb1.block k (by omega))).trans ((HCO.out k hkd).trans (HBB.out.block k hk))⟩
end Go.Proofs.YtgcpiofpjogjcaaGreatDoor.PK
