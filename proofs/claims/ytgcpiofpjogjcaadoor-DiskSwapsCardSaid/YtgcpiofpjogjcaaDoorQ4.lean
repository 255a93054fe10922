/-
  Parts of the proof: Di, Dj, Dl, Dm, Dn, Do, Dp, Dq, Dr, Ds.
-/
import Derived.Test.YtgcpiofpjogjcaaDoorQ3
import Derived.LoopTactic
import Derived.Deep.LoopGhost
import Derived.Shelf.SlMaps.Clone
import Derived.Deep.Upon
import Derived.Sort.KeysCollected
section
/-
  A step's fate, walked.
-/
namespace Go.Proofs.YtgcpiofpjogjcaaDoor.PK
open Go.RowKit Go.Maps Go.Proofs.YtgcpiofpjogjcaaDoorW.PrintWords
set_option linter.unusedVariables false
set_option linter.unusedSimpArgs false
variable {own : Nat → Prop} {w w' : World}

def fatA (c : Fat) : Value := .agg #[.int .i64 c.step, .int .i64 c.kind, .int .i64 c.n]
set_option maxRecDepth 100000 in
theorem fate1_any (xb d : Nat) (st : Int) (c : Fat) (w : World) (hx : w.cell? ⟨xb, 0, none⟩ = some (.pointer (some ⟨d, 0, none⟩))) (h5 : w.cell? ⟨d, 5, none⟩ = some (.int .i64 st)) :
    Calls Tryd.prog 50 #[fatA c, .pointer (some ⟨xb, 0, none⟩)] w fun e w' => e = .returned (.bool (c.step == st)) ∧ Below w.heap.size w w' := by
  have lx := World.block_lt_of_cell? w _ hx
  have ld := World.block_lt_of_cell? w _ h5
  unfold fatA
  have hb : Below w.heap.size w (w.alloc (.cells #[.int .i64 c.step, .int .i64 c.kind, .int .i64 c.n] 73)) := (Below.refl _ _).alloc (Nat.le_refl _) _
  have x1 := (hb.cell (p := ⟨xb, 0, none⟩) lx).trans hx
  have d1 := (hb.cell (p := ⟨d, 5, none⟩) ld).trans h5
  go_enter Tryd.func50, Tryd.ntmps50
  go_wp2
  go_quiet (fail)
  go_wp2
  go_ret
  exact ⟨rfl, pw_below_drewN hb _⟩

/-- The first fate of a step. -/
def firstAt (st : Int) : List Fat → Nat → Option Nat
  | [], _ => none
  | c :: l, i => if c.step = st then some i else firstAt st l (i + 1)
def firstIx (st : Int) (l : List Fat) : Int := match firstAt st l 0 with | some i => (i : Int) | none => -1
theorem fateV_get (l : List Fat) (i : Nat) (h : i < l.length) : (l.flatMap fateV)[i * 3]? = some (.int .i64 l[i].step) ∧ (l.flatMap fateV)[i * 3 + 1]? = some (.int .i64 l[i].kind) ∧ (l.flatMap fateV)[i * 3 + 2]? = some (.int .i64 l[i].n) := by
  induction l generalizing i with
  | nil => simp at h
  | cons c l ih =>
    cases i with
    | zero => simp [fateV]
    | succ i =>
      have := ih i (by simpa using h)
      simp only [List.flatMap_cons, fateV, List.getElem_cons_succ]
      rw [show (i + 1) * 3 = i * 3 + 3 from by omega, show i * 3 + 3 + 1 = i * 3 + 1 + 3 from by omega, show i * 3 + 3 + 2 = i * 3 + 2 + 3 from by omega]
      simp only [List.cons_append, List.nil_append, List.getElem?_cons_succ]
      exact this
theorem plan_cells {e n c : Nat} {p : Option Addr} {l : List Fat} (h : w.ownsRow 0 e 3 (.slice p n c) n (l.flatMap fateV)) (hn : n = l.length) (i : Nat) (hi : i < l.length) :
    ∃ b, p = some ⟨b, 0, none⟩ ∧ b < w.heap.size ∧ w.cell? ⟨b, i * 3, none⟩ = some (.int .i64 l[i].step) ∧ w.cell? ⟨b, i * 3 + 1, none⟩ = some (.int .i64 l[i].kind) ∧ w.cell? ⟨b, i * 3 + 2, none⟩ = some (.int .i64 l[i].n) := by
  obtain ⟨h1, h2⟩ := h
  rcases h2 with ⟨h2, h3⟩ | ⟨g, cap, cur, hv, hg, hh, hnc, hcm, hsz, htake⟩
  · omega
  · injection hv with hv _ _
    have hget : ∀ j, j < n * 3 → w.cell? ⟨g, j, none⟩ = (l.flatMap fateV)[j]? := fun j hj => by
      rw [← htake]
      simp [World.cell?, hh, List.getElem?_take, hj]
    obtain ⟨q0, q1, q2⟩ := fateV_get l i hi
    exact ⟨g, hv, lt_of_block hh, (hget _ (by omega)).trans q0, (hget _ (by omega)).trans q1, (hget _ (by omega)).trans q2⟩

set_option maxRecDepth 100000 in
set_option maxHeartbeats 1600000 in
theorem indexFunc_any (xb d : Nat) (st : Int) (l : List Fat) (p : Option Addr) (c : Nat) (w : World) (hx : w.cell? ⟨xb, 0, none⟩ = some (.pointer (some ⟨d, 0, none⟩))) (h5 : w.cell? ⟨d, 5, none⟩ = some (.int .i64 st))
    (hp : w.ownsRow 0 73 3 (.slice p l.length c) l.length (l.flatMap fateV)) (hl : l.length ≤ 4611686018427387904) :
    Calls Tryd.prog 49 #[.slice p l.length c, .func (.func 50) #[] #[.pointer (some ⟨xb, 0, none⟩)]] w fun e w' => e = .returned (.int .i64 (firstIx st l)) ∧ Below w.heap.size w w' := by
  have lx := World.block_lt_of_cell? w _ hx
  have ld := World.block_lt_of_cell? w _ h5
  have HP := Lib.hid hp
  clear hp
  go_enter Tryd.func49, Tryd.ntmps49
  go_wp2
  go_loopw [5, 8] (fun _ s8 wr => ∃ k : Nat, k ≤ l.length ∧ s8 = .int .i64 k ∧ Below w.heap.size w wr ∧ firstAt st l 0 = firstAt st (l.drop k) k) (fun _ s8 _ => l.length - (intOf s8).toNat)
  case atStart => exact ⟨0, Nat.zero_le _, rfl, Below.refl _ _, by simp⟩
  case round =>
    obtain ⟨k, hk, rfl, hb, hf⟩ := hrel
    have HF := Lib.hid hf; clear hf
    by_cases hlt : k < l.length
    · obtain ⟨b, rfl, lb, q0, q1, q2⟩ := plan_cells HP.out rfl k hlt
      have r0 := (hb.cell (p := ⟨b, k * 3, none⟩) lb).trans q0
      have r1 := (hb.cell (p := ⟨b, k * 3 + 1, none⟩) lb).trans q1
      have r2 := (hb.cell (p := ⟨b, k * 3 + 2, none⟩) lb).trans q2
      have x1 := (hb.cell (p := ⟨xb, 0, none⟩) lx).trans hx
      have d1 := (hb.cell (p := ⟨d, 5, none⟩) ld).trans h5
      have hcall := fate1_any xb d st l[k] wr x1 d1
      unfold fatA at hcall
      have hdrop : l.drop k = l[k] :: l.drop (k + 1) := List.drop_eq_getElem_cons hlt
      by_cases hq : l[k].step = st
      · have hqb : (l[k].step == st) = true := by simpa using hq
        have hres : firstAt st l 0 = some k := by rw [HF.out, hdrop, firstAt, if_pos hq]
        rw [hqb] at hcall
        have HR := Lib.hid hres
        clear hres hdrop hq hqb
        go_wp2_with (go_at_call 50; refine hcall.mono ?_; rintro e w2 ⟨rfl, hb2⟩)
        go_ret
        exact ⟨ret_int (by unfold firstIx; rw [HR.out]), below_then hb hb.size hb2⟩
      · have hqb : (l[k].step == st) = false := by simpa using hq
        have hres : firstAt st l 0 = firstAt st (l.drop (k + 1)) (k + 1) := by rw [HF.out, hdrop, firstAt, if_neg hq]
        have HR := Lib.hid hres
        rw [hqb] at hcall
        clear hres hdrop hq hqb
        go_wp2_with (go_at_call 50; refine hcall.mono ?_; rintro e w2 ⟨rfl, hb2⟩)
        exact ⟨⟨k + 1, by omega, by go_num, below_then hb hb.size hb2, HR.out⟩, by simp [intOf]; omega⟩
    · obtain rfl : k = l.length := by omega
      have hres : firstAt st l 0 = none := by rw [HF.out]; simp [firstAt]
      have HR := Lib.hid hres
      clear hres
      go_wp2
      go_ret
      exact ⟨ret_int (by unfold firstIx; rw [HR.out]), hb⟩

theorem firstAt_lt' {st : Int} : ∀ {l : List Fat} {k i : Nat}, firstAt st l k = some i → k ≤ i ∧ i < k + l.length
  | [], _, _, h => by simp [firstAt] at h
  | c :: l, k, i, h => by
    unfold firstAt at h
    split at h
    · injection h with h; simp; omega
    · have := firstAt_lt' h; simp; omega
theorem firstAt_lt {st : Int} {l : List Fat} {i : Nat} (h : firstAt st l 0 = some i) : i < l.length := by have := firstAt_lt' h; omega
theorem three_cells {w : World} {b : Nat} {a0 a1 a2 : Value} {t : TypeId} (h : w.heap[b]? = some (.cells #[a0, a1, a2] t (0, 0))) :
    w.cell? ⟨b, 0, none⟩ = some a0 ∧ w.cell? ⟨b, 1, none⟩ = some a1 ∧ w.cell? ⟨b, 2, none⟩ = some a2 := by
  refine ⟨?_, ?_, ?_⟩ <;> simp [World.cell?, h]
/-- The next step's fate. -/
def Dk.fate (S : Dk) : Fat := match firstAt (S.steps + 1) S.plan 0 with | some i => S.plan.getD i ⟨0, 0, 0⟩ | none => ⟨0, 0, 0⟩
def Dk.stepped (S : Dk) : Dk := { S with steps := S.steps + 1 }
theorem DiskIn.setD {d bn bs cc cp : Nat} {pc pp : Option Addr} {pd : Nat → Option Addr} {cd : Nat → Nat} {S S' : Dk} (h : DiskIn w own d bn bs pc cc pp cp pd cd S) (hS : S' = { S with steps := S'.steps, off := S'.off }) (h0 : 0 ≤ S'.steps)
    (hb : w'.heap[d]? = some (.cells #[.int .i64 S.room, .map (some bn), .map (some bs), .slice pc S.chg.length cc, .slice pp S.plan.length cp, .int .i64 S'.steps, .bool S'.off] 58 (0, 0)))
    (hk : ∀ k, k < w.heap.size → k ≠ d → w'.heap[k]? = w.heap[k]?) : DiskIn w' own d bn bs pc cc pp cp pd cd S' := by
  obtain ⟨en, cn, hen⟩ := h.now.map
  obtain ⟨es, cs, hes⟩ := h.safe.map
  have hcells : ∀ k cur t m, w.heap[k]? = some (Obj.cells cur t m) → t ≠ 58 → w'.heap[k]? = w.heap[k]? := fun k cur t m hk1 ht1 =>
    hk k (lt_of_block hk1) (ty_ne hk1 h.blk ht1)
  rw [hS]
  exact { h with
    blk := hb
    now := h.now.kept (hk bn h.now.lt (fun e => map_ne h.blk hen e.symm))
    safe := h.safe.kept (hk bs h.safe.lt (fun e => map_ne h.blk hes e.symm))
    chg := ownsRow_kept h.chg (fun g hg => by
      cases pc with
      | none => simp [Value.ownBlock] at hg
      | some a =>
        simp only [Value.ownBlock, Option.some.injEq] at hg
        subst hg
        obtain ⟨cur, hcur⟩ := ownsRow_blk h.chg
        exact hcells _ _ _ _ hcur (by decide))
    plan := ownsRow_kept h.plan (fun g hg => by
      cases pp with
      | none => simp [Value.ownBlock] at hg
      | some a =>
        simp only [Value.ownBlock, Option.some.injEq] at hg
        subst hg
        obtain ⟨cur, hcur⟩ := ownsRow_blk h.plan
        exact hcells _ _ _ _ hcur (by decide))
    ref := h.ref
    files := fun f hf => (h.files f hf).kept (hcells _ _ _ _ (h.files f hf).blk (by decide)) (fun a ha => by
      have h1 := (h.files f hf).row
      rw [ha] at h1
      obtain ⟨cur, hcur⟩ := ownsRow_blk h1
      exact hcells _ _ _ _ hcur (by decide))
    steps0 := h0 }

set_option maxRecDepth 100000 in
set_option maxHeartbeats 1600000 in
theorem fate_any (d : Nat) (S : Dk) (w : World) (h : DiskAt w own d S) (hst : S.steps ≤ 4611686018427387904) (hpl : S.plan.length ≤ 4611686018427387904) :
    Calls Tryd.prog 43 #[.pointer (some ⟨d, 0, none⟩)] w fun e w' => e = .returned (fatA S.fate) ∧ DiskAt w' own d S.stepped ∧ Turn own w w' ∧ (∀ k, k < w.heap.size → k ≠ d → w'.heap[k]? = w.heap[k]?) := by
  obtain ⟨bn, bs, pc, cc, pp, cp, pd, cd, h⟩ := h
  obtain ⟨c0, c1, c2, c3, c4, c5, c6⟩ := seven_cells h.blk
  have f5 := all_free h.blk 5
  have hs0 := h.steps0
  have ld := lt_of_block h.blk
  obtain ⟨wb, hwb⟩ : ∃ wb, wb = (w.alloc (.cells #[.pointer (some ⟨d, 0, none⟩)] 26)).alloc (.cells #[.int .i64 0, .int .i64 0, .int .i64 0] 73) := ⟨_, rfl⟩
  have hwbs : wb.heap.size = w.heap.size + 2 := by rw [hwb]; simp
  have hbb : Below w.heap.size w wb := by rw [hwb]; exact ((Below.refl _ _).alloc (Nat.le_refl _) _).alloc (by simp) _
  have x0 : wb.cell? ⟨w.heap.size, 0, none⟩ = some (.pointer (some ⟨d, 0, none⟩)) := by rw [hwb]; simp [World.cell?_alloc_at]
  have r0 : wb.heap[w.heap.size + 1]? = some (.cells #[.int .i64 0, .int .i64 0, .int .i64 0] 73 (0, 0)) := by
    rw [hwb, show w.heap.size + 1 = (w.alloc (.cells #[.pointer (some ⟨d, 0, none⟩)] 26)).heap.size from by simp]; exact heap_alloc_new _ _
  have e5 := (hbb.cell (p := ⟨d, 5, none⟩) ld).trans c5
  have g5 := (hbb.frozen (p := ⟨d, 5, none⟩) ld).trans f5
  have hdb := (hbb.block d ld).trans h.blk
  obtain ⟨wc, hwc⟩ : ∃ wc, wc = wb.setCell ⟨d, 5, none⟩ (.int .i64 (S.steps + 1)) := ⟨_, rfl⟩
  have hdc : wc.heap[d]? = some (.cells #[.int .i64 S.room, .map (some bn), .map (some bs), .slice pc S.chg.length cc, .slice pp S.plan.length cp, .int .i64 (S.steps + 1), .bool S.off] 58 (0, 0)) := by rw [hwc]; exact block_setCell hdb
  have hco : ∀ k, k ≠ d → wc.heap[k]? = wb.heap[k]? := fun k hk => by rw [hwc]; exact Below.heap_setCell _ _ _ _ hk
  have hcs : wc.heap.size = w.heap.size + 2 := by rw [hwc]; simp [World.setCell, hwbs]
  have hin : DiskIn wc own d bn bs pc cc pp cp pd cd S.stepped := DiskIn.setD h rfl (by simp only [Dk.stepped]; omega) hdc (fun k hk hkd => (hco k hkd).trans (hbb.block k hk))
  have tc : Turn own w wc := (Turn.of_below hbb).trans (by rw [hwc]; exact Turn.setCell _ _ h.od)
  obtain ⟨d0, d1, d2, d3, d4, d5, d6⟩ := seven_cells hdc
  have xc : wc.cell? ⟨w.heap.size, 0, none⟩ = some (.pointer (some ⟨d, 0, none⟩)) := (World.cell?_of_block (w := wb) (a := ⟨w.heap.size, 0, none⟩) (hco _ (by simp only; omega))).trans x0
  have rc := (hco (w.heap.size + 1) (by omega)).trans r0
  have hidx := indexFunc_any w.heap.size d (S.steps + 1) S.plan pp cp wc xc d5 hin.plan hpl
  have hH := Lib.hid hin; have HT := Lib.hid tc; have HRC := Lib.hid rc; have H0 := Lib.hid h; have HCO := Lib.hid hco; have HBB := Lib.hid hbb; have HDC := Lib.hid hdc
  clear h c0 c1 c2 c3 c4 c5 c6 f5 hbb hdb r0 hdc hco hin tc rc
  go_enter Tryd.func43, Tryd.ntmps43
  go_upto_region 1 with fail
  simp only [← hwb]
  have HWB := Lib.hid hwb
  clear hwb
  go_upto_region 2 with fail
  simp only [← hwc]
  have HWC := Lib.hid hwc
  have ldc : d < wc.heap.size := by omega
  have lrc : w.heap.size + 1 < wc.heap.size := by omega
  clear hwc d0 d1 d2 d3 d5 d6 e5 g5 x0
  cases hfa : firstAt (S.steps + 1) S.plan 0 with
  | none =>
    have e1 : firstIx (S.steps + 1) S.plan = -1 := by unfold firstIx; rw [hfa]
    have e2 : S.fate = ⟨0, 0, 0⟩ := by unfold Dk.fate; rw [hfa]
    rw [e1] at hidx
    have HE := Lib.hid e2
    clear e1 e2 hfa
    go_wp2_with (go_at_call 49; refine hidx.mono ?_; rintro e w1 ⟨rfl, hb1⟩; have r1 := (hb1.block _ lrc).trans HRC.out; obtain ⟨q0, q1, q2⟩ := three_cells r1; have z0 := all_free r1 0; have z1 := all_free r1 1; have z2 := all_free r1 2)
    have h1 : ∀ a0 a1 a2 : Value, (((w1.setCell ⟨w.heap.size + 1, 0, none⟩ a0).setCell ⟨w.heap.size + 1, 1, none⟩ a1).setCell ⟨w.heap.size + 1, 2, none⟩ a2).heap[w.heap.size + 1]? = some (.cells #[a0, a1, a2] 73 (0, 0)) := fun a0 a1 a2 => block_setCell (block_setCell (block_setCell r1))
    have h2 : ∀ (a0 a1 a2 : Value) (k : Nat), k ≠ w.heap.size + 1 → (((w1.setCell ⟨w.heap.size + 1, 0, none⟩ a0).setCell ⟨w.heap.size + 1, 1, none⟩ a1).setCell ⟨w.heap.size + 1, 2, none⟩ a2).heap[k]? = w1.heap[k]? := fun a0 a1 a2 k hk => ((Below.heap_setCell _ _ _ _ hk).trans (Below.heap_setCell _ _ _ _ hk)).trans (Below.heap_setCell _ _ _ _ hk)
    refine bodyPost_ret (results_cell_row rfl _ _ (w.heap.size + 1) 73 _ (0, 0) _ rfl (h1 _ _ _) Tryd.underlying73 rfl (by kernel_rfl)) rfl ?_
    refine ⟨by rw [HE.out]; rfl, ⟨bn, bs, pc, cc, pp, cp, pd, cd, DiskIn.setD H0.out (S' := S.stepped) rfl (by simp only [Dk.stepped]; omega) ((h2 _ _ _ d (by omega)).trans ((hb1.block d ldc).trans HDC.out)) (fun k hk hkd => ((h2 _ _ _ k (by omega)).trans (hb1.block k (by omega))).trans ((HCO.out k hkd).trans (HBB.out.block k hk)))⟩, ?_⟩
    exact ⟨⟨hb1.os.trans HT.out.os, hb1.tape.trans HT.out.tape, hb1.output.trans HT.out.output, by have := hb1.size; simp [World.setCell]; omega, fun k hk hn => ((h2 _ _ _ k (by omega)).trans (hb1.block k (by omega))).trans (HT.out.block k hk hn)⟩, fun k hk hkd => ((h2 _ _ _ k (by omega)).trans (hb1.block k (by omega))).trans ((HCO.out k hkd).trans (HBB.out.block k hk))⟩
  | some i =>
    have hi := firstAt_lt hfa
    have e1 : firstIx (S.steps + 1) S.plan = (i : Int) := by unfold firstIx; rw [hfa]
    have e2 : S.fate = S.plan[i] := by unfold Dk.fate; rw [hfa]; simp only; rw [List.getD_eq_getElem?_getD, List.getElem?_eq_getElem hi]; rfl
    rw [e1] at hidx
    have HE := Lib.hid e2
    clear e1 e2 hfa
    obtain ⟨b, hpb, lb, p0, p1, p2⟩ := plan_cells hH.out.plan rfl i hi
    subst hpb
    simp only [Dk.stepped] at p0 p1 p2
    go_wp2_with (go_at_call 49; refine hidx.mono ?_; rintro e w1 ⟨rfl, hb1⟩; have r1 := (hb1.block _ lrc).trans HRC.out; obtain ⟨q0, q1, q2⟩ := three_cells r1; have z0 := all_free r1 0; have z1 := all_free r1 1; have z2 := all_free r1 2; have x11 := (hb1.cell (p := ⟨w.heap.size, 0, none⟩) (by simp only; omega)).trans xc; have d41 := (hb1.cell (p := ⟨d, 4, none⟩) ldc).trans d4; have p01 := (hb1.cell (p := ⟨b, i * 3, none⟩) lb).trans p0; have p11 := (hb1.cell (p := ⟨b, i * 3 + 1, none⟩) lb).trans p1; have p21 := (hb1.cell (p := ⟨b, i * 3 + 2, none⟩) lb).trans p2)
    have h1 : ∀ a0 a1 a2 : Value, (((w1.setCell ⟨w.heap.size + 1, 0, none⟩ a0).setCell ⟨w.heap.size + 1, 1, none⟩ a1).setCell ⟨w.heap.size + 1, 2, none⟩ a2).heap[w.heap.size + 1]? = some (.cells #[a0, a1, a2] 73 (0, 0)) := fun a0 a1 a2 => block_setCell (block_setCell (block_setCell r1))
    have h2 : ∀ (a0 a1 a2 : Value) (k : Nat), k ≠ w.heap.size + 1 → (((w1.setCell ⟨w.heap.size + 1, 0, none⟩ a0).setCell ⟨w.heap.size + 1, 1, none⟩ a1).setCell ⟨w.heap.size + 1, 2, none⟩ a2).heap[k]? = w1.heap[k]? := fun a0 a1 a2 k hk => ((Below.heap_setCell _ _ _ _ hk).trans (Below.heap_setCell _ _ _ _ hk)).trans (Below.heap_setCell _ _ _ _ hk)
    refine bodyPost_ret (results_cell_row rfl _ _ (w.heap.size + 1) 73 _ (0, 0) _ rfl (h1 _ _ _) Tryd.underlying73 rfl (by kernel_rfl)) rfl ?_
    refine ⟨by rw [HE.out]; rfl, ⟨bn, bs, pc, cc, _, cp, pd, cd, DiskIn.setD H0.out (S' := S.stepped) rfl (by simp only [Dk.stepped]; omega) ((h2 _ _ _ d (by omega)).trans ((hb1.block d ldc).trans HDC.out)) (fun k hk hkd => ((h2 _ _ _ k (by omega)).trans (hb1.block k (by omega))).trans ((HCO.out k hkd).trans (HBB.out.block k hk)))⟩, ?_⟩
    exact ⟨⟨hb1.os.trans HT.out.os, hb1.tape.trans HT.out.tape, hb1.output.trans HT.out.output, by have := hb1.size; simp [World.setCell]; omega, fun k hk hn => ((h2 _ _ _ k (by omega)).trans (hb1.block k (by omega))).trans (HT.out.block k hk hn)⟩, fun k hk hkd => ((h2 _ _ _ k (by omega)).trans (hb1.block k (by omega))).trans ((HCO.out k hkd).trans (HBB.out.block k hk))⟩
end Go.Proofs.YtgcpiofpjogjcaaDoor.PK
end
section
/-
  A step under its fate, walked.
-/
namespace Go.Proofs.YtgcpiofpjogjcaaDoor.PK
open Go.RowKit Go.Maps Go.Proofs.YtgcpiofpjogjcaaDoorW.PrintWords
set_option linter.unusedVariables false
set_option linter.unusedSimpArgs false
variable {own : Nat → Prop} {w w' : World}

/-- What a step answers, and the disk behind it: 'doE' and 'doS' what the step itself does, 'paS' what is left of it. -/
def Dk.stepSaid (S : Dk) (doE : Int) (doS : Dk → Prop) (paS : Int → Dk → Prop) (x : Int) (S' : Dk) : Prop :=
  if S.off then x = 140 ∧ S' = S
  else if S.fate.kind = 1 then x = 141 ∧ S' = S.stepped
  else if S.fate.kind = 2 then x = 142 ∧ paS (max S.fate.n 0) S'
  else if S.fate.kind = 3 then x = 140 ∧ S' = { S.stepped with off := true }
  else if S.fate.kind = 4 then x = 140 ∧ ∃ T, doS T ∧ S' = { T with off := true }
  else x = doE ∧ doS S'

theorem DiskAt.setOff {d : Nat} {S : Dk} (h : DiskAt w own d S) : DiskAt (w.setCell ⟨d, 6, none⟩ (.bool true)) own d { S with off := true } ∧ Turn own w (w.setCell ⟨d, 6, none⟩ (.bool true)) := by
  obtain ⟨bn, bs, pc, cc, pp, cp, pd, cd, h⟩ := h
  exact ⟨⟨bn, bs, pc, cc, pp, cp, pd, cd, h.setD rfl h.steps0 (block_setCell h.blk) (fun k _ hk => Below.heap_setCell _ _ _ _ hk)⟩, Turn.setCell _ _ h.od⟩

theorem DiskAt.flag {d : Nat} {S : Dk} (h : DiskAt w own d S) : w.cell? ⟨d, 6, none⟩ = some (.bool S.off) ∧ w.frozen? ⟨d, 6, none⟩ = false ∧ d < w.heap.size := by
  obtain ⟨bn, bs, pc, cc, pp, cp, pd, cd, h⟩ := h
  exact ⟨(seven_cells h.blk).2.2.2.2.2.2, all_free h.blk 6, lt_of_block h.blk⟩

set_option maxRecDepth 100000 in
set_option maxHeartbeats 1600000 in
theorem step_any (d g g2 : Nat) (lb lb2 : Array Value) (S : Dk) (doE : Int) (doS : Dk → Prop) (paS : Int → Dk → Prop) (w : World) (h : DiskAt w own d S) (hfr : Fresh own w) (hst : S.steps ≤ 4611686018427387904) (hpl : S.plan.length ≤ 4611686018427387904)
    (hdo : ∀ w1, DiskAt w1 own d S.stepped → Fresh own w1 → (∀ k, k < w.heap.size → k ≠ d → w1.heap[k]? = w.heap[k]?) → Calls Tryd.prog g lb w1 fun e w2 => e = .returned (.int .i64 doE) ∧ ∃ S', doS S' ∧ DiskAt w2 own d S' ∧ Turn own w1 w2)
    (hpa : S.fate.kind = 2 → ∀ w1 n, DiskAt w1 own d S.stepped → Fresh own w1 → (∀ k, k < w.heap.size → k ≠ d → w1.heap[k]? = w.heap[k]?) → Calls Tryd.prog g2 (#[.int .i64 n] ++ lb2) w1 fun e w2 => e = .returned (.tuple #[]) ∧ ∃ S', paS n S' ∧ DiskAt w2 own d S' ∧ Turn own w1 w2)
    (eg : ∀ args w, (callFunc g args).run Tryd.prog w = .ok (.enter g args) w) (eg2 : ∀ args w, (callFunc g2 args).run Tryd.prog w = .ok (.enter g2 args) w) :
    Calls Tryd.prog 25 #[.pointer (some ⟨d, 0, none⟩), .func (.func g) #[] lb, .func (.func g2) #[] lb2] w fun e w' => ∃ x S', e = .returned (.int .i64 x) ∧ S.stepSaid doE doS paS x S' ∧ DiskAt w' own d S' ∧ Turn own w w' := by
  have hfa := fate_any d S w h hst hpl
  have c6 : w.cell? ⟨d, 6, none⟩ = some (.bool S.off) := by
    obtain ⟨bn, bs, pc, cc, pp, cp, pd, cd, h⟩ := h
    exact (seven_cells h.blk).2.2.2.2.2.2
  unfold fatA at hfa
  cases ho : S.off
  · rw [ho] at c6
    by_cases e1 : S.fate.kind = 1
    · have b1 : (S.fate.kind == 1) = true := by simpa using e1
      have HE := Lib.hid e1; clear e1
      go_enter Tryd.func25, Tryd.ntmps25
      go_wp2_with (first
        | (go_at_call 43; refine hfa.mono ?_; rintro e w1 ⟨rfl, h1, t1, k1⟩; have hA := h1.below (w' := w1.alloc (.cells #[.int .i64 S.fate.step, .int .i64 S.fate.kind, .int .i64 S.fate.n] 73)) ((Below.refl _ _).alloc (Nat.le_refl _) _); obtain ⟨q6, z6, l6⟩ := hA.flag; have hF : Fresh own (w1.alloc (.cells #[.int .i64 S.fate.step, .int .i64 S.fate.kind, .int .i64 S.fate.n] 73)) := hfr.step (by have := t1.size; simp; omega); have tA : Turn own w (w1.alloc (.cells #[.int .i64 S.fate.step, .int .i64 S.fate.kind, .int .i64 S.fate.n] 73)) := t1.trans (Turn.alloc _); have kA : ∀ k, k < w.heap.size → k ≠ d → (w1.alloc (.cells #[.int .i64 S.fate.step, .int .i64 S.fate.kind, .int .i64 S.fate.n] 73)).heap[k]? = w.heap[k]? := fun k hk hkd => (Below.heap_alloc _ _ _ (by have := t1.size; omega)).trans (k1 k hk hkd)))
      go_ret
      exact ⟨141, _, rfl, by unfold Dk.stepSaid; rw [if_neg (by rw [ho]; simp)]; rw [if_pos HE.out]; exact ⟨rfl, rfl⟩, hA, tA⟩
    · have b1 : (S.fate.kind == 1) = false := by simpa using e1
      by_cases e2 : S.fate.kind = 2
      · have b2 : (S.fate.kind == 2) = true := by simpa using e2
        have HE := Lib.hid e2; have HN := Lib.hid e1; clear e1 e2
        go_enter Tryd.func25, Tryd.ntmps25
        go_wp2_with (first
          | (go_at_call 43; refine hfa.mono ?_; rintro e w1 ⟨rfl, h1, t1, k1⟩; have hA := h1.below (w' := w1.alloc (.cells #[.int .i64 S.fate.step, .int .i64 S.fate.kind, .int .i64 S.fate.n] 73)) ((Below.refl _ _).alloc (Nat.le_refl _) _); obtain ⟨q6, z6, l6⟩ := hA.flag; have hF : Fresh own (w1.alloc (.cells #[.int .i64 S.fate.step, .int .i64 S.fate.kind, .int .i64 S.fate.n] 73)) := hfr.step (by have := t1.size; simp; omega); have tA : Turn own w (w1.alloc (.cells #[.int .i64 S.fate.step, .int .i64 S.fate.kind, .int .i64 S.fate.n] 73)) := t1.trans (Turn.alloc _); have kA : ∀ k, k < w.heap.size → k ≠ d → (w1.alloc (.cells #[.int .i64 S.fate.step, .int .i64 S.fate.kind, .int .i64 S.fate.n] 73)).heap[k]? = w.heap[k]? := fun k hk hkd => (Below.heap_alloc _ _ _ (by have := t1.size; omega)).trans (k1 k hk hkd))
          | (go_at_fn g2; refine (hpa HE.out _ _ hA hF kA).mono ?_; rintro e w2 ⟨rfl, T, hT, h2, t2⟩))
        go_ret
        exact ⟨142, _, rfl, by unfold Dk.stepSaid; rw [if_neg (by rw [ho]; simp)]; rw [if_neg HN.out, if_pos HE.out]; exact ⟨rfl, hT⟩, h2, tA.trans t2⟩
      · have b2 : (S.fate.kind == 2) = false := by simpa using e2
        by_cases e3 : S.fate.kind = 3
        · have b3 : (S.fate.kind == 3) = true := by simpa using e3
          have HE := Lib.hid e3; have HN := Lib.hid (And.intro e1 e2); clear e1 e2 e3
          go_enter Tryd.func25, Tryd.ntmps25
          go_wp2_with (first
            | (go_at_call 43; refine hfa.mono ?_; rintro e w1 ⟨rfl, h1, t1, k1⟩; have hA := h1.below (w' := w1.alloc (.cells #[.int .i64 S.fate.step, .int .i64 S.fate.kind, .int .i64 S.fate.n] 73)) ((Below.refl _ _).alloc (Nat.le_refl _) _); obtain ⟨q6, z6, l6⟩ := hA.flag; have hF : Fresh own (w1.alloc (.cells #[.int .i64 S.fate.step, .int .i64 S.fate.kind, .int .i64 S.fate.n] 73)) := hfr.step (by have := t1.size; simp; omega); have tA : Turn own w (w1.alloc (.cells #[.int .i64 S.fate.step, .int .i64 S.fate.kind, .int .i64 S.fate.n] 73)) := t1.trans (Turn.alloc _); have kA : ∀ k, k < w.heap.size → k ≠ d → (w1.alloc (.cells #[.int .i64 S.fate.step, .int .i64 S.fate.kind, .int .i64 S.fate.n] 73)).heap[k]? = w.heap[k]? := fun k hk hkd => (Below.heap_alloc _ _ _ (by have := t1.size; omega)).trans (k1 k hk hkd)))
          go_ret
          exact ⟨140, _, rfl, by unfold Dk.stepSaid; rw [if_neg (by rw [ho]; simp)]; rw [if_neg HN.out.1, if_neg HN.out.2, if_pos HE.out]; exact ⟨rfl, rfl⟩, hA.setOff.1, tA.trans hA.setOff.2⟩
        · have b3 : (S.fate.kind == 3) = false := by simpa using e3
          by_cases e4 : S.fate.kind = 4
          · have b4 : (S.fate.kind == 4) = true := by simpa using e4
            have HE := Lib.hid e4; have HN := Lib.hid (And.intro e1 (And.intro e2 e3)); clear e1 e2 e3 e4
            go_enter Tryd.func25, Tryd.ntmps25
            go_wp2_with (first
              | (go_at_call 43; refine hfa.mono ?_; rintro e w1 ⟨rfl, h1, t1, k1⟩; have hA := h1.below (w' := w1.alloc (.cells #[.int .i64 S.fate.step, .int .i64 S.fate.kind, .int .i64 S.fate.n] 73)) ((Below.refl _ _).alloc (Nat.le_refl _) _); obtain ⟨q6, z6, l6⟩ := hA.flag; have hF : Fresh own (w1.alloc (.cells #[.int .i64 S.fate.step, .int .i64 S.fate.kind, .int .i64 S.fate.n] 73)) := hfr.step (by have := t1.size; simp; omega); have tA : Turn own w (w1.alloc (.cells #[.int .i64 S.fate.step, .int .i64 S.fate.kind, .int .i64 S.fate.n] 73)) := t1.trans (Turn.alloc _); have kA : ∀ k, k < w.heap.size → k ≠ d → (w1.alloc (.cells #[.int .i64 S.fate.step, .int .i64 S.fate.kind, .int .i64 S.fate.n] 73)).heap[k]? = w.heap[k]? := fun k hk hkd => (Below.heap_alloc _ _ _ (by have := t1.size; omega)).trans (k1 k hk hkd))
              | (go_at_fn g; refine (hdo _ hA hF kA).mono ?_; rintro e w2 ⟨rfl, T, hT, h2, t2⟩; obtain ⟨q7, z7, l7⟩ := h2.flag))
            go_ret
            exact ⟨140, _, rfl, by unfold Dk.stepSaid; rw [if_neg (by rw [ho]; simp)]; rw [if_neg HN.out.1, if_neg HN.out.2.1, if_neg HN.out.2.2, if_pos HE.out]; exact ⟨rfl, T, hT, rfl⟩, h2.setOff.1, (tA.trans t2).trans h2.setOff.2⟩
          · have b4 : (S.fate.kind == 4) = false := by simpa using e4
            have HN := Lib.hid (And.intro e1 (And.intro e2 (And.intro e3 e4))); clear e1 e2 e3 e4
            go_enter Tryd.func25, Tryd.ntmps25
            go_wp2_with (first
              | (go_at_call 43; refine hfa.mono ?_; rintro e w1 ⟨rfl, h1, t1, k1⟩; have hA := h1.below (w' := w1.alloc (.cells #[.int .i64 S.fate.step, .int .i64 S.fate.kind, .int .i64 S.fate.n] 73)) ((Below.refl _ _).alloc (Nat.le_refl _) _); obtain ⟨q6, z6, l6⟩ := hA.flag; have hF : Fresh own (w1.alloc (.cells #[.int .i64 S.fate.step, .int .i64 S.fate.kind, .int .i64 S.fate.n] 73)) := hfr.step (by have := t1.size; simp; omega); have tA : Turn own w (w1.alloc (.cells #[.int .i64 S.fate.step, .int .i64 S.fate.kind, .int .i64 S.fate.n] 73)) := t1.trans (Turn.alloc _); have kA : ∀ k, k < w.heap.size → k ≠ d → (w1.alloc (.cells #[.int .i64 S.fate.step, .int .i64 S.fate.kind, .int .i64 S.fate.n] 73)).heap[k]? = w.heap[k]? := fun k hk hkd => (Below.heap_alloc _ _ _ (by have := t1.size; omega)).trans (k1 k hk hkd))
              | (go_at_fn g; refine (hdo _ hA hF kA).mono ?_; rintro e w2 ⟨rfl, T, hT, h2, t2⟩))
            go_ret
            exact ⟨doE, T, rfl, by unfold Dk.stepSaid; rw [if_neg (by rw [ho]; simp)]; rw [if_neg HN.out.1, if_neg HN.out.2.1, if_neg HN.out.2.2.1, if_neg HN.out.2.2.2]; exact ⟨rfl, hT⟩, h2, tA.trans t2⟩
  · rw [ho] at c6
    go_enter Tryd.func25, Tryd.ntmps25
    go_wp2
    go_ret
    exact ⟨140, S, rfl, by unfold Dk.stepSaid; rw [if_pos ho]; exact ⟨rfl, rfl⟩, h, Turn.refl _ _⟩
end Go.Proofs.YtgcpiofpjogjcaaDoor.PK
end
section
/-
  Create, walked.
-/
namespace Go.Proofs.YtgcpiofpjogjcaaDoor.PK
open Go.RowKit Go.Maps Go.Proofs.YtgcpiofpjogjcaaDoorW.PrintWords
set_option linter.unusedVariables false
set_option linter.unusedSimpArgs false
variable {own : Nat → Prop} {w w' : World}

set_option maxRecDepth 100000 in
theorem nothing_any (n : Int) (w : World) : Calls Tryd.prog 29 #[.int .i64 n] w fun e w' => e = .returned (.tuple #[]) ∧ w = w' := by
  go_enter Tryd.func29, Tryd.ntmps29
  go_wp2
  go_end0
  exact ⟨rfl, rfl⟩

set_option maxRecDepth 100000 in
theorem create_any (d : Nat) (S : Dk) (s : ByteArray) (w : World) (h : DiskAt w own d S) (hfr : Fresh own w) (hs : s.size ≤ 9223372036854775807) (hst : S.steps ≤ 4611686018427387904) (hpl : S.plan.length ≤ 4611686018427387904) (hbig : S.chg.length ≤ 1099511627776) :
    Calls Tryd.prog 7 #[.pointer (some ⟨d, 0, none⟩), .string s] w fun e w' => ∃ x S', e = .returned (.int .i64 x) ∧ S.stepSaid (S.stepped.refuse s) (fun T => S.stepped.created s T) (fun _ T => T = S.stepped) x S' ∧ DiskAt w' own d S' ∧ Turn own w w' := by
  obtain ⟨wb, hwb⟩ : ∃ wb, wb = (w.alloc (.cells #[.pointer (some ⟨d, 0, none⟩)] 26)).alloc (.cells #[.string s] 9) := ⟨_, rfl⟩
  have hwbs : wb.heap.size = w.heap.size + 2 := by rw [hwb]; simp
  have hbb : Below w.heap.size w wb := by rw [hwb]; exact ((Below.refl _ _).alloc (Nat.le_refl _) _).alloc (by simp) _
  have x0 : wb.cell? ⟨w.heap.size, 0, none⟩ = some (.pointer (some ⟨d, 0, none⟩)) := by rw [hwb]; simp [World.cell?_alloc_at]
  have n0 : wb.cell? ⟨w.heap.size + 1, 0, none⟩ = some (.string s) := by
    rw [hwb, show w.heap.size + 1 = (w.alloc (.cells #[.pointer (some ⟨d, 0, none⟩)] 26)).heap.size from by simp]; simp [World.cell?_alloc_at]
  have ld := h.flag.2.2
  have hcall := step_any d 26 29 #[.pointer (some ⟨w.heap.size, 0, none⟩), .pointer (some ⟨w.heap.size + 1, 0, none⟩)] #[] S (S.stepped.refuse s) (fun T => S.stepped.created s T) (fun _ T => T = S.stepped) wb (h.below hbb) (hfr.step (by omega)) hst hpl
    (fun w1 h1 f1 k1 => create1_any _ _ d S.stepped s w1 h1 f1 hs hbig ((World.cell?_of_block (w := wb) (a := ⟨w.heap.size, 0, none⟩) (k1 _ (by simp only; omega) (by simp only; omega))).trans x0) ((World.cell?_of_block (w := wb) (a := ⟨w.heap.size + 1, 0, none⟩) (k1 _ (by simp only; omega) (by simp only; omega))).trans n0))
    (fun _ w1 n h1 f1 k1 => (nothing_any n w1).mono fun e w2 ⟨he, hw⟩ => ⟨he, S.stepped, rfl, hw ▸ h1, hw ▸ Turn.refl _ _⟩)
    (enters_of Tryd.func26 (by kernel_rfl) rfl) (enters_of Tryd.func29 (by kernel_rfl) rfl)
  have tb : Turn own w wb := Turn.of_below hbb
  have X0 := Lib.hid n0
  clear hbb n0
  go_enter Tryd.func7, Tryd.ntmps7
  go_upto_region 1 with fail
  simp only [← hwb]
  have HWB := Lib.hid hwb
  clear hwb
  go_wp2_with (first
    | (go_at_call 25; refine hcall.mono ?_; rintro e w2 ⟨x, T, rfl, hT, h2, t2⟩))
  go_ret
  exact ⟨x, T, rfl, hT, h2, tb.trans t2⟩
end Go.Proofs.YtgcpiofpjogjcaaDoor.PK
end
section
/-
  Sync and SyncDir, walked.
-/
namespace Go.Proofs.YtgcpiofpjogjcaaDoor.PK
open Go.RowKit Go.Maps Go.Proofs.YtgcpiofpjogjcaaDoorW.PrintWords
set_option linter.unusedVariables false
set_option linter.unusedSimpArgs false
variable {own : Nat → Prop} {w w' : World}

theorem look_run {b n : Nat} {l : Dir} (h : DirAt w b n l) (s : ByteArray) (hs : s.size ≤ 9223372036854775807) : (Instr.lookup 55 (.map (some b)) (.string s) false).run Tryd.prog w = .ok (fileV (look l (key s))) w := by
  obtain ⟨v, ps, hrun, hv⟩ := World.ownsMap.lookup (z := .pointer none) (zd := .nil) (zp := []) h law9 Tryd.underlying55 (zeroP w) rfl (key9 s hs)
  rw [dmap_look] at hv
  have := fileV_of hv
  subst this
  exact hrun

/-- The disk with a file's bytes and their safe part turned. -/
def Dk.setFile (S : Dk) (f : Nat) (xs : List Int) (s : Nat) : Dk := { S with dat := upd S.dat f xs, saf := upd S.saf f s }
theorem DiskIn.setFile {d bn bs cc cp : Nat} {pc pp : Option Addr} {pd : Nat → Option Addr} {cd : Nat → Nat} {S : Dk} (h : DiskIn w own d bn bs pc cc pp cp pd cd S) {f : Nat} (hf : S.fs f) {xs : List Int} {s c' : Nat} {p' : Option Addr}
    (hblk : w'.heap[f]? = some (.cells #[.slice p' xs.length c', .int .i64 s] 63 (0, 0))) (hrow : w'.ownsRow 0 5 1 (.slice p' xs.length c') xs.length (nums .u8 xs))
    (hp : ∀ a, p' = some a → (∃ a0, pd f = some a0 ∧ a0.block = a.block) ∨ w.heap.size ≤ a.block) (hown : ∀ a, p' = some a → own a.block) (hs : s ≤ xs.length) (hb : ∀ x ∈ xs, 0 ≤ x ∧ x < 256) (hl : xs.length ≤ 140737488355328)
    (hk : ∀ k, k < w.heap.size → k ≠ f → (∀ a, pd f = some a → k ≠ a.block) → w'.heap[k]? = w.heap[k]?) :
    DiskIn w' own d bn bs pc cc pp cp (upd pd f p') (upd cd f c') (S.setFile f xs s) := by
  obtain ⟨en, cn, hen⟩ := h.now.map
  obtain ⟨es, cs, hes⟩ := h.safe.map
  have hff := h.files f hf
  have hpf : ∀ a, pd f = some a → ∃ cur, w.heap[a.block]? = some (Obj.cells cur 5 (0, 0)) := fun a ha => by
    have := hff.row
    rw [ha] at this
    exact ownsRow_blk this
  have hcells : ∀ k cur t m, w.heap[k]? = some (Obj.cells cur t m) → t ≠ 63 → t ≠ 5 → w'.heap[k]? = w.heap[k]? := fun k cur t m hk1 ht1 ht2 =>
    hk k (lt_of_block hk1) (ty_ne hk1 hff.blk ht1) (fun a ha => by obtain ⟨cur', hcur⟩ := hpf a ha; exact ty_ne hk1 hcur ht2)
  have hmap : ∀ k es c, w.heap[k]? = some (.map es c) → k < w.heap.size → w'.heap[k]? = w.heap[k]? := fun k es c hk1 hlt =>
    hk k hlt (fun e => map_ne hff.blk hk1 e.symm) (fun a ha e => by obtain ⟨cur', hcur⟩ := hpf a ha; exact map_ne hcur hk1 e.symm)
  exact { h with
    blk := (hcells _ _ _ _ h.blk (by decide) (by decide)).trans h.blk
    now := h.now.kept (hmap _ _ _ hen h.now.lt)
    safe := h.safe.kept (hmap _ _ _ hes h.safe.lt)
    chg := ownsRow_kept h.chg (fun g hg => by
      cases pc with
      | none => simp [Value.ownBlock] at hg
      | some a =>
        simp only [Value.ownBlock, Option.some.injEq] at hg
        subst hg
        obtain ⟨cur, hcur⟩ := ownsRow_blk h.chg
        exact hcells _ _ _ _ hcur (by decide) (by decide))
    plan := ownsRow_kept h.plan (fun g hg => by
      cases pp with
      | none => simp [Value.ownBlock] at hg
      | some a =>
        simp only [Value.ownBlock, Option.some.injEq] at hg
        subst hg
        obtain ⟨cur, hcur⟩ := ownsRow_blk h.plan
        exact hcells _ _ _ _ hcur (by decide) (by decide))
    ref := h.ref
    files := fun g hg => by
      by_cases e : g = f
      · subst e
        simp only [Dk.setFile, upd_same]
        exact ⟨hff.mine, hblk, hrow, hown, hs, hb, hl⟩
      · simp only [Dk.setFile, upd_other _ _ e]
        have hfg := h.files g hg
        have hg1 : ∀ a, pd f = some a → g ≠ a.block := fun a ha => by obtain ⟨cur', hcur⟩ := hpf a ha; exact ty_ne hfg.blk hcur (by decide)
        refine hfg.kept (hk g hfg.lt e hg1) (fun a ha => ?_)
        have h1 := hfg.row
        rw [ha] at h1
        obtain ⟨cur, hcur⟩ := ownsRow_blk h1
        exact hk _ (lt_of_block hcur) (ty_ne hcur hff.blk (by decide)) (fun b hb => h.apart g f hg hf e a b ha hb)
    apart := fun g1 g2 h1 h2 hne a b ha hb => by
      by_cases e1 : g1 = f
      · subst e1
        rw [upd_same] at ha
        rw [upd_other _ _ (fun e => hne e.symm)] at hb
        rcases hp a ha with ⟨a0, ha0, hab⟩ | hge
        · rw [← hab]; exact h.apart _ _ h1 h2 hne a0 b ha0 hb
        · have h3 := (h.files g2 h2).row
          rw [hb] at h3
          obtain ⟨cur, hcur⟩ := ownsRow_blk h3
          have := lt_of_block hcur
          omega
      · rw [upd_other _ _ e1] at ha
        by_cases e2 : g2 = f
        · subst e2
          rw [upd_same] at hb
          rcases hp b hb with ⟨b0, hb0, hab⟩ | hge
          · rw [← hab]; exact h.apart _ _ h1 h2 hne a b0 ha hb0
          · have h3 := (h.files g1 h1).row
            rw [ha] at h3
            obtain ⟨cur, hcur⟩ := ownsRow_blk h3
            have := lt_of_block hcur
            omega
        · rw [upd_other _ _ e2] at hb
          exact h.apart g1 g2 h1 h2 hne a b ha hb }
def Dk.synced (S : Dk) (s : ByteArray) : Dk := match look S.now (key s) with | some f => S.setFile f (S.dat f) (S.dat f).length | none => S
def Dk.has (S : Dk) (s : ByteArray) : Int := if look S.now (key s) = none then 143 else 0

set_option maxRecDepth 100000 in
theorem sync1_any (xb nb d : Nat) (S : Dk) (s : ByteArray) (w : World) (h : DiskAt w own d S) (hfr : Fresh own w) (hs : s.size ≤ 9223372036854775807)
    (hx : w.cell? ⟨xb, 0, none⟩ = some (.pointer (some ⟨d, 0, none⟩))) (hn : w.cell? ⟨nb, 0, none⟩ = some (.string s)) :
    Calls Tryd.prog 33 #[.pointer (some ⟨xb, 0, none⟩), .pointer (some ⟨nb, 0, none⟩)] w fun e w' => e = .returned (.int .i64 (S.has s)) ∧ DiskAt w' own d (S.synced s) ∧ Turn own w w' := by
  obtain ⟨bn, bs, pc, cc, pp, cp, pd, cd, h⟩ := h
  obtain ⟨c0, c1, c2, c3, c4, c5, c6⟩ := seven_cells h.blk
  have hlk := look_run h.now s hs
  have hlk2 : ∀ k, (Instr.lookup 55 (.map (some bn)) (.string s) false).run Tryd.prog (w.drewN k) = .ok (fileV (look S.now (key s))) (w.drewN k) := fun k => look_run (w := w.drewN k) (h.now) s hs
  unfold Dk.has Dk.synced
  have HH := Lib.hid h
  clear h
  cases hl : look S.now (key s) with
  | none =>
    rw [hl] at hlk hlk2
    simp only [fileV] at hlk hlk2
    go_enter Tryd.func33, Tryd.ntmps33
    go_wp2
    go_quiet (fail)
    go_wp2
    go_ret
    exact ⟨rfl, DiskAt.below ⟨bn, bs, pc, cc, pp, cp, pd, cd, HH.out⟩ (pw_below_drewN (Below.refl _ _) _), (Turn.refl _ _).drewN _⟩
  | some f =>
    rw [hl] at hlk hlk2
    simp only [fileV] at hlk hlk2
    have hff := HH.out.files f (HH.out.ref f (live_now hl))
    obtain ⟨f0, f1⟩ := two_cells hff.blk
    have z1 := all_free hff.blk 1
    have HF := Lib.hid hff
    clear hff
    go_enter Tryd.func33, Tryd.ntmps33
    go_wp2
    go_quiet (fail)
    go_wp2
    go_ret
    have hfw := HF.out
    have hset : ∀ u : Value, ((w.drewN nq).setCell ⟨f, 1, none⟩ u).heap[f]? = some (.cells #[.slice (pd f) (S.dat f).length (cd f), u] 63 (0, 0)) := fun u => block_setCell (w := w.drewN nq) hfw.blk
    refine ⟨rfl, ⟨bn, bs, pc, cc, pp, cp, _, _, DiskIn.setFile (w := w) HH.out (HH.out.ref f (live_now hl)) (hset _) (ownsRow_kept hfw.row (fun g hg => Below.heap_setCell (w.drewN nq) _ _ _ ?_)) (fun a ha => .inl ⟨a, ha, rfl⟩) hfw.rown (Nat.le_refl _) hfw.bys hfw.short (fun k hk hkf _ => Below.heap_setCell (w.drewN nq) _ _ _ hkf)⟩, ((Turn.refl _ _).drewN _).trans (Turn.setCell _ _ hfw.mine)⟩
    obtain ⟨a, ha⟩ : ∃ a, pd f = some a := by
      cases hpd : pd f with
      | none => rw [hpd] at hg; simp [Value.ownBlock] at hg
      | some a => exact ⟨a, rfl⟩
    have h1 := hfw.row
    rw [ha] at h1 hg
    simp only [Value.ownBlock, Option.some.injEq] at hg
    obtain ⟨cur, hcur⟩ := ownsRow_blk h1
    rw [← hg]
    exact ty_ne hcur hfw.blk (by decide)
end Go.Proofs.YtgcpiofpjogjcaaDoor.PK
end
section
/-
  A directory's copy, walked: maps.Clone; SyncDir's step.
-/
namespace Go.Proofs.YtgcpiofpjogjcaaDoor.PK
open Go.RowKit Go.Maps Go.Proofs.YtgcpiofpjogjcaaDoorW.PrintWords
set_option linter.unusedVariables false
set_option linter.unusedSimpArgs false
variable {own : Nat → Prop} {w w' : World}

set_option maxRecDepth 100000 in
theorem clone_any (b n : Nat) (l : Dir) (w : World) (h : DirAt w b n l) :
    Calls Tryd.prog 35 #[.map (some b)] w fun e w' => e = .returned (.map (some w.heap.size)) ∧ DirAt w' w.heap.size n l ∧ Below w.heap.size w w' := by
  obtain ⟨es, clock, hb, F, hs, hD⟩ := h
  have hq := fun w => run_eql_map_nil_sl (P := Tryd.prog) w 55 _ _ (some b) Tryd.underlying55
  go_enter Tryd.func35, Tryd.ntmps35
  go_wp2
  rw [run_callFunc_extern Tryd.func45 (by kernel_rfl) (by kernel_rfl) (by kernel_rfl) (e := Extern.MapsClone.clone) (by kernel_rfl), run_maps_clone_sl w 55 hb]
  simp only [Result.andThen]
  rw [Oper.upon_value]
  go_wp2
  rw [run_typeAssert_map_sl _ 55 20 _ _ _ Tryd.underlying55]
  simp only [Result.andThen]
  rw [Oper.upon_value]
  go_wp2
  go_ret
  exact ⟨rfl, ⟨es, clock, heap_alloc_new w _, F, hs, hD⟩, (Below.refl _ w).alloc (Nat.le_refl _) _⟩

def Dk.syncDir (S : Dk) : Dk := { S with safe := S.now, chg := [] }
theorem DiskIn.setSafe {d bn bs cc cp bs' : Nat} {pc pp : Option Addr} {pd : Nat → Option Addr} {cd : Nat → Nat} {S : Dk} (h : DiskIn w own d bn bs pc cc pp cp pd cd S) (hbs : w.heap.size ≤ bs') (ho : own bs')
    (hblk : w'.heap[d]? = some (.cells #[.int .i64 S.room, .map (some bn), .map (some bs'), .slice none 0 0, .slice pp S.plan.length cp, .int .i64 S.steps, .bool S.off] 58 (0, 0)))
    (hsafe : DirAt w' bs' S.now.length S.now) (hk : ∀ k, k < w.heap.size → k ≠ d → w'.heap[k]? = w.heap[k]?) :
    DiskIn w' own d bn bs' none 0 pp cp pd cd S.syncDir := by
  obtain ⟨en, cn, hen⟩ := h.now.map
  have hcells : ∀ k cur t m, w.heap[k]? = some (Obj.cells cur t m) → t ≠ 58 → w'.heap[k]? = w.heap[k]? := fun k cur t m hk1 ht1 =>
    hk k (lt_of_block hk1) (ty_ne hk1 h.blk ht1)
  have hlt := h.now.lt
  exact { h with
    blk := hblk
    now := h.now.kept (hk bn h.now.lt (fun e => map_ne h.blk hen e.symm))
    safe := hsafe
    ne := by omega
    chg := ⟨rfl, .inl ⟨rfl, rfl⟩⟩
    plan := ownsRow_kept h.plan (fun g hg => by
      cases pp with
      | none => simp [Value.ownBlock] at hg
      | some a =>
        simp only [Value.ownBlock, Option.some.injEq] at hg
        subst hg
        obtain ⟨cur, hcur⟩ := ownsRow_blk h.plan
        exact hcells _ _ _ _ hcur (by decide))
    ref := fun f hf => by
      rcases hf with hf | hf | ⟨c, hc, _⟩
      · exact h.ref f (.inl hf)
      · exact h.ref f (.inl hf)
      · simp [Dk.syncDir] at hc
    files := fun f hf => (h.files f hf).kept (hcells _ _ _ _ (h.files f hf).blk (by decide)) (fun a ha => by
      have h1 := (h.files f hf).row
      rw [ha] at h1
      obtain ⟨cur, hcur⟩ := ownsRow_blk h1
      exact hcells _ _ _ _ hcur (by decide))
    os := ho
    oc := fun a ha => by simp at ha
    chgs := fun c hc => by simp [Dk.syncDir] at hc }

theorem cell_off {w : World} {b i j : Nat} {u : Value} (h : i ≠ j) : (w.setCell ⟨b, i, none⟩ u).cell? ⟨b, j, none⟩ = w.cell? ⟨b, j, none⟩ := by
  unfold World.cell? World.setCell
  simp only [Array.getElem?_modify, if_true]
  cases w.heap[b]? with
  | none => rfl
  | some o =>
    cases o with
    | cells c e f => simp [Array.getElem?_setIfInBounds, h]
    | _ => rfl

set_option maxRecDepth 100000 in
set_option maxHeartbeats 1600000 in
theorem syncDir1_any (xb d : Nat) (S : Dk) (w : World) (h : DiskAt w own d S) (hfr : Fresh own w) (hx : w.cell? ⟨xb, 0, none⟩ = some (.pointer (some ⟨d, 0, none⟩))) :
    Calls Tryd.prog 34 #[.pointer (some ⟨xb, 0, none⟩)] w fun e w' => e = .returned (.int .i64 0) ∧ DiskAt w' own d S.syncDir ∧ Turn own w w' := by
  obtain ⟨bn, bs, pc, cc, pp, cp, pd, cd, h⟩ := h
  obtain ⟨c0, c1, c2, c3, c4, c5, c6⟩ := seven_cells h.blk
  have z2 := all_free h.blk 2
  have z3 := all_free h.blk 3
  have ld := lt_of_block h.blk
  have lx := World.block_lt_of_cell? w _ hx
  have hcl := clone_any bn _ S.now w.drew h.now
  have nxd : xb ≠ d := by rintro rfl; rw [c0] at hx; simp at hx
  have ndx : d ≠ xb := fun e => nxd e.symm
  have HH := Lib.hid h; have HF := Lib.hid hfr
  clear h hfr
  go_enter Tryd.func34, Tryd.ntmps34
  go_wp2
  go_region_held3 (fun w' => w'.cell? ⟨xb, 0, none⟩ = some (.pointer (some ⟨d, 0, none⟩)) ∧ w'.cell? ⟨d, 1, none⟩ = some (.map (some bn)))
    (simp [*, World.cell?_alloc_some, World.cell?_setCell_far, cell_off])
    (first | (go_at_call 35; refine hcl.mono ?_; rintro e w1 ⟨rfl, hs1, hb1⟩; have x1 := (hb1.cell (p := ⟨xb, 0, none⟩) lx).trans hx; have d1 := (hb1.cell (p := ⟨d, 1, none⟩) ld).trans c1; have d2 := (hb1.cell (p := ⟨d, 2, none⟩) ld).trans c2; have d3 := (hb1.cell (p := ⟨d, 3, none⟩) ld).trans c3; have y2 := (hb1.frozen (p := ⟨d, 2, none⟩) ld).trans z2; have y3 := (hb1.frozen (p := ⟨d, 3, none⟩) ld).trans z3))
  all_goals go_wp2
  all_goals go_ret
  all_goals
    have hd1 : w1.heap[d]? = _ := (hb1.block d ld).trans HH.out.blk
    refine ⟨rfl, ⟨bn, w.heap.size, none, 0, pp, cp, pd, cd, DiskIn.setSafe (w := w) HH.out (Nat.le_refl _) (HF.out _ (Nat.le_refl _)) (block_setCell (block_setCell hd1)) (hs1.kept ((Below.heap_setCell _ _ _ _ (Nat.ne_of_gt ld)).trans (Below.heap_setCell _ _ _ _ (Nat.ne_of_gt ld)))) (fun k hk hkd => ((Below.heap_setCell _ _ _ _ hkd).trans (Below.heap_setCell _ _ _ _ hkd)).trans (hb1.block k hk))⟩, ?_⟩
    exact ((((Turn.refl own w).drew).trans (Turn.of_below hb1)).trans (Turn.setCell _ _ HH.out.od)).trans (Turn.setCell _ _ HH.out.od)
end Go.Proofs.YtgcpiofpjogjcaaDoor.PK
end
section
/-
  What a loss of power leaves, as lists.
-/
namespace Go.Proofs.YtgcpiofpjogjcaaDoor.PK
open Go.RowKit Go.Maps Go.Proofs.YtgcpiofpjogjcaaDoorW.PrintWords
set_option linter.unusedVariables false
set_option linter.unusedSimpArgs false
variable {own : Nat → Prop} {w w' : World}

def toL (p : List UInt8 × Nat) : Lit × DataW Nat := (.string p.1, .held p.2)
theorem toL_inj {p q : List UInt8 × Nat} (h : toL p = toL q) : p = q := by
  unfold toL at h
  simp only [Prod.mk.injEq, Lit.string.injEq, DataW.held.injEq] at h
  exact Prod.ext h.1 h.2
/-- A directory in the order of names. -/
def Srt (l : Dir) : Prop := l.Pairwise fun p q => bytesBefore p.1 q.1 = true
theorem srt_ins {x : List UInt8 × Nat} {l : Dir} (h : Srt l) (hn : ∀ p ∈ l, p.1 ≠ x.1) : Srt (ins x l) := by
  induction l with
  | nil => exact List.pairwise_singleton _ _
  | cons y r ih =>
    have h' := List.pairwise_cons.1 h
    unfold ins
    split
    · next hb =>
      refine List.pairwise_cons.2 ⟨fun q hq => ?_, h⟩
      rcases List.mem_cons.1 hq with rfl | hq
      · exact hb
      · exact WideShapes.bytes_trans _ _ _ hb (h'.1 q hq)
    · next hb =>
      refine List.pairwise_cons.2 ⟨fun q hq => ?_, ih h'.2 (fun p hp => hn p (List.mem_cons_of_mem _ hp))⟩
      rcases mem_ins.1 hq with rfl | hq
      · rcases WideAt.bytes_total y.1 q.1 (hn y (List.mem_cons_self ..)) with h1 | h1
        · exact h1
        · exact absurd h1 hb
      · exact h'.1 q hq
theorem srt_foldr (l : Dir) (h : l.Pairwise fun p q => p.1 ≠ q.1) : Srt (l.foldr ins []) ∧ ∀ p, p ∈ l.foldr ins [] ↔ p ∈ l := by
  induction l with
  | nil => exact ⟨List.Pairwise.nil, fun p => by simp⟩
  | cons x r ih =>
    have h' := List.pairwise_cons.1 h
    obtain ⟨i1, i2⟩ := ih h'.2
    refine ⟨srt_ins i1 (fun p hp e => h'.1 p ((i2 p).1 hp) e.symm), fun p => ?_⟩
    rw [List.foldr_cons, mem_ins, i2, List.mem_cons]
theorem foldr_toL (l : Dir) : (l.map toL).foldr DataW.insert [] = (l.foldr ins []).map toL := by
  induction l with
  | nil => rfl
  | cons x r ih =>
    rw [List.map_cons, List.foldr_cons, List.foldr_cons, ih]
    exact dmap_ins x _
theorem map_toL_inj : ∀ {a b : Dir}, a.map toL = b.map toL → a = b
  | [], [], _ => rfl
  | [], _ :: _, h => by simp at h
  | _ :: _, [], h => by simp at h
  | x :: a, y :: b, h => by
    rw [List.map_cons, List.map_cons] at h
    injection h with h1 h2
    rw [toL_inj h1, map_toL_inj h2]
theorem of_toL : ∀ {X : List (Lit × DataW Nat)}, (∀ x ∈ X, ∃ p, x = toL p) → ∃ l : Dir, X = l.map toL
  | [], _ => ⟨[], rfl⟩
  | x :: X, h => by
    obtain ⟨p, hp⟩ := h x (List.mem_cons_self ..)
    obtain ⟨l, hl⟩ := of_toL (X := X) (fun y hy => h y (List.mem_cons_of_mem _ hy))
    exact ⟨p :: l, by rw [hp, hl]; rfl⟩
theorem DirAt.sorted {b n : Nat} {l : Dir} (h : DirAt w b n l) : Srt l := by
  have hnd := h.nodup
  obtain ⟨es, clock, h1, h2, h3, h4⟩ := h
  unfold dmap at h4
  injection h4 with h4
  have h4 : l.map toL = _ := h4
  have hperm := WideShapes.sorted_perm (es.toList.map (WideElems.rg Tryd.prog 9 fileElem))
  rw [← h4] at hperm
  obtain ⟨X, hX⟩ := of_toL (X := es.toList.map (WideElems.rg Tryd.prog 9 fileElem)) (fun x hx => by
    have := hperm.mem_iff.2 hx
    obtain ⟨p, _, hp⟩ := List.mem_map.1 this
    exact ⟨p, hp.symm⟩)
  rw [hX, foldr_toL] at h4
  have e := map_toL_inj h4
  rw [hX] at hperm
  have hnx : X.Pairwise fun p q => p.1 ≠ q.1 := by
    have h5 : (l.map toL).Pairwise fun p q => p.1 ≠ q.1 := by
      rw [List.pairwise_map]
      exact hnd.imp (fun {a b} hab h => hab (by simpa [toL] using h))
    have h6 := (hperm.pairwise_iff (fun {_ _} hne => Ne.symm hne)).1 h5
    rw [List.pairwise_map] at h6
    exact h6.imp (fun {a b} hab h => hab (by simp [toL, h]))
  rw [e]
  exact (srt_foldr X hnx).1

theorem ins_front {k : List UInt8} {g : Nat} : ∀ {r : Dir}, (∀ p ∈ r, bytesBefore k p.1 = true) → ins (k, g) r = (k, g) :: r
  | [], _ => rfl
  | y :: r, h => by unfold ins; rw [if_pos (h y (List.mem_cons_self ..))]
theorem not_before {a b : List UInt8} (h : bytesBefore a b = true) : bytesBefore b a = false := by
  cases h1 : bytesBefore b a
  · rfl
  · have := WideShapes.bytes_trans _ _ _ h h1
    rw [WideAt.bytes_irrefl] at this
    cases this
theorem put_mid {k : List UInt8} {f g : Nat} : ∀ {a r : Dir}, Srt (a ++ (k, f) :: r) → put (a ++ (k, f) :: r) k g = a ++ (k, g) :: r
  | [], r, h => by
    have h' := List.pairwise_cons.1 h
    unfold put
    have : del ((k, f) :: r) k = r := by
      unfold del
      rw [List.filter_cons_of_neg (by simp)]
      refine List.filter_eq_self.2 (fun p hp => ?_)
      have := h'.1 p hp
      have hne : p.1 ≠ k := fun e => by rw [e, WideAt.bytes_irrefl] at this; cases this
      simpa using hne
    rw [List.nil_append, this, List.nil_append]
    exact ins_front h'.1
  | y :: a, r, h => by
    have h' := List.pairwise_cons.1 h
    have ih := put_mid (g := g) h'.2
    unfold put at ih ⊢
    have hy := h'.1 (k, f) (by simp)
    have hne : y.1 ≠ k := fun e => by simp only [e, WideAt.bytes_irrefl] at hy; cases hy
    have hd : del (y :: a ++ (k, f) :: r) k = y :: del (a ++ (k, f) :: r) k := by
      unfold del
      rw [List.cons_append, List.filter_cons_of_pos (by simpa using hne)]
    rw [hd, ins, if_neg (by rw [not_before hy]; simp), ih, List.cons_append]
theorem look_mid {k : List UInt8} {f : Nat} : ∀ {a r : Dir}, Srt (a ++ (k, f) :: r) → look (a ++ (k, f) :: r) k = some f
  | [], r, h => by simp [look]
  | y :: a, r, h => by
    have h' := List.pairwise_cons.1 h
    have ih := look_mid h'.2
    have hy := h'.1 (k, f) (by simp)
    have hne : y.1 ≠ k := fun e => by simp only [e, WideAt.bytes_irrefl] at hy; cases hy
    unfold look at ih ⊢
    rw [List.cons_append, List.find?_cons_of_neg (by simpa using hne)]
    exact ih
theorem look_of_mem {l : Dir} {k : List UInt8} {f : Nat} (h : Srt l) (hm : (k, f) ∈ l) : look l k = some f := by
  obtain ⟨a, r, rfl⟩ := List.append_of_mem hm
  exact look_mid h

/-- What is kept of the i-th thing. -/
def keepN (ks : List Int) (i : Nat) : Nat := (ks.getD i 0).toNat
def Dk.leftDir (S : Dk) (ks : List Int) : Dir := (S.chg.take (keepN ks 0)).foldl applyC S.safe
def Dk.leftLen (S : Dk) (ks : List Int) (i f : Nat) : Nat := S.saf f + min (keepN ks (i + 1)) ((S.dat f).length - S.saf f)
/-- Names with bytes. -/
abbrev Cont := List (List UInt8 × List Int)
def cont (dat : Nat → List Int) (l : Dir) : Cont := l.map fun p => (p.1, dat p.2)
def Dk.leftCont (S : Dk) (ks : List Int) : Cont := (S.leftDir ks).mapIdx fun i p => (p.1, (S.dat p.2).take (S.leftLen ks i p.2))
theorem leftCont_length (S : Dk) (ks : List Int) : (S.leftCont ks).length = (S.leftDir ks).length := by simp [Dk.leftCont]
theorem leftCont_get (S : Dk) (ks : List Int) (i : Nat) (h : i < (S.leftDir ks).length) : (S.leftCont ks)[i]? = some ((S.leftDir ks)[i].1, (S.dat (S.leftDir ks)[i].2).take (S.leftLen ks i (S.leftDir ks)[i].2)) := by
  simp [Dk.leftCont, List.getElem?_mapIdx, List.getElem?_eq_getElem h]
theorem mem_foldl {cs : List Chg} {l : Dir} {p : List UInt8 × Nat} (h : p ∈ cs.foldl applyC l) : p ∈ l ∨ ∃ c ∈ cs, c.f = some p.2 := by
  induction cs generalizing l with
  | nil => exact .inl h
  | cons c cs ih =>
    rcases ih h with h | ⟨c', hc, e⟩
    · rcases mem_applyC h with h | h
      · exact .inl h
      · exact .inr ⟨c, List.mem_cons_self .., h⟩
    · exact .inr ⟨c', List.mem_cons_of_mem _ hc, e⟩
theorem leftDir_live {S : Dk} {ks : List Int} {p : List UInt8 × Nat} (h : p ∈ S.leftDir ks) : S.live p.2 := by
  rcases mem_foldl h with h | ⟨c, hc, e⟩
  · exact .inr (.inl ⟨p.1, h⟩)
  · exact .inr (.inr ⟨c, List.mem_of_mem_take hc, e⟩)
/-- A disk behind a loss of power: what is there, all of it safe. -/
structure Dk.woke (S S' : Dk) (c : Cont) : Prop where
  room : S'.room = S.room
  plan : S'.plan = S.plan
  steps : S'.steps = S.steps
  off : S'.off = false
  chg : S'.chg = []
  safe : S'.safe = S'.now
  cont : cont S'.dat S'.now = c
  saf : ∀ p ∈ S'.now, S'.saf p.2 = (S'.dat p.2).length
end Go.Proofs.YtgcpiofpjogjcaaDoor.PK
end
section
/-
  The steps of a disk, walked: Rename and Remove.
-/
namespace Go.Proofs.YtgcpiofpjogjcaaDoor.PK
open Go.RowKit Go.Maps Go.Proofs.YtgcpiofpjogjcaaDoorW.PrintWords
set_option linter.unusedVariables false
set_option linter.unusedSimpArgs false
variable {own : Nat → Prop} {w w' : World}

theorem length_del_look {l : Dir} {k : List UInt8} {f : Nat} (h : look l k = some f) : (del l k).length < l.length := by
  unfold del
  exact List.length_filter_lt_length_iff_exists.2 ⟨(k, f), look_mem h, by simp⟩
theorem renamed_len {l : Dir} {a b : ByteArray} {f : Nat} (h : look l (key a) = some f) (e : a ≠ ⟨#[]⟩) : (applyC l ⟨a, b, some f⟩).length ≤ l.length := by
  unfold applyC
  simp only
  rw [if_neg e]
  have h1 := length_del_look h
  have h2 := length_put (del l (key a)) (key b) f
  split <;> omega
theorem toList_ne {a b : ByteArray} (h : ¬ a = b) : (a.toList == b.toList) = false := by
  rw [ByteArray.toList_eq, ByteArray.toList_eq]
  cases hc : (a.data.toList == b.data.toList)
  · rfl
  · exfalso
    have h1 : a.data.toList = b.data.toList := by simpa using hc
    exact h (by obtain ⟨⟨la⟩⟩ := a; obtain ⟨⟨lb⟩⟩ := b; simp only at h1; rw [h1])
def Dk.renE (S : Dk) (a b : ByteArray) : Int := if look S.now (key a) = none then 143 else if bad b then 145 else 0
def Dk.renamed (S : Dk) (a b : ByteArray) : Dk := match look S.now (key a) with
  | none => S
  | some f => if bad b then S else if a = b then S else S.alter ⟨a, b, some f⟩
set_option maxRecDepth 100000 in
set_option maxHeartbeats 1600000 in
theorem rename1_any (xb nb tb d : Nat) (S : Dk) (a b : ByteArray) (w : World) (h : DiskAt w own d S) (hfr : Fresh own w) (ha : a.size ≤ 9223372036854775807) (hb : b.size ≤ 9223372036854775807) (hne : look S.now (key a) ≠ none → a ≠ ⟨#[]⟩) (hbig : S.chg.length ≤ 1099511627776)
    (hx : w.cell? ⟨xb, 0, none⟩ = some (.pointer (some ⟨d, 0, none⟩))) (hn : w.cell? ⟨nb, 0, none⟩ = some (.string a)) (ht : w.cell? ⟨tb, 0, none⟩ = some (.string b)) :
    Calls Tryd.prog 40 #[.pointer (some ⟨xb, 0, none⟩), .pointer (some ⟨nb, 0, none⟩), .pointer (some ⟨tb, 0, none⟩)] w fun e w' => e = .returned (.int .i64 (S.renE a b)) ∧ DiskAt w' own d (S.renamed a b) ∧ Turn own w w' := by
  have HW := h
  obtain ⟨bn, bs, pc, cc, pp, cp, pd, cd, h⟩ := h
  obtain ⟨c0, c1, c2, c3, c4, c5, c6⟩ := seven_cells h.blk
  have hlk2 : ∀ k, (Instr.lookup 55 (.map (some bn)) (.string a) false).run Tryd.prog (w.drewN k) = .ok (fileV (look S.now (key a))) (w.drewN k) := fun k => look_run (w := w.drewN k) (h.now) a ha
  have lx := World.block_lt_of_cell? w _ hx
  have ln := World.block_lt_of_cell? w _ hn
  have lt := World.block_lt_of_cell? w _ ht
  unfold Dk.renE Dk.renamed
  have hn1 := h.now1
  have hlive : ∀ f, look S.now (key a) = some f → S.fs f := fun f hf => h.ref f (live_now hf)
  have HH := Lib.hid HW; have HF := Lib.hid hfr; have HL := Lib.hid hlive; have HN := Lib.hid hne
  clear h hfr HW hlive hne
  cases hl : look S.now (key a) with
  | none =>
    rw [hl] at hlk2
    simp only [fileV] at hlk2
    go_enter Tryd.func40, Tryd.ntmps40
    go_wp2
    go_quiet (fail)
    go_wp2
    go_ret
    exact ⟨rfl, HH.out.below (pw_below_drewN (Below.refl _ _) _), (Turn.refl _ _).drewN _⟩
  | some f =>
    rw [hl] at hlk2
    simp only [fileV] at hlk2
    simp only [if_neg (show ¬ (some f : Option Nat) = none from by simp)]
    have hbn := badName_any b
    cases hbb : bad b
    · simp only [hbb] at hbn
      by_cases hab : a = b
      · have hab' : (a.toList == b.toList) = true := by rw [hab]; simp
        rw [if_pos hab]
        have HAB := Lib.hid hab; clear hab
        go_enter Tryd.func40, Tryd.ntmps40
        go_wp2
        go_quiet (fail)
        go_wp2_with (first
          | (go_at_call 41; refine (hbn _ hb).mono ?_; rintro e w1 ⟨rfl, hb1⟩; have x1 := (hb1.cell (p := ⟨xb, 0, none⟩) lx).trans hx; have n1 := (hb1.cell (p := ⟨nb, 0, none⟩) ln).trans hn; have t1 := (hb1.cell (p := ⟨tb, 0, none⟩) lt).trans ht))
        go_ret
        exact ⟨by simp, HH.out.below (below_then (pw_below_drewN (Below.refl _ _) nq) (Nat.le_refl _) hb1), ((Turn.refl _ _).drewN _).trans (Turn.of_below hb1)⟩
      · have hab' : (a.toList == b.toList) = false := toList_ne hab
        rw [if_neg hab]
        have HAB := Lib.hid hab; clear hab
        go_enter Tryd.func40, Tryd.ntmps40
        go_wp2
        go_quiet (fail)
        go_wp2_with (first
          | (go_at_call 41; refine (hbn _ hb).mono ?_; rintro e w1 ⟨rfl, hb1⟩; have x1 := (hb1.cell (p := ⟨xb, 0, none⟩) lx).trans hx; have n1 := (hb1.cell (p := ⟨nb, 0, none⟩) ln).trans hn; have t1 := (hb1.cell (p := ⟨tb, 0, none⟩) lt).trans ht)
          | (go_at_call 28; refine (alter_any d _ ⟨a, b, some f⟩ _ (HH.out.below (below_then (pw_below_drewN (Below.refl _ _) nq) (Nat.le_refl _) hb1)) (HF.out.step hb1.size) ⟨ha, hb, fun _ => ⟨_, rfl⟩⟩ (fun g hg => by injection hg with hg; exact hg ▸ HL.out _ hl) (Nat.le_trans (renamed_len hl (HN.out (by rw [hl]; simp))) hn1) hbig).mono ?_; rintro e w2 ⟨rfl, hd2, ht2⟩))
        go_ret
        exact ⟨by simp, by simpa using hd2, (((Turn.refl _ _).drewN _).trans (Turn.of_below hb1)).trans ht2⟩
    · simp only [hbb] at hbn
      simp only [if_true]
      go_enter Tryd.func40, Tryd.ntmps40
      go_wp2
      go_quiet (fail)
      go_wp2_with (first
          | (go_at_call 41; refine (hbn _ hb).mono ?_; rintro e w1 ⟨rfl, hb1⟩))
      go_ret
      exact ⟨rfl, HH.out.below (below_then (pw_below_drewN (Below.refl _ _) nq) (Nat.le_refl _) hb1), ((Turn.refl _ _).drewN _).trans (Turn.of_below hb1)⟩
end Go.Proofs.YtgcpiofpjogjcaaDoor.PK
end
section
/-
  The steps of a disk, walked: Append.
-/
namespace Go.Proofs.YtgcpiofpjogjcaaDoor.PK
open Go.RowKit Go.Maps Go.Proofs.YtgcpiofpjogjcaaDoorW.PrintWords
set_option linter.unusedVariables false
set_option linter.unusedSimpArgs false
variable {own : Nat → Prop} {w w' : World}

theorem infoB : (Tryd.prog.info? 5).map (fun i => (i.zero, i.size, i.bytes)) = some (some (.int .u8 0), 1, 1) := by kernel_rfl
theorem run_append_bytes (w : World) (ty : TypeId) (base : Nat) {pf : Option Addr} {n cf : Nat} {xs : List Int} (hown : w.ownsRow base 5 1 (.slice pf n cf) n (nums .u8 xs)) {A : Option Addr} {m c : Nat} {bs : List Int} (hC : Kd.C (Kd.int .u8) w A m bs) (hl : n + m ≤ 140737488355328) (hbase : base ≤ w.heap.size) :
    ∃ A' c' w', (Builtin.append_ #[22, 22] ty #[.slice pf n cf, .slice A m c]).run Tryd.prog w = .ok (.slice A' (n + m) c') w' ∧ w'.ownsRow base 5 1 (.slice A' (n + m) c') (n + m) (nums .u8 (xs ++ bs)) ∧ w.grownBy w' (Value.slice pf n cf).ownBlock ∧ (∀ a, A' = some a → (∃ a0, pf = some a0 ∧ a0.block = a.block) ∨ w.heap.size ≤ a.block) := by
  obtain ⟨i0, hi0, hz0, hz1, hz2⟩ := info_parts infoB
  have hlb : bs.length = m := hC.1
  rcases Nat.eq_zero_or_pos m with h0 | h0
  · subst h0
    have hb0 : bs = [] := List.eq_nil_of_length_eq_zero hlb
    subst hb0
    have hle : n ≤ cf := by
      rcases hown.2 with ⟨h1, h2⟩ | ⟨g, cap, cur, hv, _, _, hnc, _⟩
      · injection h1 with _ _ h3; omega
      · injection hv with _ _ h3; omega
    have hsrc : Src Tryd.prog i0.size 22 (.slice A 0 c) 0 [] w := by
      rcases A with _ | a
      · exact Src.ofNil w Tryd.underlying22 c
      · exact Src.ofSlice w Tryd.underlying22 a 0 c [] (by simp) (fun j u hu => by simp at hu) (fun u hu => by cases hu)
    refine ⟨pf, cf, w, run_append_nothing w 22 22 ty 5 i0 Tryd.underlying22 hi0 pf n cf hle _ hsrc, by simpa using hown, World.grownBy.refl w _, fun a ha => .inl ⟨a, ha, rfl⟩⟩
  · obtain ⟨ad, rfl, hcell⟩ := (Kd.reads_of_C (d := (0 : Int)) hC).2.2 h0
    obtain ⟨g, cap, w', h1, h2, h3, h4, h5⟩ := run_append_lies (P := Tryd.prog) w 22 ty base 5 i0 _ 1 1 Tryd.underlying22 hi0 hz0 hz1 hz2 rfl (by omega) (.slice pf n cf) n (nums .u8 xs) hown ad m c (nums .u8 bs)
      (by rw [nums_length]; omega) (fun j u hu => by
        have hj : j < bs.length := by
          rcases Nat.lt_or_ge j bs.length with h | h
          · exact h
          · rw [List.getElem?_eq_none (by rw [nums_length]; exact h)] at hu; cases hu
        rw [hcell j (by omega), List.getD_eq_getElem?_getD, List.getElem?_eq_getElem hj]
        rw [nums, List.getElem?_map, List.getElem?_eq_getElem hj] at hu
        simpa using hu) (fun u hu => by
        obtain ⟨_, _, rfl⟩ := List.mem_map.1 hu
        rfl) h0 (by unfold maxLen; omega) (by omega) hbase w.heap.size rfl
    refine ⟨some ⟨g, 0, none⟩, cap, w', h1, by rw [nums_append]; exact h2, h3, fun a ha => ?_⟩
    injection ha with ha
    subst ha
    rcases h4 with h4 | h4
    · cases pf with
      | none => simp [Value.ownBlock] at h4
      | some a0 => exact .inl ⟨a0, rfl, by simpa [Value.ownBlock] using h4⟩
    · exact .inr (by rw [h4]; exact Nat.le_refl _)
theorem step_append_bytes (w : World) {ops : Array Oper} {o : Oper} {a : Act} {K : Act → World → Prop} {Q : Exit → Act → World → Prop} {E : Prop} (hgd : o.guard = none) (s x : Operand)
    (ho : o.op = .call { callee := .builtin .append, args := #[s, x], argTypes := #[22, 22] })
    (base : Nat) {pf : Option Addr} {n cf : Nat} {xs : List Int} (hs : a.eval s = .slice pf n cf) (hown : w.ownsRow base 5 1 (.slice pf n cf) n (nums .u8 xs)) {A : Option Addr} {m c : Nat} {bs : List Int} (hx : a.eval x = .slice A m c) (hC : Kd.C (Kd.int .u8) w A m bs) (hl : n + m ≤ 140737488355328) (hbase : base ≤ w.heap.size)
    (h : ∀ A' c' w', w'.ownsRow base 5 1 (.slice A' (n + m) c') (n + m) (nums .u8 (xs ++ bs)) → w.grownBy w' (Value.slice pf n cf).ownBlock → (∀ a, A' = some a → (∃ a0, pf = some a0 ∧ a0.block = a.block) ∨ w.heap.size ≤ a.block) → K (a.put o.dst (.slice A' (n + m) c')) w') :
    if Region.wanted o (yielded ops a.tmps) = true then Oper.wp Tryd.prog o a w K Q else E := by
  have hw : Region.wanted o (yielded ops a.tmps) = true := by simp [Region.wanted, hgd]
  rw [if_pos hw]
  obtain ⟨A', c', w', hrun, h2, h3, h4⟩ := run_append_bytes w o.type base hown hC hl hbase (c := c)
  unfold Oper.wp execOp
  simp only [ho, resolve, invoke, builtin, Sem.run_bind, Sem.run_pure, Result.andThen_ok, List.map_toArray, List.map_cons, List.map_nil, hs, hx, hrun]
  exact h A' c' w' h2 h3 h4

def Dk.appE (S : Dk) (s : ByteArray) (n : Nat) : Int := if look S.now (key s) = none then 143 else if S.room - (used S.dat S.now : Nat) < n then 142 else 0
def Dk.appended (S : Dk) (s : ByteArray) (bs : List Int) : Dk := match look S.now (key s) with
  | none => S
  | some f => if S.room - (used S.dat S.now : Nat) < bs.length then S else S.setFile f (S.dat f ++ bs) (S.saf f)

def Dk.partN (S : Dk) (n : Int) (m : Nat) : Nat := (max 0 (min (min n m) (S.room - (used S.dat S.now : Nat)))).toNat
def Dk.parted (S : Dk) (s : ByteArray) (bs : List Int) (n : Int) : Dk := match look S.now (key s) with
  | none => S
  | some f => S.setFile f (S.dat f ++ bs.take (S.partN n bs.length)) (S.saf f)
theorem used_ge (dat : Nat → List Int) {l : Dir} {k : List UInt8} {f : Nat} (h : (k, f) ∈ l) : (dat f).length ≤ used dat l := by
  induction l with
  | nil => cases h
  | cons p l ih =>
    rw [used]
    rcases List.mem_cons.1 h with rfl | h
    · simp only; omega
    · have := ih h; omega
theorem FileIn.C {f c s : Nat} {p : Option Addr} {xs : List Int} (h : FileIn w own f p c xs s) : Kd.C (Kd.int .u8) w p xs.length xs := by
  obtain ⟨A, c', he, hl, hr⟩ := Kd.R_reads (d := Kd.int .u8) (ok := fun _ => True) (Kd.R_of_own (h1 := fun _ => rfl) h.row (fun _ _ => trivial))
  injection he with he
  rw [he]
  exact hr
theorem own_ext {e size n base : Nat} {p : Option Addr} {c : Nat} {xs : List Value} (h : w.ownsRow base e size (.slice p n c) n xs) (hk : ∀ a, p = some a → w'.heap[a.block]? = w.heap[a.block]?) : w'.ownsRow base e size (.slice p n c) n xs := ownsRow_kept h (fun g hg => by
  cases p with
  | none => simp [Value.ownBlock] at hg
  | some a => simp only [Value.ownBlock, Option.some.injEq] at hg; rw [← hg]; exact hk a rfl)
theorem FileIn.pblock {f c s : Nat} {p : Option Addr} {xs : List Int} (h : FileIn w own f p c xs s) {a : Addr} (ha : p = some a) : a.block < w.heap.size ∧ a.block ≠ f := by
  have h1 := h.row
  rw [ha] at h1
  obtain ⟨cur, hcur⟩ := ownsRow_blk h1
  exact ⟨lt_of_block hcur, ty_ne hcur h.blk (by decide)⟩

/-- Bytes appended to a file, in memory. -/
theorem DiskIn.grown {d bn bs0 cc cp : Nat} {pc pp : Option Addr} {pd : Nat → Option Addr} {cd : Nat → Nat} {S : Dk} (h : DiskIn w own d bn bs0 pc cc pp cp pd cd S) (hfr : Fresh own w) {f : Nat} (hf : S.fs f) {w1 w3 : World} (hb1 : Below w.heap.size w w1) {A' : Option Addr} {c' : Nat} {bs : List Int}
    (hown3 : w3.ownsRow 0 5 1 (.slice A' ((S.dat f).length + bs.length) c') ((S.dat f).length + bs.length) (nums .u8 (S.dat f ++ bs))) (hgrow : w1.grownBy w3 (Value.slice (pd f) (S.dat f).length (cd f)).ownBlock)
    (hat : ∀ a, A' = some a → (∃ a0, pd f = some a0 ∧ a0.block = a.block) ∨ w1.heap.size ≤ a.block) (hlen : (S.dat f).length + bs.length ≤ 140737488355328) (hby : ∀ x ∈ bs, 0 ≤ x ∧ x < 256) :
    DiskAt (w3.setCell ⟨f, 0, none⟩ (.slice A' ((S.dat f).length + bs.length) c')) own d (S.setFile f (S.dat f ++ bs) (S.saf f)) ∧ Turn own w (w3.setCell ⟨f, 0, none⟩ (.slice A' ((S.dat f).length + bs.length) c')) := by
  have hff := h.files f hf
  have hs1 := hb1.size
  have hpf : ∀ a, pd f = some a → a.block < w.heap.size ∧ a.block ≠ f := fun a ha => hff.pblock ha
  have hrow : ∀ k, (∀ a, pd f = some a → k ≠ a.block) → some k ≠ (Value.slice (pd f) (S.dat f).length (cd f)).ownBlock := fun k hk => by
    cases hpd : pd f with
    | none => simp [Value.ownBlock]
    | some a => simp only [Value.ownBlock, ne_eq, Option.some.injEq]; exact hk a hpd
  have hk3 : ∀ k, k < w.heap.size → (∀ a, pd f = some a → k ≠ a.block) → w3.heap[k]? = w.heap[k]? := fun k hk hkp => (hgrow.block k (by omega) (hrow k hkp)).trans (hb1.block k hk)
  have hf3 : w3.heap[f]? = _ := (hk3 f hff.lt (fun a ha e => (hpf a ha).2 e.symm)).trans hff.blk
  have hA : ∀ a, A' = some a → a.block ≠ f := fun a ha => by
    subst ha
    obtain ⟨cur, hcur⟩ := ownsRow_blk hown3
    exact ty_ne hcur hf3 (by decide)
  have hl : (S.dat f ++ bs).length = (S.dat f).length + bs.length := List.length_append
  have hmine : ∀ a, A' = some a → own a.block := fun a ha => by
    rcases hat a ha with ⟨a0, h0, h1⟩ | h1
    · rw [← h1]; exact hff.rown a0 h0
    · exact hfr _ (by omega)
  refine ⟨⟨bn, bs0, pc, cc, pp, cp, _, _, DiskIn.setFile (p' := A') (c' := c') h hf ?_ ?_ ?_ hmine ?_ ?_ ?_ ?_⟩, ?_⟩
  · rw [hl]; exact block_setCell hf3
  · rw [hl]; exact own_ext hown3 (fun a ha => Below.heap_setCell _ _ _ _ (hA a ha))
  · intro a ha
    rcases hat a ha with h1 | h1
    · exact .inl h1
    · exact .inr (by omega)
  · rw [hl]; have := hff.safe; omega
  · intro x hx
    rcases List.mem_append.1 hx with hx | hx
    · exact hff.bys x hx
    · exact hby x hx
  · rw [hl]; exact hlen
  · intro k hk hkf hkp
    exact (Below.heap_setCell _ _ _ _ hkf).trans (hk3 k hk hkp)
  · refine ((Turn.of_below hb1).trans (Turn.of_grown hgrow (fun k hk => ?_))).trans (Turn.setCell _ _ hff.mine)
    cases hpd : pd f with
    | none => rw [hpd] at hk; simp [Value.ownBlock] at hk
    | some a => rw [hpd] at hk; simp only [Value.ownBlock, Option.some.injEq] at hk; rw [← hk]; exact hff.rown a hpd

set_option maxRecDepth 100000 in
set_option maxHeartbeats 1600000 in
theorem append1_any (xb nb bb d : Nat) (S : Dk) (s : ByteArray) (A : Option Addr) (c : Nat) (bs : List Int) (w : World) (h : DiskAt w own d S) (hfr : Fresh own w) (hs : s.size ≤ 9223372036854775807)
    (hC : Kd.C (Kd.int .u8) w A bs.length bs) (hby : ∀ x ∈ bs, 0 ≤ x ∧ x < 256)
    (hx : w.cell? ⟨xb, 0, none⟩ = some (.pointer (some ⟨d, 0, none⟩))) (hn : w.cell? ⟨nb, 0, none⟩ = some (.string s)) (hb : w.cell? ⟨bb, 0, none⟩ = some (.slice A bs.length c)) :
    Calls Tryd.prog 30 #[.pointer (some ⟨xb, 0, none⟩), .pointer (some ⟨nb, 0, none⟩), .pointer (some ⟨bb, 0, none⟩)] w fun e w' => e = .returned (.int .i64 (S.appE s bs.length)) ∧ DiskAt w' own d (S.appended s bs) ∧ Turn own w w' := by
  have HW := h
  have hus := used_any (own := own) d S
  obtain ⟨bn, bs', pc, cc, pp, cp, pd, cd, h⟩ := h
  obtain ⟨c0, c1, c2, c3, c4, c5, c6⟩ := seven_cells h.blk
  have hlk2 : ∀ k, (Instr.lookup 55 (.map (some bn)) (.string s) false).run Tryd.prog (w.drewN k) = .ok (fileV (look S.now (key s))) (w.drewN k) := fun k => look_run (w := w.drewN k) (h.now) s hs
  have lx := World.block_lt_of_cell? w _ hx
  have ln := World.block_lt_of_cell? w _ hn
  have lb := World.block_lt_of_cell? w _ hb
  have ld := lt_of_block h.blk
  have r0 := h.room0
  have r1 := h.room1
  have hfc : ∀ p ∈ S.now, (S.dat p.2).length ≤ 140737488355328 := fun p hp => (h.files p.2 (h.ref _ (.inl ⟨p.1, hp⟩))).short
  have hsm := used_small S.dat S.now hfc
  have HS : used S.dat S.now ≤ 400 * 140737488355328 := Nat.le_trans hsm (Nat.mul_le_mul_right _ h.now1)
  have hbl : bs.length ≤ 9223372036854775807 := hC.2.1
  unfold Dk.appE Dk.appended
  have hff : ∀ f, look S.now (key s) = some f → FileIn w own f (pd f) (cd f) (S.dat f) (S.saf f) := fun f hf => h.files f (h.ref f (live_now hf))
  have hfs : ∀ f, look S.now (key s) = some f → S.fs f := fun f hf => h.ref f (live_now hf)
  have HH := Lib.hid h; have HF := Lib.hid hfr; have HA := Lib.hid HW; have HC := Lib.hid hC; have HFS := Lib.hid hfs; have HUS := Lib.hid hus; have HBY := Lib.hid hby
  clear h hfr HW hC hsm hfc hfs hus hby
  cases hl : look S.now (key s) with
  | none =>
    clear hff
    rw [hl] at hlk2
    simp only [fileV] at hlk2
    go_enter Tryd.func30, Tryd.ntmps30
    go_wp2
    go_quiet (fail)
    go_wp2
    go_ret
    exact ⟨rfl, HA.out.below (pw_below_drewN (Below.refl _ _) _), (Turn.refl _ _).drewN _⟩
  | some f =>
    rw [hl] at hlk2
    simp only [fileV] at hlk2
    simp only [if_neg (show ¬ (some f : Option Nat) = none from by simp)]
    have hf := hff f hl
    clear hff
    obtain ⟨f0, f1⟩ := two_cells hf.blk
    have z0 := all_free hf.blk 0
    have lf := hf.lt
    have hsh := hf.short
    have HFI := Lib.hid hf; have HL := Lib.hid hl
    clear hf hl
    have hus2 : ∀ k, Calls Tryd.prog 31 #[.pointer (some ⟨d, 0, none⟩)] (w.drewN k).drew fun e w' => e = .returned (.int .i64 (used S.dat S.now : Nat)) ∧ Below (w.drewN k).drew.heap.size (w.drewN k).drew w' := fun k => HUS.out _ (HA.out.below (pw_below_drewN (Below.refl _ _) (k + 1)))
    by_cases hroom : S.room - (used S.dat S.now : Nat) < bs.length
    · have hdd : decide (IntKind.i64.wrap (S.room - ↑(used S.dat S.now)) < (bs.length : Int)) = true := by
        rw [IntWalk.i64_in (S.room - ↑(used S.dat S.now)) ⟨by omega, by omega⟩]; simpa using hroom
      have HD := Lib.hid hdd
      clear hdd
      rw [if_pos hroom, if_pos hroom]
      go_enter Tryd.func30, Tryd.ntmps30
      go_wp2
      go_quiet (fail)
      go_wp2
      go_region_held3 (fun w' => w'.cell? ⟨xb, 0, none⟩ = some (.pointer (some ⟨d, 0, none⟩)) ∧ w'.cell? ⟨bb, 0, none⟩ = some (.slice A bs.length c) ∧ w'.cell? ⟨d, 0, none⟩ = some (.int .i64 S.room))
        (go_keep)
        (first | (go_at_call 31; refine (hus2 _).mono ?_; rintro e w1 ⟨rfl, hb1⟩; have x1 := (hb1.cell (p := ⟨xb, 0, none⟩) lx).trans hx; have b1 := (hb1.cell (p := ⟨bb, 0, none⟩) lb).trans hb; have d1 := (hb1.cell (p := ⟨d, 0, none⟩) ld).trans c0))
      all_goals simp only [show decide (IntKind.i64.wrap (S.room - ↑(used S.dat S.now)) < (bs.length : Int)) = true from HD.out]
      all_goals go_wp2
      all_goals go_ret
      all_goals exact ⟨rfl, HA.out.below (below_then (pw_below_drewN (Below.refl _ _) (nq + 1)) (Nat.le_refl _) hb1), ((Turn.refl own w).drewN (nq + 1)).trans (Turn.of_below hb1)⟩
    · have hdd : decide (IntKind.i64.wrap (S.room - ↑(used S.dat S.now)) < (bs.length : Int)) = false := by
        rw [IntWalk.i64_in (S.room - ↑(used S.dat S.now)) ⟨by omega, by omega⟩]; simpa using hroom
      have HD := Lib.hid hdd
      clear hdd
      rw [if_neg hroom, if_neg hroom]
      have hlen : (S.dat f).length + bs.length ≤ 140737488355328 := by
        have := used_ge S.dat (look_mem HL.out)
        omega
      have npf : ∀ a, pd f = some a → a.block < w.heap.size ∧ a.block ≠ f := fun a ha => HFI.out.pblock ha
      have HNP := Lib.hid npf
      clear npf
      go_enter Tryd.func30, Tryd.ntmps30
      go_wp2
      go_quiet (fail)
      go_wp2
      go_region_held3 (fun w' => w'.cell? ⟨xb, 0, none⟩ = some (.pointer (some ⟨d, 0, none⟩)) ∧ w'.cell? ⟨bb, 0, none⟩ = some (.slice A bs.length c) ∧ w'.cell? ⟨d, 0, none⟩ = some (.int .i64 S.room))
        (go_keep)
        (first | (go_at_call 31; refine (hus2 _).mono ?_; rintro e w1 ⟨rfl, hb1⟩; have x1 := (hb1.cell (p := ⟨xb, 0, none⟩) lx).trans hx; have b1 := (hb1.cell (p := ⟨bb, 0, none⟩) lb).trans hb; have d1 := (hb1.cell (p := ⟨d, 0, none⟩) ld).trans c0; have g0 := (hb1.cell (p := ⟨f, 0, none⟩) lf).trans f0; have k0 := (hb1.frozen (p := ⟨f, 0, none⟩) lf).trans z0; have k1 : w1.drew.frozen? ⟨f, 0, none⟩ = false := k0; have g1 : w1.drew.cell? ⟨f, 0, none⟩ = some (.slice (pd f) (S.dat f).length (cd f)) := g0))
      all_goals simp only [show decide (IntKind.i64.wrap (S.room - ↑(used S.dat S.now)) < (bs.length : Int)) = false from HD.out]
      all_goals go_wp2
      all_goals
        have hown1 : w1.drew.ownsRow 0 5 1 (.slice (pd f) (S.dat f).length (cd f)) (S.dat f).length (nums .u8 (S.dat f)) := own_ext HFI.out.row (fun a ha => hb1.block _ (HNP.out a ha).1)
        have hC1 : Kd.C (Kd.int .u8) w1.drew A bs.length bs := Kd.C_below HC.out (below_then (pw_below_drewN (Below.refl _ _) (nq + 1)) (Nat.le_refl _) (hb1.trans ((Below.refl _ _).drew)))
        have lf1 : f < w1.heap.size := Nat.lt_of_lt_of_le lf hb1.size
        have nfo : some f ≠ (Value.slice (pd f) (S.dat f).length (cd f)).ownBlock := by
          cases hpf : pd f with
          | none => simp [Value.ownBlock]
          | some a => simp only [Value.ownBlock, ne_eq, Option.some.injEq]; exact fun e => (HNP.out a hpf).2 e.symm
        go_region_law
          ((refine step_append_bytes _ (by rfl) _ _ (by rfl) 0 (by rfl) hown1 (by rfl) hC1 (by omega) (by omega) ?_; intro A' c' w3 hown3 hgrow hat; have y0 : w3.frozen? ⟨f, 0, none⟩ = false := (hgrow.frozen_far ⟨f, 0, none⟩ lf1 nfo).trans k1; have y1 : w3.cell? ⟨f, 0, none⟩ = some (.slice (pd f) (S.dat f).length (cd f)) := (hgrow.cell_far ⟨f, 0, none⟩ lf1 nfo).trans g1))
      all_goals go_wp2
      all_goals go_ret
      all_goals
        obtain ⟨hD, hT⟩ := DiskIn.grown HH.out HF.out (HFS.out f HL.out) (w1 := w1.drew) (below_then (pw_below_drewN (Below.refl _ _) (nq + 1)) (Nat.le_refl _) (hb1.trans ((Below.refl _ _).drew))) hown3 hgrow hat hlen HBY.out
        exact ⟨rfl, hD, hT⟩
end Go.Proofs.YtgcpiofpjogjcaaDoor.PK
end
section
/-
  Sync, SyncDir and Rename, walked.
-/
namespace Go.Proofs.YtgcpiofpjogjcaaDoor.PK
open Go.RowKit Go.Maps Go.Proofs.YtgcpiofpjogjcaaDoorW.PrintWords
set_option linter.unusedVariables false
set_option linter.unusedSimpArgs false
variable {own : Nat → Prop} {w w' : World}

theorem cell_new (w : World) (v : Value) (t : TypeId) (n : Nat) (hn : w.heap.size = n) : (w.alloc (.cells #[v] t)).cell? ⟨n, 0, none⟩ = some v := by
  subst hn; simp [World.cell?_alloc_at]
theorem cell_old {w : World} {a : Addr} {v : Value} {o : Obj} (h : w.cell? a = some v) : (w.alloc o).cell? a = some v :=
  (World.cell?_alloc_lt _ _ _ (World.block_lt_of_cell? w a h)).trans h
theorem C_move {w w' : World} {A : Option Addr} {n : Nat} {bs : List Int} (h : Kd.C (Kd.int .u8) w A n bs) (hk : ∀ a, A = some a → a.block < w.heap.size → w'.heap[a.block]? = w.heap[a.block]?) : Kd.C (Kd.int .u8) w' A n bs := by
  have h1 := Kd.reads_of_C (d := (0 : Int)) h
  refine Kd.C_of_reads (d := (0 : Int)) ⟨h1.1, h1.2.1, fun hn => ?_⟩
  obtain ⟨ad, e, hc⟩ := h1.2.2 hn
  refine ⟨ad, e, fun j hj => ?_⟩
  have hlt := World.block_lt_of_cell? w _ (hc 0 hn)
  have hb : ∀ j, (ad.add j).block = ad.block := fun j => by unfold Addr.add; split <;> rfl
  rw [hb] at hlt
  rw [World.cell?_of_block (w := w) (a := ad.add j) (by rw [hb]; exact hk ad e hlt)]
  exact hc j hj

set_option maxRecDepth 100000 in
set_option maxHeartbeats 1600000 in
theorem sync_any (d : Nat) (S : Dk) (s : ByteArray) (w : World) (h : DiskAt w own d S) (hfr : Fresh own w) (hs : s.size ≤ 9223372036854775807) (hst : S.steps ≤ 4611686018427387904) (hpl : S.plan.length ≤ 4611686018427387904) :
    Calls Tryd.prog 10 #[.pointer (some ⟨d, 0, none⟩), .string s] w fun e w' => ∃ x S', e = .returned (.int .i64 x) ∧ S.stepSaid (S.stepped.has s) (fun T => T = S.stepped.synced s) (fun n T => T = S.stepped) x S' ∧ DiskAt w' own d S' ∧ Turn own w w' := by
  obtain ⟨wb, hwb⟩ : ∃ wb, wb = (w.alloc (.cells #[.pointer (some ⟨d, 0, none⟩)] 26)).alloc (.cells #[.string s] 9) := ⟨_, rfl⟩
  have hwbs : wb.heap.size = w.heap.size + 2 := by rw [hwb]; simp
  have hbb : Below w.heap.size w wb := by rw [hwb]; exact ((Below.refl _ _).alloc (Nat.le_refl _) _).alloc (by simp) _
  have x0 : wb.cell? ⟨w.heap.size, 0, none⟩ = some (.pointer (some ⟨d, 0, none⟩)) := by rw [hwb]; exact cell_old (cell_new _ _ _ _ (rfl))
  have x1 : wb.cell? ⟨w.heap.size + 1, 0, none⟩ = some (.string s) := by rw [hwb]; exact cell_new _ _ _ _ (by simp)
  have ld := h.flag.2.2
  have hcall := step_any d 33 29 #[.pointer (some ⟨w.heap.size, 0, none⟩), .pointer (some ⟨w.heap.size + 1, 0, none⟩)] #[] S (S.stepped.has s) (fun T => T = S.stepped.synced s) (fun n T => T = S.stepped) wb (h.below hbb) (hfr.step (by omega)) hst hpl
    (fun w1 h1 f1 k1 => (sync1_any _ _ d S.stepped s w1 h1 f1 hs ((World.cell?_of_block (w := wb) (a := ⟨w.heap.size, 0, none⟩) (k1 _ (by simp only; omega) (by simp only; omega))).trans x0) ((World.cell?_of_block (w := wb) (a := ⟨w.heap.size + 1, 0, none⟩) (k1 _ (by simp only; omega) (by simp only; omega))).trans x1)).mono fun e w2 ⟨he, h2, t2⟩ => ⟨he, _, rfl, h2, t2⟩)
    (fun _ w1 n h1 f1 k1 => (nothing_any n w1).mono fun e w2 ⟨he, hw⟩ => ⟨he, S.stepped, rfl, hw ▸ h1, hw ▸ Turn.refl _ _⟩)
    (enters_of Tryd.func33 (by kernel_rfl) rfl) (enters_of Tryd.func29 (by kernel_rfl) rfl)
  have tb : Turn own w wb := Turn.of_below hbb
  have X1 := Lib.hid x1
  clear hbb x1
  go_enter Tryd.func10, Tryd.ntmps10
  go_upto_region 1 with fail
  simp only [← hwb]
  have HWB := Lib.hid hwb
  clear hwb
  go_wp2_with (first
    | (go_at_call 25; refine hcall.mono ?_; rintro e w2 ⟨x, T, rfl, hT, h2, t2⟩))
  go_ret
  exact ⟨x, T, rfl, hT, h2, tb.trans t2⟩

set_option maxRecDepth 100000 in
set_option maxHeartbeats 1600000 in
theorem syncDir_any (d : Nat) (S : Dk)  (w : World) (h : DiskAt w own d S) (hfr : Fresh own w)  (hst : S.steps ≤ 4611686018427387904) (hpl : S.plan.length ≤ 4611686018427387904) :
    Calls Tryd.prog 11 #[.pointer (some ⟨d, 0, none⟩)] w fun e w' => ∃ x S', e = .returned (.int .i64 x) ∧ S.stepSaid (0) (fun T => T = S.stepped.syncDir) (fun n T => T = S.stepped) x S' ∧ DiskAt w' own d S' ∧ Turn own w w' := by
  obtain ⟨wb, hwb⟩ : ∃ wb, wb = w.alloc (.cells #[.pointer (some ⟨d, 0, none⟩)] 26) := ⟨_, rfl⟩
  have hwbs : wb.heap.size = w.heap.size + 1 := by rw [hwb]; simp
  have hbb : Below w.heap.size w wb := by rw [hwb]; exact (Below.refl _ _).alloc (Nat.le_refl _) _
  have x0 : wb.cell? ⟨w.heap.size, 0, none⟩ = some (.pointer (some ⟨d, 0, none⟩)) := by rw [hwb]; exact cell_new _ _ _ _ (rfl)
  have ld := h.flag.2.2
  have hcall := step_any d 34 29 #[.pointer (some ⟨w.heap.size, 0, none⟩)] #[] S (0) (fun T => T = S.stepped.syncDir) (fun n T => T = S.stepped) wb (h.below hbb) (hfr.step (by omega)) hst hpl
    (fun w1 h1 f1 k1 => (syncDir1_any _ d S.stepped w1 h1 f1 ((World.cell?_of_block (w := wb) (a := ⟨w.heap.size, 0, none⟩) (k1 _ (by simp only; omega) (by simp only; omega))).trans x0)).mono fun e w2 ⟨he, h2, t2⟩ => ⟨he, _, rfl, h2, t2⟩)
    (fun _ w1 n h1 f1 k1 => (nothing_any n w1).mono fun e w2 ⟨he, hw⟩ => ⟨he, S.stepped, rfl, hw ▸ h1, hw ▸ Turn.refl _ _⟩)
    (enters_of Tryd.func34 (by kernel_rfl) rfl) (enters_of Tryd.func29 (by kernel_rfl) rfl)
  have tb : Turn own w wb := Turn.of_below hbb
  clear hbb 
  go_enter Tryd.func11, Tryd.ntmps11
  go_upto_region 1 with fail
  simp only [← hwb]
  have HWB := Lib.hid hwb
  clear hwb
  go_wp2_with (first
    | (go_at_call 25; refine hcall.mono ?_; rintro e w2 ⟨x, T, rfl, hT, h2, t2⟩))
  go_ret
  exact ⟨x, T, rfl, hT, h2, tb.trans t2⟩

set_option maxRecDepth 100000 in
set_option maxHeartbeats 1600000 in
theorem rename_any (d : Nat) (S : Dk) (a b : ByteArray) (w : World) (h : DiskAt w own d S) (hfr : Fresh own w) (ha : a.size ≤ 9223372036854775807) (hb : b.size ≤ 9223372036854775807) (hne : look S.now (key a) ≠ none → a ≠ ⟨#[]⟩) (hbig : S.chg.length ≤ 1099511627776) (hst : S.steps ≤ 4611686018427387904) (hpl : S.plan.length ≤ 4611686018427387904) :
    Calls Tryd.prog 21 #[.pointer (some ⟨d, 0, none⟩), .string a, .string b] w fun e w' => ∃ x S', e = .returned (.int .i64 x) ∧ S.stepSaid (S.stepped.renE a b) (fun T => T = S.stepped.renamed a b) (fun n T => T = S.stepped) x S' ∧ DiskAt w' own d S' ∧ Turn own w w' := by
  obtain ⟨wb, hwb⟩ : ∃ wb, wb = ((w.alloc (.cells #[.pointer (some ⟨d, 0, none⟩)] 26)).alloc (.cells #[.string a] 9)).alloc (.cells #[.string b] 9) := ⟨_, rfl⟩
  have hwbs : wb.heap.size = w.heap.size + 3 := by rw [hwb]; simp
  have hbb : Below w.heap.size w wb := by rw [hwb]; exact (((Below.refl _ _).alloc (Nat.le_refl _) _).alloc (by simp) _).alloc (by simp; omega) _
  have x0 : wb.cell? ⟨w.heap.size, 0, none⟩ = some (.pointer (some ⟨d, 0, none⟩)) := by rw [hwb]; exact cell_old (cell_old (cell_new _ _ _ _ (rfl)))
  have x1 : wb.cell? ⟨w.heap.size + 1, 0, none⟩ = some (.string a) := by rw [hwb]; exact cell_old (cell_new _ _ _ _ (by simp))
  have x2 : wb.cell? ⟨w.heap.size + 2, 0, none⟩ = some (.string b) := by rw [hwb]; exact cell_new _ _ _ _ (by simp)
  have ld := h.flag.2.2
  have hcall := step_any d 40 29 #[.pointer (some ⟨w.heap.size, 0, none⟩), .pointer (some ⟨w.heap.size + 1, 0, none⟩), .pointer (some ⟨w.heap.size + 2, 0, none⟩)] #[] S (S.stepped.renE a b) (fun T => T = S.stepped.renamed a b) (fun n T => T = S.stepped) wb (h.below hbb) (hfr.step (by omega)) hst hpl
    (fun w1 h1 f1 k1 => (rename1_any _ _ _ d S.stepped a b w1 h1 f1 ha hb hne hbig ((World.cell?_of_block (w := wb) (a := ⟨w.heap.size, 0, none⟩) (k1 _ (by simp only; omega) (by simp only; omega))).trans x0) ((World.cell?_of_block (w := wb) (a := ⟨w.heap.size + 1, 0, none⟩) (k1 _ (by simp only; omega) (by simp only; omega))).trans x1) ((World.cell?_of_block (w := wb) (a := ⟨w.heap.size + 2, 0, none⟩) (k1 _ (by simp only; omega) (by simp only; omega))).trans x2)).mono fun e w2 ⟨he, h2, t2⟩ => ⟨he, _, rfl, h2, t2⟩)
    (fun _ w1 n h1 f1 k1 => (nothing_any n w1).mono fun e w2 ⟨he, hw⟩ => ⟨he, S.stepped, rfl, hw ▸ h1, hw ▸ Turn.refl _ _⟩)
    (enters_of Tryd.func40 (by kernel_rfl) rfl) (enters_of Tryd.func29 (by kernel_rfl) rfl)
  have tb : Turn own w wb := Turn.of_below hbb
  have X1 := Lib.hid x1
  have X2 := Lib.hid x2
  clear hbb x1 x2
  go_enter Tryd.func21, Tryd.ntmps21
  go_upto_region 1 with fail
  simp only [← hwb]
  have HWB := Lib.hid hwb
  clear hwb
  go_wp2_with (first
    | (go_at_call 25; refine hcall.mono ?_; rintro e w2 ⟨x, T, rfl, hT, h2, t2⟩))
  go_ret
  exact ⟨x, T, rfl, hT, h2, tb.trans t2⟩

end Go.Proofs.YtgcpiofpjogjcaaDoor.PK
end
section
/-
  A directory's names in order; a copy of bytes; what is kept of a file: walked.
-/
namespace Go.Proofs.YtgcpiofpjogjcaaDoor.PK
open Go.RowKit Go.Maps Go.Sort Go.Proofs.YtgcpiofpjogjcaaDoorW.PrintWords
set_option linter.unusedVariables false
set_option linter.unusedSimpArgs false
variable {own : Nat → Prop} {w w' : World}

theorem bb_lt : ∀ {a b : List UInt8}, bytesBefore a b = true → a < b
  | [], [], h => by simp [bytesBefore] at h
  | [], _ :: _, _ => List.nil_lt_cons _ _
  | _ :: _, [], h => by simp [bytesBefore] at h
  | a :: r, b :: s, h => by
    simp only [bytesBefore, Bool.or_eq_true, decide_eq_true_eq, Bool.and_eq_true, beq_iff_eq] at h
    rw [List.cons_lt_cons_iff]
    rcases h with h | ⟨h1, h2⟩
    · exact .inl h
    · exact .inr ⟨h1, bb_lt h2⟩
theorem names_sorted {l : Dir} (h : Srt l) : (l.map (·.1)).Pairwise (fun a b => leB a b = true) := by
  refine List.pairwise_map.2 (h.imp (fun {a b} hab => ?_))
  simp only [leB, decide_eq_true_eq]
  exact List.le_of_lt (bb_lt hab)
theorem strKeys_dmap (l : Dir) : strKeys (dmap l) = l.map (·.1) := by
  unfold strKeys dmap
  simp only [List.map_map]
  rfl
theorem keys_any (b : Nat) (w : World) : Calls Tryd.prog 52 #[.map (some b)] w fun e w' => e = .returned (.func (.func 62) #[] #[.pointer (some ⟨w.heap.size, 0, none⟩)]) ∧ w' = w.alloc (.cells #[.map (some b)] 55) :=
  callsIn_wide.1 (Tryd.maps_Keys_52 (some b) w)
theorem sorted_any (b n : Nat) (l : Dir) (w : World) (h : DirAt w b n l) (hl : l.length ≤ 1099511627776) :
    Calls Tryd.prog 51 #[.func (.func 62) #[] #[.pointer (some ⟨w.heap.size, 0, none⟩)]] (w.alloc (.cells #[.map (some b)] 55)) fun e w' => ∃ v : Value, e = .returned v ∧
      w'.ownsRow (w.heap.size + 1) 9 1 v l.length (l.map fun p => encStr p.1) ∧ Below (w.heap.size + 1) (w.alloc (.cells #[.map (some b)] 55)) w' := by
  refine (callsIn_wide.1 (Tryd.slices_Sorted_keys_51_52 b n (dmap l) _ w h (by rw [dmap_size]; unfold maxLen; omega) (by rw [dmap_size]; omega))).mono ?_
  rintro e w' ⟨v, ts, rfl, h1, h2, h3, h4⟩
  have e1 : (w.alloc (.cells #[.map (some b)] 55)).heap.size = w.heap.size + 1 := by simp
  rw [strKeys_dmap] at h1
  have h6 : ts.mergeSort (fun x y => decide (x ≤ y)) = l.map (·.1) := by
    rw [mergeSort_of_perm h1]
    exact List.mergeSort_of_pairwise (names_sorted h.sorted)
  have h7 : ts.length = l.length := by rw [h1.length_eq, List.length_map]
  rw [e1] at h2 h4
  rw [h6, h7, List.map_map] at h2
  exact ⟨v, rfl, h2, h4⟩

def NamesMade (l : Dir) (w : World) (e : Ending) (w' : World) : Prop := ∃ v, e = .returned v ∧ w'.ownsRow w.heap.size 9 1 v l.length (l.map fun p => encStr p.1) ∧ Below w.heap.size w w'
set_option maxRecDepth 100000 in
theorem names_any (b n : Nat) (l : Dir) (w : World) (h : DirAt w b n l) (hl : l.length ≤ 1099511627776) :
    Calls Tryd.prog 47 #[.map (some b)] w (NamesMade l w) := by
  have hk := keys_any b w
  have hs := sorted_any b n l w h hl
  go_enter Tryd.func47, Tryd.ntmps47
  go_wp2_with (first
    | (go_at_call 52; refine hk.mono ?_; rintro e w1 ⟨rfl, rfl⟩)
    | (go_at_call 51; refine hs.mono ?_; rintro e w2 ⟨v, rfl, ho, hb⟩))
  go_ret
  exact ⟨v, rfl, own_weaken ho (by omega), ((Below.refl _ _).alloc (Nat.le_refl _) _).trans (hb.mono (by omega))⟩

theorem bclone_any (A : Option Addr) (c : Nat) (xs : List Int) (w : World) (h : Kd.C (Kd.int .u8) w A xs.length xs) (hl : xs.length ≤ 140737488355328) :
    Calls Tryd.prog 38 #[.slice A xs.length c] w fun e w' => ∃ A' c', e = .returned (.slice A' xs.length c') ∧ w'.ownsRow w.heap.size 5 1 (.slice A' xs.length c') xs.length (nums .u8 xs) ∧ Below w.heap.size w w' := by
  rcases A with _ | ad
  · have h0 : xs = [] := by
      rcases Nat.eq_zero_or_pos xs.length with h0 | h0
      · exact List.eq_nil_of_length_eq_zero h0
      · obtain ⟨ad, h, _⟩ := h.2.2 h0; cases h
    subst h0
    refine (Tryd.bytes_Clone_nil 0 c w).mono ?_
    rintro e w' ⟨rfl, rfl⟩
    exact ⟨none, 0, rfl, own_nil _ _ _ _, Below.refl _ _⟩
  · refine (Tryd.bytes_Clone_at ad xs.length c xs w rfl hl (fun i hi => ?_)).mono ?_
    · obtain ⟨ad', e, hc⟩ := (Kd.reads_of_C (d := (0 : Int)) h).2.2 (by omega)
      injection e with e
      subst e
      exact hc i hi
    · rintro e w' ⟨v', rfl, ho, _, hb⟩
      obtain ⟨A', c', rfl⟩ := own_slice ho
      exact ⟨A', c', rfl, ho, hb⟩

set_option maxRecDepth 100000 in
theorem left1_any (i : Int) (kb : Nat) (A : Option Addr) (c : Nat) (ks : List Int) (w : World) (h0 : 0 ≤ i) (hk : w.cell? ⟨kb, 0, none⟩ = some (.slice A ks.length c)) (hC : Kd.C (Kd.int .i64) w A ks.length ks) (hc : ks.length ≤ c) :
    Calls Tryd.prog 46 #[.int .i64 i, .pointer (some ⟨kb, 0, none⟩)] w fun e w' => e = .returned (.int .i64 (keepN ks i.toNat : Nat)) ∧ w = w' := by
  have hl := hC.2.1
  by_cases hi : i < ks.length
  · obtain ⟨ad, rfl, hcell⟩ := (Kd.reads_of_C (d := (0 : Int)) hC).2.2 (by omega)
    have hx := hcell i.toNat (by omega)
    have hv : (keepN ks i.toNat : Int) = max (ks.getD i.toNat 0) 0 := by unfold keepN; omega
    rw [hv]
    generalize ks.getD i.toNat 0 = z at hx
    clear hC hcell hv
    go_enter Tryd.func46, Tryd.ntmps46
    go_wp2
    go_ret
    exact ⟨rfl, rfl⟩
  · have hv : (keepN ks i.toNat : Int) = 0 := by
      unfold keepN
      rw [List.getD_eq_getElem?_getD, List.getElem?_eq_none (by omega)]
      rfl
    rw [hv]
    clear hC hv
    go_enter Tryd.func46, Tryd.ntmps46
    go_wp2
    go_ret
    exact ⟨rfl, rfl⟩
end Go.Proofs.YtgcpiofpjogjcaaDoor.PK
end
