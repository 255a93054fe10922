/-
  A directory's copy, walked: maps.Clone; SyncDir's step.
-/
import Derived.Test.YtgcpiofpjogjcaaGreatDoorDm
import Derived.Shelf.SlMaps.Clone
namespace Go.Proofs.YtgcpiofpjogjcaaGreatDoor.PK
open Go.RowKit Go.Maps Go.Proofs.YtgcpiofpjogjcaaGreatDoorW.PrintWords
set_option linter.unusedVariables false
set_option linter.unusedSimpArgs false
variable {own : Nat → Prop} {w w' : World}

set_option maxRecDepth 100000 in
theorem clone_any (b n : Nat) (l : Dir) (w : World) (h : DirAt w b n l) :
    Calls Tryz.prog 39 #[.map (some b)] w fun e w' => e = .returned (.map (some w.heap.size)) ∧ DirAt w' w.heap.size n l ∧ Below w.heap.size w w' := by
  obtain ⟨es, clock, hb, F, hs, hD⟩ := h
  have hq := fun w => run_eql_map_nil_sl (P := Tryz.prog) w 79 _ _ (some b) Tryz.underlying79
  go_enter Tryz.func39, Tryz.ntmps39
  go_wp2
  rw [run_callFunc_extern Tryz.func68 (by kernel_rfl) (by kernel_rfl) (by kernel_rfl) (e := Extern.MapsClone.clone) (by kernel_rfl), run_maps_clone_sl w 79 hb]
  simp only [Result.andThen]
  rw [Oper.upon_value]
  go_wp2
  rw [run_typeAssert_map_sl _ 79 20 _ _ _ Tryz.underlying79]
  simp only [Result.andThen]
  rw [Oper.upon_value]
  go_wp2
  go_ret
  exact ⟨rfl, ⟨es, clock, heap_alloc_new w _, F, hs, hD⟩, (Below.refl _ w).alloc (Nat.le_refl _) _⟩

def Dk.syncDir (S : Dk) : Dk := { S with safe := S.now, chg := [] }
theorem DiskIn.setSafe {d bn bs cc cp bs' : Nat} {pc pp : Option Addr} {pd : Nat → Option Addr} {cd : Nat → Nat} {S : Dk} (h : DiskIn w own d bn bs pc cc pp cp pd cd S) (hbs : w.heap.size ≤ bs') (ho : own bs')
    (hblk : w'.heap[d]? = some (.cells #[.int .i64 S.room, .map (some bn), .map (some bs'), .slice none 0 0, .slice pp S.plan.length cp, .int .i64 S.steps, .bool S.off] 82 (0, 0)))
    (hsafe : DirAt w' bs' S.now.length S.now) (hk : ∀ k, k < w.heap.size → k ≠ d → w'.heap[k]? = w.heap[k]?) :
    DiskIn w' own d bn bs' none 0 pp cp pd cd S.syncDir := by
  obtain ⟨en, cn, hen⟩ := h.now.map
  have hcells : ∀ k cur t m, w.heap[k]? = some (Obj.cells cur t m) → t ≠ 82 → w'.heap[k]? = w.heap[k]? := fun k cur t m hk1 ht1 =>
    hk k (lt_of_block hk1) (ty_ne hk1 h.blk ht1)
  have hlt := h.now.lt
  exact { h with
    blk := hblk
    now := h.now.kept (hk bn h.now.lt (fun e => map_ne h.blk hen e.symm))
    safe := hsafe
    ne := by omega
    chg := ⟨rfl, .inl ⟨rfl, rfl⟩⟩
    plan := ownsRow_kept h.plan (fun g hg => by
      cases pp with
      | none => simp [Value.ownBlock] at hg
      | some a =>
        simp only [Value.ownBlock, Option.some.injEq] at hg
        subst hg
        obtain ⟨cur, hcur⟩ := ownsRow_blk h.plan
        exact hcells _ _ _ _ hcur (by decide))
    ref := fun f hf => by
      rcases hf with hf | hf | ⟨c, hc, _⟩
      · exact h.ref f (.inl hf)
      · exact h.ref f (.inl hf)
      · simp [Dk.syncDir] at hc
    files := fun f hf => (h.files f hf).kept (hcells _ _ _ _ (h.files f hf).blk (by decide)) (fun a ha => by
      have h1 := (h.files f hf).row
      rw [ha] at h1
      obtain ⟨cur, hcur⟩ := ownsRow_blk h1
      exact hcells _ _ _ _ hcur (by decide))
    os := ho
    oc := fun a ha => by simp at ha
    chgs := fun c hc => by simp [Dk.syncDir] at hc }

theorem cell_off {w : World} {b i j : Nat} {u : Value} (h : i ≠ j) : (w.setCell ⟨b, i, none⟩ u).cell? ⟨b, j, none⟩ = w.cell? ⟨b, j, none⟩ := by
  unfold World.cell? World.setCell
  simp only [Array.getElem?_modify, if_true]
  cases w.heap[b]? with
  | none => rfl
  | some o =>
    cases o with
    | cells c e f => simp [Array.getElem?_setIfInBounds, h]
    | _ => rfl

set_option maxRecDepth 100000 in
set_option maxHeartbeats 1600000 in
theorem syncDir1_any (xb d : Nat) (S : Dk) (w : World) (h : DiskAt w own d S) (hfr : Fresh own w) (hx : w.cell? ⟨xb, 0, none⟩ = some (.pointer (some ⟨d, 0, none⟩))) :
    Calls Tryz.prog 80 #[.pointer (some ⟨xb, 0, none⟩)] w fun e w' => e = .returned (.int .i64 0) ∧ DiskAt w' own d S.syncDir ∧ Turn own w w' := by
  obtain ⟨bn, bs, pc, cc, pp, cp, pd, cd, h⟩ := h
  obtain ⟨c0, c1, c2, c3, c4, c5, c6⟩ := seven_cells h.blk
  have z2 := all_free h.blk 2
  have z3 := all_free h.blk 3
  have ld := lt_of_block h.blk
  have lx := World.block_lt_of_cell? w _ hx
  have hcl := clone_any bn _ S.now w.drew h.now
  have nxd : xb ≠ d := by rintro rfl; rw [c0] at hx; simp at hx
  have ndx : d ≠ xb := fun e => nxd e.symm
  have HH := Lib.hid h; have HF := Lib.hid hfr
  clear h hfr
  go_enter Tryz.func80, Tryz.ntmps80
  go_wp2
  go_region_held3 (fun w' => w'.cell? ⟨xb, 0, none⟩ = some (.pointer (some ⟨d, 0, none⟩)) ∧ w'.cell? ⟨d, 1, none⟩ = some (.map (some bn)))
    (simp [*, World.cell?_alloc_some, World.cell?_setCell_far, cell_off])
    (first | (go_at_call 39; refine hcl.mono ?_; rintro e w1 ⟨rfl, hs1, hb1⟩; have x1 := (hb1.cell (p := ⟨xb, 0, none⟩) lx).trans hx; have d1 := (hb1.cell (p := ⟨d, 1, none⟩) ld).trans c1; have d2 := (hb1.cell (p := ⟨d, 2, none⟩) ld).trans c2; have d3 := (hb1.cell (p := ⟨d, 3, none⟩) ld).trans c3; have y2 := (hb1.frozen (p := ⟨d, 2, none⟩) ld).trans z2; have y3 := (hb1.frozen (p := ⟨d, 3, none⟩) ld).trans z3))
  all_goals go_wp2
  all_goals go_ret
  all_goals
    have hd1 : w1.heap[d]? = _ := (hb1.block d ld).trans HH.out.blk
    refine ⟨rfl, ⟨bn, w.heap.size, none, 0, pp, cp, pd, cd, DiskIn.setSafe (w := w) HH.out (Nat.le_refl _) (HF.out _ (Nat.le_refl _)) (block_setCell (block_setCell hd1)) (hs1.kept ((Below.heap_setCell _ _ _ _ (Nat.ne_of_gt ld)).trans (Below.heap_setCell _ _ _ _ (Nat.ne_of_gt ld)))) (fun k hk hkd => ((Below.heap_setCell _ _ _ _ hkd).trans (Below.heap_setCell _ _ _ _ hkd)).trans (hb1.block k hk))⟩, ?_⟩
    exact ((((Turn.refl own w).drew).trans (Turn.of_below hb1)).trans (Turn.setCell _ _ HH.out.od)).trans (Turn.setCell _ _ HH.out.od)
end Go.Proofs.YtgcpiofpjogjcaaGreatDoor.PK
