/-
  A change of the directory, walked: alter.
-/
import Derived.Test.YtgcpiofpjogjcaaGreatDoorDd
import Derived.Deep.RegionHeld3
import Derived.Deep.AppendLies
import Derived.Deep.RegionLaw
import Derived.KernelRfl
import Derived.Tactics
import Derived.Tactics2
import Derived.StillTactics
import Derived.OwnWalk
import Derived.Laws.Pointers
import Derived.Deep.RegionWith
namespace Go.Proofs.YtgcpiofpjogjcaaGreatDoor.PK
open Go.RowKit Go.Maps Go.Proofs.YtgcpiofpjogjcaaGreatDoorW.PrintWords
set_option linter.unusedVariables false
set_option linter.unusedSimpArgs false
variable {own : Nat → Prop} {w w' : World}

theorem infoC : (Tryz.prog.info? 103).map (fun i => (i.zero, i.size, i.bytes)) = some (some (.agg #[.string ⟨#[]⟩, .string ⟨#[]⟩, .pointer none]), 3, 40) := by kernel_rfl
theorem chV_length (l : List Chg) : (l.flatMap chV).length = l.length * 3 := by
  induction l with
  | nil => rfl
  | cons c l ih => simp only [List.flatMap_cons, List.length_append, List.length_cons, ih]; simp [chV]; omega

/-- The disk behind a change of its directory. -/
def Dk.alter (S : Dk) (c : Chg) : Dk := { S with now := applyC S.now c, chg := S.chg ++ [c] }

theorem mem_applyC {l : Dir} {c : Chg} {p : List UInt8 × Nat} (h : p ∈ applyC l c) : p ∈ l ∨ c.f = some p.2 := by
  unfold applyC at h
  have h1 : ∀ q, q ∈ (if c.a = ⟨#[]⟩ then l else del l (key c.a)) → q ∈ l := by
    intro q hq
    split at hq
    · exact hq
    · exact (mem_del.1 hq).1
  simp only at h
  split at h
  · exact .inl (h1 _ h)
  · split at h
    · rcases mem_put.1 h with rfl | h
      · exact .inr (by assumption)
      · exact .inl (h1 _ h.1)
    · exact .inl (h1 _ h)

theorem DiskIn.altered {d bn bs cc cp : Nat} {pc pp : Option Addr} {pd : Nat → Option Addr} {cd : Nat → Nat} {S : Dk} (h : DiskIn w own d bn bs pc cc pp cp pd cd S) (c : Chg) (hc : c.ok) (hcf : ∀ f, c.f = some f → S.fs f) (hlen : (applyC S.now c).length ≤ 400)
    {pc' : Option Addr} {cc' : Nat}
    (hblk : w'.heap[d]? = some (.cells #[.int .i64 S.room, .map (some bn), .map (some bs), .slice pc' (S.chg.length + 1) cc', .slice pp S.plan.length cp, .int .i64 S.steps, .bool S.off] 82 (0, 0)))
    (hnow : DirAt w' bn (applyC S.now c).length (applyC S.now c))
    (hchg : w'.ownsRow 0 103 3 (.slice pc' (S.chg.length + 1) cc') (S.chg.length + 1) (S.chg.flatMap chV ++ chV c)) (hoc : ∀ a, pc' = some a → own a.block)
    (hk : ∀ k, k < w.heap.size → k ≠ d → k ≠ bn → (∀ a, pc = some a → k ≠ a.block) → w'.heap[k]? = w.heap[k]?) :
    DiskIn w' own d bn bs pc' cc' pp cp pd cd (S.alter c) := by
  obtain ⟨en, cn, hen⟩ := h.now.map
  obtain ⟨es, cs, hes⟩ := h.safe.map
  have hpc : ∀ a, pc = some a → ∃ cur, w.heap[a.block]? = some (Obj.cells cur 103 (0, 0)) := fun a ha => by
    have := h.chg
    rw [ha] at this
    exact ownsRow_blk this
  have hcells : ∀ k cur t m, w.heap[k]? = some (Obj.cells cur t m) → t ≠ 82 → t ≠ 103 → w'.heap[k]? = w.heap[k]? := fun k cur t m hk1 ht1 ht2 =>
    hk k (lt_of_block hk1) (ty_ne hk1 h.blk ht1) (map_ne hk1 hen) (fun a ha => by obtain ⟨cur', hcur⟩ := hpc a ha; exact ty_ne hk1 hcur ht2)
  exact {
    blk := by
      have : (S.alter c).chg.length = S.chg.length + 1 := by simp [Dk.alter]
      rw [this]
      exact hblk
    now := hnow
    safe := h.safe.kept (hk bs h.safe.lt (fun e => map_ne h.blk hes e.symm) (fun e => h.ne e.symm) (fun a ha e => by obtain ⟨cur', hcur⟩ := hpc a ha; exact map_ne hcur hes e.symm))
    ne := h.ne
    chg := by
      have : (S.alter c).chg.length = S.chg.length + 1 := by simp [Dk.alter]
      rw [this, show (S.alter c).chg.flatMap chV = S.chg.flatMap chV ++ chV c from by simp [Dk.alter]]
      exact hchg
    plan := ownsRow_kept h.plan (fun g hg => by
      cases pp with
      | none => simp [Value.ownBlock] at hg
      | some a =>
        simp only [Value.ownBlock, Option.some.injEq] at hg
        subst hg
        obtain ⟨cur, hcur⟩ := ownsRow_blk h.plan
        exact hcells _ _ _ _ hcur (by decide) (by decide))
    ref := fun f hf => by
      rcases hf with ⟨k, hk⟩ | ⟨k, hk⟩ | ⟨c', hc', e⟩
      · rcases mem_applyC hk with hk | hk
        · exact h.ref f (.inl ⟨k, hk⟩)
        · exact hcf f hk
      · exact h.ref f (.inr (.inl ⟨k, hk⟩))
      · rcases List.mem_append.1 hc' with hc' | hc'
        · exact h.ref f (.inr (.inr ⟨c', hc', e⟩))
        · obtain rfl := List.mem_singleton.1 hc'
          exact hcf f e
    files := fun f hf => (h.files f hf).kept (hcells _ _ _ _ (h.files f hf).blk (by decide) (by decide)) (fun a ha => by
      have h1 := (h.files f hf).row
      rw [ha] at h1
      obtain ⟨cur, hcur⟩ := ownsRow_blk h1
      exact hcells _ _ _ _ hcur (by decide) (by decide))
    apart := h.apart
    od := h.od
    on := h.on
    os := h.os
    oc := hoc
    op := h.op
    room0 := h.room0
    room1 := h.room1
    steps0 := h.steps0
    now1 := hlen
    chgs := fun c' hc' => by
      rcases List.mem_append.1 hc' with hc' | hc'
      · exact h.chgs c' hc'
      · obtain rfl := List.mem_singleton.1 hc'
        exact hc
    fates := h.fates }

theorem block_setCell {w : World} {b i : Nat} {cs : Array Value} {u : Value} {t : TypeId} {m : Nat × Nat} (h : w.heap[b]? = some (Obj.cells cs t m)) : (w.setCell ⟨b, i, none⟩ u).heap[b]? = some (.cells (cs.setIfInBounds i u) t m) := by
  have hlt := lt_of_block h
  have h' : w.heap[b] = Obj.cells cs t m := by simpa [Array.getElem?_eq_getElem hlt] using h
  show (w.heap.modify b _)[b]? = _
  rw [Array.getElem?_eq_getElem (by simpa using hlt), Array.getElem_modify_self, h']
  rfl

set_option maxRecDepth 100000 in
set_option maxHeartbeats 3200000 in
theorem alter_any (d : Nat) (S : Dk) (c : Chg) (w : World) (h : DiskAt w own d S) (hfr : Fresh own w) (hc : c.ok) (hcf : ∀ f, c.f = some f → S.fs f) (hlen : (applyC S.now c).length ≤ 400) (hbig : S.chg.length ≤ 1099511627776) :
    Calls Tryz.prog 63 #[.pointer (some ⟨d, 0, none⟩), .agg #[.string c.a, .string c.b, fileV c.f]] w fun e w' => e = .returned (.int .i64 0) ∧ DiskAt w' own d (S.alter c) ∧ Turn own w w' := by
  obtain ⟨bn, bs, pc, cc, pp, cp, pd, cd, h⟩ := h
  obtain ⟨en, cn, hen⟩ := h.now.map
  obtain ⟨i0, hi0, hz0, hz1, hz2⟩ := info_parts infoC
  have ld := lt_of_block h.blk
  have nd : d ≠ bn := map_ne h.blk hen
  obtain ⟨c0, c1, c2, c3, c4, c5, c6⟩ := seven_cells h.blk
  have f3 := all_free h.blk 3
  have hn1 := h.now1
  obtain ⟨pf, hpf⟩ : ∃ pf, fileV c.f = .pointer pf := by cases c.f <;> exact ⟨_, rfl⟩
  have hchv : chV c = [.string c.a, .string c.b, .pointer pf] := by rw [← hpf]; rfl
  rw [hpf]
  obtain ⟨wb, hwb⟩ : ∃ wb, wb = w.alloc (.cells #[.string c.a, .string c.b, .pointer pf] 103) := ⟨_, rfl⟩
  have hwbs : wb.heap.size = w.heap.size + 1 := by rw [hwb]; simp
  have hbb : Below w.heap.size w wb := by rw [hwb]; exact (Below.refl _ _).alloc (Nat.le_refl _) _
  have hap := apply_any (own := own) bn S.now c wb.drew (h.now.kept (hbb.block _ h.now.lt)) hc (by omega) h.on
  rw [hpf] at hap
  have e1 := (hbb.cell (p := ⟨d, 1, none⟩) ld).trans c1
  obtain ⟨p0, p1, p2⟩ : wb.cell? ⟨w.heap.size, 0, none⟩ = some (.string c.a) ∧ wb.cell? ⟨w.heap.size, 1, none⟩ = some (.string c.b) ∧ wb.cell? ⟨w.heap.size, 2, none⟩ = some (.pointer pf) := by
    rw [hwb]
    refine ⟨?_, ?_, ?_⟩ <;> simp [World.cell?_alloc_at]
  have e3 := (hbb.cell (p := ⟨d, 3, none⟩) ld).trans c3
  have g3 := (hbb.frozen (p := ⟨d, 3, none⟩) ld).trans f3
  have lbn := h.now.lt
  have hH := Lib.hid h; have hHN := Lib.hid hen
  clear h hen
  go_enter Tryz.func63, Tryz.ntmps63
  go_wp2
  simp only [← hwb]
  have HWB := Lib.hid hwb
  clear hwb
  go_region_held3 (fun w' => w'.cell? ⟨d, 1, none⟩ = some (.map (some bn)) ∧ w'.cell? ⟨w.heap.size, 0, none⟩ = some (.string c.a) ∧ w'.cell? ⟨w.heap.size, 1, none⟩ = some (.string c.b) ∧ w'.cell? ⟨w.heap.size, 2, none⟩ = some (.pointer pf))
    (go_keep)
    (first | (go_at_call 78; refine hap.mono ?_; rintro e w2 ⟨rfl, hd2, ht2, hk2⟩; have hq : ∀ (a : Addr), a.block < w.heap.size + 1 → a.block ≠ bn → w2.heap[a.block]? = wb.heap[a.block]? := fun a hl hn => hk2 a.block (by rw [show wb.drew.heap.size = wb.heap.size from rfl, hwbs]; exact hl) hn; have q1 := (World.cell?_of_block (w := wb) (hq ⟨d, 1, none⟩ (by simp; omega) nd)).trans e1; have q2 := (World.cell?_of_block (w := wb) (hq ⟨w.heap.size, 0, none⟩ (by simp) (by simp; omega))).trans p0; have q3 := (World.cell?_of_block (w := wb) (hq ⟨w.heap.size, 1, none⟩ (by simp) (by simp; omega))).trans p1; have q4 := (World.cell?_of_block (w := wb) (hq ⟨w.heap.size, 2, none⟩ (by simp) (by simp; omega))).trans p2; have q5 := (World.cell?_of_block (w := wb) (hq ⟨d, 3, none⟩ (by simp; omega) nd)).trans e3; have q6 := (World.frozen?_of_block (w := wb) (hq ⟨d, 3, none⟩ (by simp; omega) nd)).trans g3))
  go_wp2
  have ldt := lt_of_block hH.out.blk
  have hpcb : ∀ a, pc = some a → a.block < w.heap.size ∧ a.block ≠ bn ∧ a.block ≠ d := fun a ha => by
    have h1 := hH.out.chg
    rw [ha] at h1
    obtain ⟨cur, hcur⟩ := ownsRow_blk h1
    exact ⟨lt_of_block hcur, map_ne hcur hHN.out, ty_ne hcur hH.out.blk (by decide)⟩
  have hown : w2.ownsRow 0 103 3 (.slice pc S.chg.length cc) S.chg.length (S.chg.flatMap chV) := ownsRow_kept hH.out.chg (fun g hg => by
    cases hpc : pc with
    | none => rw [hpc] at hg; simp [Value.ownBlock] at hg
    | some a =>
      rw [hpc] at hg
      simp only [Value.ownBlock, Option.some.injEq] at hg
      subst hg
      obtain ⟨h1, h2, h3⟩ := hpcb a hpc
      exact (hq a (by omega) h2).trans (hbb.block _ h1))
  have ld2 : d < w2.heap.size := by have := ht2.size; have : wb.drew.heap.size = w.heap.size + 1 := hwbs; omega
  have lw2 : w.heap.size < w2.heap.size := by have := ht2.size; have : wb.drew.heap.size = w.heap.size + 1 := hwbs; omega
  have npd : some d ≠ (Value.slice pc S.chg.length cc).ownBlock := by
    cases hpc : pc with
    | none => simp [Value.ownBlock]
    | some a => simp only [Value.ownBlock, ne_eq, Option.some.injEq]; exact fun e => (hpcb a hpc).2.2 e.symm
  have npw : some w.heap.size ≠ (Value.slice pc S.chg.length cc).ownBlock := by
    cases hpc : pc with
    | none => simp [Value.ownBlock]
    | some a => simp only [Value.ownBlock, ne_eq, Option.some.injEq]; exact fun e => by have := (hpcb a hpc).1; omega
  have z1 : (w2.alloc (Obj.cells #[Value.string c.a, Value.string c.b, Value.pointer pf] 103)).drew.frozen? ⟨d, 3, none⟩ = false := (World.frozen?_of_block (w := w2) (w' := (w2.alloc (Obj.cells #[Value.string c.a, Value.string c.b, Value.pointer pf] 103)).drew) (a := ⟨d, 3, none⟩) (Below.heap_alloc _ _ _ ld2)).trans q6
  have z0 : (w2.alloc (Obj.cells #[Value.string c.a, Value.string c.b, Value.pointer pf] 103)).frozen? ⟨d, 3, none⟩ = false := z1
  have z3 : (w2.alloc (Obj.cells #[Value.string c.a, Value.string c.b, Value.pointer pf] 103)).drew.cell? ⟨d, 3, none⟩ = some (.slice pc S.chg.length cc) := (World.cell?_of_block (w := w2) (w' := (w2.alloc (Obj.cells #[Value.string c.a, Value.string c.b, Value.pointer pf] 103)).drew) (a := ⟨d, 3, none⟩) (Below.heap_alloc _ _ _ ld2)).trans q5
  have HT2 := Lib.hid ht2; have HK2 := Lib.hid hk2; have HPC := Lib.hid hpcb
  clear ht2 hk2 hq hpcb hap
  go_region_law
    ((refine step_append_lies _ (by rfl) _ _ _ (by rfl) 0 103 i0 _ 3 40 Tryz.underlying80 hi0 hz0 hz1 hz2 rfl (by omega) (.slice pc S.chg.length cc) S.chg.length _ (by rfl) ((hown.alloc _).drew)
        ⟨w2.heap.size, 0, none⟩ 1 1 [.string c.a, .string c.b, .pointer pf] (by rfl) (by rfl) (World.news_of_block (cs := #[.string c.a, .string c.b, .pointer pf]) (t := 103) (fr := (0, 0)) (heap_alloc_new w2 _)) (by simp [Value.oneCell'])
        (by omega) (by unfold maxLen; omega) (by omega) (by omega) (w2.heap.size + 1) (by simp) ?_; intro gg cap w3 hown3 hgrow hat hlt; have y0 := hgrow.frozen_far ⟨d, 3, none⟩ (by simp; omega) npd; have y1 := hgrow.cell_far ⟨d, 3, none⟩ (by simp; omega) npd; have y2 : w3.frozen? ⟨d, 3, none⟩ = false := y0.trans z1; have y3 : w3.cell? ⟨d, 3, none⟩ = some (.slice pc S.chg.length cc) := y1.trans z3))
  all_goals go_wp2
  all_goals go_ret
  all_goals
    have hh := hH.out
    have hal : ∀ k, k < w2.heap.size → (w2.alloc (Obj.cells #[Value.string c.a, Value.string c.b, Value.pointer pf] 103)).drew.heap[k]? = w2.heap[k]? := fun k hk => Below.heap_alloc _ _ _ hk
    have hs2 : (w2.alloc (Obj.cells #[Value.string c.a, Value.string c.b, Value.pointer pf] 103)).drew.heap.size = w2.heap.size + 1 := by simp
    have hw2 : ∀ k, k < w.heap.size → k ≠ bn → w2.heap[k]? = w.heap[k]? := fun k hk hkb => (HK2.out k (by have : wb.drew.heap.size = w.heap.size + 1 := hwbs; omega) hkb).trans (hbb.block k hk)
    have hw3 : ∀ k, k < w.heap.size → k ≠ bn → (∀ a, pc = some a → k ≠ a.block) → w3.heap[k]? = w.heap[k]? := fun k hk hkb hkp => ((hgrow.block k (by omega) (by
      cases pc with
      | none => simp [Value.ownBlock]
      | some a => simp only [Value.ownBlock, ne_eq, Option.some.injEq]; exact hkp a rfl)).trans (hal k (by omega))).trans (hw2 k hk hkb)
    have hd3 : w3.heap[d]? = _ := (hw3 d ldt nd (fun a ha => ((HPC.out a ha).2.2).symm)).trans hh.blk
    have hgg : ∃ cur, w3.heap[gg]? = some (Obj.cells cur 103 (0, 0)) := ownsRow_blk hown3
    obtain ⟨cur, hcur⟩ := hgg
    have ngd : gg ≠ d := ty_ne hcur hd3 (by decide)
    refine ⟨rfl, ⟨bn, bs, some ⟨gg, 0, none⟩, cap, pp, cp, pd, cd, DiskIn.altered hh c hc hcf hlen (block_setCell hd3) ?_ ?_ ?_ ?_⟩, ?_⟩
    · refine hd2.kept (((Below.heap_setCell _ _ _ _ (Ne.symm nd)).trans (hgrow.block bn (by omega) ?_)).trans (hal bn (by omega)))
      cases pc with
      | none => simp [Value.ownBlock]
      | some a => simp only [Value.ownBlock, ne_eq, Option.some.injEq]; exact ((HPC.out a rfl).2.1).symm
    · rw [hchv]
      exact ownsRow_kept hown3 (fun g hg => by
        simp only [Value.ownBlock, Option.some.injEq] at hg
        rw [← hg]
        exact Below.heap_setCell _ _ _ _ ngd)
    · intro a ha
      simp only [Option.some.injEq] at ha
      rw [← ha]
      rcases hat with hat | hat
      · cases pc with
        | none => simp [Value.ownBlock] at hat
        | some a' =>
          simp only [Value.ownBlock, Option.some.injEq] at hat
          have := hh.oc a' rfl
          rw [hat] at this
          exact this
      · exact hfr _ (by simp only; omega)
    · intro k hk hkd hkb hkp
      exact (Below.heap_setCell _ _ _ _ hkd).trans (hw3 k hk hkb hkp)
    · have t1 : Turn own w wb.drew := by rw [HWB.out]; exact (Turn.alloc _).drew
      have t2 : Turn own w2 (w2.alloc (Obj.cells #[Value.string c.a, Value.string c.b, Value.pointer pf] 103)).drew := (Turn.alloc _).drew
      refine (((t1.trans HT2.out).trans t2).trans (Turn.of_grown hgrow (fun k hk => ?_))).trans (Turn.setCell _ _ hh.od)
      cases pc with
      | none => simp [Value.ownBlock] at hk
      | some a =>
        simp only [Value.ownBlock, Option.some.injEq] at hk
        rw [← hk]
        exact hh.oc a rfl
end Go.Proofs.YtgcpiofpjogjcaaGreatDoor.PK
