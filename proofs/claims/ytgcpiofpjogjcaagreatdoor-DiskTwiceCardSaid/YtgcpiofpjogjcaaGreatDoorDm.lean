/-
  Sync and SyncDir, walked.
-/
import Derived.Test.YtgcpiofpjogjcaaGreatDoorDl
namespace Go.Proofs.YtgcpiofpjogjcaaGreatDoor.PK
open Go.RowKit Go.Maps Go.Proofs.YtgcpiofpjogjcaaGreatDoorW.PrintWords
set_option linter.unusedVariables false
set_option linter.unusedSimpArgs false
variable {own : Nat → Prop} {w w' : World}

theorem look_run {b n : Nat} {l : Dir} (h : DirAt w b n l) (s : ByteArray) (hs : s.size ≤ 9223372036854775807) : (Instr.lookup 79 (.map (some b)) (.string s) false).run Tryz.prog w = .ok (fileV (look l (key s))) w := by
  obtain ⟨v, ps, hrun, hv⟩ := World.ownsMap.lookup (z := .pointer none) (zd := .nil) (zp := []) h law9 Tryz.underlying79 (zeroP w) rfl (key9 s hs)
  rw [dmap_look] at hv
  have := fileV_of hv
  subst this
  exact hrun

/-- The disk with a file's bytes and their safe part turned. -/
def Dk.setFile (S : Dk) (f : Nat) (xs : List Int) (s : Nat) : Dk := { S with dat := upd S.dat f xs, saf := upd S.saf f s }
theorem DiskIn.setFile {d bn bs cc cp : Nat} {pc pp : Option Addr} {pd : Nat → Option Addr} {cd : Nat → Nat} {S : Dk} (h : DiskIn w own d bn bs pc cc pp cp pd cd S) {f : Nat} (hf : S.fs f) {xs : List Int} {s c' : Nat} {p' : Option Addr}
    (hblk : w'.heap[f]? = some (.cells #[.slice p' xs.length c', .int .i64 s] 77 (0, 0))) (hrow : w'.ownsRow 0 5 1 (.slice p' xs.length c') xs.length (nums .u8 xs))
    (hp : ∀ a, p' = some a → (∃ a0, pd f = some a0 ∧ a0.block = a.block) ∨ w.heap.size ≤ a.block) (hown : ∀ a, p' = some a → own a.block) (hs : s ≤ xs.length) (hb : ∀ x ∈ xs, 0 ≤ x ∧ x < 256) (hl : xs.length ≤ 140737488355328)
    (hk : ∀ k, k < w.heap.size → k ≠ f → (∀ a, pd f = some a → k ≠ a.block) → w'.heap[k]? = w.heap[k]?) :
    DiskIn w' own d bn bs pc cc pp cp (upd pd f p') (upd cd f c') (S.setFile f xs s) := by
  obtain ⟨en, cn, hen⟩ := h.now.map
  obtain ⟨es, cs, hes⟩ := h.safe.map
  have hff := h.files f hf
  have hpf : ∀ a, pd f = some a → ∃ cur, w.heap[a.block]? = some (Obj.cells cur 5 (0, 0)) := fun a ha => by
    have := hff.row
    rw [ha] at this
    exact ownsRow_blk this
  have hcells : ∀ k cur t m, w.heap[k]? = some (Obj.cells cur t m) → t ≠ 77 → t ≠ 5 → w'.heap[k]? = w.heap[k]? := fun k cur t m hk1 ht1 ht2 =>
    hk k (lt_of_block hk1) (ty_ne hk1 hff.blk ht1) (fun a ha => by obtain ⟨cur', hcur⟩ := hpf a ha; exact ty_ne hk1 hcur ht2)
  have hmap : ∀ k es c, w.heap[k]? = some (.map es c) → k < w.heap.size → w'.heap[k]? = w.heap[k]? := fun k es c hk1 hlt =>
    hk k hlt (fun e => map_ne hff.blk hk1 e.symm) (fun a ha e => by obtain ⟨cur', hcur⟩ := hpf a ha; exact map_ne hcur hk1 e.symm)
  exact { h with
    blk := (hcells _ _ _ _ h.blk (by decide) (by decide)).trans h.blk
    now := h.now.kept (hmap _ _ _ hen h.now.lt)
    safe := h.safe.kept (hmap _ _ _ hes h.safe.lt)
    chg := ownsRow_kept h.chg (fun g hg => by
      cases pc with
      | none => simp [Value.ownBlock] at hg
      | some a =>
        simp only [Value.ownBlock, Option.some.injEq] at hg
        subst hg
        obtain ⟨cur, hcur⟩ := ownsRow_blk h.chg
        exact hcells _ _ _ _ hcur (by decide) (by decide))
    plan := ownsRow_kept h.plan (fun g hg => by
      cases pp with
      | none => simp [Value.ownBlock] at hg
      | some a =>
        simp only [Value.ownBlock, Option.some.injEq] at hg
        subst hg
        obtain ⟨cur, hcur⟩ := ownsRow_blk h.plan
        exact hcells _ _ _ _ hcur (by decide) (by decide))
    ref := h.ref
    files := fun g hg => by
      by_cases e : g = f
      · subst e
        simp only [Dk.setFile, upd_same]
        exact ⟨hff.mine, hblk, hrow, hown, hs, hb, hl⟩
      · simp only [Dk.setFile, upd_other _ _ e]
        have hfg := h.files g hg
        have hg1 : ∀ a, pd f = some a → g ≠ a.block := fun a ha => by obtain ⟨cur', hcur⟩ := hpf a ha; exact ty_ne hfg.blk hcur (by decide)
        refine hfg.kept (hk g hfg.lt e hg1) (fun a ha => ?_)
        have h1 := hfg.row
        rw [ha] at h1
        obtain ⟨cur, hcur⟩ := ownsRow_blk h1
        exact hk _ (lt_of_block hcur) (ty_ne hcur hff.blk (by decide)) (fun b hb => h.apart g f hg hf e a b ha hb)
    apart := fun g1 g2 h1 h2 hne a b ha hb => by
      by_cases e1 : g1 = f
      · subst e1
        rw [upd_same] at ha
        rw [upd_other _ _ (fun e => hne e.symm)] at hb
        rcases hp a ha with ⟨a0, ha0, hab⟩ | hge
        · rw [← hab]; exact h.apart _ _ h1 h2 hne a0 b ha0 hb
        · have h3 := (h.files g2 h2).row
          rw [hb] at h3
          obtain ⟨cur, hcur⟩ := ownsRow_blk h3
          have := lt_of_block hcur
          omega
      · rw [upd_other _ _ e1] at ha
        by_cases e2 : g2 = f
        · subst e2
          rw [upd_same] at hb
          rcases hp b hb with ⟨b0, hb0, hab⟩ | hge
          · rw [← hab]; exact h.apart _ _ h1 h2 hne a b0 ha hb0
          · have h3 := (h.files g1 h1).row
            rw [ha] at h3
            obtain ⟨cur, hcur⟩ := ownsRow_blk h3
            have := lt_of_block hcur
            omega
        · rw [upd_other _ _ e2] at hb
          exact h.apart g1 g2 h1 h2 hne a b ha hb }
def Dk.synced (S : Dk) (s : ByteArray) : Dk := match look S.now (key s) with | some f => S.setFile f (S.dat f) (S.dat f).length | none => S
def Dk.has (S : Dk) (s : ByteArray) : Int := if look S.now (key s) = none then 143 else 0

set_option maxRecDepth 100000 in
theorem sync1_any (xb nb d : Nat) (S : Dk) (s : ByteArray) (w : World) (h : DiskAt w own d S) (hfr : Fresh own w) (hs : s.size ≤ 9223372036854775807)
    (hx : w.cell? ⟨xb, 0, none⟩ = some (.pointer (some ⟨d, 0, none⟩))) (hn : w.cell? ⟨nb, 0, none⟩ = some (.string s)) :
    Calls Tryz.prog 65 #[.pointer (some ⟨xb, 0, none⟩), .pointer (some ⟨nb, 0, none⟩)] w fun e w' => e = .returned (.int .i64 (S.has s)) ∧ DiskAt w' own d (S.synced s) ∧ Turn own w w' := by
  obtain ⟨bn, bs, pc, cc, pp, cp, pd, cd, h⟩ := h
  obtain ⟨c0, c1, c2, c3, c4, c5, c6⟩ := seven_cells h.blk
  have hlk := look_run h.now s hs
  have hlk2 : ∀ k, (Instr.lookup 79 (.map (some bn)) (.string s) false).run Tryz.prog (w.drewN k) = .ok (fileV (look S.now (key s))) (w.drewN k) := fun k => look_run (w := w.drewN k) (h.now) s hs
  unfold Dk.has Dk.synced
  have HH := Lib.hid h
  clear h
  cases hl : look S.now (key s) with
  | none =>
    rw [hl] at hlk hlk2
    simp only [fileV] at hlk hlk2
    go_enter Tryz.func65, Tryz.ntmps65
    go_wp2
    go_quiet (fail)
    go_wp2
    go_ret
    exact ⟨rfl, DiskAt.below ⟨bn, bs, pc, cc, pp, cp, pd, cd, HH.out⟩ (pw_below_drewN (Below.refl _ _) _), (Turn.refl _ _).drewN _⟩
  | some f =>
    rw [hl] at hlk hlk2
    simp only [fileV] at hlk hlk2
    have hff := HH.out.files f (HH.out.ref f (live_now hl))
    obtain ⟨f0, f1⟩ := two_cells hff.blk
    have z1 := all_free hff.blk 1
    have HF := Lib.hid hff
    clear hff
    go_enter Tryz.func65, Tryz.ntmps65
    go_wp2
    go_quiet (fail)
    go_wp2
    go_ret
    have hfw := HF.out
    have hset : ∀ u : Value, ((w.drewN nq).setCell ⟨f, 1, none⟩ u).heap[f]? = some (.cells #[.slice (pd f) (S.dat f).length (cd f), u] 77 (0, 0)) := fun u => block_setCell (w := w.drewN nq) hfw.blk
    refine ⟨rfl, ⟨bn, bs, pc, cc, pp, cp, _, _, DiskIn.setFile (w := w) HH.out (HH.out.ref f (live_now hl)) (hset _) (ownsRow_kept hfw.row (fun g hg => Below.heap_setCell (w.drewN nq) _ _ _ ?_)) (fun a ha => .inl ⟨a, ha, rfl⟩) hfw.rown (Nat.le_refl _) hfw.bys hfw.short (fun k hk hkf _ => Below.heap_setCell (w.drewN nq) _ _ _ hkf)⟩, ((Turn.refl _ _).drewN _).trans (Turn.setCell _ _ hfw.mine)⟩
    obtain ⟨a, ha⟩ : ∃ a, pd f = some a := by
      cases hpd : pd f with
      | none => rw [hpd] at hg; simp [Value.ownBlock] at hg
      | some a => exact ⟨a, rfl⟩
    have h1 := hfw.row
    rw [ha] at h1 hg
    simp only [Value.ownBlock, Option.some.injEq] at hg
    obtain ⟨cur, hcur⟩ := ownsRow_blk h1
    rw [← hg]
    exact ty_ne hcur hfw.blk (by decide)
end Go.Proofs.YtgcpiofpjogjcaaGreatDoor.PK
