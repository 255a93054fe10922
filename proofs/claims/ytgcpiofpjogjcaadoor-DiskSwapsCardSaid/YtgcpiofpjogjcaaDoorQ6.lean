/-
  Parts of the proof: Dpl, Dqb, Drb, Dx, Dy, Ea, Gb, Gc, Sw.
-/
import Derived.Test.YtgcpiofpjogjcaaDoorQ5
import Derived.Test.YtgcpiofpjogjcaaDoorQ0
import Derived.Test.YtgcpiofpjogjcaaDoorQ1
import Derived.Test.YtgcpiofpjogjcaaDoorQ4
import Derived.Lib.SlBytesConst
import Derived.Test.YtgcpiofpjogjcaaDoorQ2
import Derived.SizedLaws
import Derived.ChangeSame
import Derived.Deep.Slices
import Derived.Deep.Strs
import Derived.ProofKit
import Derived.OpenShut
section
/-
  Plan: walked (for a seat without the reference).
-/
namespace Go.Proofs.YtgcpiofpjogjcaaDoor.PK
open Go.RowKit Go.Maps Go.Sort Go.Proofs.YtgcpiofpjogjcaaDoorW.PrintWords Go.Proofs.YtgcpiofpjogjcaaDoorW.PrintLast Go.Proofs.YtgcpiofpjogjcaaDoorW.PrintMore
open Go.Op (binOp)
set_option linter.unusedVariables false
set_option linter.unusedSimpArgs false
variable {own : Nat → Prop} {w w' : World}

/-! ### Plan -/
def fatK : Kd Fat where
  sz := 3
  E := []
  K := fun _ x cs => cs = fateV x
  M := fun _ _ _ x cs => cs = fateV x
  K_len := fun h => by rw [h]; rfl
  K_one := fun h u hu => by
    rw [h] at hu
    simp only [fateV, List.mem_cons, List.not_mem_nil, or_false] at hu
    rcases hu with rfl | rfl | rfl <;> rfl
  K_below := fun _ h => h
  K_of_M := fun h => h
  M_mono := fun _ h => h
  M_bound := fun h => h
  M_move := fun _ h => h
  M_lower := fun _ h => h
theorem fat_inner : ∀ {xs : List Fat} {inner : List Value}, Reps (fun x cs => cs = fateV x) 3 xs inner → inner = xs.flatMap fateV
  | [], inner, h => by
    have := h.1
    simp at this
    rw [this]; rfl
  | x :: r, inner, h => by
    have h0 := h.2 0 x rfl
    rw [Nat.zero_mul, List.drop_zero] at h0
    have hr : Reps (fun x cs => cs = fateV x) 3 r (inner.drop 3) := by
      refine ⟨?_, fun j p hj => ?_⟩
      · have := h.1
        rw [List.length_drop, this, List.length_cons]; omega
      · have := h.2 (j + 1) p (by simpa using hj)
        rw [List.drop_drop, show 3 + j * 3 = (j + 1) * 3 from by omega]
        exact this
    rw [List.flatMap_cons, ← fat_inner hr, ← h0, List.take_append_drop]
theorem infoFat : (Tryd.prog.info? 73).map (fun i => (i.zero, i.size, i.bytes)) = some (some (.agg #[.int .i64 0, .int .i64 0, .int .i64 0]), fatK.sz, 24) := by kernel_rfl
def FatesMade (fs : List Fat) (w : World) (e : Ending) (w' : World) : Prop := ∃ A c, e = .returned (.slice A fs.length c) ∧ w'.ownsRow w.heap.size 73 3 (.slice A fs.length c) fs.length (fs.flatMap fateV) ∧ Below w.heap.size w w'
theorem fates_of_R {fs : List Fat} {v : Value} {e : Ending} {ok : Nat → Prop} (he : e = .returned v) (hR : fatK.R 73 w' w.heap.size ok v fs) (hb : Below w.heap.size w w') : FatesMade fs w e w' := by
  obtain ⟨A, c, rfl⟩ := Kd.R_slice hR
  obtain ⟨_, inner, ho, hr⟩ := hR
  exact ⟨A, c, he, by rw [← fat_inner hr]; exact ho, hb⟩
set_option maxRecDepth 100000 in
theorem cloneFates_any (A : Option Addr) (c : Nat) (fs : List Fat) (w : World) (hC : fatK.C w A fs.length fs) (hl : fs.length ≤ 5864062014805) :
    Calls Tryd.prog 39 #[.slice A fs.length c] w (FatesMade fs w) := by
  have hq : ∀ (w : World) (a : Option Addr) (n c n' c' : Nat), (binOp .eql 43 (.slice a n c) (.slice none n' c')).run Tryd.prog w = .ok (.bool a.isNone) w := fun w a n c n' c' => Lib.run_eql_slice_nil w _ _ a n c n' c' Tryd.underlying43
  cases A with
  | none =>
    have h0 : fs.length = 0 := by
      rcases Nat.eq_zero_or_pos fs.length with h | h
      · exact h
      · obtain ⟨ad, h, _⟩ := hC.2.2 h
        cases h
    obtain rfl := List.eq_nil_of_length_eq_zero h0
    go_enter Tryd.func39, Tryd.ntmps39
    go_wp2
    go_ret
    exact ⟨none, 0, rfl, (own_nil _ _ _ _ : _), Below.refl _ _⟩
  | some ad =>
    go_enter Tryd.func39, Tryd.ntmps39
    go_wp2_with (first
      | ((with_reducible refine gate_dst (N := 5) rfl ?_); refine Kd.R_lit fatK _ 73 ?hg (N := 5) ?hd (xs := ([] : List Fat)) (inner := []) (ok := fun k => w.heap.size ≤ k) (okp := fun _ => False) ?hr ?hp (fun _ hk => hk.elim) (Nat.le_refl _) (Below.refl _ _) (Nat.le_refl _) (by simp) ?_; (case hd => rfl); (case hg => rfl); (case hr => first | (go_simp; done) | (go_simp; rfl)); (case hp => exact (Reps.none _ _)); intro v1 w1 hR1 hb1 hg1 hat1; have HR1 := Lib.hid hR1; have HB1 := Lib.hid hb1; have hCr := Kd.C_below hC hb1; have HC := Lib.hid hCr; clear hg1 hat1 hR1 hb1 hCr)
      | (at_builtin; refine Kd.R_append_rows fatK (w0 := w) w.heap.size rfl (.tmp 5) (.tmp 6) 43 73 (.agg #[.int .i64 0, .int .i64 0, .int .i64 0]) 24 rfl Tryd.underlying43 infoFat rfl (by decide) (by omega) v1 [] fs (some ad) fs.length c (fun k => w.heap.size ≤ k) (fun _ => False) rfl rfl HR1.out HC.out (fun x cs h => h) (fun _ h => h.elim) (fun k hk => Nat.le_trans HB1.out.size hk) HB1.out HB1.out.size (by simp; omega) ?_; intro v2 w2 hR2 hb2 hg2 hat2))
    go_ret
    exact fates_of_R rfl (by simpa using hR2) hb2

theorem DiskIn.setPlan {d bn bs cc cp cp' : Nat} {pc pp pp' : Option Addr} {pd : Nat → Option Addr} {cd : Nat → Nat} {S : Dk} {fs : List Fat} (h : DiskIn w own d bn bs pc cc pp cp pd cd S)
    (hb : w'.heap[d]? = some (.cells #[.int .i64 S.room, .map (some bn), .map (some bs), .slice pc S.chg.length cc, .slice pp' fs.length cp', .int .i64 S.steps, .bool S.off] 58 (0, 0)))
    (hk : ∀ k, k < w.heap.size → k ≠ d → w'.heap[k]? = w.heap[k]?) (hp : w'.ownsRow 0 73 3 (.slice pp' fs.length cp') fs.length (fs.flatMap fateV)) (ho : ∀ a, pp' = some a → own a.block)
    (hf : ∀ c ∈ fs, (Lit.int .i64 c.step).wf = true ∧ (Lit.int .i64 c.kind).wf = true ∧ (Lit.int .i64 c.n).wf = true) : DiskIn w' own d bn bs pc cc pp' cp' pd cd { S with plan := fs } := by
  obtain ⟨en, cn, hen⟩ := h.now.map
  obtain ⟨es, cs, hes⟩ := h.safe.map
  have hcells : ∀ k cur t m, w.heap[k]? = some (Obj.cells cur t m) → t ≠ 58 → w'.heap[k]? = w.heap[k]? := fun k cur t m hk1 ht1 =>
    hk k (lt_of_block hk1) (ty_ne hk1 h.blk ht1)
  exact { h with
    blk := hb
    now := h.now.kept (hk bn h.now.lt (fun e => map_ne h.blk hen e.symm))
    safe := h.safe.kept (hk bs h.safe.lt (fun e => map_ne h.blk hes e.symm))
    chg := ownsRow_kept h.chg (fun g hg => by
      cases pc with
      | none => simp [Value.ownBlock] at hg
      | some a =>
        simp only [Value.ownBlock, Option.some.injEq] at hg
        subst hg
        obtain ⟨cur, hcur⟩ := ownsRow_blk h.chg
        exact hcells _ _ _ _ hcur (by decide))
    plan := hp
    ref := h.ref
    files := fun f hf => (h.files f hf).kept (hcells _ _ _ _ (h.files f hf).blk (by decide)) (fun a ha => by
      have h1 := (h.files f hf).row
      rw [ha] at h1
      obtain ⟨cur, hcur⟩ := ownsRow_blk h1
      exact hcells _ _ _ _ hcur (by decide))
    op := ho
    fates := hf }
set_option maxRecDepth 100000 in
theorem plan_any (d : Nat) (S : Dk) (A : Option Addr) (c : Nat) (fs : List Fat) (w : World) (h : DiskAt w own d S) (hfr : Fresh own w) (hC : fatK.C w A fs.length fs) (hl : fs.length ≤ 5864062014805)
    (hf : ∀ c ∈ fs, (Lit.int .i64 c.step).wf = true ∧ (Lit.int .i64 c.kind).wf = true ∧ (Lit.int .i64 c.n).wf = true) :
    Calls Tryd.prog 20 #[.pointer (some ⟨d, 0, none⟩), .slice A fs.length c] w fun e w' => e = .returned (.tuple #[]) ∧ DiskAt w' own d { S with plan := fs } ∧ Turn own w w' := by
  have hcl := cloneFates_any A c fs w hC hl
  obtain ⟨bn, bs, pc, cc, pp, cp, pd, cd, h⟩ := h
  obtain ⟨c0, c1, c2, c3, c4, c5, c6⟩ := seven_cells h.blk
  have ld := lt_of_block h.blk
  have z4 := all_free h.blk 4
  have HH := Lib.hid h; have HF := Lib.hid hfr
  clear h hfr hC c0 c1 c2 c3 c5 c6
  go_enter Tryd.func20, Tryd.ntmps20
  go_wp2_with (go_at_call 39; refine hcl.mono ?_; rintro e w1 ⟨A', c', rfl, ho1, hb1⟩; have d4 := (hb1.cell (p := ⟨d, 4, none⟩) ld).trans c4; have y4 := (hb1.frozen (p := ⟨d, 4, none⟩) ld).trans z4; have hd1 := (hb1.block d ld).trans HH.out.blk)
  go_end0
  have hk : ∀ k, k ≠ d → (w1.setCell ⟨d, 4, none⟩ (.slice A' fs.length c')).heap[k]? = w1.heap[k]? := fun k hk => Below.heap_setCell _ _ _ _ hk
  have hA' : ∀ a, A' = some a → w.heap.size ≤ a.block := fun a ha => by subst ha; exact own_base ho1 _ rfl
  refine ⟨rfl, ⟨bn, bs, pc, cc, A', c', pd, cd, HH.out.setPlan (block_setCell hd1) (fun k hlt hne => (hk k hne).trans (hb1.block k hlt)) ?_ (fun a ha => HF.out _ (hA' a ha)) hf⟩, (Turn.of_below hb1).trans (Turn.setCell _ _ HH.out.od)⟩
  exact own_weaken (own_ext ho1 (fun a ha => hk _ (by have := hA' a ha; omega))) (Nat.zero_le _)
end Go.Proofs.YtgcpiofpjogjcaaDoor.PK
end
section
/-
  The steps of a disk, walked: an Append of which the room allows a part.
-/
namespace Go.Proofs.YtgcpiofpjogjcaaDoor.PK
open Go.RowKit Go.Maps Go.Proofs.YtgcpiofpjogjcaaDoorW.PrintWords Go.Proofs.YtgcpiofpjogjcaaDoorW.PrintLast Go.Proofs.YtgcpiofpjogjcaaDoorW.PrintMore
set_option linter.unusedVariables false
set_option linter.unusedSimpArgs false
variable {own : Nat → Prop} {w w' : World}
attribute [local go_sem] max2_int min2_int max_two min_two max_three min_three

theorem C_pre {α : Type} {k : Kd α} {A : Option Addr} {n p : Nat} {xs : List α} (h : k.C w A n xs) (hp : p ≤ n) : k.C w A p (xs.take p) := by
  obtain ⟨hl, hm, hc⟩ := h
  refine ⟨by rw [List.length_take]; omega, by omega, fun h0 => ?_⟩
  obtain ⟨ad, rfl, hr⟩ := hc (by omega)
  refine ⟨ad, rfl, fun j x hj => hr j x ?_⟩
  rw [List.getElem?_take] at hj
  split at hj
  · exact hj
  · cases hj
set_option maxRecDepth 100000 in
set_option maxHeartbeats 1600000 in
theorem append2_any (xb nb bb d : Nat) (S : Dk) (s : ByteArray) (A : Option Addr) (c : Nat) (bs : List Int) (n : Int) (w : World) (h : DiskAt w own d S) (hfr : Fresh own w) (hs : s.size ≤ 9223372036854775807)
    (hC : Kd.C (Kd.int .u8) w A bs.length bs) (hcc : bs.length ≤ c) (hby : ∀ x ∈ bs, 0 ≤ x ∧ x < 256)
    (hx : w.cell? ⟨xb, 0, none⟩ = some (.pointer (some ⟨d, 0, none⟩))) (hn : w.cell? ⟨nb, 0, none⟩ = some (.string s)) (hb : w.cell? ⟨bb, 0, none⟩ = some (.slice A bs.length c)) :
    Calls Tryd.prog 32 #[.int .i64 n, .pointer (some ⟨xb, 0, none⟩), .pointer (some ⟨nb, 0, none⟩), .pointer (some ⟨bb, 0, none⟩)] w fun e w' => e = .returned (.tuple #[]) ∧ DiskAt w' own d (S.parted s bs n) ∧ Turn own w w' := by
  have HW := h
  have hus := used_any (own := own) d S
  obtain ⟨bn, bs', pc, cc, pp, cp, pd, cd, h⟩ := h
  obtain ⟨c0, c1, c2, c3, c4, c5, c6⟩ := seven_cells h.blk
  have hlk2 : ∀ k, (Instr.lookup 55 (.map (some bn)) (.string s) false).run Tryd.prog (w.drewN k) = .ok (fileV (look S.now (key s))) (w.drewN k) := fun k => look_run (w := w.drewN k) (h.now) s hs
  have lx := World.block_lt_of_cell? w _ hx
  have ln := World.block_lt_of_cell? w _ hn
  have lb := World.block_lt_of_cell? w _ hb
  have ld := lt_of_block h.blk
  have r0 := h.room0
  have r1 := h.room1
  have hfc : ∀ p ∈ S.now, (S.dat p.2).length ≤ 140737488355328 := fun p hp => (h.files p.2 (h.ref _ (.inl ⟨p.1, hp⟩))).short
  have hsm := used_small S.dat S.now hfc
  have HS : used S.dat S.now ≤ 400 * 140737488355328 := Nat.le_trans hsm (Nat.mul_le_mul_right _ h.now1)
  have hbl : bs.length ≤ 9223372036854775807 := hC.2.1
  unfold Dk.parted
  have hff : ∀ f, look S.now (key s) = some f → FileIn w own f (pd f) (cd f) (S.dat f) (S.saf f) := fun f hf => h.files f (h.ref f (live_now hf))
  have hfs : ∀ f, look S.now (key s) = some f → S.fs f := fun f hf => h.ref f (live_now hf)
  have HH := Lib.hid h; have HF := Lib.hid hfr; have HA := Lib.hid HW; have HC := Lib.hid hC; have HFS := Lib.hid hfs; have HUS := Lib.hid hus; have HBY := Lib.hid hby
  clear h hfr HW hC hsm hfc hfs hus hby
  cases hl : look S.now (key s) with
  | none =>
    clear hff
    rw [hl] at hlk2
    simp only [fileV] at hlk2
    go_enter Tryd.func32, Tryd.ntmps32
    go_wp2
    go_quiet (fail)
    go_wp2
    go_end0
    exact ⟨rfl, HA.out.below (pw_below_drewN (Below.refl _ _) _), (Turn.refl _ _).drewN _⟩
  | some f =>
    rw [hl] at hlk2
    simp only [fileV] at hlk2
    have hf := hff f hl
    clear hff
    obtain ⟨f0, f1⟩ := two_cells hf.blk
    have z0 := all_free hf.blk 0
    have lf := hf.lt
    have hsh := hf.short
    have HFI := Lib.hid hf; have HL := Lib.hid hl
    clear hf hl
    have hus2 : ∀ k, Calls Tryd.prog 31 #[.pointer (some ⟨d, 0, none⟩)] (w.drewN k).drew fun e w' => e = .returned (.int .i64 (used S.dat S.now : Nat)) ∧ Below (w.drewN k).drew.heap.size (w.drewN k).drew w' := fun k => HUS.out _ (HA.out.below (pw_below_drewN (Below.refl _ _) (k + 1)))
    have npf : ∀ a, pd f = some a → a.block < w.heap.size ∧ a.block ≠ f := fun a ha => HFI.out.pblock ha
    have HNP := Lib.hid npf
    clear npf
    go_enter Tryd.func32, Tryd.ntmps32
    go_wp2
    go_quiet (fail)
    go_wp2
    -- REGION
    refine start_ (n := 23) (S := fun w' => w'.cell? ⟨xb, 0, none⟩ = some (.pointer (some ⟨d, 0, none⟩)) ∧ w'.cell? ⟨bb, 0, none⟩ = some (.slice A bs.length c) ∧ w'.cell? ⟨d, 0, none⟩ = some (.int .i64 S.room) ∧ w'.cell? ⟨f, 0, none⟩ = some (.slice (pd f) (S.dat f).length (cd f))) (ds := [19, 22]) #[false, false, false, false, false, false, false, false, false, false, false, false, false, false, false, false, false, false, false, false, false, false, false] (by kernel_rfl) rfl rfl ⟨hx, hb, c0, f0⟩ (fun hHeld => ?_)
    refine pure_ (i := 0) (N := some 14) (v := ?_) (a' := ?_) #[true, false, false, false, false, false, false, false, false, false, false, false, false, false, false, false, false, false, false, false, false, false, false] rfl rfl (by kernel_rfl) (fun _ _ _ h => h) (Or.inl ⟨by rfl, ?_⟩) ?_ ?_
    rotate_left
    · intro w'
      go_simp
      try with_reducible rfl
    rotate_left
    · simp only [Act.put, List.setIfInBounds_toArray, List.set_cons_zero, List.set_cons_succ]
      rfl
    refine pure_ (i := 1) (N := some 15) (v := ?_) (a' := ?_) #[true, true, false, false, false, false, false, false, false, false, false, false, false, false, false, false, false, false, false, false, false, false, false] rfl rfl (by kernel_rfl) (fun _ _ _ h => h) (Or.inl ⟨by rfl, ?_⟩) ?_ ?_
    rotate_left
    · intro w'
      go_simp
      try with_reducible rfl
    rotate_left
    · simp only [Act.put, List.setIfInBounds_toArray, List.set_cons_zero, List.set_cons_succ]
      rfl
    refine pure_ (i := 2) (N := some 16) (v := ?_) (a' := ?_) #[true, true, true, false, false, false, false, false, false, false, false, false, false, false, false, false, false, false, false, false, false, false, false] rfl rfl (by kernel_rfl) (fun _ _ _ h => h) (Or.inl ⟨by rfl, ?_⟩) ?_ ?_
    rotate_left
    · intro w'
      go_simp
      try with_reducible rfl
    rotate_left
    · simp only [Act.put, List.setIfInBounds_toArray, List.set_cons_zero, List.set_cons_succ]
      rfl
    refine pure_ (i := 3) (N := some 17) (v := ?_) (a' := ?_) #[true, true, true, true, false, false, false, false, false, false, false, false, false, false, false, false, false, false, false, false, false, false, false] rfl rfl (by kernel_rfl) (fun _ _ _ h => h) (Or.inl ⟨by rfl, ?_⟩) ?_ ?_
    rotate_left
    · intro w'
      go_simp
      try with_reducible rfl
    rotate_left
    · simp only [Act.put, List.setIfInBounds_toArray, List.set_cons_zero, List.set_cons_succ]
      rfl
    refine pure_ (i := 6) (N := some 20) (v := ?_) (a' := ?_) #[true, true, true, true, false, false, true, false, false, false, false, false, false, false, false, false, false, false, false, false, false, false, false] rfl rfl (by kernel_rfl) (fun _ _ _ h => h) (Or.inl ⟨by rfl, ?_⟩) ?_ ?_
    rotate_left
    · intro w'
      go_simp
      try with_reducible rfl
    rotate_left
    · simp only [Act.put, List.setIfInBounds_toArray, List.set_cons_zero, List.set_cons_succ]
      rfl
    refine take_ (i := 4) (N := some 18) (v := ?_) (a' := ?_) #[true, true, true, true, true, false, true, false, false, false, false, false, false, false, false, false, false, false, false, false, false, false, false] rfl rfl (by kernel_rfl) (fun _ _ _ h => h) (Or.inl ⟨by rfl, ?_⟩) hHeld ?_ ?_
    rotate_left
    · rintro w' ⟨s0, s1, s2, s3⟩
      go_simp
      try with_reducible rfl
    rotate_left
    · simp only [Act.put, List.setIfInBounds_toArray, List.set_cons_zero, List.set_cons_succ]
      rfl
    refine take_ (i := 5) (N := some 19) (v := ?_) (a' := ?_) #[true, true, true, true, true, true, true, false, false, false, false, false, false, false, false, false, false, false, false, false, false, false, false] rfl rfl (by kernel_rfl) (fun _ _ _ h => h) (Or.inl ⟨by rfl, ?_⟩) hHeld ?_ ?_
    rotate_left
    · rintro w' ⟨s0, s1, s2, s3⟩
      go_simp
      try with_reducible rfl
    rotate_left
    · simp only [Act.put, List.setIfInBounds_toArray, List.set_cons_zero, List.set_cons_succ]
      rfl
    refine take_ (i := 7) (N := some 21) (v := ?_) (a' := ?_) #[true, true, true, true, true, true, true, true, false, false, false, false, false, false, false, false, false, false, false, false, false, false, false] rfl rfl (by kernel_rfl) (fun _ _ _ h => h) (Or.inl ⟨by rfl, ?_⟩) hHeld ?_ ?_
    rotate_left
    · rintro w' ⟨s0, s1, s2, s3⟩
      go_simp
      try with_reducible rfl
    rotate_left
    · simp only [Act.put, List.setIfInBounds_toArray, List.set_cons_zero, List.set_cons_succ]
      rfl
    refine pure_ (i := 8) (N := some 22) (v := ?_) (a' := ?_) #[true, true, true, true, true, true, true, true, true, false, false, false, false, false, false, false, false, false, false, false, false, false, false] rfl rfl (by kernel_rfl) (fun _ _ _ h => h) (Or.inl ⟨by rfl, ?_⟩) ?_ ?_
    rotate_left
    · intro w'
      go_simp
      try with_reducible rfl
    rotate_left
    · simp only [Act.put, List.setIfInBounds_toArray, List.set_cons_zero, List.set_cons_succ]
      rfl
    refine take_ (i := 9) (N := some 23) (v := ?_) (a' := ?_) #[true, true, true, true, true, true, true, true, true, true, false, false, false, false, false, false, false, false, false, false, false, false, false] rfl rfl (by kernel_rfl) (fun _ _ _ h => h) (Or.inl ⟨by rfl, ?_⟩) hHeld ?_ ?_
    rotate_left
    · rintro w' ⟨s0, s1, s2, s3⟩
      go_simp
      try with_reducible rfl
    rotate_left
    · simp only [Act.put, List.setIfInBounds_toArray, List.set_cons_zero, List.set_cons_succ]
      rfl
    refine pure_ (i := 10) (N := some 24) (v := ?_) (a' := ?_) #[true, true, true, true, true, true, true, true, true, true, true, false, false, false, false, false, false, false, false, false, false, false, false] rfl rfl (by kernel_rfl) (fun _ _ _ h => h) (Or.inl ⟨by rfl, ?_⟩) ?_ ?_
    rotate_left
    · intro w'
      go_simp
      try with_reducible rfl
    rotate_left
    · simp only [Act.put, List.setIfInBounds_toArray, List.set_cons_zero, List.set_cons_succ]
      rfl
    refine pure_ (i := 11) (N := some 25) (v := ?_) (a' := ?_) #[true, true, true, true, true, true, true, true, true, true, true, true, false, false, false, false, false, false, false, false, false, false, false] rfl rfl (by kernel_rfl) (fun _ _ _ h => h) (Or.inl ⟨by rfl, ?_⟩) ?_ ?_
    rotate_left
    · intro w'
      go_simp
      try with_reducible rfl
    rotate_left
    · simp only [Act.put, List.setIfInBounds_toArray, List.set_cons_zero, List.set_cons_succ]
      rfl
    refine take_ (i := 12) (N := some 26) (v := ?_) (a' := ?_) #[true, true, true, true, true, true, true, true, true, true, true, true, true, false, false, false, false, false, false, false, false, false, false] rfl rfl (by kernel_rfl) (fun _ _ _ h => h) (Or.inl ⟨by rfl, ?_⟩) hHeld ?_ ?_
    rotate_left
    · rintro w' ⟨s0, s1, s2, s3⟩
      go_simp
      try with_reducible rfl
    rotate_left
    · simp only [Act.put, List.setIfInBounds_toArray, List.set_cons_zero, List.set_cons_succ]
      rfl
    refine take_ (i := 13) (N := some 27) (v := ?_) (a' := ?_) #[true, true, true, true, true, true, true, true, true, true, true, true, true, true, false, false, false, false, false, false, false, false, false] rfl rfl (by kernel_rfl) (fun _ _ _ h => h) (Or.inl ⟨by rfl, ?_⟩) hHeld ?_ ?_
    rotate_left
    · rintro w' ⟨s0, s1, s2, s3⟩
      go_simp
      try with_reducible rfl
    rotate_left
    · simp only [Act.put, List.setIfInBounds_toArray, List.set_cons_zero, List.set_cons_succ]
      rfl
    refine one_ (i := 14) (N := some 28) #[true, true, true, true, true, true, true, true, true, true, true, true, true, true, true, false, false, false, false, false, false, false, false] rfl rfl (by kernel_rfl) (by decide) (fun K hK => ?_)
    refine goes_ Tryd.func31 (by kernel_rfl) rfl #[.pointer (some ⟨d, 0, none⟩)] (by rfl) rfl rfl (by kernel_rfl) ?_
    refine (hus2 _).mono ?_
    rintro e w1 ⟨rfl, hb1⟩
    refine ⟨_, rfl, ?_⟩
    have x1 := (hb1.cell (p := ⟨xb, 0, none⟩) lx).trans hx
    have b1 := (hb1.cell (p := ⟨bb, 0, none⟩) lb).trans hb
    have d1 := (hb1.cell (p := ⟨d, 0, none⟩) ld).trans c0
    have g0 := (hb1.cell (p := ⟨f, 0, none⟩) lf).trans f0
    refine hK.out _ _ ⟨x1, b1, d1, g0⟩ (fun hHeld => ?_)
    clear hK K
    refine norm_ (a' := ?_) ?_ ?_
    rotate_left
    · show Act.put _ (some 28) _ = _
      simp only [Act.put, List.setIfInBounds_toArray, List.set_cons_zero, List.set_cons_succ]
      rfl
    refine pure_ (i := 15) (N := some 29) (v := ?_) (a' := ?_) #[true, true, true, true, true, true, true, true, true, true, true, true, true, true, true, true, false, false, false, false, false, false, false] rfl rfl (by kernel_rfl) (fun _ _ _ h => h) (Or.inl ⟨by rfl, ?_⟩) ?_ ?_
    rotate_left
    · intro w'
      go_simp
      try with_reducible rfl
    rotate_left
    · simp only [Act.put, List.setIfInBounds_toArray, List.set_cons_zero, List.set_cons_succ]
      rfl
    refine pure_ (i := 16) (N := some 30) (v := ?_) (a' := ?_) #[true, true, true, true, true, true, true, true, true, true, true, true, true, true, true, true, true, false, false, false, false, false, false] rfl rfl (by kernel_rfl) (fun _ _ _ h => h) (Or.inl ⟨by rfl, ?_⟩) ?_ ?_
    rotate_left
    · intro w'
      go_simp
      try with_reducible rfl
    rotate_left
    · simp only [Act.put, List.setIfInBounds_toArray, List.set_cons_zero, List.set_cons_succ]
      rfl
    refine pure_ (i := 17) (N := some 31) (v := ?_) (a' := ?_) #[true, true, true, true, true, true, true, true, true, true, true, true, true, true, true, true, true, true, false, false, false, false, false] rfl rfl (by kernel_rfl) (fun _ _ _ h => h) (Or.inl ⟨by rfl, ?_⟩) ?_ ?_
    rotate_left
    · intro w'
      go_simp
      try with_reducible rfl
    rotate_left
    · simp only [Act.put, List.setIfInBounds_toArray, List.set_cons_zero, List.set_cons_succ]
      rfl
    have hwr : IntKind.i64.wrap (S.room - ↑(used S.dat S.now)) = S.room - ↑(used S.dat S.now) := IntWalk.i64_in _ ⟨by omega, by omega⟩
    have hpv : (if 0 < if IntKind.i64.wrap (S.room - ↑(used S.dat S.now)) < if ↑bs.length < n then ↑bs.length else n then IntKind.i64.wrap (S.room - ↑(used S.dat S.now)) else if ↑bs.length < n then ↑bs.length else n then if IntKind.i64.wrap (S.room - ↑(used S.dat S.now)) < if ↑bs.length < n then ↑bs.length else n then IntKind.i64.wrap (S.room - ↑(used S.dat S.now)) else if ↑bs.length < n then ↑bs.length else n else 0) = ((S.partN n bs.length : Nat) : Int) := by
      rw [hwr]
      unfold Dk.partN
      generalize S.room - ↑(used S.dat S.now) = r
      rw [Int.toNat_of_nonneg (by omega)]
      repeat' split
      all_goals omega
    have hpl : S.partN n bs.length ≤ bs.length := by unfold Dk.partN; omega
    have hpr : 0 < S.partN n bs.length → used S.dat S.now + S.partN n bs.length ≤ S.room := by unfold Dk.partN; omega
    rw [hpv]
    clear hpv hwr
    obtain ⟨p, hp⟩ : ∃ p, p = S.partN n bs.length := ⟨_, rfl⟩
    rw [← hp] at hpl hpr ⊢
    have HP := Lib.hid hp
    clear hp
    have hpc : p ≤ c := by omega
    refine pure_ (i := 18) (N := some 32) (v := ?_) (a' := ?_) #[true, true, true, true, true, true, true, true, true, true, true, true, true, true, true, true, true, true, true, false, false, false, false] rfl rfl (by kernel_rfl) (fun _ _ _ h => h) (Or.inl ⟨by rfl, ?_⟩) ?_ ?_
    rotate_left
    · intro w'
      go_simp
      try with_reducible rfl
    rotate_left
    · simp only [Act.put, List.setIfInBounds_toArray, List.set_cons_zero, List.set_cons_succ]
      rfl
    have hb1w : Below w.heap.size w w1 := below_then (pw_below_drewN (Below.refl _ _) (nq + 1)) (Nat.le_refl _) hb1
    have hown1 : w1.ownsRow 0 5 1 (.slice (pd f) (S.dat f).length (cd f)) (S.dat f).length (nums .u8 (S.dat f)) := own_ext HFI.out.row (fun a ha => hb1w.block _ (HNP.out a ha).1)
    have hC1 : Kd.C (Kd.int .u8) w1 A p (bs.take p) := C_pre (Kd.C_below HC.out hb1w) hpl
    have lf1 : f < w1.heap.size := Nat.lt_of_lt_of_le lf hb1w.size
    have nfo : some f ≠ (Value.slice (pd f) (S.dat f).length (cd f)).ownBlock := by
      cases hpf : pd f with
      | none => simp [Value.ownBlock]
      | some a => simp only [Value.ownBlock, ne_eq, Option.some.injEq]; exact fun e => (HNP.out a hpf).2 e.symm
    have hlen : (S.dat f).length + p ≤ 140737488355328 := by
      have := used_ge S.dat (look_mem HL.out)
      rcases Nat.eq_zero_or_pos p with h0 | h0
      · omega
      · have h1 := hpr h0; omega
    refine last_ (i := 19) (N := some 33) #[true, true, true, true, true, true, true, true, true, true, true, true, true, true, true, true, true, true, true, true, false, false, false] rfl rfl (by kernel_rfl) (by decide) (fun K hK => ?_)
    refine step_append_bytes w1 (by rfl) (.tmp 18) (.tmp 32) (by rfl) 0 (by rfl) hown1 (by rfl) hC1 (by omega) (by omega) ?_
    intro A' c' w3 hown3 hgrow hat
    have g3 := (hgrow.cell_far ⟨f, 0, none⟩ lf1 nfo).trans g0
    have y3 : w3.frozen? ⟨f, 0, none⟩ = false := (hgrow.frozen_far ⟨f, 0, none⟩ lf1 nfo).trans ((hb1.frozen (p := ⟨f, 0, none⟩) lf).trans z0)
    refine hK.out _ _ ?_
    clear hK K
    refine norm_ (a' := ?_) ?_ ?_
    rotate_left
    · show Act.put _ (some 33) _ = _
      simp only [Act.put, List.setIfInBounds_toArray, List.set_cons_zero, List.set_cons_succ]
      rfl
    refine pure_ (i := 20) (N := some 34) (v := ?_) (a' := ?_) #[true, true, true, true, true, true, true, true, true, true, true, true, true, true, true, true, true, true, true, true, true, false, false] rfl rfl (by kernel_rfl) (fun _ _ _ h => h) (Or.inl ⟨by rfl, ?_⟩) ?_ ?_
    rotate_left
    · intro w'
      go_simp
      try with_reducible rfl
    rotate_left
    · simp only [Act.put, List.setIfInBounds_toArray, List.set_cons_zero, List.set_cons_succ]
      rfl
    refine pure_ (i := 21) (N := some 35) (v := ?_) (a' := ?_) #[true, true, true, true, true, true, true, true, true, true, true, true, true, true, true, true, true, true, true, true, true, true, false] rfl rfl (by kernel_rfl) (fun _ _ _ h => h) (Or.inl ⟨by rfl, ?_⟩) ?_ ?_
    rotate_left
    · intro w'
      go_simp
      try with_reducible rfl
    rotate_left
    · simp only [Act.put, List.setIfInBounds_toArray, List.set_cons_zero, List.set_cons_succ]
      rfl
    refine last_ (i := 22) (N := none) #[true, true, true, true, true, true, true, true, true, true, true, true, true, true, true, true, true, true, true, true, true, true, true] rfl rfl (by kernel_rfl) (by decide) (fun K hK => ?_)
    refine skip_ (w1 := ?_) (by rfl) rfl ?_ ?_
    rotate_left
    · go_simp
      rfl
    refine hK.out _ _ ?_
    clear hK K
    refine done_ (by kernel_rfl) ?_
    go_end0
    have hpe : (bs.take p).length = p := by rw [List.length_take]; omega
    obtain ⟨hD, hT⟩ := DiskIn.grown (bs := bs.take p) (A' := A') (c' := c') HH.out HF.out (HFS.out f HL.out) (w1 := w1) hb1w (by rw [hpe]; exact hown3) hgrow hat (by rw [hpe]; exact hlen) (fun x hx => HBY.out x (List.mem_of_mem_take hx))
    rw [hpe] at hD hT
    rw [HP.out] at hD hT ⊢
    exact ⟨rfl, hD, hT⟩
end Go.Proofs.YtgcpiofpjogjcaaDoor.PK
end
section
/-
  Append under every fate.
-/
namespace Go.Proofs.YtgcpiofpjogjcaaDoor.PK
open Go.RowKit Go.Maps Go.Proofs.YtgcpiofpjogjcaaDoorW.PrintWords
set_option linter.unusedVariables false
set_option linter.unusedSimpArgs false
variable {own : Nat → Prop} {w w' : World}

set_option maxRecDepth 100000 in
set_option maxHeartbeats 1600000 in
theorem append_all (d : Nat) (S : Dk) (s : ByteArray) (A : Option Addr) (c : Nat) (bs : List Int) (w : World) (h : DiskAt w own d S) (hfr : Fresh own w) (hs : s.size ≤ 9223372036854775807) (hC : Kd.C (Kd.int .u8) w A bs.length bs) (hby : ∀ x ∈ bs, 0 ≤ x ∧ x < 256) (hA : ∀ a, A = some a → a.block ≠ d) (hcc : bs.length ≤ c) (hst : S.steps ≤ 4611686018427387904) (hpl : S.plan.length ≤ 4611686018427387904) :
    Calls Tryd.prog 8 #[.pointer (some ⟨d, 0, none⟩), .string s, .slice A bs.length c] w fun e w' => ∃ x S', e = .returned (.int .i64 x) ∧ S.stepSaid (S.stepped.appE s bs.length) (fun T => T = S.stepped.appended s bs) (fun n T => T = S.stepped.parted s bs n) x S' ∧ DiskAt w' own d S' ∧ Turn own w w' := by
  obtain ⟨wb, hwb⟩ : ∃ wb, wb = ((w.alloc (.cells #[.pointer (some ⟨d, 0, none⟩)] 26)).alloc (.cells #[.string s] 9)).alloc (.cells #[.slice A bs.length c] 22) := ⟨_, rfl⟩
  have hwbs : wb.heap.size = w.heap.size + 3 := by rw [hwb]; simp
  have hbb : Below w.heap.size w wb := by rw [hwb]; exact (((Below.refl _ _).alloc (Nat.le_refl _) _).alloc (by simp) _).alloc (by simp; omega) _
  have x0 : wb.cell? ⟨w.heap.size, 0, none⟩ = some (.pointer (some ⟨d, 0, none⟩)) := by rw [hwb]; exact cell_old (cell_old (cell_new _ _ _ _ (rfl)))
  have x1 : wb.cell? ⟨w.heap.size + 1, 0, none⟩ = some (.string s) := by rw [hwb]; exact cell_old (cell_new _ _ _ _ (by simp))
  have x2 : wb.cell? ⟨w.heap.size + 2, 0, none⟩ = some (.slice A bs.length c) := by rw [hwb]; exact cell_new _ _ _ _ (by simp)
  have ld := h.flag.2.2
  have hcall := step_any d 30 32 #[.pointer (some ⟨w.heap.size, 0, none⟩), .pointer (some ⟨w.heap.size + 1, 0, none⟩), .pointer (some ⟨w.heap.size + 2, 0, none⟩)] #[.pointer (some ⟨w.heap.size, 0, none⟩), .pointer (some ⟨w.heap.size + 1, 0, none⟩), .pointer (some ⟨w.heap.size + 2, 0, none⟩)] S (S.stepped.appE s bs.length) (fun T => T = S.stepped.appended s bs) (fun n T => T = S.stepped.parted s bs n) wb (h.below hbb) (hfr.step (by omega)) hst hpl
    (fun w1 h1 f1 k1 => (append1_any _ _ _ d S.stepped s A c bs w1 h1 f1 hs (C_move (Kd.C_below hC hbb) (fun a ha hl => k1 _ hl (hA a ha))) hby ((World.cell?_of_block (w := wb) (a := ⟨w.heap.size, 0, none⟩) (k1 _ (by simp only; omega) (by simp only; omega))).trans x0) ((World.cell?_of_block (w := wb) (a := ⟨w.heap.size + 1, 0, none⟩) (k1 _ (by simp only; omega) (by simp only; omega))).trans x1) ((World.cell?_of_block (w := wb) (a := ⟨w.heap.size + 2, 0, none⟩) (k1 _ (by simp only; omega) (by simp only; omega))).trans x2)).mono fun e w2 ⟨he, h2, t2⟩ => ⟨he, _, rfl, h2, t2⟩)
    (fun _ w1 n h1 f1 k1 => (append2_any _ _ _ d S.stepped s A c bs n w1 h1 f1 hs (C_move (Kd.C_below hC hbb) (fun a ha hl => k1 _ hl (hA a ha))) hcc hby ((World.cell?_of_block (w := wb) (a := ⟨w.heap.size, 0, none⟩) (k1 _ (by simp only; omega) (by simp only; omega))).trans x0) ((World.cell?_of_block (w := wb) (a := ⟨w.heap.size + 1, 0, none⟩) (k1 _ (by simp only; omega) (by simp only; omega))).trans x1) ((World.cell?_of_block (w := wb) (a := ⟨w.heap.size + 2, 0, none⟩) (k1 _ (by simp only; omega) (by simp only; omega))).trans x2)).mono fun e w2 ⟨he, h2, t2⟩ => ⟨he, _, rfl, h2, t2⟩)
    (enters_of Tryd.func30 (by kernel_rfl) rfl) (enters_of Tryd.func32 (by kernel_rfl) rfl)
  have tb : Turn own w wb := Turn.of_below hbb
  have X1 := Lib.hid x1
  have X2 := Lib.hid x2
  clear hbb x1 x2
  go_enter Tryd.func8, Tryd.ntmps8
  go_upto_region 1 with fail
  simp only [← hwb]
  have HWB := Lib.hid hwb
  clear hwb
  go_wp2_with (first
    | (go_at_call 25; refine hcall.mono ?_; rintro e w2 ⟨x, T, rfl, hT, h2, t2⟩))
  go_ret
  exact ⟨x, T, rfl, hT, h2, tb.trans t2⟩

end Go.Proofs.YtgcpiofpjogjcaaDoor.PK
end
section
/-
  The document's example, walked: begun, alive.
-/
namespace Go.Proofs.YtgcpiofpjogjcaaDoor.PK
open Go.RowKit Go.Maps Go.Sort Go.Proofs.YtgcpiofpjogjcaaDoorW.PrintWords
set_option linter.unusedVariables false
set_option linter.unusedSimpArgs false
variable {own : Nat → Prop} {w w' : World}

theorem C_row {k : IntKind} {w : World} {b : Nat} {xs : List Int} {cs : Array Value} {t : TypeId} {m : Nat × Nat} (h : w.heap[b]? = some (.cells cs t m)) (hc : ∀ i, i < xs.length → cs[i]? = some (.int k (xs.getD i 0))) (hl : xs.length ≤ 1000000) : Kd.C (Kd.int k) w (some ⟨b, 0, none⟩) xs.length xs := by
  refine Kd.C_of_reads (d := (0 : Int)) ⟨rfl, by omega, fun _ => ⟨_, rfl, fun j hj => ?_⟩⟩
  have : (⟨b, 0, none⟩ : Addr).add j = ⟨b, j, none⟩ := by unfold Addr.add; split <;> simp_all
  rw [this]
  simp only [World.cell?, h]
  exact hc j hj
theorem C_row_u8 {w : World} (xs : List Int) {cs : Array Value} {t : TypeId} {m : Nat × Nat} (hc : cs = (xs.map (Value.int .u8)).toArray) (hl : xs.length ≤ 1000000) : Kd.C (Kd.int .u8) (w.alloc (.cells cs t m)) (some ⟨w.heap.size, 0, none⟩) xs.length xs :=
  C_row (heap_alloc_new w _) (fun i hi => by subst hc; simp [List.getD_eq_getElem?_getD, List.getElem?_eq_getElem hi]) hl
theorem C_row_i64 {w : World} (xs : List Int) {cs : Array Value} {t : TypeId} {m : Nat × Nat} (hc : cs = (xs.map (Value.int .i64)).toArray) (hl : xs.length ≤ 1000000) : Kd.C (Kd.int .i64) (w.alloc (.cells cs t m)) (some ⟨w.heap.size, 0, none⟩) xs.length xs :=
  C_row (heap_alloc_new w _) (fun i hi => by subst hc; simp [List.getD_eq_getElem?_getD, List.getElem?_eq_getElem hi]) hl
theorem DiskAt.alloc {d : Nat} {S : Dk} (h : DiskAt w own d S) (o : Obj) : DiskAt (w.alloc o) own d S := h.below ((Below.refl _ _).alloc (Nat.le_refl _) _)
theorem away {w : World} {d : Nat} (h : d < w.heap.size) : ∀ a : Addr, some (⟨w.heap.size, 0, none⟩ : Addr) = some a → a.block ≠ d := fun a ha => by injection ha with ha; subst ha; simp only; omega
theorem DiskAt.lt {d : Nat} {S : Dk} (h : DiskAt w own d S) : d < w.heap.size := h.flag.2.2
theorem new_calm (room : Int) : (Dk.new room).calm := ⟨rfl, rfl⟩

def Begun (w : World) (e : Ending) (w' : World) : Prop := ∃ d S g, e = .returned (.pointer (some ⟨d, 0, none⟩)) ∧ One S 10 5 [97] g [120, 121, 122, 117] 4 [([97], g)] [] ∧ DiskAt w' (fun k => w.heap.size ≤ k) d S ∧ Turn (fun k => w.heap.size ≤ k) w w'
set_option maxRecDepth 100000 in
set_option maxHeartbeats 3200000 in
theorem begun_any (w : World) : Calls Tryd.prog 22 #[] w (Begun w) := by
  have hfr : Fresh (fun k => w.heap.size ≤ k) w := fun k hk => hk
  have HF := Lib.hid hfr
  have hnew := new_any (own := fun k => w.heap.size ≤ k) 10 w hfr
  clear hfr
  have hk : ∀ (W : World) (C : Array Value) (n c k : Nat), W.heap.size = k → (convert 22 22 (.slice (some ⟨k, 0, none⟩) n c)).run Tryd.prog (W.alloc (.cells C 5)) = .ok (.slice (some ⟨k, 0, none⟩) n c) (W.alloc (.cells C 5 (C.size, C.size + 1))) := by
    rintro W C n c k rfl
    exact Lib.run_convert_bytes_const (P := Tryd.prog) W 22 5 C n c Tryd.underlying22 Tryd.underlying5
  go_enter Tryd.func22, Tryd.ntmps22
  go_wp2_with fail
  go_at_call 6
  refine hnew.mono ?_
  rintro e w1 ⟨d, hd, rfl, hD1, hb1⟩
  have t1 : Turn (fun k => w.heap.size ≤ k) w w1 := Turn.of_below hb1
  clear hnew
  go_wp2_with fail
  go_at_call 7
  refine (create_plain d _ ⟨#[97]⟩ w1 hD1 (HF.out.step t1.size) (new_calm 10) (by decide) (by decide) (by decide)).mono ?_
  rintro e w2 ⟨rfl, ⟨S2, hc2, hD2⟩, ht2⟩
  have t2 := t1.trans ht2
  obtain ⟨f, hO2⟩ := One.created (new_calm 10) rfl (by decide) (by decide +kernel) hc2
  have H2 : One S2 10 1 [97] f [] 0 [] [⟨⟨#[]⟩, ⟨#[97]⟩, some f⟩] := hO2
  have H2 := Lib.hid H2
  clear hO2 hc2 hD1 ht2
  have l2 := hD2.lt
  go_wp2_with fail
  go_at_call 8
  refine (append_one (bs := [120, 121, 122]) (hD2.below ((Below.refl _ _).alloc (Nat.le_refl _) _)) (HF.out.step (by have := t2.size; simp; omega)) H2.out (by rfl) (by decide) (C_row_u8 [120, 121, 122] rfl (by decide)) (by decide) (away l2) (by decide) (by decide)).mono ?_
  rintro e w3 ⟨rfl, ⟨S3, hO3, hD3⟩, ht3⟩
  have t3 := (t2.trans (Turn.alloc _)).trans ht3
  have H3 : One S3 10 2 [97] f [120, 121, 122] 0 [] [⟨⟨#[]⟩, ⟨#[97]⟩, some f⟩] := hO3
  have H3 := Lib.hid H3
  clear hO3 ht3 hD2 H2
  go_wp2_with fail
  go_at_call 10
  refine (sync_one hD3 (HF.out.step t3.size) H3.out (by rfl) (by decide) (by decide)).mono ?_
  rintro e w4 ⟨rfl, ⟨S4, hO4, hD4⟩, ht4⟩
  have t4 := t3.trans ht4
  have H4 : One S4 10 3 [97] f [120, 121, 122] 3 [] [⟨⟨#[]⟩, ⟨#[97]⟩, some f⟩] := hO4
  have H4 := Lib.hid H4
  clear hO4 ht4 hD3 H3
  go_wp2_with fail
  go_at_call 11
  refine (syncDir_one hD4 (HF.out.step t4.size) H4.out (by decide)).mono ?_
  rintro e w5 ⟨rfl, ⟨S5, hO5, hD5⟩, ht5⟩
  have t5 := t4.trans ht5
  have H5 : One S5 10 4 [97] f [120, 121, 122] 3 [([97], f)] [] := hO5
  have H5 := Lib.hid H5
  clear hO5 ht5 hD4 H4
  have l5 := hD5.lt
  go_wp2_with fail
  go_at_call 8
  refine (append_one (bs := [117, 118]) (hD5.below ((Below.refl _ _).alloc (Nat.le_refl _) _)) (HF.out.step (by have := t5.size; simp; omega)) H5.out (by rfl) (by decide) (C_row_u8 [117, 118] rfl (by decide)) (by decide) (away l5) (by decide) (by decide)).mono ?_
  rintro e w6 ⟨rfl, ⟨S6, hO6, hD6⟩, ht6⟩
  have t6 := (t5.trans (Turn.alloc _)).trans ht6
  have H6 : One S6 10 5 [97] f [120, 121, 122, 117, 118] 3 [([97], f)] [] := hO6
  have H6 := Lib.hid H6
  clear hO6 ht6 hD5 H5
  go_wp2_with fail
  go_at_call 12
  refine (on_one (ks := [0, 1]) (hD6.below ((Below.refl _ _).alloc (Nat.le_refl _) _)) (HF.out.step (by have := t6.size; simp; omega)) H6.out.calm.plan (C_row_i64 [0, 1] rfl (by decide)) (by decide) (by rw [H6.out.chg]; decide) (by rw [H6.out.safe]; simp) (show S6.leftDir [0, 1] = [([97], f)] from (by unfold Dk.leftDir; rw [H6.out.chg, H6.out.safe]; rfl))).mono ?_
  rintro e w7 ⟨rfl, ⟨S7, ⟨g, hO7⟩, hD7⟩, ht7⟩
  have t7 := (t6.trans (Turn.alloc _)).trans ht7
  have e1 : (S6.dat f).take (S6.leftLen [0, 1] 0 f) = [120, 121, 122, 117] := by unfold Dk.leftLen; rw [H6.out.dat, H6.out.saf]; rfl
  rw [e1, H6.out.room, H6.out.steps, hO7.now] at hO7
  have H7 : One S7 10 5 [97] g [120, 121, 122, 117] 4 [([97], g)] [] := hO7
  have H7 := Lib.hid H7
  clear hO7 ht7 hD6 H6 e1
  go_wp2_with fail
  go_ret
  exact ⟨d, S7, g, rfl, H7.out, hD7, t7⟩
end Go.Proofs.YtgcpiofpjogjcaaDoor.PK
end
section
/-
  The document's example, walked: alive.
-/
namespace Go.Proofs.YtgcpiofpjogjcaaDoor.PK
open Go.RowKit Go.Maps Go.Sort Go.Proofs.YtgcpiofpjogjcaaDoorW.PrintWords
set_option linter.unusedVariables false
set_option linter.unusedSimpArgs false
variable {own : Nat → Prop} {w w' : World}

theorem DiskAt.imp {own' : Nat → Prop} {d : Nat} {S : Dk} (h : DiskAt w own d S) (hi : ∀ k, k < w.heap.size → own k → own' k) : DiskAt w own' d S := by
  obtain ⟨bn, bs, pc, cc, pp, cp, pd, cd, h⟩ := h
  refine ⟨bn, bs, pc, cc, pp, cp, pd, cd, { h with
    files := fun f hf => by
      have hff := h.files f hf
      exact { hff with mine := hi _ hff.lt hff.mine, rown := fun a ha => hi _ (hff.pblock ha).1 (hff.rown a ha) }
    od := hi _ (lt_of_block h.blk) h.od
    on := hi _ h.now.lt h.on
    os := hi _ h.safe.lt h.os
    oc := fun a ha => hi _ (by
      have h1 := h.chg
      rw [ha] at h1
      obtain ⟨cur, hcur⟩ := ownsRow_blk h1
      exact lt_of_block hcur) (h.oc a ha)
    op := fun a ha => hi _ (by
      have h1 := h.plan
      rw [ha] at h1
      obtain ⟨cur, hcur⟩ := ownsRow_blk h1
      exact lt_of_block hcur) (h.op a ha) }⟩
/-- What a disk may turn behind a call that only makes memory: all but what that call has made. -/
def skip (own : Nat → Prop) (a b : Nat) : Nat → Prop := fun k => own k ∧ (k < a ∨ b ≤ k)
theorem DiskAt.skip {d : Nat} {S : Dk} {w2 : World} (h : DiskAt w own d S) (hb : Below w.heap.size w w2) : DiskAt w2 (skip own w.heap.size w2.heap.size) d S :=
  (h.imp (own' := PK.skip own w.heap.size w2.heap.size) (fun k hk ho => ⟨ho, .inl hk⟩)).below hb
theorem Fresh.skip {w2 : World} (h : Fresh own w) (hs : w.heap.size ≤ w2.heap.size) : Fresh (skip own w.heap.size w2.heap.size) w2 := fun k hk => ⟨h k (by omega), .inr hk⟩
theorem Turn.unskip {a b : Nat} {w1 w2 : World} (h : Turn (skip own a b) w1 w2) : Turn own w1 w2 := ⟨h.os, h.tape, h.output, h.size, fun k hk hn => h.block k hk (fun ho => hn ho.1)⟩
theorem row_C {base n : Nat} {k : IntKind} {A : Option Addr} {c : Nat} {xs : List Int} {e : TypeId} (h : w.ownsRow base e 1 (.slice A n c) n (nums k xs)) : Kd.C (Kd.int k) w A n xs ∧ n ≤ c := by
  have hl : xs.length = n := by have := h.1; rw [nums_length] at this; omega
  subst hl
  obtain ⟨A', c', he, hl, hr⟩ := Kd.R_reads (d := Kd.int k) (ok := fun _ => True) (Kd.R_of_own (h1 := fun _ => rfl) h (fun _ _ => trivial))
  injection he with he _ hc
  exact ⟨he ▸ hr, hc ▸ hl⟩

set_option maxRecDepth 100000 in
set_option maxHeartbeats 3200000 in
theorem alive_any (w : World) : Calls Tryd.prog 5 #[] w fun e w' => e = .returned (.bool true) ∧ Below w.heap.size w w' := by
  have hbeg := begun_any w
  have hk : ∀ (W : World) (C : Array Value) (n c k : Nat), W.heap.size = k → (convert 22 22 (.slice (some ⟨k, 0, none⟩) n c)).run Tryd.prog (W.alloc (.cells C 5)) = .ok (.slice (some ⟨k, 0, none⟩) n c) (W.alloc (.cells C 5 (C.size, C.size + 1))) := by
    rintro W C n c k rfl
    exact Lib.run_convert_bytes_const (P := Tryd.prog) W 22 5 C n c Tryd.underlying22 Tryd.underlying5
  go_enter Tryd.func5, Tryd.ntmps5
  go_wp2_with fail
  go_at_call 22
  refine hbeg.mono ?_
  rintro e w1 ⟨d, S1, g, rfl, hO, hD1, t1⟩
  have hF1 : Fresh (fun k => w.heap.size ≤ k) w1 := fun k hk => Nat.le_trans t1.size hk
  have H1 := Lib.hid hO; have F1 := Lib.hid hF1
  clear hO hF1 hbeg
  have hread := read_one (n := 4) hD1 H1.out (b := ⟨#[97]⟩) (by rfl) (by decide) (by decide)
  go_wp2_with fail
  go_at_call 14
  refine hread.mono ?_
  rintro e w2 ⟨A1, c1, rfl, hrow1, hb2⟩
  have hD2 := hD1.skip hb2
  have F2 := Lib.hid (F1.out.skip hb2.size)
  have hrow1 : w2.ownsRow w1.heap.size 5 1 (.slice A1 4 c1) 4 (nums .u8 [120, 121, 122, 117]) := hrow1
  have hC1 := (row_C hrow1).1
  have hb1 : ∀ a, A1 = some a → w1.heap.size ≤ a.block ∧ a.block < w2.heap.size := fun a ha => by
    subst ha
    exact ⟨own_base hrow1 _ rfl, own_lt hrow1 _ rfl⟩
  have R1 := Lib.hid hC1; have B1 := Lib.hid hb1; have BB := Lib.hid hb2
  clear hrow1 hC1 hb1 hb2 hD1 hread
  go_wp2_with fail
  go_at_call 7
  refine (create_duo hD2 F2.out H1.out).mono ?_
  rintro e w3 ⟨rfl, ⟨S3, ⟨h, hO3⟩, hD3⟩, t3⟩
  have F3 := Lib.hid (F2.out.step t3.size)
  have H3 := Lib.hid hO3; have T3 := Lib.hid t3
  clear hO3 t3 hD2 H1
  have l3 := hD3.lt
  go_wp2_with fail
  go_at_call 8
  refine (append_duo (hD3.below ((Below.refl _ _).alloc (Nat.le_refl _) _)) (F3.out.step (by simp)) H3.out (C_row_u8 [119] rfl (by decide)) (away l3)).mono ?_
  rintro e w4 ⟨rfl, ⟨S4, hO4, hD4⟩, t4⟩
  have t4 := (T3.out.trans (Turn.alloc _)).trans t4
  have F4 := Lib.hid (F2.out.step t4.size)
  have H4 := Lib.hid hO4; have T4 := Lib.hid t4
  clear hO4 t4 hD3 H3
  go_wp2_with fail
  go_at_call 10
  refine (sync_duo hD4 F4.out H4.out).mono ?_
  rintro e w5 ⟨rfl, ⟨S5, hO5, hD5⟩, t5⟩
  have t5 := T4.out.trans t5
  have F5 := Lib.hid (F2.out.step t5.size)
  have H5 := Lib.hid hO5; have T5 := Lib.hid t5
  clear hO5 t5 hD4 H4
  go_wp2_with fail
  go_at_call 21
  refine (rename_duo hD5 F5.out H5.out).mono ?_
  rintro e w6 ⟨rfl, ⟨S6, hO6, hD6⟩, t6⟩
  have t6 := T5.out.trans t6
  have F6 := Lib.hid (F2.out.step t6.size)
  have H6 := Lib.hid hO6; have T6 := Lib.hid t6
  clear hO6 t6 hD5 H5
  have l6 := hD6.lt
  go_wp2_with fail
  go_at_call 12
  refine (on_one (ks := [2]) (hD6.below ((Below.refl _ _).alloc (Nat.le_refl _) _)) (F6.out.step (by simp)) H6.out.plan (C_row_i64 [2] rfl (by decide)) (by decide) (by rw [H6.out.chg]; decide) (by rw [H6.out.safe]; decide) H6.out.left).mono ?_
  rintro e w7 ⟨rfl, ⟨S7, ⟨g7, hO7⟩, hD7⟩, t7⟩
  have t7 := (T6.out.trans (Turn.alloc _)).trans t7
  have e1 : (S6.dat h).take (S6.leftLen [2] 0 h) = [119] := by unfold Dk.leftLen; rw [H6.out.dat, H6.out.saf]; rfl
  rw [e1, H6.out.room, H6.out.steps] at hO7
  have H7 := Lib.hid hO7; have T7 := Lib.hid t7
  clear hO7 t7 hD6 H6 e1
  have hread := read_one (n := 1) hD7 H7.out (b := ⟨#[97]⟩) (by rfl) (by decide) (by decide)
  go_wp2_with fail
  go_at_call 14
  refine hread.mono ?_
  rintro e w8 ⟨A2, c2, rfl, hrow2, hb8⟩
  have hrow2 : w8.ownsRow w7.heap.size 5 1 (.slice A2 1 c2) 1 (nums .u8 [119]) := hrow2
  have hC2 := (row_C hrow2).1
  have hC1 : Kd.C (Kd.int .u8) w8 A1 4 [120, 121, 122, 117] := Kd.C_below (C_move R1.out (fun a ha hlt => T7.out.block _ hlt (fun ho => by have := B1.out a ha; have := ho.2; omega))) hb8
  have hv1 := Kd.C_string (P := Tryd.prog) (c := c1) Tryd.underlying22 Tryd.underlying5 Tryd.underlying9 hC1
  have hv2 := Kd.C_string (P := Tryd.prog) (c := c2) Tryd.underlying22 Tryd.underlying5 Tryd.underlying9 hC2
  rw [show strOfNums [120, 121, 122, 117] = ⟨#[120, 121, 122, 117]⟩ from by rfl] at hv1
  rw [show strOfNums [119] = ⟨#[119]⟩ from by rfl] at hv2
  have hD8 := hD7.below hb8
  have hfs := filesOf_any d S7 w8 hD8
  have B8 := Lib.hid hb8; have D8 := Lib.hid hD8
  clear hrow2 hC2 hC1 hb8 hread hD7 hD8
  go_wp2_with fail
  go_at_call 23
  refine hfs.mono ?_
  rintro e w9 ⟨A9, n9, c9, rfl, hR9, hb9⟩
  have hn9 : n9 = 1 := by
    obtain ⟨A', c', he⟩ := Kd.R_slice hR9
    injection he with _ he _
    rw [he]
    simp [listed, cont, H7.out.now]
  subst hn9
  have hst := steps_any d S7 w9 (D8.out.below hb9)
  rw [H7.out.steps] at hst
  have B9 := Lib.hid hb9
  clear hR9 hb9 hfs hv1 hv2
  go_wp2_with (go_at_call 24; refine hst.mono ?_; rintro e w10 ⟨rfl, rfl⟩)
  go_ret
  exact ⟨rfl, ((((t1.trans (Turn.of_below BB.out)).trans T7.out.unskip).trans (Turn.of_below B8.out)).trans (Turn.of_below B9.out)).below (fun k hk => hk) (Nat.le_refl _)⟩
end Go.Proofs.YtgcpiofpjogjcaaDoor.PK
end
section
/-
  The references' helpers (Copy, Same, Piece, Cat): their plain laws, and their calls.
-/
namespace Go.Proofs.YtgcpiofpjogjcaaDoor.PK
open Go.RowKit Go.Proofs.YtgcpiofpjogjcaaDoorW.PrintWords Go.Proofs.YtgcpiofpjogjcaaDoorW.PrintLast Go.Proofs.YtgcpiofpjogjcaaDoorW.PrintMore
set_option linter.unusedVariables false
set_option linter.unusedSimpArgs false
variable {own : Nat → Prop} {w w' : World}

theorem w64 {n : Int} (h0 : -9223372036854775808 ≤ n) (h1 : n ≤ 9223372036854775807) : wrap64 n = n := by unfold wrap64; omega
theorem w64s (i : Nat) (h : i < 9223372036854775807) : wrap64 ((i : Int) + 1) = ((i + 1 : Nat) : Int) := by rw [w64 (by omega) (by omega)]; omega
theorem rd_at {xs : List Int} {i : Nat} (h : i < xs.length) : rd xs (i : Int) = xs[i] := by
  simp [rd, List.getD, h]
theorem take_snoc {α : Type} (l : List α) (i : Nat) (h : i < l.length) : l.take i ++ [l[i]] = l.take (i + 1) := by
  rw [List.take_add_one, List.getElem?_eq_getElem h]; rfl
theorem copy_l0 (l : List Int) (hl : l.length ≤ 140737488355328) : ∀ n i, i + n = l.length → stoaref01_Copy.l0 (n + 1) l (l.take i) (i : Int) = some l := by
  intro n
  induction n with
  | zero =>
    intro i h
    unfold stoaref01_Copy.l0
    rw [if_neg (by omega), List.take_of_length_le (by omega)]
  | succ n ih =>
    intro i h
    unfold stoaref01_Copy.l0
    rw [if_pos (by omega), if_pos (by omega), if_pos (by rw [List.length_take]; omega), rd_at (by omega), take_snoc l i (by omega), w64s i (by omega)]
    exact ih (i + 1) (by omega)
theorem drop_yes {α : Type} [DecidableEq α] (a b : List α) (i : Nat) (ha : i < a.length) (hb : i < b.length) (h : a[i] = b[i]) : decide (a.drop i = b.drop i) = decide (a.drop (i + 1) = b.drop (i + 1)) := by
  have e1 := List.drop_eq_getElem_cons ha
  have e2 := List.drop_eq_getElem_cons hb
  rw [decide_eq_decide, e1, e2, h]
  exact ⟨fun h => (List.cons.inj h).2, fun h => by rw [h]⟩
theorem drop_no {α : Type} [DecidableEq α] (a b : List α) (i : Nat) (ha : i < a.length) (hb : i < b.length) (h : a[i] ≠ b[i]) : decide (a.drop i = b.drop i) = false := by
  have e1 := List.drop_eq_getElem_cons ha
  have e2 := List.drop_eq_getElem_cons hb
  rw [decide_eq_false_iff_not, e1, e2]
  exact fun h' => h (List.cons.inj h').1
theorem same_l0 (a b : List Int) (hab : a.length = b.length) (hl : a.length < 9223372036854775807) : ∀ n i, i + n = a.length → stoaref01_Same.l0 (n + 1) a b (i : Int) = some (decide (a.drop i = b.drop i)) := by
  intro n
  induction n with
  | zero =>
    intro i h
    unfold stoaref01_Same.l0
    rw [if_neg (by omega), List.drop_of_length_le (by omega), List.drop_of_length_le (by omega)]
    simp
  | succ n ih =>
    intro i h
    unfold stoaref01_Same.l0
    rw [if_pos (by omega), if_pos (by omega), if_pos (by omega), rd_at (by omega), rd_at (by omega)]
    by_cases he : a[i]'(by omega) = b[i]'(by omega)
    · rw [if_pos he, w64s i (by omega), ih (i + 1) (by omega), drop_yes a b i (by omega) (by omega) he]
    · rw [if_neg he, drop_no a b i (by omega) (by omega) he]
theorem same_law (a b : List Int) (hl : a.length < 9223372036854775807) : stoaref01_Same.f (a.length + 1) a b = some (decide (a = b)) := by
  unfold stoaref01_Same.f
  by_cases h : a.length = b.length
  · rw [if_pos (by omega)]
    exact same_l0 a b h hl a.length 0 (by omega)
  · rw [if_neg (by omega)]
    have : ¬ a = b := fun e => h (by rw [e])
    simp [this]
/-- Bytes that a call has made. -/
def BytesMade (xs : List Int) (w : World) (e : Ending) (w' : World) : Prop := ∃ A c, e = .returned (.slice A xs.length c) ∧ w'.ownsRow w.heap.size 5 1 (.slice A xs.length c) xs.length (nums .u8 xs) ∧ Below w.heap.size w w'
theorem made_of_R {xs : List Int} {e : Ending} {v : Value} (he : e = .returned v) (hR : Kd.R (Kd.int .u8) 5 w' w.heap.size (fun _ => True) v xs) (hb : Below w.heap.size w w') : BytesMade xs w e w' := by
  obtain ⟨A, c, rfl⟩ := Kd.R_slice hR
  exact ⟨A, c, he, Kd.own_of_R hR, hb⟩
theorem copy_any (A : Option Addr) (c : Nat) (xs : List Int) (w : World) (h : Kd.C (Kd.int .u8) w A xs.length xs) (hc : xs.length ≤ c) (hl : xs.length ≤ 140737488355328) :
    Calls Tryd.prog 9 #[.slice A xs.length c] w (BytesMade xs w) :=
  (stoaref01_Copy.calls (xs.length + 1) A c xs xs w h hc (copy_l0 xs hl xs.length 0 (by omega))).mono fun e w' ⟨v, he, hR, hb⟩ => made_of_R he hR hb
theorem same_any (A B : Option Addr) (c d : Nat) (a b : List Int) (w : World) (h : Kd.C (Kd.int .u8) w A a.length a) (hc : a.length ≤ c) (h2 : Kd.C (Kd.int .u8) w B b.length b) (hd : b.length ≤ d) (hl : a.length < 9223372036854775807) :
    Calls Tryd.prog 15 #[.slice A a.length c, .slice B b.length d] w fun e w' => e = .returned (.bool (decide (a = b))) ∧ Drawn0 w w' :=
  stoaref01_Same.calls (a.length + 1) A c a B d b _ w h hc h2 hd (same_law a b hl)
end Go.Proofs.YtgcpiofpjogjcaaDoor.PK
end
section
/-
  Arguments of any kind opened: a kind's cells out of what the claim says of a value.
-/
namespace Go.Proofs.YtgcpiofpjogjcaaDoor.PK
open Go.ChangeShapes Go.WideShapes Go.ChangeAt Go.RowKit Go.Deep Go.Proofs.YtgcpiofpjogjcaaDoorW.PrintWords
set_option linter.unusedVariables false
set_option linter.unusedSimpArgs false

theorem reachBytes_eq : reachBytes = 140737488351232 := by decide
theorem list_of {α : Type} {Q : Nat → α → Prop} : ∀ n, (∀ i, i < n → ∃ y, Q i y) → ∃ l : List α, l.length = n ∧ ∀ i y, l[i]? = some y → Q i y
  | 0, _ => ⟨[], rfl, fun i y h => (by simp at h)⟩
  | n + 1, h => by
    obtain ⟨l, h1, h2⟩ := list_of n (fun i hi => h i (by omega))
    obtain ⟨y, hy⟩ := h n (by omega)
    refine ⟨l ++ [y], by simp [h1], fun i z hz => ?_⟩
    by_cases hi : i < n
    · rw [List.getElem?_append_left (by omega)] at hz
      exact h2 i z hz
    · have : i = n := by
        have := (List.getElem?_eq_some_iff.1 hz).1
        simp [h1] at this
        omega
      subst this
      rw [List.getElem?_append_right (by omega), h1, Nat.sub_self] at hz
      simp at hz
      exact hz ▸ hy
section
variable {P : Program} {W : World}
/-- What the claim says of a value of type t gives kind k's cells, with G. -/
def Opens (P : Program) (W : World) {α : Type} (t : TypeId) (k : Kd α) (G : α → Prop) : Prop :=
  ∀ (H : Type) (enc : TypeId × Value → H) (fuel : Nat) (cs : List Value) (x : DataW H × List MemPlace), DataW.trod enc P W 0 (fun _ => true) true fuel t cs = some x → (x.1.weights P t).all (· ≤ reachBytes) = true → ∃ a, k.K W a cs ∧ G a
theorem Opens.imp {α : Type} {t : TypeId} {k : Kd α} {G G' : α → Prop} (h : Opens P W t k G) (hi : ∀ a, G a → G' a) : Opens P W t k G' := fun H enc fuel cs x hx hw => by
  obtain ⟨a, h1, h2⟩ := h H enc fuel cs x hx hw
  exact ⟨a, h1, hi a h2⟩
theorem opens_int {t : TypeId} {q : IntKind} (ht : P.underlying t = some (.int q)) : Opens P W t (Kd.int q) (fun n => (Lit.int q n).wf = true) := by
  intro H enc fuel cs x hx hw
  cases fuel with
  | zero => simp [DataW.trod] at hx
  | succ fuel =>
    unfold DataW.trod at hx
    rw [ht] at hx
    split at hx <;> simp_all
    rename_i k' n h1
    obtain ⟨⟨rfl, h2⟩, _⟩ := hx
    exact ⟨n, rfl, h2⟩
theorem weightsAll_mem {H : Type} {e : TypeId} : ∀ {l : List (DataW H)} {d : DataW H}, d ∈ l → ∀ n ∈ d.weights P e, n ∈ DataW.weightsAll P e l
  | [], d, hd, n, hn => by cases hd
  | d0 :: l, d, hd, n, hn => by
    rw [DataW.weightsAll, List.mem_append]
    rcases List.mem_cons.1 hd with rfl | hd
    · exact .inl hn
    · exact .inr (weightsAll_mem hd n hn)
theorem opens_slice {α : Type} {t e : TypeId} {k : Kd α} {G : α → Prop} {B : Nat} (ht : P.underlying t = some (.slice e)) (hk : Opens P W e k G) (hc : P.cellsOf e = k.sz) (hB : P.bytesOf e = B) : Opens P W t (Kd.slice e k) (fun l => (∀ a ∈ l, G a) ∧ l.length * B ≤ 140737488351232) := by
  intro H enc fuel cs x hx hw
  rcases open_slice ht hx with ⟨rfl, rfl⟩ | ⟨a, len, cap, m, n, D, Pl, rfl, _, hl, hm, hmm, rfl, hel⟩
  · exact ⟨[], ⟨none, 0, rfl, Nat.le_refl _, Kd.C_nil _ _⟩, ⟨fun a ha => (by cases ha), by simp⟩⟩
  · simp only [if_true] at hmm
    subst hmm
    simp only [DataW.weights, ht, List.length_map, List.length_range, List.all_cons, Bool.and_eq_true, decide_eq_true_eq, List.all_append] at hw
    obtain ⟨hw1, hw2, _⟩ := hw
    rw [hB] at hw1
    have hel' : ∀ i, i < len → ∃ y c, c.length = k.sz ∧ (∀ j u, c[j]? = some u → W.cell? (a.add (i * k.sz + j)) = some u) ∧ k.K W y c ∧ G y := by
      intro i hi
      obtain ⟨cs', h1, h2⟩ := hel i (by omega)
      obtain ⟨_, hlen, hcell⟩ := World.cells?_some h1
      rw [hc] at hlen hcell
      obtain ⟨y, hy, hG⟩ := hk H enc n cs' _ h2 (by
        rw [List.all_eq_true] at hw2 ⊢
        intro z hz
        exact hw2 z (weightsAll_mem (List.mem_map.2 ⟨i, List.mem_range.2 hi, rfl⟩) z hz))
      refine ⟨y, cs', hlen, fun j u hu => ?_, hy, hG⟩
      have hj : j < k.sz := by rw [← hlen]; exact (List.getElem?_eq_some_iff.1 hu).1
      have := hcell j hj
      rw [hu] at this
      rw [← this]
      congr 1
      exact (Go.Deep.add_add _ _ _).symm
    obtain ⟨l, hll, hlq⟩ := list_of len hel'
    refine ⟨l, ⟨some a, m, by rw [hll], by omega, ⟨rfl, by rw [hll]; unfold maxLen at hm; omega, fun _ => ⟨a, rfl, fun j p hj => ?_⟩⟩⟩, fun y hy => ?_, ?_⟩
    · obtain ⟨c, h1, h2, h3, _⟩ := hlq j p hj
      exact ⟨c, h1, h3, h2⟩
    · obtain ⟨j, hj, rfl⟩ := List.mem_iff_getElem.1 hy
      exact (hlq j _ (List.getElem?_eq_getElem hj)).choose_spec.2.2.2
    · rw [hll]
      have := reachBytes_eq
      refine Nat.le_trans (Nat.mul_le_mul_right _ (show len ≤ len + (m - len) by omega)) (by omega)
/-- A run of a struct's fields, from an offset on. -/
def OpensL (P : Program) (W : World) {α : Type} (fs : List Field) (off : Nat) (k : Kd α) (G : α → Prop) : Prop :=
  ∀ (H : Type) (enc : TypeId × Value → H) (n : Nat) (cs : List Value) (xs : List (DataW H × List MemPlace)), off + k.sz ≤ cs.length → xs.length = fs.length → (∀ (i : Nat) (f : Field), fs[i]? = some f → DataW.trod enc P W 0 (fun _ => true) true n f.type ((cs.drop f.offset).take (P.cellsOf f.type)) = xs[i]?) →
    (DataW.weightsEach P (fs.map (·.type)) (xs.map (·.1))).all (· ≤ reachBytes) = true → ∃ a, k.K W a ((cs.drop off).take k.sz) ∧ G a
theorem opensL_one {α : Type} {f : Field} {off : Nat} {k : Kd α} {G : α → Prop} (h : Opens P W f.type k G) (ho : f.offset = off) (hc : P.cellsOf f.type = k.sz) : OpensL P W [f] off k G := by
  intro H enc n cs xs hl hx hf hw
  match xs, hx with
  | [x], _ =>
    have h0 := hf 0 f rfl
    rw [ho, hc] at h0
    simp only [List.map_cons, List.map_nil, DataW.weightsEach, List.append_nil] at hw
    exact h H enc n _ x h0 hw
theorem opensL_cons {α β : Type} {f : Field} {r : List Field} {off : Nat} {k : Kd α} {G : α → Prop} {kr : Kd β} {Gr : β → Prop} (h : Opens P W f.type k G) (ho : f.offset = off) (hc : P.cellsOf f.type = k.sz) (hr : OpensL P W r (off + k.sz) kr Gr) : OpensL P W (f :: r) off (Kd.pair k kr) (fun p => G p.1 ∧ Gr p.2) := by
  intro H enc n cs xs hl hx hf hw
  match xs, hx with
  | x :: xs, hx =>
    have h0 := hf 0 f rfl
    rw [ho, hc] at h0
    simp only [List.map_cons, DataW.weightsEach, List.all_append, Bool.and_eq_true] at hw
    have hsz : (Kd.pair k kr).sz = k.sz + kr.sz := rfl
    rw [hsz] at hl ⊢
    obtain ⟨a, ha, hG⟩ := h H enc n _ x h0 hw.1
    obtain ⟨b, hb, hGr⟩ := hr H enc n cs xs (by omega) (by simpa using hx) (fun i g hg => hf (i + 1) g hg) hw.2
    refine ⟨(a, b), ⟨_, _, ?_, ha, hb⟩, hG, hGr⟩
    rw [List.take_add, List.drop_drop]
theorem opens_struct {α : Type} {t : TypeId} {fs : Array Field} {k : Kd α} {G : α → Prop} (ht : P.underlying t = some (.struct fs)) (hc : P.cellsOf t = k.sz) (h : OpensL P W fs.toList 0 k G) : Opens P W t k G := by
  intro H enc fuel cs x hx hw
  obtain ⟨xs, n, _, rfl, hl, hlen, hf⟩ := DataW.trod_struct ht hx
  rw [hc] at hl
  simp only [DataW.weights, ht] at hw
  obtain ⟨a, ha, hG⟩ := h H enc n cs xs (by omega) (by simpa using hlen) (fun i f hi => hf i f (by simpa using hi)) hw
  rw [List.drop_zero, List.take_of_length_le (by omega)] at ha
  exact ⟨a, ha, hG⟩
/-- A variable's value opened. -/
theorem open_var {α : Type} {H : Type} {enc : TypeId × Value → H} {t : TypeId} {k : Kd α} {G : α → Prop} (h : Opens P W t k G) {ts : List TypeId} {ds : List (DataW H)} {j : Nat} {d : DataW H} {v : Value} {ps : List MemPlace} (hsz : (DataW.weightsEach P ts ds).all (· ≤ reachBytes) = true) (ht : ts[j]? = some t) (hd : ds[j]? = some d)
    (hv : DataW.Trod enc P W 0 (fun _ => true) true t v d ps) : ∃ a, k.K W a v.cells.toList ∧ G a := by
  obtain ⟨fuel, hf⟩ := hv
  refine h H enc fuel _ _ hf ?_
  rw [List.all_eq_true] at hsz ⊢
  intro n hn
  exact hsz n (DataW.weights_mem_each ht hd n hn)
theorem slice_cells {α : Type} {e : Nat} {k : Kd α} {a : List α} {p : Option Addr} {len cap : Nat} (h : (Kd.slice e k).K W a (Value.slice p len cap).cells.toList) : len = a.length ∧ a.length ≤ cap ∧ k.C W p a.length a := by
  obtain ⟨A, c, he, hl, hC⟩ := h
  simp [Value.cells] at he
  obtain ⟨rfl, rfl, rfl⟩ := he
  exact ⟨rfl, hl, hC⟩
end
end Go.Proofs.YtgcpiofpjogjcaaDoor.PK
end
section
/-
  The arguments of the laws of disk, opened: files, calls, bytes, numbers.
-/
namespace Go.Proofs.YtgcpiofpjogjcaaDoor.PK
open Go.ChangeShapes Go.WideShapes Go.ChangeAt Go.RowKit Go.Deep Go.Proofs.YtgcpiofpjogjcaaDoorW.PrintWords
set_option linter.unusedVariables false
set_option linter.unusedSimpArgs false
variable {W : World}

theorem byte_wf {n : Int} (h : (Lit.int .u8 n).wf = true) : 0 ≤ n ∧ n < 256 := by
  simp only [Lit.wf, IntKind.min, IntKind.max, IntKind.signed, IntKind.bits, Bool.and_eq_true, decide_eq_true_eq] at h
  simp at h
  omega
def okBytes (l : List Int) : Prop := (∀ x ∈ l, 0 ≤ x ∧ x < 256) ∧ l.length ≤ 140737488351232
theorem opens_bytes : Opens Tryd.prog W 22 (Kd.slice 5 (Kd.int .u8)) okBytes :=
  (opens_slice (B := 1) Tryd.underlying22 (opens_int Tryd.underlying5) (by kernel_rfl) (by kernel_rfl)).imp fun l h => ⟨fun x hx => byte_wf (h.1 x hx), by have := h.2; omega⟩
theorem opens_ints : Opens Tryd.prog W 24 (Kd.slice 3 (Kd.int .i64)) (fun l => (∀ x ∈ l, (Lit.int .i64 x).wf = true) ∧ l.length * 8 ≤ 140737488351232) :=
  opens_slice Tryd.underlying24 (opens_int Tryd.underlying3) (by kernel_rfl) (by kernel_rfl)
/-- A fate, as the argument has it. -/
def kFate : Kd (Int × Int × Int) := Kd.pair (Kd.int .i64) (Kd.pair (Kd.int .i64) (Kd.int .i64))
set_option maxRecDepth 100000 in
theorem opens_fate : Opens Tryd.prog W 73 kFate (fun p => (Lit.int .i64 p.1).wf = true ∧ (Lit.int .i64 p.2.1).wf = true ∧ (Lit.int .i64 p.2.2).wf = true) :=
  opens_struct Tryd.underlying73 (by kernel_rfl) (opensL_cons (opens_int Tryd.underlying3) rfl (by kernel_rfl) (opensL_cons (opens_int Tryd.underlying3) rfl (by kernel_rfl) (opensL_one (opens_int Tryd.underlying3) rfl (by kernel_rfl))))
theorem opens_fates : Opens Tryd.prog W 43 (Kd.slice 73 kFate) (fun l => (∀ p ∈ l, (Lit.int .i64 p.1).wf = true ∧ (Lit.int .i64 p.2.1).wf = true ∧ (Lit.int .i64 p.2.2).wf = true) ∧ l.length * 24 ≤ 140737488351232) :=
  opens_slice Tryd.underlying43 opens_fate (by kernel_rfl) (by kernel_rfl)
end Go.Proofs.YtgcpiofpjogjcaaDoor.PK
end
section
/-
  DiskSwaps: the stages of a file that is swapped for another, as lists.
-/
namespace Go.Proofs.YtgcpiofpjogjcaaDoor.PK
open Go.RowKit Go.Maps Go.Sort Go.Proofs.YtgcpiofpjogjcaaDoorW.PrintWords
set_option linter.unusedVariables false
set_option linter.unusedSimpArgs false
variable {own : Nat → Prop} {w w' : World}

abbrev nmB : ByteArray := ⟨#[110, 97, 109, 101]⟩
abbrev tmB : ByteArray := ⟨#[116, 109, 112]⟩
abbrev nmK : List UInt8 := [110, 97, 109, 101]
abbrev tmK : List UInt8 := [116, 109, 112]
/-- A stage: the directories, the changes, the elder file. -/
structure Stg (S : Dk) (st : Int) (pl : List Fat) (now safe : Dir) (chg : List Chg) (f0 : Nat) (old : List Int) : Prop where
  room : S.room = 16777216
  steps : S.steps = st
  plan : S.plan = pl
  now : S.now = now
  safe : S.safe = safe
  chg : S.chg = chg
  dat : S.dat f0 = old
  saf : S.saf f0 = old.length
/-- Whatever a loss of power leaves, under the name lies one of X. -/
structure Good (S : Dk) (X : List Int → Prop) : Prop where
  chg : S.chg.length ≤ 2
  safe : S.safe.length ≤ 400
  left : ∀ ks, (S.leftDir ks).length ≤ 400 ∧ ∃ x, X x ∧ (nmK, x) ∈ S.leftCont ks
theorem Good.imp {S : Dk} {X Y : List Int → Prop} (h : Good S X) (hi : ∀ x, X x → Y x) : Good S Y := ⟨h.chg, h.safe, fun ks => by
  obtain ⟨h1, x, h2, h3⟩ := h.left ks
  exact ⟨h1, x, hi x h2, h3⟩⟩
theorem Good.off {S : Dk} {X : List Int → Prop} (h : Good S X) : Good { S with off := true } X := ⟨h.chg, h.safe, h.left⟩
theorem left_head {S : Dk} {ks : List Int} {f : Nat} {r : Dir} (hd : S.leftDir ks = (nmK, f) :: r) (hs : S.saf f = (S.dat f).length) : (nmK, S.dat f) ∈ S.leftCont ks := by
  unfold Dk.leftCont
  rw [hd, List.mapIdx_cons]
  unfold Dk.leftLen
  show _ ∈ (nmK, (S.dat f).take _) :: _
  refine List.mem_cons.2 (.inl ?_)
  rw [Prod.mk.injEq]
  refine ⟨rfl, ?_⟩
  refine (List.take_of_length_le ?_).symm
  simp only
  rw [hs]
  omega
theorem said_cases {S : Dk} {doE : Int} {doS : Dk → Prop} {paS : Int → Dk → Prop} {x : Int} {S' : Dk} (h : S.stepSaid doE doS paS x S') (hoff : S.off = false) :
    (x = doE ∧ doS S') ∨ (x ≠ 0 ∧ (S' = S.stepped ∨ (∃ n, paS n S') ∨ S' = { S.stepped with off := true } ∨ ∃ T, doS T ∧ S' = { T with off := true })) := by
  unfold Dk.stepSaid at h
  rw [hoff] at h
  simp only [Bool.false_eq_true, if_false] at h
  split at h
  · exact .inr ⟨by rw [h.1]; decide, .inl h.2⟩
  · split at h
    · exact .inr ⟨by rw [h.1]; decide, .inr (.inl ⟨_, h.2⟩)⟩
    · split at h
      · exact .inr ⟨by rw [h.1]; decide, .inr (.inr (.inl h.2))⟩
      · split at h
        · exact .inr ⟨by rw [h.1]; decide, .inr (.inr (.inr h.2))⟩
        · exact .inl h
section
variable {S S' : Dk} {st x : Int} {pl : List Fat} {f0 f1 s : Nat} {old fresh xs : List Int}
/-- Ahead of all. -/
def P0 (S : Dk) (st : Int) (pl : List Fat) (f0 : Nat) (old : List Int) : Prop := Stg S st pl [(nmK, f0)] [(nmK, f0)] [] f0 old
/-- With the other file. -/
structure P1 (S : Dk) (st : Int) (pl : List Fat) (f0 f1 : Nat) (old xs : List Int) (s : Nat) : Prop where
  stg : Stg S st pl [(nmK, f0), (tmK, f1)] [(nmK, f0)] [⟨⟨#[]⟩, tmB, some f1⟩] f0 old
  ne : f0 ≠ f1
  dat : S.dat f1 = xs
  saf : S.saf f1 = s
/-- Renamed. -/
structure P2 (S : Dk) (st : Int) (pl : List Fat) (f0 f1 : Nat) (old fresh : List Int) : Prop where
  stg : Stg S st pl [(nmK, f1)] [(nmK, f0)] [⟨⟨#[]⟩, tmB, some f1⟩, ⟨tmB, nmB, some f1⟩] f0 old
  dat : S.dat f1 = fresh
  saf : S.saf f1 = fresh.length
theorem P0.good (h : P0 S st pl f0 old) : Good S (· = old) := by
  refine ⟨by rw [h.chg]; simp, by rw [h.safe]; simp, fun ks => ?_⟩
  have hd : S.leftDir ks = [(nmK, f0)] := by unfold Dk.leftDir; rw [h.chg, List.take_nil]; exact h.safe
  refine ⟨by rw [hd]; simp, old, rfl, ?_⟩
  have := left_head hd (by rw [h.saf, h.dat])
  rw [h.dat] at this
  exact this
theorem P1.good (h : P1 S st pl f0 f1 old xs s) : Good S (· = old) := by
  refine ⟨by rw [h.stg.chg]; simp, by rw [h.stg.safe]; simp, fun ks => ?_⟩
  have hd : S.leftDir ks = [(nmK, f0)] ∨ S.leftDir ks = [(nmK, f0), (tmK, f1)] := by
    unfold Dk.leftDir
    rw [h.stg.chg, h.stg.safe]
    cases keepN ks 0 with
    | zero => exact .inl rfl
    | succ k => exact .inr (by rw [List.take_succ_cons, List.take_nil]; kernel_rfl)
  have hsf : S.saf f0 = (S.dat f0).length := by rw [h.stg.saf, h.stg.dat]
  rcases hd with hd | hd
  · refine ⟨by rw [hd]; simp, old, rfl, ?_⟩
    have := left_head hd hsf
    rw [h.stg.dat] at this
    exact this
  · refine ⟨by rw [hd]; simp, old, rfl, ?_⟩
    have := left_head hd hsf
    rw [h.stg.dat] at this
    exact this
theorem P2.good (h : P2 S st pl f0 f1 old fresh) : Good S (fun y => y = old ∨ y = fresh) := by
  refine ⟨by rw [h.stg.chg]; simp, by rw [h.stg.safe]; simp, fun ks => ?_⟩
  have hd : (∃ r, r.length ≤ 1 ∧ S.leftDir ks = (nmK, f0) :: r) ∨ S.leftDir ks = [(nmK, f1)] := by
    unfold Dk.leftDir
    rw [h.stg.chg, h.stg.safe]
    cases keepN ks 0 with
    | zero => exact .inl ⟨[], by simp, rfl⟩
    | succ k =>
      cases k with
      | zero => exact .inl ⟨[(tmK, f1)], by simp, by kernel_rfl⟩
      | succ k => exact .inr (by rw [List.take_succ_cons, List.take_succ_cons, List.take_nil]; kernel_rfl)
  rcases hd with ⟨r, hr, hd⟩ | hd
  · refine ⟨by rw [hd, List.length_cons]; omega, old, .inl rfl, ?_⟩
    have := left_head hd (by rw [h.stg.saf, h.stg.dat])
    rw [h.stg.dat] at this
    exact this
  · refine ⟨by rw [hd]; simp, fresh, .inr rfl, ?_⟩
    have := left_head hd (by rw [h.saf, h.dat])
    rw [h.dat] at this
    exact this
/-- Create. -/
theorem P0.create (h : P0 S st pl f0 old) (hf : S.fs f0) (hoff : S.off = false) (hs : S.stepSaid (S.stepped.refuse tmB) (fun T => S.stepped.created tmB T) (fun _ T => T = S.stepped) x S') :
    (x = 0 ∧ S'.off = false ∧ ∃ f1, P1 S' (st + 1) pl f0 f1 old [] 0) ∨ (x ≠ 0 ∧ Good S' (· = old)) := by
  have hr : S.stepped.refuse tmB = 0 := by
    show S.refuse tmB = 0
    unfold Dk.refuse
    rw [if_neg (by decide +kernel), if_neg (by rw [h.now, show look [(nmK, f0)] (key tmB) = none from rfl]; simp), if_neg (by rw [h.now]; simp)]
  have hsg : P0 S.stepped (st + 1) pl f0 old := ⟨h.room, by show S.steps + 1 = _; rw [h.steps], h.plan, h.now, h.safe, h.chg, h.dat, h.saf⟩
  have hP : ∀ T, S.stepped.created tmB T → T.off = false ∧ ∃ f1, P1 T (st + 1) pl f0 f1 old [] 0 := by
    intro T hT
    unfold Dk.created at hT
    rw [if_pos hr] at hT
    obtain ⟨f1, hf1, rfl⟩ := hT
    have hne : f0 ≠ f1 := fun e => hf1 (e ▸ hf)
    refine ⟨hoff, f1, ⟨h.room, by show S.steps + 1 = _; rw [h.steps], h.plan, ?_, h.safe, ?_, ?_, ?_⟩, hne, upd_same _ _ _, upd_same _ _ _⟩
    · show applyC S.now ⟨⟨#[]⟩, tmB, some f1⟩ = _; rw [h.now]; kernel_rfl
    · show S.chg ++ _ = _; rw [h.chg]; rfl
    · show upd S.dat f1 [] f0 = _; rw [upd_other _ _ hne]; exact h.dat
    · show upd S.saf f1 0 f0 = _; rw [upd_other _ _ hne]; exact h.saf
  rcases said_cases hs hoff with ⟨hx, hT⟩ | ⟨hx, rfl | ⟨n, rfl⟩ | rfl | ⟨T, hT, rfl⟩⟩
  · obtain ⟨h1, h2⟩ := hP _ hT
    exact .inl ⟨by rw [hx, hr], h1, h2⟩
  · exact .inr ⟨hx, hsg.good⟩
  · exact .inr ⟨hx, hsg.good⟩
  · exact .inr ⟨hx, hsg.good.off⟩
  · obtain ⟨_, f1, h2⟩ := hP _ hT
    exact .inr ⟨hx, h2.good.off⟩
theorem P1.look (h : P1 S st pl f0 f1 old xs s) : PK.look S.now (key tmB) = some f1 := by rw [h.stg.now]; rfl
theorem P1.stepped (h : P1 S st pl f0 f1 old xs s) : P1 S.stepped (st + 1) pl f0 f1 old xs s := ⟨⟨h.stg.room, by show S.steps + 1 = _; rw [h.stg.steps], h.stg.plan, h.stg.now, h.stg.safe, h.stg.chg, h.stg.dat, h.stg.saf⟩, h.ne, h.dat, h.saf⟩
theorem P1.set (h : P1 S st pl f0 f1 old xs s) (ys : List Int) (t : Nat) : P1 (S.setFile f1 ys t) st pl f0 f1 old ys t :=
  ⟨⟨h.stg.room, h.stg.steps, h.stg.plan, h.stg.now, h.stg.safe, h.stg.chg, by show upd S.dat f1 ys f0 = _; rw [upd_other _ _ h.ne]; exact h.stg.dat, by show upd S.saf f1 t f0 = _; rw [upd_other _ _ h.ne]; exact h.stg.saf⟩, h.ne, upd_same _ _ _, upd_same _ _ _⟩
/-- Append. -/
theorem P1.append (h : P1 S st pl f0 f1 old [] 0) (hoff : S.off = false) (h0 : old.length ≤ 1048576) (h1 : fresh.length ≤ 1048576) (hs : S.stepSaid (S.stepped.appE tmB fresh.length) (fun T => T = S.stepped.appended tmB fresh) (fun n T => T = S.stepped.parted tmB fresh n) x S') :
    (x = 0 ∧ S'.off = false ∧ P1 S' (st + 1) pl f0 f1 old fresh 0) ∨ (x ≠ 0 ∧ Good S' (· = old)) := by
  have hp := h.stepped
  have hu : used S.stepped.dat S.stepped.now = old.length := by
    rw [hp.stg.now]
    show (S.stepped.dat f0).length + ((S.stepped.dat f1).length + 0) = _
    rw [hp.stg.dat, hp.dat]; simp
  have hn : ¬ (S.stepped.room - (used S.stepped.dat S.stepped.now : Nat) < fresh.length) := by rw [hu, hp.stg.room]; omega
  have hE : S.stepped.appE tmB fresh.length = 0 := by unfold Dk.appE; rw [hp.look, if_neg (by simp), if_neg hn]
  have hA : S.stepped.appended tmB fresh = S.stepped.setFile f1 fresh 0 := by
    unfold Dk.appended
    rw [hp.look]
    simp only
    rw [if_neg hn, hp.dat, hp.saf, List.nil_append]
  have hQ : P1 (S.stepped.appended tmB fresh) (st + 1) pl f0 f1 old fresh 0 := by rw [hA]; exact hp.set _ _
  rcases said_cases hs hoff with ⟨hx, rfl⟩ | ⟨hx, rfl | ⟨n, rfl⟩ | rfl | ⟨T, rfl, rfl⟩⟩
  · exact .inl ⟨by rw [hx, hE], by rw [hA]; exact hoff, hQ⟩
  · exact .inr ⟨hx, hp.good⟩
  · refine .inr ⟨hx, ?_⟩
    unfold Dk.parted
    rw [hp.look]
    exact (hp.set _ _).good
  · exact .inr ⟨hx, hp.good.off⟩
  · exact .inr ⟨hx, hQ.good.off⟩
/-- Sync. -/
theorem P1.sync (h : P1 S st pl f0 f1 old fresh 0) (hoff : S.off = false) (hs : S.stepSaid (S.stepped.has tmB) (fun T => T = S.stepped.synced tmB) (fun n T => T = S.stepped) x S') :
    (x = 0 ∧ S'.off = false ∧ P1 S' (st + 1) pl f0 f1 old fresh fresh.length) ∨ (x ≠ 0 ∧ Good S' (· = old)) := by
  have hp := h.stepped
  have hE : S.stepped.has tmB = 0 := by unfold Dk.has; rw [hp.look, if_neg (by simp)]
  have hA : S.stepped.synced tmB = S.stepped.setFile f1 fresh fresh.length := by unfold Dk.synced; rw [hp.look]; simp only; rw [hp.dat]
  have hQ : P1 (S.stepped.synced tmB) (st + 1) pl f0 f1 old fresh fresh.length := by rw [hA]; exact hp.set _ _
  rcases said_cases hs hoff with ⟨hx, rfl⟩ | ⟨hx, rfl | ⟨n, rfl⟩ | rfl | ⟨T, rfl, rfl⟩⟩
  · exact .inl ⟨by rw [hx, hE], by rw [hA]; exact hoff, hQ⟩
  · exact .inr ⟨hx, hp.good⟩
  · exact .inr ⟨hx, hp.good⟩
  · exact .inr ⟨hx, hp.good.off⟩
  · exact .inr ⟨hx, hQ.good.off⟩
/-- Rename. -/
theorem P1.rename (h : P1 S st pl f0 f1 old fresh fresh.length) (hoff : S.off = false) (hs : S.stepSaid (S.stepped.renE tmB nmB) (fun T => T = S.stepped.renamed tmB nmB) (fun n T => T = S.stepped) x S') :
    (x = 0 ∧ S'.off = false ∧ P2 S' (st + 1) pl f0 f1 old fresh) ∨ (x ≠ 0 ∧ Good S' (fun y => y = old ∨ y = fresh)) := by
  have hp := h.stepped
  have hbd : bad nmB = false := by decide +kernel
  have hE : S.stepped.renE tmB nmB = 0 := by unfold Dk.renE; rw [hp.look, if_neg (by simp), if_neg (by rw [hbd]; simp)]
  have hA : S.stepped.renamed tmB nmB = S.stepped.alter ⟨tmB, nmB, some f1⟩ := by
    unfold Dk.renamed
    rw [hp.look]
    simp only
    rw [if_neg (by rw [hbd]; simp), if_neg (by decide)]
  have hQ : P2 (S.stepped.renamed tmB nmB) (st + 1) pl f0 f1 old fresh := by
    rw [hA]
    refine ⟨⟨hp.stg.room, hp.stg.steps, hp.stg.plan, ?_, hp.stg.safe, ?_, hp.stg.dat, hp.stg.saf⟩, hp.dat, hp.saf⟩
    · show applyC S.stepped.now ⟨tmB, nmB, some f1⟩ = _; rw [hp.stg.now]; kernel_rfl
    · show S.stepped.chg ++ _ = _; rw [hp.stg.chg]; rfl
  have hg := hp.good.imp (Y := fun y => y = old ∨ y = fresh) (fun y e => .inl e)
  rcases said_cases hs hoff with ⟨hx, rfl⟩ | ⟨hx, rfl | ⟨n, rfl⟩ | rfl | ⟨T, rfl, rfl⟩⟩
  · exact .inl ⟨by rw [hx, hE], by rw [hA]; exact hoff, hQ⟩
  · exact .inr ⟨hx, hg⟩
  · exact .inr ⟨hx, hg⟩
  · exact .inr ⟨hx, hg.off⟩
  · exact .inr ⟨hx, hQ.good.off⟩
/-- SyncDir. -/
theorem P2.syncDir (h : P2 S st pl f0 f1 old fresh) (hoff : S.off = false) (hs : S.stepSaid 0 (fun T => T = S.stepped.syncDir) (fun n T => T = S.stepped) x S') :
    (x = 0 ∧ Good S' (· = fresh)) ∨ (x ≠ 0 ∧ Good S' (fun y => y = old ∨ y = fresh)) := by
  have hp : P2 S.stepped (st + 1) pl f0 f1 old fresh := ⟨⟨h.stg.room, by show S.steps + 1 = _; rw [h.stg.steps], h.stg.plan, h.stg.now, h.stg.safe, h.stg.chg, h.stg.dat, h.stg.saf⟩, h.dat, h.saf⟩
  have hQ : Good S.stepped.syncDir (· = fresh) := by
    refine ⟨Nat.zero_le _, by show S.now.length ≤ 400; rw [h.stg.now]; simp, fun ks => ?_⟩
    have hd : S.stepped.syncDir.leftDir ks = [(nmK, f1)] := by
      unfold Dk.leftDir
      show (([] : List Chg).take _).foldl applyC S.now = _
      rw [List.take_nil]
      exact h.stg.now
    refine ⟨by rw [hd]; simp, fresh, rfl, ?_⟩
    have := left_head hd (show S.saf f1 = (S.dat f1).length by rw [h.saf, h.dat])
    rw [show S.stepped.syncDir.dat f1 = fresh from h.dat] at this
    exact this
  rcases said_cases hs hoff with ⟨hx, rfl⟩ | ⟨hx, rfl | ⟨n, rfl⟩ | rfl | ⟨T, rfl, rfl⟩⟩
  · exact .inl ⟨hx, hQ⟩
  · exact .inr ⟨hx, hp.good⟩
  · exact .inr ⟨hx, hp.good⟩
  · exact .inr ⟨hx, hp.good.off⟩
  · exact .inr ⟨hx, (hQ.imp (fun y e => .inr e)).off⟩
end
end Go.Proofs.YtgcpiofpjogjcaaDoor.PK
end
