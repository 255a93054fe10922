/-
  The steps of a disk, walked: Append.
-/
import Derived.Test.YtgcpiofpjogjcaaGreatDoorDn
import Derived.Deep.Upon
namespace Go.Proofs.YtgcpiofpjogjcaaGreatDoor.PK
open Go.RowKit Go.Maps Go.Proofs.YtgcpiofpjogjcaaGreatDoorW.PrintWords
set_option linter.unusedVariables false
set_option linter.unusedSimpArgs false
variable {own : Nat → Prop} {w w' : World}

theorem infoB : (Tryz.prog.info? 5).map (fun i => (i.zero, i.size, i.bytes)) = some (some (.int .u8 0), 1, 1) := by kernel_rfl
theorem run_append_bytes (w : World) (ty : TypeId) (base : Nat) {pf : Option Addr} {n cf : Nat} {xs : List Int} (hown : w.ownsRow base 5 1 (.slice pf n cf) n (nums .u8 xs)) {A : Option Addr} {m c : Nat} {bs : List Int} (hC : Kd.C (Kd.int .u8) w A m bs) (hl : n + m ≤ 140737488355328) (hbase : base ≤ w.heap.size) :
    ∃ A' c' w', (Builtin.append_ #[23, 23] ty #[.slice pf n cf, .slice A m c]).run Tryz.prog w = .ok (.slice A' (n + m) c') w' ∧ w'.ownsRow base 5 1 (.slice A' (n + m) c') (n + m) (nums .u8 (xs ++ bs)) ∧ w.grownBy w' (Value.slice pf n cf).ownBlock ∧ (∀ a, A' = some a → (∃ a0, pf = some a0 ∧ a0.block = a.block) ∨ w.heap.size ≤ a.block) := by
  obtain ⟨i0, hi0, hz0, hz1, hz2⟩ := info_parts infoB
  have hlb : bs.length = m := hC.1
  rcases Nat.eq_zero_or_pos m with h0 | h0
  · subst h0
    have hb0 : bs = [] := List.eq_nil_of_length_eq_zero hlb
    subst hb0
    have hle : n ≤ cf := by
      rcases hown.2 with ⟨h1, h2⟩ | ⟨g, cap, cur, hv, _, _, hnc, _⟩
      · injection h1 with _ _ h3; omega
      · injection hv with _ _ h3; omega
    have hsrc : Src Tryz.prog i0.size 23 (.slice A 0 c) 0 [] w := by
      rcases A with _ | a
      · exact Src.ofNil w Tryz.underlying23 c
      · exact Src.ofSlice w Tryz.underlying23 a 0 c [] (by simp) (fun j u hu => by simp at hu) (fun u hu => by cases hu)
    refine ⟨pf, cf, w, run_append_nothing w 23 23 ty 5 i0 Tryz.underlying23 hi0 pf n cf hle _ hsrc, by simpa using hown, World.grownBy.refl w _, fun a ha => .inl ⟨a, ha, rfl⟩⟩
  · obtain ⟨ad, rfl, hcell⟩ := (Kd.reads_of_C (d := (0 : Int)) hC).2.2 h0
    obtain ⟨g, cap, w', h1, h2, h3, h4, h5⟩ := run_append_lies (P := Tryz.prog) w 23 ty base 5 i0 _ 1 1 Tryz.underlying23 hi0 hz0 hz1 hz2 rfl (by omega) (.slice pf n cf) n (nums .u8 xs) hown ad m c (nums .u8 bs)
      (by rw [nums_length]; omega) (fun j u hu => by
        have hj : j < bs.length := by
          rcases Nat.lt_or_ge j bs.length with h | h
          · exact h
          · rw [List.getElem?_eq_none (by rw [nums_length]; exact h)] at hu; cases hu
        rw [hcell j (by omega), List.getD_eq_getElem?_getD, List.getElem?_eq_getElem hj]
        rw [nums, List.getElem?_map, List.getElem?_eq_getElem hj] at hu
        simpa using hu) (fun u hu => by
        obtain ⟨_, _, rfl⟩ := List.mem_map.1 hu
        rfl) h0 (by unfold maxLen; omega) (by omega) hbase w.heap.size rfl
    refine ⟨some ⟨g, 0, none⟩, cap, w', h1, by rw [nums_append]; exact h2, h3, fun a ha => ?_⟩
    injection ha with ha
    subst ha
    rcases h4 with h4 | h4
    · cases pf with
      | none => simp [Value.ownBlock] at h4
      | some a0 => exact .inl ⟨a0, rfl, by simpa [Value.ownBlock] using h4⟩
    · exact .inr (by rw [h4]; exact Nat.le_refl _)
theorem step_append_bytes (w : World) {ops : Array Oper} {o : Oper} {a : Act} {K : Act → World → Prop} {Q : Exit → Act → World → Prop} {E : Prop} (hgd : o.guard = none) (s x : Operand)
    (ho : o.op = .call { callee := .builtin .append, args := #[s, x], argTypes := #[23, 23] })
    (base : Nat) {pf : Option Addr} {n cf : Nat} {xs : List Int} (hs : a.eval s = .slice pf n cf) (hown : w.ownsRow base 5 1 (.slice pf n cf) n (nums .u8 xs)) {A : Option Addr} {m c : Nat} {bs : List Int} (hx : a.eval x = .slice A m c) (hC : Kd.C (Kd.int .u8) w A m bs) (hl : n + m ≤ 140737488355328) (hbase : base ≤ w.heap.size)
    (h : ∀ A' c' w', w'.ownsRow base 5 1 (.slice A' (n + m) c') (n + m) (nums .u8 (xs ++ bs)) → w.grownBy w' (Value.slice pf n cf).ownBlock → (∀ a, A' = some a → (∃ a0, pf = some a0 ∧ a0.block = a.block) ∨ w.heap.size ≤ a.block) → K (a.put o.dst (.slice A' (n + m) c')) w') :
    if Region.wanted o (yielded ops a.tmps) = true then Oper.wp Tryz.prog o a w K Q else E := by
  have hw : Region.wanted o (yielded ops a.tmps) = true := by simp [Region.wanted, hgd]
  rw [if_pos hw]
  obtain ⟨A', c', w', hrun, h2, h3, h4⟩ := run_append_bytes w o.type base hown hC hl hbase (c := c)
  unfold Oper.wp execOp
  simp only [ho, resolve, invoke, builtin, Sem.run_bind, Sem.run_pure, Result.andThen_ok, List.map_toArray, List.map_cons, List.map_nil, hs, hx, hrun]
  exact h A' c' w' h2 h3 h4

def Dk.appE (S : Dk) (s : ByteArray) (n : Nat) : Int := if look S.now (key s) = none then 143 else if S.room - (used S.dat S.now : Nat) < n then 142 else 0
def Dk.appended (S : Dk) (s : ByteArray) (bs : List Int) : Dk := match look S.now (key s) with
  | none => S
  | some f => if S.room - (used S.dat S.now : Nat) < bs.length then S else S.setFile f (S.dat f ++ bs) (S.saf f)

def Dk.partN (S : Dk) (n : Int) (m : Nat) : Nat := (max 0 (min (min n m) (S.room - (used S.dat S.now : Nat)))).toNat
def Dk.parted (S : Dk) (s : ByteArray) (bs : List Int) (n : Int) : Dk := match look S.now (key s) with
  | none => S
  | some f => S.setFile f (S.dat f ++ bs.take (S.partN n bs.length)) (S.saf f)
theorem used_ge (dat : Nat → List Int) {l : Dir} {k : List UInt8} {f : Nat} (h : (k, f) ∈ l) : (dat f).length ≤ used dat l := by
  induction l with
  | nil => cases h
  | cons p l ih =>
    rw [used]
    rcases List.mem_cons.1 h with rfl | h
    · simp only; omega
    · have := ih h; omega
theorem FileIn.C {f c s : Nat} {p : Option Addr} {xs : List Int} (h : FileIn w own f p c xs s) : Kd.C (Kd.int .u8) w p xs.length xs := by
  obtain ⟨A, c', he, hl, hr⟩ := Kd.R_reads (d := Kd.int .u8) (ok := fun _ => True) (Kd.R_of_own (h1 := fun _ => rfl) h.row (fun _ _ => trivial))
  injection he with he
  rw [he]
  exact hr
theorem own_ext {e size n base : Nat} {p : Option Addr} {c : Nat} {xs : List Value} (h : w.ownsRow base e size (.slice p n c) n xs) (hk : ∀ a, p = some a → w'.heap[a.block]? = w.heap[a.block]?) : w'.ownsRow base e size (.slice p n c) n xs := ownsRow_kept h (fun g hg => by
  cases p with
  | none => simp [Value.ownBlock] at hg
  | some a => simp only [Value.ownBlock, Option.some.injEq] at hg; rw [← hg]; exact hk a rfl)
theorem FileIn.pblock {f c s : Nat} {p : Option Addr} {xs : List Int} (h : FileIn w own f p c xs s) {a : Addr} (ha : p = some a) : a.block < w.heap.size ∧ a.block ≠ f := by
  have h1 := h.row
  rw [ha] at h1
  obtain ⟨cur, hcur⟩ := ownsRow_blk h1
  exact ⟨lt_of_block hcur, ty_ne hcur h.blk (by decide)⟩

/-- Bytes appended to a file, in memory. -/
theorem DiskIn.grown {d bn bs0 cc cp : Nat} {pc pp : Option Addr} {pd : Nat → Option Addr} {cd : Nat → Nat} {S : Dk} (h : DiskIn w own d bn bs0 pc cc pp cp pd cd S) (hfr : Fresh own w) {f : Nat} (hf : S.fs f) {w1 w3 : World} (hb1 : Below w.heap.size w w1) {A' : Option Addr} {c' : Nat} {bs : List Int}
    (hown3 : w3.ownsRow 0 5 1 (.slice A' ((S.dat f).length + bs.length) c') ((S.dat f).length + bs.length) (nums .u8 (S.dat f ++ bs))) (hgrow : w1.grownBy w3 (Value.slice (pd f) (S.dat f).length (cd f)).ownBlock)
    (hat : ∀ a, A' = some a → (∃ a0, pd f = some a0 ∧ a0.block = a.block) ∨ w1.heap.size ≤ a.block) (hlen : (S.dat f).length + bs.length ≤ 140737488355328) (hby : ∀ x ∈ bs, 0 ≤ x ∧ x < 256) :
    DiskAt (w3.setCell ⟨f, 0, none⟩ (.slice A' ((S.dat f).length + bs.length) c')) own d (S.setFile f (S.dat f ++ bs) (S.saf f)) ∧ Turn own w (w3.setCell ⟨f, 0, none⟩ (.slice A' ((S.dat f).length + bs.length) c')) := by
  have hff := h.files f hf
  have hs1 := hb1.size
  have hpf : ∀ a, pd f = some a → a.block < w.heap.size ∧ a.block ≠ f := fun a ha => hff.pblock ha
  have hrow : ∀ k, (∀ a, pd f = some a → k ≠ a.block) → some k ≠ (Value.slice (pd f) (S.dat f).length (cd f)).ownBlock := fun k hk => by
    cases hpd : pd f with
    | none => simp [Value.ownBlock]
    | some a => simp only [Value.ownBlock, ne_eq, Option.some.injEq]; exact hk a hpd
  have hk3 : ∀ k, k < w.heap.size → (∀ a, pd f = some a → k ≠ a.block) → w3.heap[k]? = w.heap[k]? := fun k hk hkp => (hgrow.block k (by omega) (hrow k hkp)).trans (hb1.block k hk)
  have hf3 : w3.heap[f]? = _ := (hk3 f hff.lt (fun a ha e => (hpf a ha).2 e.symm)).trans hff.blk
  have hA : ∀ a, A' = some a → a.block ≠ f := fun a ha => by
    subst ha
    obtain ⟨cur, hcur⟩ := ownsRow_blk hown3
    exact ty_ne hcur hf3 (by decide)
  have hl : (S.dat f ++ bs).length = (S.dat f).length + bs.length := List.length_append
  have hmine : ∀ a, A' = some a → own a.block := fun a ha => by
    rcases hat a ha with ⟨a0, h0, h1⟩ | h1
    · rw [← h1]; exact hff.rown a0 h0
    · exact hfr _ (by omega)
  refine ⟨⟨bn, bs0, pc, cc, pp, cp, _, _, DiskIn.setFile (p' := A') (c' := c') h hf ?_ ?_ ?_ hmine ?_ ?_ ?_ ?_⟩, ?_⟩
  · rw [hl]; exact block_setCell hf3
  · rw [hl]; exact own_ext hown3 (fun a ha => Below.heap_setCell _ _ _ _ (hA a ha))
  · intro a ha
    rcases hat a ha with h1 | h1
    · exact .inl h1
    · exact .inr (by omega)
  · rw [hl]; have := hff.safe; omega
  · intro x hx
    rcases List.mem_append.1 hx with hx | hx
    · exact hff.bys x hx
    · exact hby x hx
  · rw [hl]; exact hlen
  · intro k hk hkf hkp
    exact (Below.heap_setCell _ _ _ _ hkf).trans (hk3 k hk hkp)
  · refine ((Turn.of_below hb1).trans (Turn.of_grown hgrow (fun k hk => ?_))).trans (Turn.setCell _ _ hff.mine)
    cases hpd : pd f with
    | none => rw [hpd] at hk; simp [Value.ownBlock] at hk
    | some a => rw [hpd] at hk; simp only [Value.ownBlock, Option.some.injEq] at hk; rw [← hk]; exact hff.rown a hpd

set_option maxRecDepth 100000 in
set_option maxHeartbeats 1600000 in
theorem append1_any (xb nb bb d : Nat) (S : Dk) (s : ByteArray) (A : Option Addr) (c : Nat) (bs : List Int) (w : World) (h : DiskAt w own d S) (hfr : Fresh own w) (hs : s.size ≤ 9223372036854775807)
    (hC : Kd.C (Kd.int .u8) w A bs.length bs) (hby : ∀ x ∈ bs, 0 ≤ x ∧ x < 256)
    (hx : w.cell? ⟨xb, 0, none⟩ = some (.pointer (some ⟨d, 0, none⟩))) (hn : w.cell? ⟨nb, 0, none⟩ = some (.string s)) (hb : w.cell? ⟨bb, 0, none⟩ = some (.slice A bs.length c)) :
    Calls Tryz.prog 45 #[.pointer (some ⟨xb, 0, none⟩), .pointer (some ⟨nb, 0, none⟩), .pointer (some ⟨bb, 0, none⟩)] w fun e w' => e = .returned (.int .i64 (S.appE s bs.length)) ∧ DiskAt w' own d (S.appended s bs) ∧ Turn own w w' := by
  have HW := h
  have hus := used_any (own := own) d S
  obtain ⟨bn, bs', pc, cc, pp, cp, pd, cd, h⟩ := h
  obtain ⟨c0, c1, c2, c3, c4, c5, c6⟩ := seven_cells h.blk
  have hlk2 : ∀ k, (Instr.lookup 79 (.map (some bn)) (.string s) false).run Tryz.prog (w.drewN k) = .ok (fileV (look S.now (key s))) (w.drewN k) := fun k => look_run (w := w.drewN k) (h.now) s hs
  have lx := World.block_lt_of_cell? w _ hx
  have ln := World.block_lt_of_cell? w _ hn
  have lb := World.block_lt_of_cell? w _ hb
  have ld := lt_of_block h.blk
  have r0 := h.room0
  have r1 := h.room1
  have hfc : ∀ p ∈ S.now, (S.dat p.2).length ≤ 140737488355328 := fun p hp => (h.files p.2 (h.ref _ (.inl ⟨p.1, hp⟩))).short
  have hsm := used_small S.dat S.now hfc
  have HS : used S.dat S.now ≤ 400 * 140737488355328 := Nat.le_trans hsm (Nat.mul_le_mul_right _ h.now1)
  have hbl : bs.length ≤ 9223372036854775807 := hC.2.1
  unfold Dk.appE Dk.appended
  have hff : ∀ f, look S.now (key s) = some f → FileIn w own f (pd f) (cd f) (S.dat f) (S.saf f) := fun f hf => h.files f (h.ref f (live_now hf))
  have hfs : ∀ f, look S.now (key s) = some f → S.fs f := fun f hf => h.ref f (live_now hf)
  have HH := Lib.hid h; have HF := Lib.hid hfr; have HA := Lib.hid HW; have HC := Lib.hid hC; have HFS := Lib.hid hfs; have HUS := Lib.hid hus; have HBY := Lib.hid hby
  clear h hfr HW hC hsm hfc hfs hus hby
  cases hl : look S.now (key s) with
  | none =>
    clear hff
    rw [hl] at hlk2
    simp only [fileV] at hlk2
    go_enter Tryz.func45, Tryz.ntmps45
    go_wp2
    go_quiet (fail)
    go_wp2
    go_ret
    exact ⟨rfl, HA.out.below (pw_below_drewN (Below.refl _ _) _), (Turn.refl _ _).drewN _⟩
  | some f =>
    rw [hl] at hlk2
    simp only [fileV] at hlk2
    simp only [if_neg (show ¬ (some f : Option Nat) = none from by simp)]
    have hf := hff f hl
    clear hff
    obtain ⟨f0, f1⟩ := two_cells hf.blk
    have z0 := all_free hf.blk 0
    have lf := hf.lt
    have hsh := hf.short
    have HFI := Lib.hid hf; have HL := Lib.hid hl
    clear hf hl
    have hus2 : ∀ k, Calls Tryz.prog 46 #[.pointer (some ⟨d, 0, none⟩)] (w.drewN k).drew fun e w' => e = .returned (.int .i64 (used S.dat S.now : Nat)) ∧ Below (w.drewN k).drew.heap.size (w.drewN k).drew w' := fun k => HUS.out _ (HA.out.below (pw_below_drewN (Below.refl _ _) (k + 1)))
    by_cases hroom : S.room - (used S.dat S.now : Nat) < bs.length
    · have hdd : decide (IntKind.i64.wrap (S.room - ↑(used S.dat S.now)) < (bs.length : Int)) = true := by
        rw [IntWalk.i64_in (S.room - ↑(used S.dat S.now)) ⟨by omega, by omega⟩]; simpa using hroom
      have HD := Lib.hid hdd
      clear hdd
      rw [if_pos hroom, if_pos hroom]
      go_enter Tryz.func45, Tryz.ntmps45
      go_wp2
      go_quiet (fail)
      go_wp2
      go_region_held3 (fun w' => w'.cell? ⟨xb, 0, none⟩ = some (.pointer (some ⟨d, 0, none⟩)) ∧ w'.cell? ⟨bb, 0, none⟩ = some (.slice A bs.length c) ∧ w'.cell? ⟨d, 0, none⟩ = some (.int .i64 S.room))
        (go_keep)
        (first | (go_at_call 46; refine (hus2 _).mono ?_; rintro e w1 ⟨rfl, hb1⟩; have x1 := (hb1.cell (p := ⟨xb, 0, none⟩) lx).trans hx; have b1 := (hb1.cell (p := ⟨bb, 0, none⟩) lb).trans hb; have d1 := (hb1.cell (p := ⟨d, 0, none⟩) ld).trans c0))
      all_goals simp only [show decide (IntKind.i64.wrap (S.room - ↑(used S.dat S.now)) < (bs.length : Int)) = true from HD.out]
      all_goals go_wp2
      all_goals go_ret
      all_goals exact ⟨rfl, HA.out.below (below_then (pw_below_drewN (Below.refl _ _) (nq + 1)) (Nat.le_refl _) hb1), ((Turn.refl own w).drewN (nq + 1)).trans (Turn.of_below hb1)⟩
    · have hdd : decide (IntKind.i64.wrap (S.room - ↑(used S.dat S.now)) < (bs.length : Int)) = false := by
        rw [IntWalk.i64_in (S.room - ↑(used S.dat S.now)) ⟨by omega, by omega⟩]; simpa using hroom
      have HD := Lib.hid hdd
      clear hdd
      rw [if_neg hroom, if_neg hroom]
      have hlen : (S.dat f).length + bs.length ≤ 140737488355328 := by
        have := used_ge S.dat (look_mem HL.out)
        omega
      have npf : ∀ a, pd f = some a → a.block < w.heap.size ∧ a.block ≠ f := fun a ha => HFI.out.pblock ha
      have HNP := Lib.hid npf
      clear npf
      go_enter Tryz.func45, Tryz.ntmps45
      go_wp2
      go_quiet (fail)
      go_wp2
      go_region_held3 (fun w' => w'.cell? ⟨xb, 0, none⟩ = some (.pointer (some ⟨d, 0, none⟩)) ∧ w'.cell? ⟨bb, 0, none⟩ = some (.slice A bs.length c) ∧ w'.cell? ⟨d, 0, none⟩ = some (.int .i64 S.room))
        (go_keep)
        (first | (go_at_call 46; refine (hus2 _).mono ?_; rintro e w1 ⟨rfl, hb1⟩; have x1 := (hb1.cell (p := ⟨xb, 0, none⟩) lx).trans hx; have b1 := (hb1.cell (p := ⟨bb, 0, none⟩) lb).trans hb; have d1 := (hb1.cell (p := ⟨d, 0, none⟩) ld).trans c0; have g0 := (hb1.cell (p := ⟨f, 0, none⟩) lf).trans f0; have k0 := (hb1.frozen (p := ⟨f, 0, none⟩) lf).trans z0; have k1 : w1.drew.frozen? ⟨f, 0, none⟩ = false := k0; have g1 : w1.drew.cell? ⟨f, 0, none⟩ = some (.slice (pd f) (S.dat f).length (cd f)) := g0))
      all_goals simp only [show decide (IntKind.i64.wrap (S.room - ↑(used S.dat S.now)) < (bs.length : Int)) = false from HD.out]
      all_goals go_wp2
      all_goals
        have hown1 : w1.drew.ownsRow 0 5 1 (.slice (pd f) (S.dat f).length (cd f)) (S.dat f).length (nums .u8 (S.dat f)) := own_ext HFI.out.row (fun a ha => hb1.block _ (HNP.out a ha).1)
        have hC1 : Kd.C (Kd.int .u8) w1.drew A bs.length bs := Kd.C_below HC.out (below_then (pw_below_drewN (Below.refl _ _) (nq + 1)) (Nat.le_refl _) (hb1.trans ((Below.refl _ _).drew)))
        have lf1 : f < w1.heap.size := Nat.lt_of_lt_of_le lf hb1.size
        have nfo : some f ≠ (Value.slice (pd f) (S.dat f).length (cd f)).ownBlock := by
          cases hpf : pd f with
          | none => simp [Value.ownBlock]
          | some a => simp only [Value.ownBlock, ne_eq, Option.some.injEq]; exact fun e => (HNP.out a hpf).2 e.symm
        go_region_law
          ((refine step_append_bytes _ (by rfl) _ _ (by rfl) 0 (by rfl) hown1 (by rfl) hC1 (by omega) (by omega) ?_; intro A' c' w3 hown3 hgrow hat; have y0 : w3.frozen? ⟨f, 0, none⟩ = false := (hgrow.frozen_far ⟨f, 0, none⟩ lf1 nfo).trans k1; have y1 : w3.cell? ⟨f, 0, none⟩ = some (.slice (pd f) (S.dat f).length (cd f)) := (hgrow.cell_far ⟨f, 0, none⟩ lf1 nfo).trans g1))
      all_goals go_wp2
      all_goals go_ret
      all_goals
        obtain ⟨hD, hT⟩ := DiskIn.grown HH.out HF.out (HFS.out f HL.out) (w1 := w1.drew) (below_then (pw_below_drewN (Below.refl _ _) (nq + 1)) (Nat.le_refl _) (hb1.trans ((Below.refl _ _).drew))) hown3 hgrow hat hlen HBY.out
        exact ⟨rfl, hD, hT⟩
end Go.Proofs.YtgcpiofpjogjcaaGreatDoor.PK
