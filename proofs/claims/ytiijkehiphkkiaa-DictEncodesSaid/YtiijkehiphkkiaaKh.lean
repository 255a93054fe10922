/-
  Rows of bytes each in a block of its own, of whatever make; dict.texts.
-/
import Derived.Test.YtiijkehiphkkiaaKg
namespace Go.Proofs.Ytiijkehiphkkiaa.PD
open Go.RowKit Go.Maps Go.Proofs.YtiijkehiphkkiaaW.PrintWords Go.Proofs.YtiijkehiphkkiaaW.PrintLast Go.Proofs.YtiijkehiphkkiaaW.PrintMore
set_option linter.unusedVariables false
set_option linter.unusedSimpArgs false

/-- A row of bytes of the call's own, in block og; none is nil. -/
def Byt (w : World) (base : Nat) (og : Option Nat) (v : Value) (xs : List Int) : Prop :=
  (og = none ∧ v = .slice none 0 0 ∧ xs = []) ∨
  ∃ g cap cells m, og = some g ∧ v = .slice (some ⟨g, 0, none⟩) xs.length cap ∧ base ≤ g ∧ xs.length ≤ cap ∧ w.heap[g]? = some (Obj.cells cells 5 m) ∧ cells.size = cap ∧ (cap ≤ m.1 ∨ m.2 ≤ m.1) ∧ cap ≤ maxLen ∧ ∀ i (h : i < xs.length), cells[i]? = some (.int .u8 xs[i])
theorem Byt.of_made {w : World} {base g : Nat} {v : Value} {xs : List Int} (h : Made w base g v xs) : Byt w base (some g) v xs := by
  obtain ⟨cap, cells, m, h1, h2, h3, h4, h5, h6, h7, h8⟩ := h
  exact .inr ⟨g, cap, cells, m, rfl, h1, h2, h3, h4, h5, .inl h6, h7, h8⟩
theorem Byt.of_own {w : World} {base n : Nat} {v : Value} {xs : List Int} (h : w.ownsRow base 5 1 v n (nums .u8 xs)) : Byt w base v.ownBlock v xs := by
  have hl : xs.length = n := by have := h.1; rw [nums_length] at this; omega
  rcases h.2 with ⟨rfl, h2⟩ | ⟨g, cap, cur, rfl, hg, hcur, r1, r2, r3, r4⟩
  · exact .inl ⟨rfl, rfl, List.eq_nil_of_length_eq_zero (by omega)⟩
  · refine .inr ⟨g, cap, cur, (0, 0), rfl, by rw [hl], hg, by omega, hcur, by omega, .inr (Nat.le_refl _), r2, fun i hi => ?_⟩
    have := h.cellAt (g := g) i (by omega)
    rw [nums, List.getElem?_map, List.getElem?_eq_getElem hi] at this
    simpa [World.cell?, hcur] using this
theorem Byt.keep {w w' : World} {base og v xs} (h : Byt w base og v xs) (hb : ∀ g, og = some g → w'.heap[g]? = w.heap[g]?) : Byt w' base og v xs := by
  rcases h with h | ⟨g, cap, cells, m, h1, h2, h3, h4, h5, h6⟩
  · exact .inl h
  · exact .inr ⟨g, cap, cells, m, h1, h2, h3, h4, (hb g h1).trans h5, h6⟩
theorem Byt.lt {w : World} {base og v xs} (h : Byt w base og v xs) : ∀ g, og = some g → g < w.heap.size := by
  rintro g rfl
  rcases h with h | ⟨g', cap, cells, m, h1, h2, h3, h4, h5, h6⟩
  · exact absurd h.1 (by simp)
  · injection h1 with h1; subst h1; exact lt_of_block h5
theorem Byt.base_le {w : World} {base og v xs} (h : Byt w base og v xs) : ∀ g, og = some g → base ≤ g := by
  rintro g rfl
  rcases h with h | ⟨g', cap, cells, m, h1, h2, h3, h4, h5, h6⟩
  · exact absurd h.1 (by simp)
  · injection h1 with h1; subst h1; exact h3
theorem Byt.typed {w : World} {base og v xs} (h : Byt w base og v xs) : ∀ g, og = some g → ∃ cells m, w.heap[g]? = some (Obj.cells cells 5 m) := by
  rintro g rfl
  rcases h with h | ⟨g', cap, cells, m, h1, h2, h3, h4, h5, h6⟩
  · exact absurd h.1 (by simp)
  · injection h1 with h1; subst h1; exact ⟨_, _, h5⟩
theorem Byt.lower {w : World} {base base' og v xs} (h : Byt w base og v xs) (hb : base' ≤ base) : Byt w base' og v xs := by
  rcases h with h | ⟨g, cap, cells, m, h1, h2, h3, h4⟩
  · exact .inl h
  · exact .inr ⟨g, cap, cells, m, h1, h2, by omega, h4⟩
theorem Byt.reads {w : World} {base og v xs} (h : Byt w base og v xs) : ∃ A c, v = .slice A xs.length c ∧ xs.length ≤ c ∧ Kd.C (Kd.int .u8) w A xs.length xs := by
  rcases h with ⟨_, rfl, rfl⟩ | ⟨g, cap, cells, m, h1, rfl, h3, h4, hh, h6, h7, hx, hcell⟩
  · exact ⟨none, 0, rfl, Nat.le_refl _, Kd.C_nil _ _⟩
  · refine ⟨_, cap, rfl, h4, Kd.C_of_reads (d := 0) ⟨rfl, by unfold maxLen at hx; omega, fun _ => ⟨_, rfl, fun j hj => ?_⟩⟩⟩
    rw [add_plain]
    simp only [World.cell?, hh]
    rw [hcell j hj, List.getD_eq_getElem?_getD, List.getElem?_eq_getElem hj]
    simp

/-- Rows of bytes of the call's own, each in a block of its own. -/
def EntB (w : World) (base : Nat) (v : Value) (es : List (List Int)) : Prop :=
  ∃ (vs : List Value) (ogs : List (Option Nat)), w.ownsRow base 55 1 v es.length vs ∧ ogs.length = es.length ∧ (∀ (i j : Nat) (g : Nat), i < j → ogs[i]? = some (some g) → ogs[j]? ≠ some (some g)) ∧
    ∀ i (h : i < es.length), ∃ u og, vs[i]? = some u ∧ ogs[i]? = some og ∧ Byt w base og u es[i]
theorem EntB.of_ent {w : World} {base : Nat} {v : Value} {es : List (List Int)} (h : Ent w base v es) : EntB w base v es := by
  obtain ⟨vs, gs, h1, h2, h4, h5⟩ := h
  refine ⟨vs, gs.map some, h1, by simpa using h2, fun i j g hij hi hj => ?_, fun i h => ?_⟩
  · rw [List.getElem?_map, Option.map_eq_some_iff] at hi hj
    obtain ⟨a, ha, e1⟩ := hi
    obtain ⟨b, hb, e2⟩ := hj
    injection e1 with e1
    injection e2 with e2
    subst e1
    subst e2
    obtain ⟨hi', ha⟩ := List.getElem?_eq_some_iff.1 ha
    obtain ⟨hj', hb⟩ := List.getElem?_eq_some_iff.1 hb
    have := (List.nodup_iff_pairwise_ne.1 h4)
    exact (List.pairwise_iff_getElem.1 this i j hi' hj' hij) (by rw [ha, hb])
  · obtain ⟨u, hu, hM⟩ := h5 i h (by omega)
    refine ⟨u, some gs[i], hu, ?_, Byt.of_made hM⟩
    rw [List.getElem?_map, List.getElem?_eq_getElem (by omega)]
    rfl
theorem EntB.keep {w w' : World} {base : Nat} {v : Value} {es : List (List Int)} (h : EntB w base v es) (hb : ∀ k, base ≤ k → k < w.heap.size → w'.heap[k]? = w.heap[k]?) : EntB w' base v es := by
  obtain ⟨vs, ogs, h1, h2, h4, h5⟩ := h
  refine ⟨vs, ogs, own_move h1 (fun k hk => hb k (own_base h1 k hk) (own_lt h1 k hk)), h2, h4, fun i h => ?_⟩
  obtain ⟨u, og, hu, hog, hB⟩ := h5 i h
  exact ⟨u, og, hu, hog, hB.keep (fun g hg => hb g (hB.base_le g hg) (hB.lt g hg))⟩
theorem EntB.below {w w' : World} {base : Nat} {v : Value} {es : List (List Int)} (h : EntB w base v es) (hb : Below w.heap.size w w') : EntB w' base v es := h.keep (fun k _ hk => hb.block k hk)
theorem EntB.lower {w : World} {base base' : Nat} {v : Value} {es : List (List Int)} (h : EntB w base v es) (hb : base' ≤ base) : EntB w base' v es := by
  obtain ⟨vs, ogs, h1, h2, h4, h5⟩ := h
  refine ⟨vs, ogs, own_weaken h1 hb, h2, h4, fun i h => ?_⟩
  obtain ⟨u, og, hu, hog, hB⟩ := h5 i h
  exact ⟨u, og, hu, hog, hB.lower hb⟩
theorem EntB.nil (w : World) (base : Nat) : EntB w base (.slice none 0 0) [] := ⟨[], [], own_nil _ _ _ _, rfl, fun i j g _ h => by simp at h, fun i h => absurd h (by simp)⟩
theorem EntB.reads {w : World} {base : Nat} {v : Value} {es : List (List Int)} (hE : EntB w base v es) : ∃ A c, v = .slice A es.length c ∧ es.length ≤ c ∧ Kd.C (Kd.slice 5 (Kd.int .u8)) w A es.length es := by
  obtain ⟨vs, gs, h1, h2, h4, h6⟩ := hE
  obtain ⟨A, c, rfl, hc, hcells⟩ := owned_cells h1
  have hn : es.length ≤ 9223372036854775807 := by
    rcases h1.2 with ⟨_, h⟩ | ⟨g', cap', cur, he, _, _, h3, h5, _⟩
    · omega
    · simp only [maxLen] at h5
      omega
  refine ⟨A, c, rfl, hc, rfl, hn, fun hp => ?_⟩
  obtain ⟨g, _, _, rfl, hcl⟩ := hcells hp
  refine ⟨_, rfl, fun j p hj => ?_⟩
  obtain ⟨hjl, rfl⟩ := List.getElem?_eq_some_iff.1 hj
  obtain ⟨u, og, hu, _, hM⟩ := h6 j hjl
  obtain ⟨A', c', rfl, hc', hC'⟩ := hM.reads
  refine ⟨[.slice A' es[j].length c'], rfl, ⟨A', c', rfl, hc', hC'⟩, fun i x hx => ?_⟩
  cases i with
  | zero =>
    simp at hx
    subst hx
    have := hcl j hjl
    rw [hu] at this
    rw [add_plain]
    simpa [Kd.slice] using this
  | succ i => simp at hx
/-- A new row is put into place i. -/
theorem EntB.put {w0 w : World} {base g n c i : Nat} {u : Value} {og : Option Nat} {x : List Int} {es : List (List Int)} (hE : EntB w0 base (.slice (some ⟨g, 0, none⟩) n c) es) (hb : Below w0.heap.size w0 w) (hu : Byt w w0.heap.size og u x) (hi : i < es.length) (hbase : base ≤ w0.heap.size) :
    EntB (w.setCell ⟨g, i, none⟩ u) base (.slice (some ⟨g, 0, none⟩) n c) (es.set i x) ∧ w.grownBy (w.setCell ⟨g, i, none⟩ u) (some g) := by
  have hE1 := hE.below hb
  obtain ⟨vs, ogs, h1, h2, h4, h6⟩ := hE
  have h1w := own_move h1 (fun k hk => hb.block k (own_lt h1 k hk))
  have hn : n = es.length := by
    rcases h1.2 with ⟨h, _⟩ | ⟨g', cap', cur, h, _⟩
    · cases h
    · injection h
  obtain ⟨cells, hcells⟩ := own_typed h1w g rfl
  obtain ⟨hst, hgr⟩ := (hn ▸ h1w).stored i u
  refine ⟨⟨vs.set i u, ogs.set i og, ?_, by simpa using h2, fun a b g' hab ha hb' => ?_, fun j h => ?_⟩, hgr⟩
  · rw [List.length_set, hn]; exact hst
  · rw [List.getElem?_set] at ha hb'
    have hold : ∀ (j g : Nat), ogs[j]? = some (some g) → g < w0.heap.size := by
      intro j g hj
      obtain ⟨hjl, _⟩ := List.getElem?_eq_some_iff.1 hj
      obtain ⟨u', og', _, hog', hB⟩ := h6 j (by omega)
      rw [hj] at hog'
      injection hog' with hog'
      exact hB.lt g hog'.symm
    have hnew : ∀ g : Nat, og = some g → w0.heap.size ≤ g := fun g hg => hu.base_le g hg
    split at ha
    · rename_i e1
      split at hb'
      · omega
      · split at ha
        · injection ha with ha
          have := hnew g' ha
          have := hold b g' hb'
          omega
        · cases ha
    · split at hb'
      · split at hb'
        · injection hb' with hb'
          have := hnew g' hb'
          have := hold a g' ha
          omega
        · cases hb'
      · exact h4 a b g' hab ha hb'
  · rw [List.length_set] at h
    have hkeep : ∀ og' u' x' b', Byt w b' og' u' x' → Byt (w.setCell ⟨g, i, none⟩ u) b' og' u' x' := fun og' u' x' b' hM => hM.keep (fun g' hg' => hgr.block g' (hM.lt g' hg') (fun e => by
      have e : g' = g := by injection e
      subst e
      obtain ⟨c', m', hc'⟩ := hM.typed g' hg'
      rw [hcells] at hc'
      injection hc' with hc'
      injection hc' with _ hc' _
      exact absurd hc' (by decide)))
    by_cases hij : i = j
    · subst hij
      have hvl : i < vs.length := by have := h1.1; omega
      refine ⟨u, og, ?_, ?_, ?_⟩
      · rw [List.getElem?_set_self hvl]
      · rw [List.getElem?_set_self (by omega)]
      · rw [List.getElem_set_self]
        exact (hkeep _ _ _ _ hu).lower hbase
    · obtain ⟨u', og', hu', hog', hB⟩ := h6 j h
      refine ⟨u', og', by rw [List.getElem?_set_ne hij]; exact hu', by rw [List.getElem?_set_ne hij]; exact hog', ?_⟩
      rw [List.getElem_set_ne hij]
      exact hkeep _ _ _ _ (hB.keep (fun g' hg' => hb.block g' (hB.lt g' hg')))

/-! ### slices.Contains -/
theorem contains_law (l : List Bool) (hl : l.length ≤ 1000000) : Ev (fun k => slices_Contains_bool_bool.f k l false) (decide (false ∈ l)) := by
  have h0 : ∀ n i : Nat, i + n = l.length → ∃ r : Int, Ev (fun k => slices_Index_bool_bool.l0 k l false (l.length : Int) (i : Int)) r ∧ (0 ≤ r ↔ false ∈ l.drop i) := by
    intro n
    induction n with
    | zero =>
      intro i h
      refine ⟨-1, Ev.step (fun k => ?_) (Ev.now _), ?_⟩
      · rw [slices_Index_bool_bool.l0, if_neg (by omega)]
      · rw [List.drop_of_length_le (by omega)]; simp
    | succ n ih =>
      intro i h
      have hi : i < l.length := by omega
      have hrd : rdOf false l (i : Int) = l[i] := by unfold rdOf; rw [Int.toNat_natCast, List.getD_eq_getElem?_getD, List.getElem?_eq_getElem hi]; rfl
      have hd : l.drop i = l[i] :: l.drop (i + 1) := List.drop_eq_getElem_cons hi
      by_cases h1 : l[i] = false
      · refine ⟨(i : Int), Ev.step (fun k => ?_) (Ev.now _), ?_⟩
        · rw [slices_Index_bool_bool.l0, if_pos (by omega), if_pos (by omega), if_pos (by omega), hrd, h1, if_pos (by rfl)]
        · rw [hd, h1]; simp
      · obtain ⟨r, hr, hiff⟩ := ih (i + 1) (by omega)
        refine ⟨r, Ev.step (fun k => ?_) hr, ?_⟩
        · rw [slices_Index_bool_bool.l0, if_pos (by omega), if_pos (by omega), if_pos (by omega), hrd, if_neg (by simpa using h1), w64s i (by omega)]
        · rw [hiff, hd, List.mem_cons]
          simp [h1]
  obtain ⟨r, hr, hiff⟩ := h0 l.length 0 (by omega)
  have e : decide (false ∈ l) = decide (r ≥ 0) := decide_eq_decide.2 (by rw [← List.drop_zero (l := l), ← hiff])
  rw [e]
  exact Ev.bind hr (Ev.now _)

theorem EntB.grown {w w1 : World} {base g : Nat} {v : Value} {es : List (List Int)} (hE : EntB w base v es) (hg : w.grownBy w1 (some g)) {cells : Array Value} {t : Nat} {m : Nat × Nat} (hc : w.heap[g]? = some (Obj.cells cells t m)) (h55 : t ≠ 55) (h5 : t ≠ 5) : EntB w1 base v es := by
  obtain ⟨vs, gs, h1, h2, h4, h6⟩ := hE
  refine ⟨vs, gs, own_move h1 (fun k hk => ?_), h2, h4, fun i h => ?_⟩
  · refine hg.block k (own_lt h1 k hk) (fun e => ?_)
    have e : k = g := by injection e
    subst e
    obtain ⟨cells', hc'⟩ := own_typed h1 k hk
    rw [hc] at hc'
    injection hc' with hc'
    injection hc' with _ hc' _
    exact h55 hc'
  · obtain ⟨u', og', hu', hog', hM'⟩ := h6 i h
    refine ⟨u', og', hu', hog', hM'.keep (fun g' hg' => hg.block _ (hM'.lt g' hg') (fun e => ?_))⟩
    have e : g' = g := by injection e
    subst e
    obtain ⟨cells', m', h7⟩ := hM'.typed g' hg'
    rw [hc] at h7
    injection h7 with h7
    injection h7 with _ h7 _
    exact h5 h7
theorem EntB.slot {w : World} {base g n c i : Nat} {es : List (List Int)} (hE : EntB w base (.slice (some ⟨g, 0, none⟩) n c) es) (hi : i < es.length) : (∃ u, w.cell? ⟨g, i, none⟩ = some u) ∧ w.frozen? ⟨g, i, none⟩ = false := by
  obtain ⟨vs, ogs, h1, h2, h4, h6⟩ := hE
  obtain ⟨u, og, hu, _⟩ := h6 i hi
  have hn : n = es.length := by
    rcases h1.2 with ⟨h, _⟩ | ⟨g', cap', cur, h, _⟩
    · cases h
    · injection h
  subst hn
  refine ⟨⟨u, ?_⟩, ?_⟩
  · have := h1.cellAt (g := g) i (by omega)
    exact this.trans hu
  · rcases h1.2 with ⟨h', _⟩ | ⟨g', cap', cur, h', _, hh, _⟩
    · cases h'
    · have : g = g' := by injection h' with h'; injection h' with h'; injection h' with h'
      subst this
      simp [World.frozen?, hh]
/-- Nothing yet. -/
theorem EntB.made (W : World) (base m : Nat) (hb : base ≤ W.heap.size) (hm : m ≤ 1000000) : EntB (W.alloc (.cells (madeCells #[.slice none 0 0] m) 55)) base (.slice (some ⟨W.heap.size, 0, none⟩) m m) (List.replicate m []) := by
  have h := own_made_of (enc := id) (d := Value.slice none 0 0) W base 55 m hb (by omega)
  refine ⟨encs id (List.replicate m (Value.slice none 0 0)), List.replicate m none, by rw [List.length_replicate]; exact h, by simp, fun i j g _ hi => ?_, fun i hi => ⟨.slice none 0 0, none, ?_, ?_, .inl ⟨rfl, rfl, by simp⟩⟩⟩
  · obtain ⟨_, hi⟩ := List.getElem?_eq_some_iff.1 hi
    simp at hi
  · rw [List.length_replicate] at hi
    rw [List.getElem?_eq_getElem (by simp [encs]; exact hi)]
    simp [encs]
  · rw [List.length_replicate] at hi
    rw [List.getElem?_eq_getElem (by simp; exact hi)]
    simp

theorem clone_any (A : Option Addr) (c : Nat) (xs : List Int) (w : World) (h : Kd.C (Kd.int .u8) w A xs.length xs) (hl : xs.length ≤ 140737488355328) :
    Calls Try.prog 103 #[.slice A xs.length c] w fun e w' => ∃ A' c', e = .returned (.slice A' xs.length c') ∧ w'.ownsRow w.heap.size 5 1 (.slice A' xs.length c') xs.length (nums .u8 xs) ∧ Below w.heap.size w w' := by
  rcases A with _ | ad
  · have h0 : xs = [] := by
      rcases Nat.eq_zero_or_pos xs.length with h0 | h0
      · exact List.eq_nil_of_length_eq_zero h0
      · obtain ⟨ad, h, _⟩ := h.2.2 h0; cases h
    subst h0
    refine (Try.bytes_Clone_nil 0 c w).mono ?_
    rintro e w' ⟨rfl, rfl⟩
    exact ⟨none, 0, rfl, own_nil _ _ _ _, Below.refl _ _⟩
  · refine (Try.bytes_Clone_at ad xs.length c xs w rfl hl (fun i hi => ?_)).mono ?_
    · obtain ⟨ad', e, hc⟩ := Kd.at_int h (i : Int) (by omega) (by omega)
      injection e with e
      subst e
      rw [rd_at hi, Int.toNat_natCast] at hc
      rw [hc, List.getD_eq_getElem?_getD, List.getElem?_eq_getElem hi]
      rfl
    · rintro e w' ⟨v', rfl, ho, _, hb⟩
      obtain ⟨A', c', rfl⟩ := own_slice ho
      exact ⟨A', c', rfl, ho, hb⟩

/-- The texts behind i rounds. -/
def txs (es : List (List Int)) (us : List Int) (i : Nat) : List (List Int) := (List.range us.length).map fun j => if j < i then es.getD (us.getD j 0).toNat [] else []
theorem txs_zero (es us) : txs es us 0 = List.replicate us.length [] := by
  apply List.ext_getElem
  · simp [txs]
  · intro j h1 h2
    simp [txs]
theorem txs_length (es us i) : (txs es us i).length = us.length := by simp [txs]
theorem txs_all (es : List (List Int)) (us : List Int) : txs es us us.length = us.map fun u => es.getD u.toNat [] := by
  apply List.ext_getElem
  · simp [txs]
  · intro j h1 h2
    have h3 : j < us.length := by simpa [txs] using h1
    simp only [txs, List.getElem_map, List.getElem_range, if_pos h3]
    rw [show us.getD j 0 = us[j] from by rw [List.getD_eq_getElem?_getD, List.getElem?_eq_getElem h3]; rfl]
theorem txs_set (es : List (List Int)) (us : List Int) (i : Nat) (h : i < us.length) : (txs es us i).set i (es.getD us[i].toNat []) = txs es us (i + 1) := by
  apply List.ext_getElem
  · simp [txs]
  · intro j h1 h2
    rw [List.getElem_set]
    simp only [txs, List.getElem_map, List.getElem_range]
    by_cases h3 : i = j
    · subst h3
      rw [if_pos rfl, if_pos (by omega), show us.getD i 0 = us[i] from by rw [List.getD_eq_getElem?_getD, List.getElem?_eq_getElem h]; rfl]
    · rw [if_neg h3]
      by_cases h4 : j < i
      · rw [if_pos h4, if_pos (by omega)]
      · rw [if_neg h4, if_neg (by omega)]
/-- Which numbers were used. -/
def usedL (n : Nat) (us : List Int) : List Bool := (List.range n).map fun j : Nat => decide ((j : Int) ∈ us)
theorem used_all (n : Nat) (us : List Int) : false ∈ usedL n us ↔ ¬ ∀ i < n, (i : Int) ∈ us := by
  unfold usedL
  rw [List.mem_map]
  constructor
  · rintro ⟨j, hj, h⟩ hall
    rw [List.mem_range] at hj
    have := hall j hj
    simp [this] at h
  · intro h
    refine Classical.byContradiction fun hn => h fun i hi => Classical.byContradiction fun hni => hn ⟨i, List.mem_range.2 hi, by simp [hni]⟩
theorem used_zero (n : Nat) (us : List Int) : usedL n (us.take 0) = List.replicate n false := by
  apply List.ext_getElem
  · simp [usedL]
  · intro j h1 h2
    simp [usedL]

set_option maxHeartbeats 1000000 in
set_option maxRecDepth 100000 in
theorem dtexts_any (A B : Option Addr) (c d : Nat) (es : List (List Int)) (us : List Int) (w : World) (hr : Kd.C (Kd.slice 5 (Kd.int .u8)) w A es.length es) (hc : es.length ≤ c) (hU : Kd.C (Kd.int .u64) w B us.length us) (hd : us.length ≤ d)
    (hn : es.length ≤ 4096) (hl : us.length ≤ 4096) (hes : ∀ s ∈ es, s.length ≤ 200) (hu : ∀ u ∈ us, 0 ≤ u ∧ u < 18446744073709551616) :
    Calls Try.prog 82 #[.slice A es.length c, .slice B us.length d] w fun e w' => ∃ v, e = .returned (.tuple #[v, .int .i64 (textsS es us).2]) ∧ Below w.heap.size w w' ∧ EntB w' w.heap.size v (textsS es us).1 := by
  have hm1 := print_make_of (P := Try.prog) 130 4 (.bool false) 1 Try.underlying130 info4 rfl (by decide) es.length (by omega)
  have hm2 := print_make_of (P := Try.prog) 45 55 (.slice none 0 0) 24 Try.underlying45 info55 rfl (by decide) us.length (by omega)
  have hR1 := own_made_of (enc := Value.bool) (d := false) w w.heap.size 4 es.length (Nat.le_refl _) (by omega)
  rw [← used_zero es.length us] at hR1
  have hB1 : Below w.heap.size w (w.alloc (.cells (madeCells #[.bool false] es.length) 4)) := (Below.refl _ w).alloc (Nat.le_refl _) _
  go_enter Try.func82, Try.ntmps82
  go_upto_region 2 with (fail)
  generalize (w.alloc (.cells (madeCells #[.bool false] es.length) 4)) = wa at *
  have hE2 := EntB.made wa w.heap.size us.length hB1.size (by omega)
  have hb2 : Below wa.heap.size wa (wa.alloc (.cells (madeCells #[.slice none 0 0] us.length) 55)) := (Below.refl _ wa).alloc (Nat.le_refl _) _
  have hB2 := below_then hB1 hB1.size hb2
  have hR2 := pw_own_below hR1 hb2
  rw [← txs_zero es us] at hE2
  clear hR1
  go_upto_region 3 with (fail)
  generalize (wa.alloc (.cells (madeCells #[.slice none 0 0] us.length) 55)) = wb at *
  generalize wa.heap.size = gt at *
  clear hm1 hm2 hB1 hb2
  go_wp2
  go_loopw [18] (fun vi wq => ∃ i : Nat, i ≤ us.length ∧ vi = .int .i64 i ∧ (∀ u ∈ us.take i, u < es.length) ∧ wq.ownsRow w.heap.size 4 1 (.slice (some ⟨w.heap.size, 0, none⟩) es.length es.length) es.length (encs Value.bool (usedL es.length (us.take i))) ∧ EntB wq w.heap.size (.slice (some ⟨gt, 0, none⟩) us.length us.length) (txs es us i) ∧ Below w.heap.size w wq) (fun vi _ => us.length - (intOf vi).toNat)
  case atStart => exact ⟨0, by omega, rfl, by simp, hR2, hE2, hB2⟩
  case round =>
    obtain ⟨i, hi, rfl, hall, hR, hE, hbr⟩ := hrel
    by_cases hlt : i < us.length
    · obtain ⟨ad, rfl, hx0⟩ := Kd.at_int hU (i : Int) (by omega) (by omega)
      rw [rd_at hlt, Int.toNat_natCast] at hx0
      have hx := (hbr.cell (World.block_lt_of_cell? w _ hx0)).trans hx0
      obtain ⟨u, hui⟩ : ∃ u, u = us[i] := ⟨_, rfl⟩
      rw [← hui] at hx
      obtain ⟨hu0, hu1⟩ := hu u (by rw [hui]; exact List.getElem_mem hlt)
      have HU := Lib.hid hui; have HA := Lib.hid hall; have HR := Lib.hid hR; have HE := Lib.hid hE
      by_cases h1 : u < es.length
      · have HU0 := Lib.hid hu; have HES := Lib.hid hes
        clear hui hall hR hE hx0 hU hu hes
        go_upto_region 8 with (fail)
        have hu := HU0.out; have hes := HES.out; have hui := HU.out; have hR := HR.out
        obtain ⟨k, rfl⟩ := Int.eq_ofNat_of_zero_le hu0
        have hk : k < es.length := by omega
        obtain ⟨hcu, hfu⟩ := own_at_of (d := false) hR (k : Int) (by omega) (by omega)
        rw [Int.toNat_natCast] at hcu hfu
        have HLT := Lib.hid hlt
        clear hR
        obtain ⟨ad2, A3, c3, rfl, hy0, hc3, hC0⟩ := at_L4 hr (k : Int) (by omega) (by omega)
        rw [rd4_at hk, Int.toNat_natCast] at hy0
        rw [rd4_at hk] at hc3 hC0
        obtain ⟨s, hs⟩ : ∃ s, s = es[k] := ⟨_, rfl⟩
        rw [← hs] at hy0 hc3 hC0
        have hsl := hes s (by rw [hs]; exact List.getElem_mem hk)
        have HS := Lib.hid hs
        generalize rdOf false (usedL es.length (us.take i)) (k : Int) = b0 at hcu
        clear hs hui hu hes
        go_upto_region 9 with (fail)
        obtain ⟨hst, hgr⟩ := own_store_of (enc := Value.bool) HR.out (k : Int) true
        rw [Int.toNat_natCast] at hst hgr
        have hset := used_set es.length i us HLT.out (by rw [← HU.out]; omega)
        rw [← HU.out, Int.toNat_natCast] at hset
        rw [show (usedL es.length (us.take i)).set k true = usedL es.length (us.take (i + 1)) from hset] at hst
        obtain ⟨cells, hcells⟩ := own_typed HR.out w.heap.size rfl
        have hE3 := HE.out.grown hgr hcells (by decide) (by decide)
        have hb3 : Below w.heap.size w (wr.setCell ⟨w.heap.size, k, none⟩ (.bool true)) := hbr.grown hgr hbr.size (fun k' hk' => by injection hk' with hk'; omega)
        clear hcells HR HE hset
        generalize wr.setCell ⟨w.heap.size, k, none⟩ (.bool true) = wc at *
        have hy := (hb3.cell (World.block_lt_of_cell? w _ hy0)).trans hy0
        have hC3 := Kd.C_below hC0 hb3
        have hR3 := Lib.hid hst
        have hE3H := Lib.hid hE3
        clear hy0 hC0 hst hr hgr hx hcu hfu hbr
        have hslot := hE3.slot (i := i) (by rw [txs_length]; exact HLT.out)
        clear hE3
        go_wp2_with (first
          | (go_at_call 103; refine (clone_any A3 c3 s _ hC3 (by omega)).mono ?_; rintro e wd ⟨A5, c5, rfl, ho, hb4⟩; have hE4 := hE3H.out.below hb4; obtain ⟨⟨u5, hcell5⟩, hfr5⟩ := hE4.slot (i := i) (by rw [txs_length]; exact HLT.out); have hE4H := Lib.hid hE4; clear hE4))
        have hlt := HLT.out
        have hui := HU.out
        have hs := HS.out
        obtain ⟨hp, hgr⟩ := EntB.put hE3H.out hb4 (Byt.of_own ho) (by rw [txs_length]; exact hlt) hb3.size
        have hsx : s = es.getD us[i].toNat [] := by
          rw [← hui, Int.toNat_natCast, List.getD_eq_getElem?_getD, List.getElem?_eq_getElem hk, hs]
          rfl
        have hset : (txs es us i).set i s = txs es us (i + 1) := by rw [hsx]; exact txs_set es us i hlt
        rw [hset] at hp
        refine ⟨⟨i + 1, by omega, by go_num, fun u' hu' => ?_, ?_, hp, ?_⟩, by simp [intOf]; omega⟩
        · rw [← take_snoc us i hlt] at hu'
          rcases List.mem_append.1 hu' with hu' | hu'
          · exact HA.out u' hu'
          · rw [List.mem_singleton.1 hu', ← hui]; exact h1
        · obtain ⟨vs, ogs, h7, _⟩ := hE4H.out
          have h8 := pw_own_below hR3.out hb4
          exact own_other h8 hgr (own_type_ne h8 h7 (by decide))
        · obtain ⟨vs, ogs, h7, _⟩ := hE4H.out
          have h9 := below_then hb3 hb3.size hb4
          exact h9.grown hgr h9.size (fun k' hk' => own_base h7 k' hk')
      · have ht : textsS es us = ([], 5) := by
          unfold textsS
          rw [if_neg (fun hc => h1 (by rw [hui]; exact hc.1 us[i] (List.getElem_mem hlt)))]
        have HT := Lib.hid ht
        clear hx0 hU hr hui hall hR hE ht
        go_wp2
        go_ret2
        rw [HT.out]
        exact ⟨_, rfl, hbr, EntB.nil _ _⟩
    · obtain rfl : i = us.length := by omega
      rw [List.take_length] at hall hR
      rw [txs_all] at hE
      have hul : (usedL es.length us).length = es.length := by simp [usedL]
      obtain ⟨kc, hkc⟩ := (contains_law (usedL es.length us) (by omega)).ex
      have hRB : Kd.R Kd.bool 4 wr w.heap.size (fun _ => True) (.slice (some ⟨w.heap.size, 0, none⟩) es.length es.length) (usedL es.length us) := Kd.R_of_own (by rw [hul]; exact hR) (fun _ _ => trivial)
      have hCB := (Kd.R_reads' hRB).2.2
      by_cases hP : ∀ i < es.length, (i : Int) ∈ us
      · have hr0 : decide (false ∈ usedL es.length us) = false := decide_eq_false (fun hc => (used_all es.length us).1 hc hP)
        have ht : textsS es us = (us.map fun u => es.getD u.toNat [], 0) := by
          unfold textsS
          rw [if_pos ⟨hall, hP⟩]
        rw [hr0] at hkc
        have hcon := slices_Contains_bool_bool.calls kc (some ⟨w.heap.size, 0, none⟩) es.length (usedL es.length us) false false wr hCB (by omega) hkc
        rw [hul] at hcon
        have HT := Lib.hid ht; have HE := Lib.hid hE
        clear ht hE hP hall hRB hCB hR hr hU hu hes hul hr0 hkc
        go_wp2_with (first
          | (go_at_call 104; refine hcon.mono ?_; rintro e wd ⟨rfl, hD⟩))
        go_ret2
        rw [HT.out]
        exact ⟨_, rfl, below_then hbr hbr.size hD.below, HE.out.below hD.below⟩
      · have hr0 : decide (false ∈ usedL es.length us) = true := decide_eq_true ((used_all es.length us).2 hP)
        have ht : textsS es us = ([], 5) := by
          unfold textsS
          rw [if_neg (fun hc => hP hc.2)]
        rw [hr0] at hkc
        have hcon := slices_Contains_bool_bool.calls kc (some ⟨w.heap.size, 0, none⟩) es.length (usedL es.length us) false true wr hCB (by omega) hkc
        rw [hul] at hcon
        have HT := Lib.hid ht
        clear ht hE hP hall hRB hCB hR hr hU hu hes hul hr0 hkc
        go_wp2_with (first
          | (go_at_call 104; refine hcon.mono ?_; rintro e wd ⟨rfl, hD⟩))
        go_ret2
        rw [HT.out]
        exact ⟨_, rfl, below_then hbr hbr.size hD.below, EntB.nil _ _⟩
end Go.Proofs.Ytiijkehiphkkiaa.PD
