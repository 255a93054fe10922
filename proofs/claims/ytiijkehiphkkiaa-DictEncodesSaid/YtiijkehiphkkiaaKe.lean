/-
  dict.Index at all texts.
-/
import Derived.Test.YtiijkehiphkkiaaKd
import Derived.Test.YtiijkehiphkkiaaLd
import Derived.Maps.OwnSet
import Derived.Maps.RangeWalk
import Derived.WalkKit
import Derived.WalkSpells
import Derived.WalkLawsBesides
import Derived.Lib.Hide
import Derived.OneCell
import Derived.Deep.QuietTactic
import Derived.BigQuiet
import Derived.Deep.RegionWith
import Derived.IntWalk
namespace Go.Proofs.Ytiijkehiphkkiaa.PD
open Go.RowKit Go.Maps Go.Proofs.YtiijkehiphkkiaaW.PrintWords
set_option linter.unusedVariables false
set_option linter.unusedSimpArgs false

theorem put_more {w1 : World} {b n : Nat} {D : DataW Unit} {ss : List (List Int)} {k : Nat} (hk : k < ss.length) (hd : IsMap D) (hhas : ∀ x, has D (.string x) = decide (x ∈ (ss.take k).map keyL))
    (hat : ∀ s ∈ ss.take k, D.atKey (.string (keyL s)) (.lit (.int .i64 0)) = .lit (.int .i64 0))
    (hown : w1.ownsMap Try.prog 9 (plainElem Try.prog 3) b (n + 1) (D.put (.string (keyL ss[k])) (.lit (.int .i64 0)))) : MapAt w1 b (n + 1) (ss.take (k + 1)) (fun _ => 0) := by
  refine ⟨⟨_, hown, fun x => ?_, fun s hs => ?_⟩⟩
  · rw [hasS_put hd, hhas, ← take_snoc ss k hk, List.map_append, Bool.eq_iff_iff]
    simp [or_comm]
  · rw [atS_put hd]
    split
    · rfl
    · rename_i hne
      rw [← take_snoc ss k hk] at hs
      rcases List.mem_append.1 hs with hs | hs
      · exact hat s hs
      · rw [List.mem_singleton.1 hs] at hne; exact absurd rfl hne

theorem _root_.Go.Proofs.Ytiijkehiphkkiaa.PD.MapAt.imp {w : World} {b n : Nat} {l f f'} (h : MapAt w b n l f) (hf : ∀ s ∈ l, f s = f' s) : MapAt w b n l f' := by
  obtain ⟨⟨D, h1, h2, h3⟩⟩ := h
  exact ⟨⟨D, h1, h2, fun s hs => by rw [h3 s hs, hf s hs]⟩⟩
theorem keys_any (b : Nat) (w : World) : Calls Try.prog 67 #[.map (some b)] w fun e w' => e = .returned (.func (.func 95) #[] #[.pointer (some ⟨w.heap.size, 0, none⟩)]) ∧ w' = w.alloc (.cells #[.map (some b)] 83) :=
  callsIn_wide.1 (Try.maps_Keys_67 (some b) w)

theorem sorted_any (b n : Nat) (ss : List (List Int)) (f) (w : World) (h : MapAt w b n ss f) (hb : ∀ s ∈ ss, Bys s) (hn : n ≤ 1000000) :
    Calls Try.prog 66 #[.func (.func 95) #[] #[.pointer (some ⟨w.heap.size, 0, none⟩)]] (w.alloc (.cells #[.map (some b)] 83)) fun e w' => ∃ v : Value, e = .returned v ∧
      w'.ownsRow (w.heap.size + 1) 9 1 v (ents ss).length ((ents ss).map fun s => .string (strOfNums s)) ∧ Below (w.heap.size + 1) (w.alloc (.cells #[.map (some b)] 83)) w' := by
  obtain ⟨⟨D, hown, hhas, hat⟩⟩ := h
  have hs := hown.size_le
  have hbe : ∀ s ∈ ents ss, Bys s := fun s hm => hb s (ents_mem.1 hm)
  have hp : ((ents ss).map keyL).Perm (strKeys D) := Collected.perm (left := fun _ => false) ⟨keys_nodup (ents_rising ss) hbe, fun x => by
    rw [hhas]; simp [List.mem_map, ents_mem]⟩ hown law9 Try.underlying9 (fun _ => rfl)
  refine (callsIn_wide.1 (Try.slices_Sorted_keys_66_67 b n D _ w hown (by unfold maxLen; omega) (by omega))).mono ?_
  rintro e w' ⟨v, ts, rfl, h1, h2, h3, h4⟩
  have e1 : (w.alloc (.cells #[.map (some b)] 83)).heap.size = w.heap.size + 1 := by simp
  have h5 := h1.trans hp.symm
  have h6 := sort_is (ents_rising ss) hbe h5
  have h7 : ts.length = (ents ss).length := by rw [h5.length_eq, List.length_map]
  rw [e1] at h2 h4
  rw [h6, h7, List.map_map] at h2
  exact ⟨v, rfl, h2, h4⟩

theorem owned_cells {w : World} {base n : Nat} {e : TypeId} {v : Value} {xs : List Value} (h : w.ownsRow base e 1 v n xs) :
    ∃ A c, v = .slice A n c ∧ n ≤ c ∧ (0 < n → ∃ g, base ≤ g ∧ g < w.heap.size ∧ A = some ⟨g, 0, none⟩ ∧ ∀ j, j < n → w.cell? ⟨g, j, none⟩ = xs[j]?) := by
  have h' := h
  obtain ⟨h1, h2⟩ := h
  rcases h2 with ⟨rfl, rfl⟩ | ⟨g, cap, cur, rfl, hg, hcur, r1, r2, r3, r4⟩
  · exact ⟨none, 0, rfl, Nat.le_refl _, fun h => absurd h (by omega)⟩
  · exact ⟨_, cap, rfl, r1, fun _ => ⟨g, hg, lt_of_block hcur, rfl, fun j hj => h'.cellAt j (by omega)⟩⟩

/-- A row of bytes of the call's own, in block g. -/
def Made (w : World) (base : Nat) (g : Nat) (v : Value) (xs : List Int) : Prop :=
  ∃ cap cells m, v = .slice (some ⟨g, 0, none⟩) xs.length cap ∧ base ≤ g ∧ xs.length ≤ cap ∧ w.heap[g]? = some (.cells cells 5 m) ∧ cells.size = cap ∧ cap ≤ m.1 ∧ cap ≤ maxLen ∧ ∀ i (h : i < xs.length), cells[i]? = some (.int .u8 xs[i])

theorem Made.keep {w w' : World} {base g v xs} (h : Made w base g v xs) (hb : w'.heap[g]? = w.heap[g]?) : Made w' base g v xs := by
  obtain ⟨cap, cells, m, h1, h2, h3, h4, h5⟩ := h
  exact ⟨cap, cells, m, h1, h2, h3, hb.trans h4, h5⟩
theorem Made.lt {w : World} {base g v xs} (h : Made w base g v xs) : g < w.heap.size := by
  obtain ⟨cap, cells, m, h1, h2, h3, h4, h5⟩ := h
  exact lt_of_block h4
theorem Made.lower {w : World} {base base' g v xs} (h : Made w base g v xs) (hb : base' ≤ base) : Made w base' g v xs := by
  obtain ⟨cap, cells, m, h1, h2, h5⟩ := h
  exact ⟨cap, cells, m, h1, by omega, h5⟩
theorem made_bytes (W : World) (xs : List Int) (hx : Bys xs) (hl : xs.length ≤ maxLen) :
    Made (Lib.bytesWorld W 5 (strOfNums xs)) W.heap.size W.heap.size (.slice (some ⟨W.heap.size, 0, none⟩) xs.length (grownCap W (strOfNums xs).size 0 5)) xs := by
  have hcap : xs.length ≤ grownCap W (strOfNums xs).size 0 5 := by
    have := grownCap_ge W (strOfNums xs).size 0 5
    rwa [strOfNums_size] at this ⊢
  have hmax := grownCap_le_maxLen W (strOfNums xs).size 0 5 (by rw [strOfNums_size]; exact hl)
  have hsz : (Lib.bytesCells W 5 (strOfNums xs)).size = grownCap W (strOfNums xs).size 0 5 := by
    have hn := strOfNums_size xs
    have hd : (strOfNums xs).data.size = xs.length := hn
    simp only [Lib.bytesCells, Array.size_append, Array.size_map, Array.size_replicate, hd]
    omega
  refine ⟨_, _, _, rfl, Nat.le_refl _, hcap, Lib.bytesWorld_at_new W 5 _, hsz, by rw [hsz]; exact Nat.le_refl _, hmax, fun i h => ?_⟩
  have := Lib.bytesWorld_cell W 5 (strOfNums xs) i (by rw [strOfNums_size]; exact h)
  simp only [World.cell?, Lib.bytesWorld_at_new] at this
  have this := (if_neg (by simp)).symm.trans this
  rw [this, strOfNums_data]
  have h1 := hx xs[i] (List.getElem_mem h)
  congr 2
  simp [List.getD, h]
  omega

/-- Entries of the call's own: a row of rows of bytes, each in a block of its own. -/
def Ent (w : World) (base : Nat) (v : Value) (es : List (List Int)) : Prop :=
  ∃ (vs : List Value) (gs : List Nat), w.ownsRow base 55 1 v es.length vs ∧ gs.length = es.length ∧ gs.Nodup ∧
    ∀ i (h : i < es.length) (hg : i < gs.length), ∃ u, vs[i]? = some u ∧ Made w base gs[i] u es[i]
theorem own_ne {w : World} {base base' n : Nat} {v u : Value} {g : Nat} {xs : List Int} {vs : List Value} (h : w.ownsRow base 55 1 v n vs) (hm : Made w base' g u xs) : v.ownBlock ≠ some g := by
  intro e
  obtain ⟨cells, hc⟩ := own_typed h g e
  obtain ⟨cap, cells', m, _, _, _, h4, _⟩ := hm
  rw [hc] at h4
  injection h4 with h4
  injection h4 with _ h4
  exact absurd h4 (by decide)
theorem Ent.nil {w : World} {base : Nat} {A : Option Addr} {c : Nat} (h : w.ownsRow base 55 1 (.slice A 0 c) 0 []) : Ent w base (.slice A 0 c) [] :=
  ⟨[], [], h, rfl, List.nodup_nil, fun i h => absurd h (by simp)⟩
theorem own_same {w : World} {base n : Nat} {v : Value} {xs ys : List Value} {e : TypeId} (h : w.ownsRow base e 1 v n xs) (h' : w.ownsRow base e 1 v n ys) : xs = ys := by
  obtain ⟨l1, h1⟩ := h
  obtain ⟨l2, h2⟩ := h'
  rcases h1 with ⟨rfl, rfl⟩ | ⟨g, cap, cur, rfl, hg, hcur, r1, r2, r3, r4⟩
  · rw [List.eq_nil_of_length_eq_zero (by omega : xs.length = 0), List.eq_nil_of_length_eq_zero (by omega : ys.length = 0)]
  · rcases h2 with ⟨h2, _⟩ | ⟨g', cap', cur', e2, hg', hcur', _, _, _, r4'⟩
    · cases h2
    · injection e2 with e2 _ _
      injection e2 with e2
      injection e2 with e2 _ _
      subst e2
      rw [hcur] at hcur'
      injection hcur' with hcur'
      injection hcur' with hcur' _ _
      subst hcur'
      rw [← r4, ← r4']
theorem Ent.below {w w1 : World} {base : Nat} {v : Value} {es : List (List Int)} (hE : Ent w base v es) (hb : Below w.heap.size w w1) : Ent w1 base v es := by
  obtain ⟨vs, gs, h1, h2, h4, h5⟩ := hE
  refine ⟨vs, gs, own_move h1 (fun k hk => hb.block k (own_lt h1 k hk)), h2, h4, fun i h hg => ?_⟩
  obtain ⟨u', hu', hM'⟩ := h5 i h hg
  exact ⟨u', hu', hM'.keep (hb.block _ hM'.lt)⟩
theorem Ent.snoc {w0 w w3 : World} {base g : Nat} {v v' u : Value} {es : List (List Int)} {x : List Int} (hE : Ent w0 base v es) (hb : Below w0.heap.size w0 w) (hge : w0.heap.size ≤ g) (hm : Made w base g u x)
    (hg3 : w.grownBy w3 v.ownBlock) {vs : List Value} (h0 : w.ownsRow base 55 1 v es.length vs) (h3 : w3.ownsRow base 55 1 v' (es.length + 1) (vs ++ [u])) : Ent w3 base v' (es ++ [x]) := by
  obtain ⟨vs', gs, h1, h2, h4, h5⟩ := hE
  have h1 := own_move h1 (fun k hk => hb.block k (own_lt h1 k hk))
  obtain rfl : vs' = vs := own_same h1 h0
  have hkeep : ∀ g' u' x', Made w base g' u' x' → Made w3 base g' u' x' := fun g' u' x' hM => hM.keep (hg3.block g' hM.lt (fun e => own_ne h1 hM e.symm))
  have hvl : vs'.length = es.length := by have := h1.1; omega
  refine ⟨vs' ++ [u], gs ++ [g], by rw [List.length_append]; exact h3, by simp [h2], ?_, fun i h hg => ?_⟩
  · refine List.nodup_append.2 ⟨h4, by simp, fun a ha b hb e => ?_⟩
    rw [List.mem_singleton.1 hb] at e
    obtain ⟨i, hi, e2⟩ := List.getElem_of_mem ha
    obtain ⟨u', hu', hM'⟩ := h5 i (by omega) hi
    have := hM'.lt
    omega
  · rcases Nat.lt_or_ge i es.length with hi | hi
    · obtain ⟨u', hu', hM'⟩ := h5 i hi (by omega)
      refine ⟨u', by rw [List.getElem?_append_left (by omega)]; exact hu', ?_⟩
      rw [List.getElem_append_left (by omega), List.getElem_append_left hi]
      exact hkeep _ _ _ (hM'.keep (hb.block _ hM'.lt))
    · have : i = es.length := by simp at h; omega
      subst this
      refine ⟨u, by rw [List.getElem?_append_right (by omega)]; simp [hvl], ?_⟩
      have e1 : (gs ++ [g])[es.length] = g := by rw [List.getElem_append_right (by omega)]; simp [h2]
      rw [e1]
      simp only [List.getElem_append_right (Nat.le_refl _), Nat.sub_self, List.getElem_cons_zero]
      exact hkeep _ _ _ hm

theorem Ent.turn {w w1 : World} {base b : Nat} {v : Value} {es : List (List Int)} (hE : Ent w base v es) (ht : w.mapTurned w1 b) : Ent w1 base v es := by
  have hg := ht.grown
  obtain ⟨es', clock, _, _, hmap, _⟩ := ht
  have hsame : ∀ k cells t m, w.heap[k]? = some (Obj.cells cells t m) → w1.heap[k]? = w.heap[k]? := fun k cells t m hk => hg.block k (lt_of_block hk) (fun e => by
    have e : k = b := by injection e
    rw [e, hmap] at hk
    cases hk)
  obtain ⟨vs, gs, h1, h2, h4, h5⟩ := hE
  refine ⟨vs, gs, own_move h1 (fun k hk => by obtain ⟨cells, hc⟩ := own_typed h1 k hk; exact hsame k _ _ _ hc), h2, h4, fun i h hg => ?_⟩
  obtain ⟨u', hu', hM'⟩ := h5 i h hg
  have hM2 := hM'
  obtain ⟨cap, cells, m, _, _, _, hc, _⟩ := hM2
  exact ⟨u', hu', hM'.keep (hsame _ _ _ _ hc)⟩

theorem Ent.grown {w w1 : World} {base g : Nat} {v : Value} {es : List (List Int)} (hE : Ent w base v es) (hg : w.grownBy w1 (some g)) {cells : Array Value} {t : Nat} {m : Nat × Nat} (hc : w.heap[g]? = some (Obj.cells cells t m)) (h55 : t ≠ 55) (h5 : t ≠ 5) : Ent w1 base v es := by
  obtain ⟨vs, gs, h1, h2, h4, h6⟩ := hE
  refine ⟨vs, gs, own_move h1 (fun k hk => ?_), h2, h4, fun i h hgi => ?_⟩
  · refine hg.block k (own_lt h1 k hk) (fun e => ?_)
    have e : k = g := by injection e
    subst e
    obtain ⟨cells', hc'⟩ := own_typed h1 k hk
    rw [hc] at hc'
    injection hc' with hc'
    injection hc' with _ hc' _
    exact h55 hc'
  · obtain ⟨u', hu', hM'⟩ := h6 i h hgi
    refine ⟨u', hu', hM'.keep (hg.block _ hM'.lt (fun e => ?_))⟩
    have e : gs[i] = g := by injection e
    obtain ⟨cap, cells', m', _, _, _, h7, _⟩ := hM'
    rw [e, hc] at h7
    injection h7 with h7
    injection h7 with _ h7 _
    exact h5 h7
/-- The codes behind k rounds. -/
def cod (ss : List (List Int)) (k : Nat) : List Int := (List.range ss.length).map fun j => if j < k then ((pos (ents ss) (ss.getD j []) : Nat) : Int) else 0
theorem cod_set (ss : List (List Int)) (k : Nat) (h : k < ss.length) : (cod ss k).set k ((pos (ents ss) ss[k] : Nat) : Int) = cod ss (k + 1) := by
  apply List.ext_getElem
  · simp [cod]
  · intro j h1 h2
    rw [List.getElem_set]
    simp only [cod, List.getElem_map, List.getElem_range]
    by_cases h3 : k = j
    · subst h3
      rw [if_pos rfl, if_pos (by omega), List.getD_eq_getElem?_getD, List.getElem?_eq_getElem h]
      rfl
    · rw [if_neg h3]
      by_cases h4 : j < k
      · rw [if_pos h4, if_pos (by omega)]
      · rw [if_neg h4, if_neg (by omega)]
theorem cod_zero (ss : List (List Int)) : cod ss 0 = List.replicate ss.length 0 := by
  apply List.ext_getElem
  · simp [cod]
  · intro j h1 h2
    simp [cod]
theorem cod_all (ss : List (List Int)) : cod ss ss.length = ss.map (fun s => ((pos (ents ss) s : Nat) : Int)) := by
  apply List.ext_getElem
  · simp [cod]
  · intro j h1 h2
    have h3 : j < ss.length := by simpa [cod] using h1
    simp only [cod, List.getElem_map, List.getElem_range, if_pos h3]
    rw [List.getD_eq_getElem?_getD, List.getElem?_eq_getElem h3]
    rfl
theorem cod_length (ss : List (List Int)) (k : Nat) : (cod ss k).length = ss.length := by simp [cod]

/-- The numbers behind j rounds. -/
def num (ss : List (List Int)) (j : Nat) (s : List Int) : Int := if pos (ents ss) s < j then ((pos (ents ss) s : Nat) : Int) else 0
theorem pos_getElem {es : List (List Int)} (hs : Rising es) {j : Nat} (hj : j < es.length) : pos es es[j] = j := by
  refine IsPos.unique (pos_is hs _) ⟨by omega, fun i h hi => hs.get hi hj, fun i h hi hlt => ?_⟩
  rcases Nat.lt_or_eq_of_le hi with h' | h'
  · have := cmpL_lt_trans (hs.get h' h) hlt
    rw [cmpL_self] at this; omega
  · subst h'; rw [cmpL_self] at hlt; omega
theorem put_num {w1 : World} {b n : Nat} {D : DataW Unit} {ss : List (List Int)} {j : Nat} (hj : j < (ents ss).length) (hb : ∀ s ∈ ss, Bys s) (hd : IsMap D) (hhas : ∀ x, has D (.string x) = decide (x ∈ ss.map keyL))
    (hat : ∀ s ∈ ss, D.atKey (.string (keyL s)) (.lit (.int .i64 0)) = .lit (.int .i64 (num ss j s)))
    (hown : w1.ownsMap Try.prog 9 (plainElem Try.prog 3) b n (D.put (.string (keyL (ents ss)[j])) (.lit (.int .i64 j)))) : MapAt w1 b n ss (num ss (j + 1)) := by
  have hmem : (ents ss)[j] ∈ ss := ents_mem.1 (List.getElem_mem hj)
  have hpj := pos_getElem (ents_rising ss) hj
  refine ⟨⟨_, hown, fun x => ?_, fun s hs => ?_⟩⟩
  · rw [hasS_put hd, hhas, Bool.eq_iff_iff]
    simp only [Bool.or_eq_true, decide_eq_true_eq]
    refine ⟨fun h => ?_, .inr⟩
    rcases h with rfl | h
    · exact List.mem_map_of_mem hmem
    · exact h
  · rw [atS_put hd]
    split
    · rename_i e
      have e2 := key_inj (hb s hs) (hb _ hmem) e
      rw [e2]
      unfold num
      rw [hpj, if_pos (by omega)]
    · rename_i hne
      rw [hat s hs]
      unfold num
      obtain ⟨h1, h2⟩ := pos_at (ents_rising ss) (ents_mem.2 hs)
      have : pos (ents ss) s ≠ j := fun e => hne (by congr 1; rw [← h2]; simp only [e])
      by_cases h3 : pos (ents ss) s < j
      · rw [if_pos h3, if_pos (by omega)]
      · rw [if_neg h3, if_neg (by omega)]

set_option maxRecDepth 100000 in
set_option maxHeartbeats 600000 in
theorem dindex_any (A : Option Addr) (c : Nat) (ss : List (List Int)) (w : World) (hr : Kd.C (Kd.slice 5 (Kd.int .u8)) w A ss.length ss) (hc : ss.length ≤ c) (hb : ∀ s ∈ ss, Bys s) :
    Calls Try.prog 33 #[.slice A ss.length c] w fun e w' => ∃ v1 v2, e = .returned (.tuple #[v1, v2, .int .i64 (idx ss).2.2]) ∧ Below w.heap.size w w' ∧ Ent w' w.heap.size v1 (idx ss).1 ∧ Kd.R (Kd.int .i64) 3 w' w.heap.size (fun _ => True) v2 (idx ss).2.1 := by
  have hmm := @run_makeMap Try.prog
  by_cases h0 : 4096 < ss.length
  · have hi : idx ss = ([], [], 4) := by unfold idx; rw [if_pos (.inl h0)]
    go_enter Try.func33, Try.ntmps33
    go_wp2
    go_ret3
    rw [hi]
    exact ⟨_, _, rfl, Below.refl _ _, Ent.nil (own_nil _ _ _ _), Kd.R_nil _ _ _ _ _⟩
  · have e1 : (w.alloc (.map #[] 0)).heap[w.heap.size]? = some (.map #[] 0) := (MapKept.heap_alloc w _).1
    have s1 : (w.alloc (.map #[] 0)).heap.size = w.heap.size + 1 := by simp
    go_enter Try.func33, Try.ntmps33
    go_wp2
    go_loopw [20] (fun vi wr => ∃ k : Nat, k ≤ ss.length ∧ vi = .int .i64 k ∧ (∀ s ∈ ss.take k, s.length ≤ 200) ∧ MapAt wr w.heap.size k (ss.take k) (fun _ => 0) ∧ Below w.heap.size w wr) (fun vi _ => ss.length - (intOf vi).toNat)
    case atStart => exact ⟨0, by omega, rfl, by simp, MapAt.empty _ e1, (Below.refl _ w).alloc (Nat.le_refl _) _⟩
    case round =>
      obtain ⟨k, hk, rfl, hsm, hM, hbr⟩ := hrel
      by_cases hlt : k < ss.length
      · obtain ⟨ad, A1, c1, rfl, hx0, hc1, hC0⟩ := at_L4 hr (k : Int) (by omega) (by omega)
        rw [rd4_at hlt, Int.toNat_natCast] at *
        have hx := (hbr.cell (World.block_lt_of_cell? w _ hx0)).trans hx0
        have hC := Kd.C_below hC0 hbr
        clear hx0 hC0
        obtain ⟨s, hs⟩ : ∃ s, s = ss[k] := ⟨_, rfl⟩
        rw [← hs] at hx hC hc1
        by_cases hbig : 200 < s.length
        · have hi : idx ss = ([], [], 4) := by unfold idx; rw [if_pos (.inr ⟨s, by rw [hs]; exact List.getElem_mem hlt, hbig⟩)]
          clear hC hs
          go_wp2
          go_ret3
          rw [hi]
          exact ⟨_, _, rfl, hbr, Ent.nil (own_nil _ _ _ _), Kd.R_nil _ _ _ _ _⟩
        · have hcv := Kd.C_string (P := Try.prog) (c := c1) Try.underlying55 Try.underlying5 Try.underlying9 hC
          obtain ⟨⟨D, hown, hhas, hat⟩⟩ := hM
          have hkey := key_of s (by omega)
          have hd : IsMap D := hown.isMap
          have HH := Lib.hid hhas; have HAT := Lib.hid hat; have HS := Lib.hid hs; have HSM := Lib.hid hsm; have HLT := Lib.hid hlt; have HBG := Lib.hid hbig
          clear hhas hat hs hsm hC hr hb
          go_wp2_with (first
            | (at_mapUpdate; refine wpList_mapUpdate_in _ rfl _ _ _ 83 rfl 9 3 law9 Try.underlying83 _ w.heap.size k D rfl hown (by unfold maxLen; omega) _ _ _ rfl rfl hkey _ [] (plainElem_int Try.underlying3 (WalkArith.wf_i64 (by omega))) ?_; intro w1 hown1 hturn1)
            | go_in)
          go_roundw
          case rel =>
            have hlt2 := HLT.out
            have hs2 := HS.out
            refine ⟨k + 1, by omega, by go_num, fun x hx => ?_, put_more hlt2 hd HH.out HAT.out (hs2 ▸ hown1), hbr.grown hturn1.grown hbr.size (fun j hj => by injection hj with hj; omega)⟩
            · rw [← take_snoc ss k hlt2] at hx
              rcases List.mem_append.1 hx with hx | hx
              · exact HSM.out x hx
              · rw [List.mem_singleton.1 hx, ← hs2]; have := HBG.out; omega
          case measure => have hlt2 := HLT.out; simp [intOf]; omega
      · obtain rfl : k = ss.length := by omega
        rw [List.take_length] at hsm hM
        have hlen := ents_length ss
        go_upto_region 12 with (fail)
        have hM2 : MapAt (wr.alloc (Obj.cells #[] 55)) w.heap.size ss.length ss (fun _ => 0) := hM.kept (Below.heap_alloc _ _ _ hM.lt)
        have hB2 : Below w.heap.size w (wr.alloc (Obj.cells #[] 55)) := hbr.alloc hbr.size _
        have hE2 : (wr.alloc (Obj.cells #[] 55)).ownsRow w.heap.size 55 1 (.slice (some ⟨wr.heap.size, 0, none⟩) 0 0) 0 [] := by
          refine ⟨rfl, .inr ⟨wr.heap.size, 0, #[], rfl, hbr.size, (MapKept.heap_alloc wr _).1, ?_⟩⟩
          simp
        generalize (wr.alloc (Obj.cells #[] 55)) = wx at *
        generalize (some ⟨wr.heap.size, 0, none⟩ : Option Addr) = A2 at *
        go_wp2_with (first
          | (go_at_call 67; refine (keys_any w.heap.size _).mono ?_; rintro e w1 ⟨rfl, rfl⟩)
          | (go_at_call 66; refine (sorted_any w.heap.size ss.length ss _ wx hM2 hb (by omega)).mono ?_; rintro e w1 ⟨v, rfl, hrow, hb1⟩; obtain ⟨Av, cv, rfl, hcv, hcells⟩ := owned_cells hrow))
        have hbx : w.heap.size < wx.heap.size := hM2.lt
        have hb0 : Below wx.heap.size wx w1 := ((Below.refl _ wx).alloc (Nat.le_refl _) _).trans (hb1.mono (Nat.le_succ _))
        have hM3 : MapAt w1 w.heap.size ss.length ss (num ss 0) := (hM2.kept (hb0.block _ hbx)).imp (fun s _ => by simp [num])
        have hB3 : Below w.heap.size w w1 := hB2.trans (hb0.mono (by omega))
        have hE3 : Ent w1 w.heap.size (.slice A2 0 0) [] := (Ent.nil hE2).below hb0
        have hsz1 := hb0.size
        clear hM2 hB2 hE2 hM hb1 hbr
        obtain ⟨n, hn⟩ : ∃ n, n = (ents ss).length := ⟨_, rfl⟩
        rw [← hn] at hrow hcv hcells hlen
        go_loopw [8, 36] (fun ve vi wq => ∃ j : Nat, j ≤ n ∧ vi = .int .i64 j ∧ Ent wq w.heap.size ve ((ents ss).take j) ∧ MapAt wq w.heap.size (ss.length + j) ss (num ss j) ∧ Below w.heap.size w wq ∧ w1.heap.size ≤ wq.heap.size ∧ (∀ g, Av = some ⟨g, 0, none⟩ → wq.heap[g]? = w1.heap[g]?)) (fun _ vi _ => n - (intOf vi).toNat)
        case atStart => exact ⟨0, by omega, rfl, hE3, hM3, hB3, Nat.le_refl _, fun _ _ => rfl⟩
        case round =>
          obtain ⟨j, hj, rfl, hE, hM, hbr, hsq, hgk⟩ := hrel
          by_cases hlt : j < n
          · obtain ⟨g, hg1, hg2, rfl, hcell⟩ := hcells (by omega)
            have hjn : j < (ents ss).length := by omega
            obtain ⟨x, hx⟩ : ∃ x, x = (ents ss)[j] := ⟨_, rfl⟩
            have hxm : x ∈ ss := by rw [hx]; exact ents_mem.1 (List.getElem_mem hjn)
            have hcj : wr.cell? ⟨g, j, none⟩ = some (.string (strOfNums x)) := by
              have h1 := hcell j hlt
              rw [List.getElem?_map, List.getElem?_eq_getElem hjn, ← hx] at h1
              rw [← show w1.cell? ⟨g, j, none⟩ = wr.cell? ⟨g, j, none⟩ by simp only [World.cell?, hgk g rfl]]
              exact h1
            have hxl : x.length ≤ 200 := hsm x hxm
            have hcb := Lib.run_convert_string_bytes (P := Try.prog) wr 9 55 5 (strOfNums x) Try.underlying9 Try.underlying55 Try.underlying5
            have hmd := made_bytes wr x (hb x hxm) (by unfold maxLen; omega)
            have hE1 := hE
            obtain ⟨vs, gs, ho, _, _, _⟩ := hE1
            have htl : (List.take j (ents ss)).length = j := by rw [List.length_take]; omega
            rw [htl] at ho
            obtain ⟨A8, c8, rfl, hc8, _⟩ := owned_cells ho
            obtain ⟨⟨D, hown, hhas, hat⟩⟩ := hM
            have hkey := key_of x (by omega)
            have hd : IsMap D := hown.isMap
            simp only [strOfNums_size] at hcb hmd
            have hob : (Lib.bytesWorld wr 5 (strOfNums x)).ownsRow w.heap.size 55 1 _ _ _ := own_move ho (fun k hk => Lib.bytesWorld_at_old wr 5 _ k (own_lt ho k hk))
            have hsb := Lib.bytesWorld_size wr 5 (strOfNums x)
            have hbb : Below wr.heap.size wr (Lib.bytesWorld wr 5 (strOfNums x)) := bytes_below (Below.refl _ _) (Nat.le_refl _) 5 _
            have hownb : (Lib.bytesWorld wr 5 (strOfNums x)).ownsMap Try.prog 9 (plainElem Try.prog 3) w.heap.size (ss.length + j) D := by
              obtain ⟨es, clock, h1, h2⟩ := hown
              exact ⟨es, clock, (hbb.block _ (lt_of_block h1)).trans h1, h2⟩
            generalize Lib.bytesWorld wr 5 (strOfNums x) = wb at *
            have hgt := own_typed hrow g rfl
            have hobase : ∀ k, (Value.slice A8 j c8).ownBlock = some k → w.heap.size ≤ k := fun k hk => own_base ho k hk
            have hbne : ∀ k, (Value.slice A8 j c8).ownBlock = some k → k ≠ w.heap.size := by
              intro k hk e
              obtain ⟨cells, hc⟩ := own_typed hob k hk
              obtain ⟨es, clock, h1, h2⟩ := hownb
              rw [e, h1] at hc
              cases hc
            have hwbs : w.heap.size < wb.heap.size := by omega
            have HSB := Lib.hid hsb
            clear hsb
            have hbS := Lib.hid hb; have HX := Lib.hid hx; have HH := Lib.hid hhas; have HAT := Lib.hid hat; have HM := Lib.hid hmd; have HG := Lib.hid hgk; have HE := Lib.hid hE
            clear hx hhas hat hmd hgk hE hcell hrow hr hb hown ho
            obtain ⟨i0, hi, hz0, hz1, hz2⟩ := info_parts info55
            go_wp2_with (first
              | (at_builtin; refine wpList_append_own _ rfl _ _ 45 rfl w.heap.size 55 i0 (.slice none 0 0) 1 24 Try.underlying45 hi hz0 hz1 hz2 rfl (by decide) _ _ _ rfl (own_alloc hob _) ⟨wb.heap.size, 0, none⟩ 1 1 [.slice (some ⟨wr.heap.size, 0, none⟩) x.length (grownCap wr x.length 0 5)] rfl (by simp) (cell_one_new _ _ _) (by simp [Value.oneCell']) (by unfold maxLen; omega) (by omega) (by simp; omega) ?_; intro v' w4 hown4 hgrow4 hnil4
                 have hbl := (hgrow4.block w.heap.size (by simp; omega) (fun e => hbne _ e.symm rfl)).trans (Below.heap_alloc wb _ _ (by omega))
                 have hown5 : w4.ownsMap Try.prog 9 (plainElem Try.prog 3) w.heap.size (ss.length + j) D := by
                   obtain ⟨es, clock, h1, h2⟩ := hownb
                   exact ⟨es, clock, hbl.trans h1, h2⟩)
              | (at_mapUpdate; refine wpList_mapUpdate_in _ rfl _ _ _ 83 rfl 9 3 law9 Try.underlying83 _ w.heap.size (ss.length + j) D rfl hown5 (by unfold maxLen; omega) _ _ _ rfl rfl hkey _ [] (plainElem_int Try.underlying3 (WalkArith.wf_i64 (by omega))) ?_; intro w5 hown6 hturn6))
            have hsx := hbx
            go_roundw
            case rel =>
              have hxj : x = (ents ss)[j] := HX.out
              have hsb := HSB.out
              have hbw : Below wr.heap.size wr (wb.alloc (Obj.cells #[.slice (some ⟨wr.heap.size, 0, none⟩) x.length (grownCap wr x.length 0 5)] 55)) := hbb.trans ((Below.refl _ wb).alloc (by omega) _)
              have hM4 := (HM.out.lower hbr.size).keep (w' := wb.alloc (Obj.cells #[.slice (some ⟨wr.heap.size, 0, none⟩) x.length (grownCap wr x.length 0 5)] 55)) (Below.heap_alloc wb _ _ (by omega))
              have hE4 := Ent.snoc HE.out hbw (Nat.le_refl _) hM4 hgrow4 (by rw [htl]; exact own_alloc hob _) (by rw [htl]; exact hown4)
              refine ⟨j + 1, by omega, by go_num, ?_, ?_, ?_, ?_, fun g' hg' => ?_⟩
              · rw [← take_snoc (ents ss) j hjn, ← hxj]
                exact hE4.turn hturn6
              · have hHH := HH.out
                have hHAT := HAT.out
                rw [hxj] at hown6
                exact put_num hjn (hbS.out) hd hHH hHAT hown6
              · exact ((((hbr.trans (hbb.mono hbr.size)).alloc (by omega) _).grown hgrow4 (by simp; omega) hobase).grown hturn6.grown (by have := hgrow4.size; simp at this; omega) (fun k hk => by injection hk with hk; omega))
              · have h4 := hgrow4.size
                have h5 := hturn6.grown.size
                simp at h4
                omega
              · have hgg := HG.out g' hg'
                injection hg' with hg'
                injection hg' with hg' _ _
                subst hg'
                obtain ⟨cg, hcg⟩ := hgt
                have hgw : wb.heap[g]? = w1.heap[g]? := (hbb.block g (by omega)).trans hgg
                have hgne : some g ≠ (Value.slice A8 j c8).ownBlock := by
                  intro e
                  obtain ⟨cells, hc⟩ := own_typed hob g e.symm
                  rw [hgw, hcg] at hc
                  injection hc with hc
                  injection hc with _ hc _
                  exact absurd hc (by decide)
                have h4 := hgrow4.size
                simp at h4
                have k1 := hturn6.grown.block g (by omega) (fun e => by injection e with e; omega)
                have k2 := hgrow4.block g (by simp; omega) hgne
                exact k1.trans (k2.trans ((Below.heap_alloc wb _ g (by omega)).trans hgw))
            case measure => simp [intOf]; omega
          · obtain rfl : j = n := by omega
            have hTE : (ents ss).take j = ents ss := List.take_of_length_le (by omega)
            rw [hTE] at hE
            have hmk := print_make (P := Try.prog) 47 3 .i64 8 Try.underlying47 info3 (by decide) ss.length (by omega)
            have hRM := own_made wr w.heap.size 3 .i64 ss.length hbr.size (by omega)
            have hBM : Below w.heap.size w (wr.alloc (.cells (madeCells #[.int .i64 0] ss.length) 3)) := hbr.alloc hbr.size _
            have hb1 : Below wr.heap.size wr (wr.alloc (.cells (madeCells #[.int .i64 0] ss.length) 3)) := (Below.refl _ wr).alloc (Nat.le_refl _) _
            have hEM := hE.below hb1
            have hMM : MapAt (wr.alloc (.cells (madeCells #[.int .i64 0] ss.length) 3)) w.heap.size (ss.length + j) ss (num ss j) := hM.kept (hb1.block _ hM.lt)
            have hbl := hM.lt
            rw [← cod_zero] at hRM
            go_upto_region 19 with (fail)
            generalize (wr.alloc (.cells (madeCells #[.int .i64 0] ss.length) 3)) = wy at *
            generalize wr.heap.size = g3 at *
            have HX := Lib.hid hb
            clear hb1 hE hM hmk hcells hrow hgk hbr hE3 hM3 hB3 hb0 e1
            go_wp2
            go_loopw [55] (fun vi wq => ∃ k : Nat, k ≤ ss.length ∧ vi = .int .i64 k ∧ wq.ownsRow w.heap.size 3 1 (.slice (some ⟨g3, 0, none⟩) ss.length ss.length) ss.length (nums .i64 (cod ss k)) ∧ Ent wq w.heap.size u8 (ents ss) ∧ MapAt wq w.heap.size (ss.length + j) ss (num ss j) ∧ Below w.heap.size w wq) (fun vi _ => ss.length - (intOf vi).toNat)
            case atStart => exact ⟨0, by omega, rfl, hRM, hEM, hMM, hBM⟩
            case round =>
              obtain ⟨k, hk, rfl, hR, hE, hM, hbr⟩ := hrel
              by_cases hlt : k < ss.length
              · obtain ⟨ad, A1, c1, rfl, hx0, hc1, hC0⟩ := at_L4 hr (k : Int) (by omega) (by omega)
                rw [rd4_at hlt, Int.toNat_natCast] at *
                have hx := (hbr.cell (World.block_lt_of_cell? w _ hx0)).trans hx0
                have hC := Kd.C_below hC0 hbr
                clear hx0 hC0
                obtain ⟨s, hs⟩ : ∃ s, s = ss[k] := ⟨_, rfl⟩
                rw [← hs] at hx hC hc1
                have hsm1 : s ∈ ss := by rw [hs]; exact List.getElem_mem hlt
                have hbig := hsm s hsm1
                have hcv := Kd.C_string (P := Try.prog) (c := c1) Try.underlying55 Try.underlying5 Try.underlying9 hC
                obtain ⟨⟨D, hown, hhas, hat⟩⟩ := hM
                have hkey := key_of s (by omega)
                have hd : IsMap D := hown.isMap
                obtain ⟨hcc, hfr⟩ := own_at hR (k : Int) (by omega) (by omega)
                rw [Int.toNat_natCast] at hcc hfr
                have HH := Lib.hid hhas; have HAT := Lib.hid hat; have HS := Lib.hid hs; have HSM := Lib.hid hsm; have HLT := Lib.hid hlt; have HR := Lib.hid hR; have HE := Lib.hid hE
                have HN := Lib.hid hn
                clear hhas hat hs hsm hC hr hR hE hb hn
                go_wp2_with (first
                  | (at_lookup; refine wpList_lookup_own_int _ rfl _ _ 83 rfl 9 3 .i64 law9 Try.underlying83 Try.underlying3 (zero3 _) w.heap.size (ss.length + j) D rfl hown _ _ rfl hkey ?_; intro cx hatx hwc)
                  | go_in)
                go_roundw
                case rel =>
                  have hs2 := HS.out
                  have hn := HN.out
                  have hcx : cx = ((pos (ents ss) s : Nat) : Int) := by
                    have h1 := HAT.out s hsm1
                    rw [hatx] at h1
                    have h2 : cx = num ss j s := by injection h1 with h1; injection h1
                    obtain ⟨h3, _⟩ := pos_at (ents_rising ss) (ents_mem.2 hsm1)
                    rw [h2]
                    unfold num
                    rw [if_pos (by omega)]
                  have hst := own_store HR.out (k : Int) cx
                  rw [Int.toNat_natCast] at hst
                  obtain ⟨hst1, hst2⟩ := hst
                  obtain ⟨cells, hcells⟩ := own_typed HR.out g3 rfl
                  have hg3 : w.heap.size ≤ g3 := own_base HR.out g3 rfl
                  have hne : w.heap.size ≠ g3 := by
                    intro e
                    obtain ⟨es, clock, h1, h2⟩ := hown
                    rw [e, hcells] at h1
                    cases h1
                  rw [hcx, hs2, cod_set] at hst1
                  refine ⟨k + 1, by omega, by go_num, by rw [hcx, hs2]; exact hst1, HE.out.grown hst2 hcells (by decide) (by decide), ?_, hbr.grown hst2 hbr.size (fun k' hk' => by injection hk' with hk'; omega)⟩
                  exact MapAt.kept (w := wr) ⟨⟨D, hown, HH.out, HAT.out⟩⟩ (hst2.block _ hown.lt (fun e => hne (by injection e)))
                case measure => simp [intOf]; omega
              · obtain rfl : k = ss.length := by omega
                have hi : idx ss = (ents ss, ss.map (fun s => ((pos (ents ss) s : Nat) : Int)), 0) := by
                  unfold idx
                  rw [if_neg]
                  rintro (h | ⟨s, hs, h⟩)
                  · omega
                  · have := hsm s hs; omega
                rw [cod_all] at hR
                clear hM hr hb
                go_wp2
                go_ret3
                rw [hi]
                refine ⟨_, _, rfl, hbr, hE, Kd.R_of_own ?_ (fun _ _ => trivial)⟩
                rw [List.length_map]
                exact hR
end Go.Proofs.Ytiijkehiphkkiaa.PD
