/-
  The contracts of the package mvcc, the lists: (set).list, Flight and Pins. No conditions but sizes.
-/
import Derived.Test.YtiijkehiphkkiaaMl
namespace Go.Proofs.Ytiijkehiphkkiaa
open Go.RowKit Go.Maps Go.Sort

theorem keys_any (b : Nat) (w : World) : Calls Try.prog 90 #[.map (some b)] w fun e w' => e = .returned (.func (.func 109) #[] #[.pointer (some ⟨w.heap.size, 0, none⟩)]) ∧ w' = w.alloc (.cells #[.map (some b)] 71) :=
  callsIn_wide.1 (Try.maps_Keys_90 (some b) w)

theorem sorted_any (b n : Nat) (l : List Int) (w : World) (h : SetAt w b n l) (hn : n * 8 ≤ 140737488355328) :
    Calls Try.prog 89 #[.func (.func 109) #[] #[.pointer (some ⟨w.heap.size, 0, none⟩)]] (w.alloc (.cells #[.map (some b)] 71)) fun e w' => ∃ (v : Value) (ss : List Int), e = .returned v ∧ ss.Perm (dd l) ∧
      w'.ownsRow (w.heap.size + 1) 2 1 v ss.length ((rise ss).map (Value.int .i64)) ∧ Below (w.heap.size + 1) (w.alloc (.cells #[.map (some b)] 71)) w' := by
  obtain ⟨⟨D, hown, hhas, hat⟩, hwf, hle⟩ := h
  have hs := hown.size_le
  have hp : (dd l).Perm (intKeys D) := CollectedI.perm (left := fun _ => false) ⟨nodup_dd l, fun x => by rw [mem_dd, hhas]; simp⟩ hown law2 Try.underlying2 (fun _ => rfl)
  refine (callsIn_wide.1 (Try.slices_Sorted_keys_89_90 b n D _ w hown (by unfold maxLen; omega) (by omega))).mono ?_
  rintro e w' ⟨v, ss, rfl, h1, h2, h3, h4⟩
  have e1 : (w.alloc (.cells #[.map (some b)] 71)).heap.size = w.heap.size + 1 := by simp
  rw [e1] at h2 h4
  exact ⟨v, ss, rfl, h1.trans hp.symm, h2, h4⟩

/-- A slice of the call's own, from block B on, that holds a list of whole numbers; nil just where it is empty. -/
structure Ints (w : World) (B : Nat) (v : Value) (l : List Int) : Prop where
  row : w.ownsRow B 2 1 v l.length (l.map (Value.int .i64))

theorem Ints.nil (w : World) (B : Nat) : Ints w B (.slice none 0 0) [] := ⟨by simp, .inl ⟨rfl, rfl⟩⟩

theorem Ints.noneOf {w : World} {B : Nat} {l : List Int} (h : l = []) : Ints w B (.slice none 0 0) (rise l) := by
  subst h; simpa [rise] using Ints.nil w B

theorem Ints.mono {w : World} {B B' : Nat} {v : Value} {l : List Int} (h : Ints w B v l) (hB : B' ≤ B) : Ints w B' v l := by
  obtain ⟨h1, h2⟩ := h.row
  refine ⟨⟨h1, ?_⟩⟩
  rcases h2 with h2 | ⟨g, cap, cur, r1, r2, r⟩
  · exact .inl h2
  · exact .inr ⟨g, cap, cur, r1, by omega, r⟩

theorem Ints.below {w w' : World} {B : Nat} {v : Value} {l : List Int} (h : Ints w B v l) (hb : Below w.heap.size w w') : Ints w' B v l := by
  obtain ⟨h1, h2⟩ := h.row
  refine ⟨⟨h1, ?_⟩⟩
  rcases h2 with h2 | ⟨g, cap, cur, r1, r2, r3, r⟩
  · exact .inl h2
  · exact .inr ⟨g, cap, cur, r1, r2, (hb.block g (lt_of_block r3)).trans r3, r⟩

theorem Ints.ownBlock {w : World} {B : Nat} {v : Value} {l : List Int} (h : Ints w B v l) : ∀ k, v.ownBlock = some k → B ≤ k := by
  intro k hk
  rcases h.row.2 with ⟨rfl, _⟩ | ⟨g, cap, cur, rfl, r2, _⟩
  · simp [Value.ownBlock] at hk
  · simp [Value.ownBlock] at hk; omega

theorem block_cells {w : World} {g : Nat} {cs : List Value} {t : TypeId} (h : w.heap[g]? = some (.cells cs.toArray t (0, 0))) : ∀ j u, cs[j]? = some u → w.cell? ((⟨g, 0, none⟩ : Addr).add j) = some u := by
  intro j u hj
  have e2 : ((⟨g, 0, none⟩ : Addr).add j) = ⟨g, j, none⟩ := by cases j <;> simp [Addr.add]
  rw [e2]
  simp only [World.cell?, h]
  simpa using hj

theorem repeat_box (k : Nat) (t : Int) (w : World) (h1 : 1 ≤ k) (hk : k * 8 ≤ 281474976710656) :
    Calls Try.prog 91 #[.slice (some ⟨w.heap.size, 0, none⟩) 1 1, .int .i64 k] (w.alloc (.cells #[.int .i64 t] 2 (0, 0))) fun e w' => ∃ g, e = .returned (.slice (some ⟨g, 0, none⟩) k k) ∧ w.heap.size < g ∧ w'.heap[g]? = some (.cells (List.replicate k (.int .i64 t)).toArray 2 (0, 0)) ∧ Below w.heap.size w w' := by
  refine (repeat_any w.heap.size k t _ (cell_of_one (MapKept.heap_alloc w _).1) (by simp) h1 hk).mono ?_
  rintro e w' ⟨g, rfl, hg, hb, hbl⟩
  have e1 : (w.alloc (.cells #[.int .i64 t] 2 (0, 0))).heap.size = w.heap.size + 1 := by simp
  rw [e1] at hg hbl
  exact ⟨g, rfl, by omega, hb, ((Below.refl _ w).alloc (Nat.le_refl _) _).trans (hbl.mono (Nat.le_succ _))⟩

theorem spread_snoc (l ks : List Int) (k : Nat) (hk : k < ks.length) : spread l (ks.take (k + 1)) = spread l (ks.take k) ++ List.replicate (l.count ks[k]) ks[k] := by
  unfold spread
  rw [List.take_succ_eq_append_getElem hk, List.flatMap_append, List.flatMap_cons, List.flatMap_nil, List.append_nil]

theorem spread_take_le (l ks : List Int) (k : Nat) : (spread l (ks.take k)).length ≤ (spread l ks).length := by
  have h : spread l ks = spread l (ks.take k) ++ spread l (ks.drop k) := by
    unfold spread; rw [← List.flatMap_append, List.take_append_drop]
  rw [h, List.length_append]; omega

set_option maxRecDepth 100000 in
set_option maxHeartbeats 1000000 in
theorem list_any (b n : Nat) (l : List Int) (w : World) (h : SetAt w b n l) (hn : n * 8 ≤ 140737488355328) :
    Calls Try.prog 52 #[.map (some b)] w fun e w' => ∃ v, e = .returned v ∧ Ints w' w.heap.size v (rise l) ∧ Below w.heap.size w w' := by
  obtain ⟨i0, hi, hz0, hz1, hz2⟩ := info_parts info2
  have hb := h.lt
  go_enter Try.func52, Try.ntmps52
  go_wp2_with (first
    | (go_at_call 90; refine (keys_any b _).mono ?_; rintro e w' ⟨rfl, rfl⟩)
    | (go_at_call 89; refine (sorted_any b n l w h hn).mono ?_; rintro e w1 ⟨v, ss, rfl, hp, hrow, hb1⟩; rcases hrow.2 with ⟨rfl, hz⟩ | ⟨g, cap, cur, rfl, hg, hcur, r1, r2, r3, r4⟩))
  · -- no time stands there
    have hss : ss = [] := List.eq_nil_of_length_eq_zero hz
    have hl : l = [] := by
      cases l with
      | nil => rfl
      | cons a l => have := hp.mem_iff.2 ((mem_dd a (a :: l)).2 (by simp)); rw [hss] at this; simp at this
    refine wp_loop_rounds 1 ?_
    rw [rounds_succ]
    go_wp2
    go_ret
    refine ⟨_, rfl, ?_, ((Below.refl _ w).alloc (Nat.le_refl _) _).trans (hb1.mono (Nat.le_succ _))⟩
    exact Ints.noneOf hl
  · have hg1 : g < w1.heap.size := lt_of_block hcur
    have hlen : (rise ss).length = ss.length := by simp [rise]
    have hsp : spread l (rise ss) = rise l := spread_rise hp
    have hll : (spread l (rise ss)).length = l.length := by rw [hsp]; simp [rise]
    have hle := h.le
    have hcells : ∀ k, (hk : k < (rise ss).length) → w1.cell? ⟨g, k, none⟩ = some (.int .i64 (rise ss)[k]) := fun k hk => by
      rw [hrow.cellAt k (by omega), List.getElem?_map, List.getElem?_eq_getElem hk]; rfl
    have hsz1 : w.heap.size + 1 ≤ w1.heap.size := by have := hb1.size; simpa using this
    have hset1 : SetAt w1 b n l := h.kept ((hb1.block b (by omega)).trans (Below.heap_alloc _ _ _ hb))
    have hmem : ∀ k, (hk : k < (rise ss).length) → (rise ss)[k] ∈ l := fun k hk => (mem_dd _ l).1 (hp.mem_iff.1 ((rise_perm ss).mem_iff.1 (List.getElem_mem hk)))
    generalize rise ss = ks at *
    have HC := Lib.hid hcells; have HM := Lib.hid hmem; have HSP := Lib.hid hsp; have HLL := Lib.hid hll; have HLEN := Lib.hid hlen
    clear hcells hmem hsp hll hlen hrow r4
    go_loopw [3, 10] (fun vo vi wr => ∃ k : Nat, k ≤ ss.length ∧ vi = .int .i64 k ∧ Ints wr w1.heap.size vo (spread l (ks.take k)) ∧ Below w1.heap.size w1 wr) (fun _ vi _ => ss.length - (intOf vi).toNat)
    case atStart => exact ⟨0, by omega, rfl, Ints.nil _ _, Below.refl _ _⟩
    case round =>
      obtain ⟨k, hk, rfl, hI, hbr⟩ := hrel
      by_cases hlt : k < ss.length
      · have hkk : k < ks.length := by have := HLEN.out; omega
        obtain ⟨t, ht⟩ : ∃ t, t = ks[k] := ⟨_, rfl⟩
        have hcell : wr.cell? ⟨g, k, none⟩ = some (.int .i64 t) := by rw [ht]; exact (hbr.cell (p := ⟨g, k, none⟩) hg1).trans (HC.out k hkk)
        have htl : t ∈ l := by rw [ht]; exact HM.out k hkk
        have hbw : b < w1.heap.size := by omega
        have hset := hset1.kept (hbr.block b hbw)
        obtain ⟨⟨D, hown, hhas, hat⟩, hwf, _⟩ := hset
        have hkey := keyOf_int_mk Try.underlying2 (hwf t htl)
        have HA := Lib.hid hat
        have hsn := spread_snoc l ks k hkk
        rw [← ht] at hsn
        have hle1 := spread_take_le l ks (k + 1)
        rw [hsn, HLL.out, List.length_append, List.length_replicate] at hle1
        have hcp : 1 ≤ l.count t := List.count_pos_iff.2 htl
        have HSN := Lib.hid hsn; have HTL := Lib.hid htl; have HT := Lib.hid ht; have HH := Lib.hid hhas; have HWF := Lib.hid hwf
        clear hat hsn htl ht hhas hwf
        have hszr := hbr.size
        have HLT := Lib.hid hlt
        have hk63 : k + 1 ≤ 9223372036854775807 := by unfold maxLen at r2; omega
        go_wp2_with (first
          | (at_lookup; refine wpList_lookup_own_int _ rfl _ _ 71 rfl 2 3 .i64 law2 Try.underlying71 Try.underlying3 (zero3 _) b n D rfl (hown.alloc _) _ _ rfl hkey ?_; intro c hc hwc; rw [HA.out t] at hc; injection hc with hc; injection hc with _ hc; subst hc; clear hwc)
          | (go_at_call 91; refine (repeat_box (l.count t) t _ hcp (by omega)).mono ?_; rintro e w2 ⟨g2, rfl, hg2, hblk2, hb2⟩)
          | (at_builtin; (refine wpList_append_own _ rfl _ _ 26 rfl w1.heap.size 2 i0 (.int .i64 0) 1 8 Try.underlying26 hi hz0 hz1 hz2 rfl (by decide) _ _ _ rfl (hI.below hb2).row ⟨g2, 0, none⟩ (l.count t) (l.count t) (List.replicate (l.count t) (.int .i64 t)) rfl (by simp) (block_cells hblk2) (reps_one _ _) (by unfold maxLen; omega) (by omega) (by have := hb2.size; omega) ?_); intro v' w3 hown3 hgrow3 hnil3))
        go_roundw
        case rel =>
          have hlt2 := HLT.out
          have e3 : (spread l (ks.take (k + 1))) = spread l (ks.take k) ++ List.replicate (l.count t) t := HSN.out
          refine ⟨k + 1, by omega, by go_num, ⟨?_⟩, (hbr.trans (hb2.mono hszr)).grown hgrow3 (by have := hb2.size; omega) hI.ownBlock⟩
          rw [e3, List.length_append, List.length_replicate, List.map_append, List.map_replicate]
          exact hown3
        case measure => have hlt2 := HLT.out; simp [intOf]; omega
      · go_wp2
        go_ret
        obtain rfl : k = ss.length := by omega
        have e4 := hI
        rw [← HLEN.out, List.take_length, HSP.out] at e4
        exact ⟨_, rfl, e4.mono (by omega), (((Below.refl _ w).alloc (Nat.le_refl _) _).trans (hb1.mono (Nat.le_succ _))).trans (hbr.mono (by omega))⟩

theorem flight_any (c n : Nat) (s : St) (w : World) (h : ClockAt w c n s) (hn : n * 8 ≤ 140737488355328) :
    Calls Try.prog 17 #[.pointer (some ⟨c + 2, 0, none⟩)] w fun e w' => ∃ v, e = .returned v ∧ Ints w' w.heap.size v (rise s.F) ∧ Below w.heap.size w w' := by
  obtain ⟨c0, c1, c2, c3, c4⟩ := five_cells h.blk
  go_enter Try.func17, Try.ntmps17
  go_wp2_with (go_at_call 52; refine (list_any c n s.F _ h.fl hn).mono ?_; rintro e w1 ⟨v, rfl, h3, h4⟩)
  go_ret
  exact ⟨v, rfl, h3, h4⟩

theorem pins_any (c n : Nat) (s : St) (w : World) (h : ClockAt w c n s) (hn : n * 8 ≤ 140737488355328) :
    Calls Try.prog 24 #[.pointer (some ⟨c + 2, 0, none⟩)] w fun e w' => ∃ v, e = .returned v ∧ Ints w' w.heap.size v (rise s.P) ∧ Below w.heap.size w w' := by
  obtain ⟨c0, c1, c2, c3, c4⟩ := five_cells h.blk
  go_enter Try.func24, Try.ntmps24
  go_wp2_with (go_at_call 52; refine (list_any (c + 1) n s.P _ h.pi hn).mono ?_; rintro e w1 ⟨v, rfl, h3, h4⟩)
  go_ret
  exact ⟨v, rfl, h3, h4⟩

theorem fresh_clock (w : World) : ClockAt (((w.alloc (.map #[] 0)).alloc (.map #[] 0)).alloc (.cells #[.int .i64 0, .int .i64 (-1), .int .i64 0, .map (some w.heap.size), .map (some (w.heap.size + 1))] 73 (0, 0))) w.heap.size 0 ⟨0, -1, 0, [], []⟩ := by
  have e1 : (w.alloc (.map #[] 0)).heap[w.heap.size]? = some (.map #[] 0) := (MapKept.heap_alloc w _).1
  have s1 : (w.alloc (.map #[] 0)).heap.size = w.heap.size + 1 := by simp
  have e2 : ((w.alloc (.map #[] 0)).alloc (.map #[] 0)).heap[w.heap.size + 1]? = some (.map #[] 0) := by rw [← s1]; exact (MapKept.heap_alloc _ _).1
  have s2 : ((w.alloc (.map #[] 0)).alloc (.map #[] 0)).heap.size = w.heap.size + 2 := by simp
  refine ⟨?_, SetAt.empty ?_, SetAt.empty ?_, by simp, by simp, by simp, by simp, by simp, by simp, by simp, by simp⟩
  · rw [← s2]; exact (MapKept.heap_alloc _ _).1
  · rw [Below.heap_alloc _ _ _ (by omega), Below.heap_alloc _ _ _ (by omega)]; exact e1
  · rw [Below.heap_alloc _ _ _ (by omega)]; exact e2

/-- New makes a clock in three new blocks. -/
theorem made_any (w : World) : Calls Try.prog 11 #[] w fun e w' => e = .returned (.pointer (some ⟨w.heap.size + 2, 0, none⟩)) ∧ ClockAt w' w.heap.size 0 ⟨0, -1, 0, [], []⟩ ∧ Below w.heap.size w w' ∧ w'.heap.size = w.heap.size + 3 :=
  (new_any w).mono fun e w' ⟨h1, h2⟩ => ⟨h1, h2 ▸ fresh_clock w, h2 ▸ ((((Below.refl _ _).alloc (Nat.le_refl _) _).alloc (by simp) _).alloc (by simp; omega) _), by rw [h2]; simp⟩

end Go.Proofs.Ytiijkehiphkkiaa
