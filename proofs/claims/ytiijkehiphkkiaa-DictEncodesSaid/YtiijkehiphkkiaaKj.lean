/-
  dict.Decode at all bytes.
-/
import Derived.Test.YtiijkehiphkkiaaKh
namespace Go.Proofs.Ytiijkehiphkkiaa.PD
open Go.RowKit Go.Maps Go.Proofs.YtiijkehiphkkiaaW.PrintWords Go.Proofs.YtiijkehiphkkiaaW.PrintLast Go.Proofs.YtiijkehiphkkiaaW.PrintMore
set_option linter.unusedVariables false
set_option linter.unusedSimpArgs false

/-- The cells vs show the rows es. -/
def Shows (w : World) (vs : List Value) (es : List (List Int)) : Prop :=
  vs.length = es.length ∧ ∀ j (h : j < es.length), ∃ A c, vs[j]? = some (.slice A es[j].length c) ∧ es[j].length ≤ c ∧ Kd.C (Kd.int .u8) w A es[j].length es[j]
theorem Shows.nil (w : World) : Shows w [] [] := ⟨rfl, fun j h => absurd h (by simp)⟩
theorem Shows.snoc {w : World} {vs : List Value} {es : List (List Int)} {A : Option Addr} {c : Nat} {x : List Int} (h : Shows w vs es) (hc : x.length ≤ c) (hC : Kd.C (Kd.int .u8) w A x.length x) : Shows w (vs ++ [.slice A x.length c]) (es ++ [x]) := by
  refine ⟨by simp [h.1], fun j hj => ?_⟩
  rcases Nat.lt_or_ge j es.length with h1 | h1
  · obtain ⟨A', c', h2, h3⟩ := h.2 j h1
    refine ⟨A', c', ?_, ?_⟩
    · rw [List.getElem?_append_left (by have := h.1; omega), List.getElem_append_left h1]; exact h2
    · rw [List.getElem_append_left h1]; exact h3
  · have : j = es.length := by simp at hj; omega
    subst this
    refine ⟨A, c, ?_, ?_⟩
    · rw [List.getElem?_append_right (by rw [h.1]; exact Nat.le_refl _), List.getElem_append_right (Nat.le_refl _)]; simp [h.1]
    · simp only [List.getElem_append_right (Nat.le_refl _), Nat.sub_self, List.getElem_cons_zero]
      exact ⟨hc, hC⟩
theorem Shows.reads {w wq : World} {base : Nat} {v : Value} {vs : List Value} {es : List (List Int)} (h : Shows w vs es) (hb : Below w.heap.size w wq) (h1 : wq.ownsRow base 55 1 v es.length vs) : ∃ A c, v = .slice A es.length c ∧ es.length ≤ c ∧ Kd.C (Kd.slice 5 (Kd.int .u8)) wq A es.length es := by
  obtain ⟨A, c, rfl, hc, hcells⟩ := owned_cells h1
  have hn : es.length ≤ 9223372036854775807 := by
    rcases h1.2 with ⟨_, h⟩ | ⟨g', cap', cur, he, _, _, h3, h5, _⟩
    · omega
    · simp only [maxLen] at h5
      omega
  refine ⟨A, c, rfl, hc, rfl, hn, fun hp => ?_⟩
  obtain ⟨g, _, _, rfl, hcl⟩ := hcells hp
  refine ⟨_, rfl, fun j p hj => ?_⟩
  obtain ⟨hjl, rfl⟩ := List.getElem?_eq_some_iff.1 hj
  obtain ⟨A', c', hu, hc', hC'⟩ := h.2 j hjl
  refine ⟨[.slice A' es[j].length c'], rfl, ⟨A', c', rfl, hc', Kd.C_below hC' hb⟩, fun i x hx => ?_⟩
  cases i with
  | zero =>
    simp at hx
    subst hx
    have := hcl j hjl
    rw [hu] at this
    rw [add_plain]
    simpa [Kd.slice] using this
  | succ i => simp at hx

theorem entS_step (l : List Int) (m p : Nat) (es : List (List Int)) (y : List Int) (hy : 0 < es.length → y = es.getD (es.length - 1) []) (f : Bool) (hf : f = decide (es.length = 0)) :
    entS l (m + 1) p es = if (entryS l p y f).2.2 = 0 then entS l m (entryS l p y f).2.1 (es ++ [(entryS l p y f).1]) else ([], 0, (entryS l p y f).2.2) := by
  rw [entS]
  by_cases h1 : (textS l p).2.2 = 0
  · rw [if_pos h1]
    by_cases h2 : 0 < es.length
    · have hf0 : f = false := by rw [hf]; exact decide_eq_false (by omega)
      subst hf0
      rw [← hy h2]
      by_cases h3 : cmpL (textS l p).1 y ≤ 0
      · have hE : entryS l p y false = ([], 0, 5) := by
          unfold entryS
          rw [if_pos h1, if_pos ⟨rfl, h3⟩]
        rw [hE, if_pos ⟨h2, h3⟩, if_neg (by simp)]
      · have hE : entryS l p y false = textS l p := by
          unfold entryS
          rw [if_pos h1, if_neg (fun h => h3 h.2)]
        rw [hE, if_neg (fun h => h3 h.2), if_pos h1]
    · have hf0 : f = true := by rw [hf]; exact decide_eq_true (by omega)
      subst hf0
      have hE : entryS l p y true = textS l p := by
        unfold entryS
        rw [if_pos h1, if_neg (fun h => by simp at h)]
      rw [hE, if_neg (fun h => h2 h.1), if_pos h1]
  · have hE : entryS l p y f = ([], 0, (textS l p).2.2) := by
      unfold entryS
      rw [if_neg h1]
    rw [if_neg h1, hE, if_neg h1]
theorem entryS_le {l : List Int} (hb : Bys l) {p : Nat} {y : List Int} {f : Bool} (h : (entryS l p y f).2.2 = 0) : (entryS l p y f).2.1 ≤ l.length ∧ (entryS l p y f).1.length ≤ 200 ∧ Bys (entryS l p y f).1 := by
  unfold entryS at h ⊢
  by_cases h1 : (textS l p).2.2 = 0
  · rw [if_pos h1] at h ⊢
    split at h
    · simp at h
    · rename_i h2
      rw [if_neg h2]
      have := textS_le hb h1
      exact ⟨this.1, this.2.1, this.2.2.1⟩
  · rw [if_neg h1] at h
    exact absurd h h1

set_option maxHeartbeats 1000000 in
set_option maxRecDepth 100000 in
theorem ddecode_any (A : Option Addr) (c : Nat) (l : List Int) (w : World) (hC : Kd.C (Kd.int .u8) w A l.length l) (hc : l.length ≤ c) (hl : Bys l) (hlen : l.length ≤ 140737488355328) :
    Calls Try.prog 42 #[.slice A l.length c] w fun e w' => ∃ v, e = .returned (.tuple #[v, .int .i64 (decS l).2]) ∧ Below w.heap.size w w' ∧ EntB w' w.heap.size v (decS l).1 := by
  obtain ⟨kg, hkg⟩ := (get_ev l 0 hl (by omega) (by omega)).ex
  obtain ⟨n, hv⟩ : ∃ n, n = (vget l 0).1 := ⟨_, rfl⟩
  obtain ⟨q, hq⟩ : ∃ q, q = (vget l 0).2.1 := ⟨_, rfl⟩
  obtain ⟨e, he⟩ : ∃ e, e = (vget l 0).2.2 := ⟨_, rfl⟩
  rw [← hv, ← hq, ← he] at hkg
  by_cases h1 : e = 0
  · subst h1
    have hle := (vget_le hl he.symm).1
    rw [← hq] at hle
    by_cases h2 : 4096 < n
    · have ht : decS l = ([], 4) := by
        unfold decS
        rw [if_pos he.symm, if_pos (by omega)]
      rw [ht]
      clear ht hv hq he
      go_enter Try.func42, Try.ntmps42
      go_wp2_with (first
        | (go_at_call 79; refine (vint_Get.calls kg A c l 0 (n : Int) (q : Int) 0 w hC hc hkg).mono ?_; rintro e w1 ⟨rfl, hD⟩))
      go_ret2
      exact ⟨_, rfl, hD.below, EntB.nil _ _⟩
    · have ht : decS l = if (entS l n q []).2.2 = 0 then decT l (entS l n q []).1 (entS l n q []).2.1 else ([], (entS l n q []).2.2) := by
        unfold decS
        rw [if_pos he.symm, if_neg (by omega), ← hv, ← hq]
      generalize decS l = R at ht ⊢
      have HR0 := Lib.hid ht
      clear ht hv hq he
      go_enter Try.func42, Try.ntmps42
      go_wp2_with (first
        | (go_at_call 79; refine (vint_Get.calls kg A c l 0 (n : Int) (q : Int) 0 w hC hc hkg).mono ?_; rintro e w1 ⟨rfl, hD⟩))
      have hB1 := hD.below
      clear hkg hD
      go_loopw [5, 6, 7, 8, 26] (fun v5 v6 v7 v8 vi wq => ∃ (i p : Nat) (es : List (List Int)) (y : List Int) (B : Option Addr) (d : Nat) (vs : List Value), i ≤ n ∧ vi = .int .u64 i ∧ v5 = .int .i64 p ∧ v6 = .int .i64 0 ∧ v8 = .slice B y.length d ∧ Kd.C (Kd.int .u8) w B y.length y ∧ Bys y ∧ es.length = i ∧ p ≤ l.length ∧
          entS l n q [] = entS l (n - i) p es ∧ (0 < es.length → y = es.getD (es.length - 1) []) ∧ (∀ s ∈ es, s.length ≤ 200) ∧ wq.ownsRow w.heap.size 55 1 v7 es.length vs ∧ Shows w vs es ∧ Below w.heap.size w wq) (fun _ _ _ _ vi _ => n - (intOf vi).toNat)
      case atStart => exact ⟨0, q, [], [], none, 0, [], by omega, rfl, rfl, rfl, rfl, Kd.C_nil _ _, fun x h => by simp at h, rfl, hle, rfl, fun h => absurd h (by simp), fun s h => by simp at h, own_nil _ _ _ _, Shows.nil w, hB1⟩
      case round =>
        obtain ⟨i, p, es, y, B, d, vs, hi, rfl, rfl, rfl, rfl, hY, hy, hei, hp, hS, hlast, hes, hR, hSh, hbr⟩ := hrel
        by_cases hlt : i < n
        · have hf : ((i : Int) == 0) = decide (es.length = 0) := by
            rw [hei]
            by_cases h : i = 0
            · subst h; rfl
            · rw [decide_eq_false h]
              exact beq_eq_false_iff_ne.2 (by omega)
          have hstep := entS_step l (n - i - 1) p es y hlast ((i : Int) == 0) hf
          rw [show n - i = (n - i - 1) + 1 from by omega, hstep] at hS
          clear hf hstep
          obtain ⟨A8, c8, rfl, hc8, _⟩ := owned_cells hR
          obtain ⟨i0, hi0, hz0, hz1, hz2⟩ := info_parts info55
          have hY1 := Kd.C_below hY hbr
          have hC1 := Kd.C_below hC hbr
          obtain ⟨r, hr⟩ : ∃ r, r = entryS l p y ((i : Int) == 0) := ⟨_, rfl⟩
          have hcall := dentry_any A B c d l y p ((i : Int) == 0) wr hC1 hc hY1 hl hy hlen hp
          have hre := entryS_le (l := l) (p := p) (y := y) (f := ((i : Int) == 0)) hl
          rw [← hr] at hS hcall hre
          have HR := Lib.hid hR; have HSh := Lib.hid hSh; have HEI := Lib.hid hei
          clear hr hR hSh hlast hY1 hC1 hY
          by_cases hr0 : r.2.2 = 0
          · rw [if_pos hr0] at hS
            obtain ⟨k1, k2, k3⟩ := hre hr0
            rw [hr0] at hcall
            have HS := Lib.hid hS
            have hei1 : es.length ≤ 4096 := by omega
            clear hS hei hre
            go_wp2_with (first
              | (go_at_call 80; refine hcall.mono ?_; rintro e w2 ⟨hD, A5, c5, rfl, hc5, hC5⟩; have hR2 := pw_own_below HR.out hD.below; have hb2 := below_then hbr hbr.size hD.below; have hsz2 := hb2.size)
              | (at_builtin; refine wpList_append_own _ rfl _ _ 45 rfl w.heap.size 55 i0 (.slice none 0 0) 1 24 Try.underlying45 hi0 hz0 hz1 hz2 rfl (by decide) _ _ _ rfl (own_alloc hR2 _) ⟨w2.heap.size, 0, none⟩ 1 1 [.slice A5 r.1.length c5] rfl (by simp) (cell_one_new _ _ _) (by simp [Value.oneCell']) (by unfold maxLen; omega) (by omega) (by simp; omega) ?_; intro v' w4 hown4 hgrow4 hnil4))
            have hei := HEI.out
            refine ⟨⟨i + 1, r.2.1, es ++ [r.1], r.1, A5, c5, vs ++ [.slice A5 r.1.length c5], by omega, by go_num, rfl, rfl, rfl, hC5 w hC, k3, by simp [hei], k1, by rw [HS.out, show n - (i + 1) = n - i - 1 from by omega], fun _ => ?_, fun s hs => ?_, by rw [List.length_append]; exact hown4, Shows.snoc HSh.out hc5 (hC5 w hC), (hb2.alloc hb2.size _).grown hgrow4 (by simp; omega) (fun k hk => own_base HR.out k hk)⟩, by simp [intOf]; omega⟩
            · simp
            · rcases List.mem_append.1 hs with hs | hs
              · exact hes s hs
              · rw [List.mem_singleton.1 hs]; exact k2
          · rw [if_neg hr0] at hS
            have HS := Lib.hid hS
            clear hS hei hre
            go_wp2_with (first
              | (go_at_call 80; refine hcall.mono ?_; rintro e w2 ⟨hD, A5, c5, rfl, hc5, hC5⟩; have hb2 := below_then hbr hbr.size hD.below))
            go_ret2
            have hRv : R = ([], r.2.2) := by rw [HR0.out, HS.out]; exact if_neg hr0
            rw [hRv]
            exact ⟨_, rfl, hb2, EntB.nil _ _⟩
        · obtain rfl : i = n := by omega
          rw [Nat.sub_self, entS] at hS
          obtain ⟨A7, c7, rfl, hc7, hC7⟩ := hSh.reads hbr hR
          have hC1 := Kd.C_below hC hbr
          have hel : es.length ≤ 4096 := by omega
          obtain ⟨kg, hkg⟩ := (get_ev l p hl (by omega) hp).ex
          have hdt : R = decT l es p := by
            rw [HR0.out, hS]
            rfl
          have HDT := Lib.hid hdt
          clear hdt hS hY hy hlast hSh hR
          subst hei
          obtain ⟨m, hv⟩ : ∃ m, m = (vget l p).1 := ⟨_, rfl⟩
          obtain ⟨q2, hq⟩ : ∃ q2, q2 = (vget l p).2.1 := ⟨_, rfl⟩
          obtain ⟨e, he⟩ : ∃ e, e = (vget l p).2.2 := ⟨_, rfl⟩
          rw [← hv, ← hq, ← he] at hkg
          by_cases h3 : e = 0
          · subst h3
            have hle2 := (vget_le hl he.symm).1
            rw [← hq] at hle2
            by_cases h4 : 4096 < m
            · have ht : decT l es p = ([], 4) := by
                unfold decT
                rw [if_pos he.symm, if_pos (by omega)]
              have HT := Lib.hid ht
              clear ht hv hq he
              go_wp2_with (first
                | (go_at_call 79; refine (vint_Get.calls kg A c l (p : Int) (m : Int) (q2 : Int) 0 wr hC1 hc hkg).mono ?_; rintro e w1 ⟨rfl, hD⟩))
              go_ret2
              rw [HDT.out, HT.out]
              exact ⟨_, rfl, below_then hbr hbr.size hD.below, EntB.nil _ _⟩
            · have ht : decT l es p = if (unpackS (l.drop q2) (wid es.length) m).2 = 0 then textsS es (unpackS (l.drop q2) (wid es.length) m).1 else ([], (unpackS (l.drop q2) (wid es.length) m).2) := by
                unfold decT
                rw [if_pos he.symm, if_neg (by omega), ← hq, ← hv]
              have HT := Lib.hid ht
              clear ht hv hq he
              go_upto_region 21 with (first
                | (go_at_call 79; refine (vint_Get.calls kg A c l (p : Int) (m : Int) (q2 : Int) 0 wr hC1 hc hkg).mono ?_; rintro e w1 ⟨rfl, hD⟩))
              have hb1 := hD.below
              obtain ⟨i5, hi5, hz0, hz1, hz2⟩ := info_parts info5
              have hcut := cut_from (P := Try.prog) 55 5 .i64 Try.underlying55 hi5 1 hz1 A l.length c (q2 : Int) (by omega) (by omega)
              rw [Int.toNat_natCast] at hcut
              have hdr0 : ∀ w0, Kd.C (Kd.int .u8) w0 A l.length l → Kd.C (Kd.int .u8) w0 (if c = q2 then A else A.map (·.add (q2 * 1))) (l.drop q2).length (l.drop q2) := fun w0 h0 => Kd.C_drop h0 hle2 hc
              have hdl : (l.drop q2).length = l.length - q2 := List.length_drop
              generalize (if c = q2 then A else A.map (·.add (q2 * 1))) = A9 at *
              have hdr := hdr0 wr (Kd.C_below hC hbr)
              obtain ⟨b9, hb9⟩ : ∃ b9, b9 = l.drop q2 := ⟨_, rfl⟩
              have hby9 : Bys b9 := by rw [hb9]; exact hl.drop _
              rw [← hb9] at hdr hdl
              have HT1 := HT.out
              rw [← hb9] at HT1
              have HT2 := Lib.hid HT1
              rw [← hdl] at hcut
              have hle9 : b9.length ≤ c - q2 := by omega
              have hw12 := wid_le es.length hel
              obtain ⟨kw, hkw⟩ := (dwidth_law es.length (by omega)).ex
              obtain ⟨ku, hku⟩ := (punpack hby9 (by omega) (w := wid es.length) (m := m) (by omega) (by omega)).ex
              obtain ⟨ru, hru⟩ : ∃ ru, ru = unpackS b9 (wid es.length) m := ⟨_, rfl⟩
              rw [← hru] at hku HT1
              clear hdr0 hb9 hi5 hz0 hz1 hz2 hdl HT1 hkg
              have HRU := Lib.hid hru
              have hwm : IntKind.i64.wrap (m : Int) = (m : Int) := wraps_i64 _ (by omega) (by omega)
              clear hru
              go_region_held3 (fun w' => True) (trivial) (first
                | (go_at_call 74; refine (dict_width.calls kw ((es.length : Nat) : Int) ((wid es.length : Nat) : Int) _ hkw).mono ?_; rintro e w3 ⟨rfl, hb3⟩; have hb3w : Below wr.heap.size wr w3 := below_then (by first | exact hb1 | exact below_drew hb1 | exact pw_below_drewN hb1 _) (by first | exact hb1.size | exact (below_drew hb1).size | exact (pw_below_drewN hb1 _).size) hb3)
                | (go_at_call 81; refine (bits_Unpack.calls ku A9 (c - q2) b9 ((wid es.length : Nat) : Int) (m : Int) ru.1 ru.2 _ (by first | exact Kd.C_below hdr hb3w | exact Kd.C_drew (Kd.C_below hdr hb3w) | exact Kd.C_drewN (Kd.C_below hdr hb3w) _) hle9 hku).mono ?_; rintro e w4 ⟨v11, rfl, hR11, hb4⟩; have hb4w : Below wr.heap.size wr w4 := below_then (by first | exact hb3w | exact below_drew hb3w | exact pw_below_drewN hb3w _) (by first | exact hb3w.size | exact (below_drew hb3w).size | exact (pw_below_drewN hb3w _).size) hb4))
              all_goals
                obtain ⟨B4, c4, rfl, hc4, hC4⟩ := Kd.R_reads hR11
                have hCe := Kd.C_below hC7 hb4w
                by_cases hr2 : ru.2 = 0
                · have hrt : R = textsS es ru.1 := by
                    rw [HDT.out, HT2.out, ← HRU.out, if_pos hr2]
                  have hun : ∀ u ∈ ru.1, 0 ≤ u ∧ u < 18446744073709551616 := fun u hu => by
                    have e : ru = (ru.1, 0) := by rw [← hr2]
                    have := HRU.out
                    rw [e] at this
                    have h7 := (pack_unpack hby9 this.symm).2.1 u hu
                    have h8 : (2 : Int) ^ wid es.length ≤ 2 ^ 12 := by
                      have : 2 ^ wid es.length ≤ 2 ^ 12 := Nat.pow_le_pow_right (n := 2) (by decide) hw12
                      exact_mod_cast this
                    omega
                  have hul : ru.1.length ≤ 4096 := by
                    have := unpackS_len (b := b9) (w := wid es.length) (m := m)
                    rw [← HRU.out] at this
                    omega
                  have HRT := Lib.hid hrt
                  have hcall := dtexts_any A7 B4 c7 c4 es ru.1 w4 hCe hc7 hC4 hc4 hel hul hes hun
                  clear hrt hun hCe hC7 hC4 hdr hC1 hR11
                  go_wp2_with (first
                    | (go_at_call 82; refine hcall.mono ?_; rintro e w5 ⟨v5, rfl, hb5, hE5⟩))
                  go_ret2
                  rw [HRT.out]
                  have hb4z := below_then hbr hbr.size hb4w
                  exact ⟨_, rfl, below_then hb4z hb4z.size hb5, hE5.lower hb4z.size⟩
                · have hrt : R = ([], ru.2) := by
                    rw [HDT.out, HT2.out, ← HRU.out, if_neg hr2]
                  have HRT := Lib.hid hrt
                  clear hrt hCe hC7 hC4 hdr hC1 hR11
                  go_wp2
                  go_ret2
                  rw [HRT.out]
                  exact ⟨_, rfl, below_then hbr hbr.size hb4w, EntB.nil _ _⟩
          · have ht : decT l es p = ([], e) := by
              unfold decT
              rw [← he, if_neg h3]
            have HT := Lib.hid ht
            clear ht hv hq he
            go_wp2_with (first
              | (go_at_call 79; refine (vint_Get.calls kg A c l (p : Int) (m : Int) (q2 : Int) e wr hC1 hc hkg).mono ?_; rintro e w1 ⟨rfl, hD⟩))
            go_ret2
            rw [HDT.out, HT.out]
            exact ⟨_, rfl, below_then hbr hbr.size hD.below, EntB.nil _ _⟩
  · have ht : decS l = ([], e) := by
      unfold decS
      rw [← he, if_neg h1]
    rw [ht]
    clear ht hv hq he
    go_enter Try.func42, Try.ntmps42
    go_wp2_with (first
      | (go_at_call 79; refine (vint_Get.calls kg A c l 0 (n : Int) (q : Int) e w hC hc hkg).mono ?_; rintro e w1 ⟨rfl, hD⟩))
    go_ret2
    exact ⟨_, rfl, hD.below, EntB.nil _ _⟩
end Go.Proofs.Ytiijkehiphkkiaa.PD
