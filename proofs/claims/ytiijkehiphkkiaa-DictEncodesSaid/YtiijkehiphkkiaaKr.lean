/-
  Encode and Decode, there and back.
-/
import Derived.Test.YtiijkehiphkkiaaKe
import Derived.Test.YtiijkehiphkkiaaKq
namespace Go.Proofs.Ytiijkehiphkkiaa.PD
open Go.RowKit Go.Proofs.YtiijkehiphkkiaaW.PrintWords Go.Proofs.YtiijkehiphkkiaaW.PrintLast Go.Proofs.YtiijkehiphkkiaaW.PrintMore
set_option linter.unusedVariables false
set_option linter.unusedSimpArgs false

theorem drop_of {b X Y : List Int} {p : Nat} (h : b.drop p = X ++ Y) : b.drop (p + X.length) = Y := by
  rw [← List.drop_drop, h, List.drop_left]
theorem last_get {es : List (List Int)} (h : 0 < es.length) : es.getD (es.length - 1) [] = es[es.length - 1] := by
  rw [List.getD_eq_getElem?_getD, List.getElem?_eq_getElem (by omega)]
  rfl
theorem rising_snoc {es : List (List Int)} {s : List Int} (hs : Rising es) (h : 0 < es.length → cmpL (es.getD (es.length - 1) []) s < 0) : Rising (es ++ [s]) := by
  refine List.pairwise_append.2 ⟨hs, by simp, fun a ha b hb => ?_⟩
  rw [List.mem_singleton.1 hb]
  obtain ⟨i, hi, rfl⟩ := List.getElem_of_mem ha
  have h0 : 0 < es.length := by omega
  have h1 := h h0
  rw [last_get h0] at h1
  rcases Nat.lt_or_ge i (es.length - 1) with h2 | h2
  · exact cmpL_lt_trans (hs.get h2 (by omega)) h1
  · have : i = es.length - 1 := by omega
    subst this
    exact h1
theorem textS_fwd {b s Y : List Int} {p : Nat} (hs : s.length ≤ 200) (h : b.drop p = one s ++ Y) : textS b p = (s, p + (one s).length, 0) := by
  have h' : b.drop p = vput s.length ++ (s ++ Y) := by rw [h, one, List.append_assoc]
  have hv := vget_vput (by omega) h'
  have hd := drop_of h'
  have hl := congrArg List.length hd
  rw [List.length_drop, List.length_append] at hl
  unfold textS
  rw [hv]
  simp only
  rw [if_pos trivial, if_neg (by omega), if_neg (by omega), hd, List.take_left, one, List.length_append]
  congr 2
  omega
theorem entS_fwd {b : List Int} : ∀ (es1 es0 : List (List Int)) (p : Nat) (Y : List Int), Rising (es0 ++ es1) → (∀ s ∈ es1, s.length ≤ 200) → b.drop p = (es1.map one).flatten ++ Y → entS b es1.length p es0 = (es0 ++ es1, p + (es1.map one).flatten.length, 0) := by
  intro es1
  induction es1 with
  | nil => intro es0 p Y hr hl h; simp [entS]
  | cons s es1 ih =>
    intro es0 p Y hr hl h
    rw [List.map_cons, List.flatten_cons, List.append_assoc] at h
    have ht := textS_fwd (hl s (by simp)) h
    have hd := drop_of h
    have hr' : Rising ((es0 ++ [s]) ++ es1) := by rw [List.append_assoc]; exact hr
    have hrec := ih (es0 ++ [s]) (p + (one s).length) Y hr' (fun x hx => hl x (by simp [hx])) hd
    rw [List.length_cons, entS, ht]
    simp only
    rw [if_pos trivial, if_neg ?_, hrec]
    · rw [List.append_assoc, List.map_cons, List.flatten_cons, List.length_append, Nat.add_assoc]
      rfl
    · rintro ⟨h0, h1⟩
      rw [last_get h0] at h1
      have := (List.pairwise_append.1 hr).2.2 es0[es0.length - 1] (List.getElem_mem _) s (by simp)
      rw [cmpL_swap] at this
      omega
theorem textS_bwd {b : List Int} (hb : Bys b) {p : Nat} (h : (textS b p).2.2 = 0) : b.drop p = one (textS b p).1 ++ b.drop (textS b p).2.1 := by
  unfold textS at h ⊢
  by_cases h1 : (vget b p).2.2 = 0
  · rw [if_pos h1] at h ⊢
    by_cases h2 : 200 < (vget b p).1
    · rw [if_pos h2] at h; simp at h
    · rw [if_neg h2] at h ⊢
      by_cases h3 : b.length - (vget b p).2.1 < (vget b p).1
      · rw [if_pos h3] at h; simp at h
      · rw [if_neg h3]
        have hu := vget_used (l := b) (p := p) (v := (vget b p).1) (q := (vget b p).2.1) hb (by rw [← h1])
        have hl : ((b.drop (vget b p).2.1).take (vget b p).1).length = (vget b p).1 := by rw [List.length_take, List.length_drop]; omega
        simp only [one]
        rw [hl, hu.2.2, List.append_assoc, ← List.drop_drop, List.take_append_drop]
  · rw [if_neg h1] at h; exact absurd h h1
theorem entS_bwd {b : List Int} (hb : Bys b) : ∀ (n p : Nat) (es0 : List (List Int)), Rising es0 → p ≤ b.length → (entS b n p es0).2.2 = 0 →
    ∃ es1, (entS b n p es0).1 = es0 ++ es1 ∧ es1.length = n ∧ Rising (es0 ++ es1) ∧ (∀ s ∈ es1, s.length ≤ 200) ∧ (entS b n p es0).2.1 ≤ b.length ∧ b.drop p = (es1.map one).flatten ++ b.drop (entS b n p es0).2.1 := by
  intro n
  induction n with
  | zero =>
    intro p es0 hr hp h
    refine ⟨[], by simp [entS], rfl, by simpa using hr, fun s hs => by simp at hs, hp, by simp [entS]⟩
  | succ n ih =>
    intro p es0 hr hp h
    by_cases h1 : (textS b p).2.2 = 0
    · obtain ⟨k1, k2, k3, k4⟩ := textS_le hb h1
      have hd := textS_bwd hb h1
      by_cases h2 : 0 < es0.length ∧ cmpL (textS b p).1 (es0.getD (es0.length - 1) []) ≤ 0
      · rw [entS, if_pos h1, if_pos h2] at h
        simp at h
      · have ee : entS b (n + 1) p es0 = entS b n (textS b p).2.1 (es0 ++ [(textS b p).1]) := by rw [entS, if_pos h1, if_neg h2]
        rw [ee] at h ⊢
        have hr1 : Rising (es0 ++ [(textS b p).1]) := rising_snoc hr (fun h0 => by
          have h3 : ¬ cmpL (textS b p).1 (es0.getD (es0.length - 1) []) ≤ 0 := fun h => h2 ⟨h0, h⟩
          rw [cmpL_swap]
          omega)
        obtain ⟨es1, e1, e2, e3, e4, e5, e6⟩ := ih _ _ hr1 k1 h
        refine ⟨(textS b p).1 :: es1, by rw [e1, List.append_assoc]; rfl, by simp [e2], by rw [List.append_assoc] at e3; exact e3, fun s hs => ?_, e5, ?_⟩
        · rcases List.mem_cons.1 hs with rfl | hs
          · exact k2
          · exact e4 s hs
        · rw [hd, e6, List.map_cons, List.flatten_cons, List.append_assoc]
    · rw [entS, if_neg h1] at h
      exact absurd h h1

theorem texts_codes (ss : List (List Int)) : textsS (ents ss) (ss.map (fun s => ((pos (ents ss) s : Nat) : Int))) = (ss, 0) := by
  have hr := ents_rising ss
  unfold textsS
  rw [if_pos]
  · congr 1
    rw [List.map_map]
    conv => rhs; rw [← List.map_id ss]
    refine List.map_congr_left fun s hs => ?_
    obtain ⟨h1, h2⟩ := pos_at hr (ents_mem.2 hs)
    simp only [Function.comp, Int.toNat_natCast, id]
    rw [List.getD_eq_getElem?_getD, List.getElem?_eq_getElem h1]
    exact h2
  · refine ⟨fun u hu => ?_, fun i hi => ?_⟩
    · obtain ⟨s, hs, rfl⟩ := List.mem_map.1 hu
      obtain ⟨h1, h2⟩ := pos_at hr (ents_mem.2 hs)
      omega
    · have := pos_getElem hr hi
      refine List.mem_map.2 ⟨(ents ss)[i], ents_mem.1 (List.getElem_mem hi), ?_⟩
      rw [this]
/-- What is encoded is decoded again. -/
theorem dec_enc {ss : List (List Int)} (h : (idx ss).2.2 = 0) : decS (encS ss).1 = (ss, 0) := by
  obtain ⟨h1, h2, h3, h4⟩ := idx_ok h
  have hel := ents_length ss
  obtain ⟨us, hus⟩ : ∃ us, us = ss.map (fun s => ((pos (ents ss) s : Nat) : Int)) := ⟨_, rfl⟩
  have hul : us.length = ss.length := by rw [hus, List.length_map]
  have hfit := codes_fit h1
  rw [← hus] at hfit
  have henc : (encS ss).1 = encB (ents ss) us := by
    unfold encS
    rw [if_pos h, h3, h4, ← hus]
  rw [henc]
  have htx := texts_codes ss
  rw [← hus] at htx
  obtain ⟨es, hes⟩ : ∃ es, es = ents ss := ⟨_, rfl⟩
  rw [← hes] at htx hel hfit ⊢
  have hr : Rising es := by rw [hes]; exact ents_rising ss
  have hlen : ∀ s ∈ es, s.length ≤ 200 := fun s hs => h2 s (ents_mem.1 (by rw [← hes]; exact hs))
  obtain ⟨b, hb⟩ : ∃ b, b = encB es us := ⟨_, rfl⟩
  rw [← hb]
  have hb0 : b.drop 0 = vput es.length ++ ((es.map one).flatten ++ (vput us.length ++ packS (wid es.length) us)) := by
    rw [hb, List.drop_zero, encB]
    simp only [List.append_assoc]
  have v0 := vget_vput (by omega) hb0
  have hb1 := drop_of hb0
  rw [Nat.zero_add] at hb1 v0
  have he := entS_fwd es [] _ _ (by simpa using hr) hlen hb1
  rw [List.nil_append] at he
  have hb2 := drop_of hb1
  have v2 := vget_vput (by omega) hb2
  have hb3 := drop_of hb2
  have hup := unpack_pack hfit
  unfold decS
  rw [v0]
  simp only
  rw [if_pos trivial, if_neg (by omega), he]
  simp only
  rw [if_pos trivial]
  unfold decT
  rw [v2]
  simp only
  rw [if_pos trivial, if_neg (by omega), hb3, hup]
  simp only
  rw [if_pos trivial]
  exact htx
theorem dec_err {b : List Int} (h : (decS b).2 ≠ 0) : (decS b).1 = [] := by
  unfold decS at h ⊢
  split at h
  · rename_i h1
    rw [if_pos h1]
    split at h
    · rename_i h2; rw [if_pos h2]
    · rename_i h2
      rw [if_neg h2]
      split at h
      · rename_i h3
        rw [if_pos h3]
        unfold decT at h ⊢
        split at h
        · rename_i h4
          rw [if_pos h4]
          split at h
          · rename_i h5; rw [if_pos h5]
          · rename_i h5
            rw [if_neg h5]
            split at h
            · rename_i h6
              rw [if_pos h6]
              unfold textsS at h ⊢
              split at h
              · simp at h
              · rename_i h7; rw [if_neg h7]
            · rename_i h6; rw [if_neg h6]
        · rename_i h4; rw [if_neg h4]
      · rename_i h3; rw [if_neg h3]
  · rename_i h1; rw [if_neg h1]
/-- Bytes that are decoded are the only ones. -/
theorem enc_dec {b : List Int} (hb : Bys b) (h : (decS b).2 = 0) : encS (decS b).1 = (b, 0) := by
  obtain ⟨ss, hss⟩ : ∃ ss, ss = (decS b).1 := ⟨_, rfl⟩
  have hd : decS b = (ss, 0) := by rw [hss, ← h]
  rw [← hss]
  clear h hss
  unfold decS at hd
  split at hd
  · rename_i h1
    split at hd
    · simp at hd
    · rename_i h2
      split at hd
      · rename_i h3
        have hle := vget_le hb h1
        obtain ⟨es, e1, e2, e3, e4, e5, e6⟩ := entS_bwd hb _ _ [] (List.Pairwise.nil) hle.1 h3
        rw [List.nil_append] at e1 e3
        rw [e1] at hd
        have hu0 := vget_used (l := b) (p := 0) (v := (vget b 0).1) (q := (vget b 0).2.1) hb (by rw [← h1])
        obtain ⟨p, hp⟩ : ∃ p, p = (entS b (vget b 0).1 (vget b 0).2.1 []).2.1 := ⟨_, rfl⟩
        rw [← hp] at hd e5 e6
        unfold decT at hd
        split at hd
        · rename_i h4
          split at hd
          · simp at hd
          · rename_i h5
            split at hd
            · rename_i h6
              have hu1 := vget_used (l := b) (p := p) (v := (vget b p).1) (q := (vget b p).2.1) hb (by rw [← h4])
              obtain ⟨us, hus⟩ : ∃ us, us = (unpackS (b.drop (vget b p).2.1) (wid es.length) (vget b p).1).1 := ⟨_, rfl⟩
              have hun : unpackS (b.drop (vget b p).2.1) (wid es.length) (vget b p).1 = (us, 0) := by rw [hus, ← h6]
              rw [← hus] at hd
              obtain ⟨p1, p2, p3⟩ := pack_unpack (hb.drop _) hun
              unfold textsS at hd
              split at hd
              · rename_i h7
                obtain ⟨ha, hc⟩ := h7
                simp only [Prod.mk.injEq] at hd
                obtain ⟨hss, _⟩ := hd
                have hu00 : ∀ u ∈ us, 0 ≤ u := fun u hu => (p2 u hu).1
                have hget : ∀ u ∈ us, ∃ hi : u.toNat < es.length, es.getD u.toNat [] = es[u.toNat] := fun u hu => by
                  have h8 := ha u hu
                  have h9 := hu00 u hu
                  refine ⟨by omega, ?_⟩
                  rw [List.getD_eq_getElem?_getD, List.getElem?_eq_getElem (by omega)]
                  rfl
                have hents : ents ss = es := rising_unique (ents_rising ss) e3 (fun x => by
                  rw [ents_mem, ← hss, List.mem_map]
                  constructor
                  · rintro ⟨u, hu, rfl⟩
                    obtain ⟨hi, e⟩ := hget u hu
                    rw [e]
                    exact List.getElem_mem hi
                  · intro hx
                    obtain ⟨i, hi, rfl⟩ := List.getElem_of_mem hx
                    refine ⟨(i : Int), hc i hi, ?_⟩
                    rw [Int.toNat_natCast, List.getD_eq_getElem?_getD, List.getElem?_eq_getElem hi]
                    rfl)
                have hcodes : ss.map (fun s => ((pos (ents ss) s : Nat) : Int)) = us := by
                  rw [hents, ← hss, List.map_map]
                  conv => rhs; rw [← List.map_id us]
                  refine List.map_congr_left fun u hu => ?_
                  obtain ⟨hi, e⟩ := hget u hu
                  have := hu00 u hu
                  simp only [Function.comp, id]
                  rw [e, pos_getElem e3 hi]
                  omega
                have hok : idx ss = (ents ss, ss.map (fun s => ((pos (ents ss) s : Nat) : Int)), 0) := by
                  unfold idx
                  rw [if_neg]
                  rintro (h8 | ⟨s, hs, h8⟩)
                  · rw [← hss, List.length_map, p1] at h8
                    omega
                  · have := e4 s (by rw [← hents]; exact ents_mem.2 hs)
                    omega
                unfold encS
                rw [hok]
                simp only
                rw [if_pos trivial, hcodes, hents]
                congr 1
                unfold encB
                rw [p3, p1, e2, List.append_assoc, List.append_assoc, ← hu1.2.2, ← e6, ← hu0.2.2, List.drop_zero]
              · simp at hd
            · rename_i h6
              simp only [Prod.mk.injEq] at hd
              exact absurd hd.2 h6
        · rename_i h4
          simp only [Prod.mk.injEq] at hd
          exact absurd hd.2 h4
      · rename_i h3
        simp only [Prod.mk.injEq] at hd
        exact absurd hd.2 h3
  · rename_i h1
    simp only [Prod.mk.injEq] at hd
    exact absurd hd.2 h1
end Go.Proofs.Ytiijkehiphkkiaa.PD
