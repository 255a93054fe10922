/-
  The reference's Decode: plain law.
-/
import Derived.Test.YtiijkehiphkkiaaKq
import Derived.Test.YtiijkehiphkkiaaKpw
import Derived.Test.YtiijkehiphkkiaaKur
import Derived.Test.YtiijkehiphkkiaaD10
namespace Go.Proofs.Ytiijkehiphkkiaa.PD
open Go.RowKit Go.Proofs.YtiijkehiphkkiaaW.PrintWords Go.Proofs.YtiijkehiphkkiaaW.PrintLast Go.Proofs.YtiijkehiphkkiaaW.PrintMore
set_option linter.unusedVariables false
set_option linter.unusedSimpArgs false

theorem piece_ev (b : List Int) (lo hi : Nat) (hl : b.length ≤ 140737488355328) (hlo : lo ≤ b.length) (hhi : lo ≤ hi) : Ev (fun k => stoaref01_Piece.f k b (lo : Int) (hi : Int)) ((b.drop lo).take (hi - lo)) := by
  have h0 : ∀ n i : Nat, i + n = min hi b.length → lo ≤ i → Ev (fun k => stoaref01_Piece.l0 k b (hi : Int) ((b.drop lo).take (i - lo)) (i : Int)) ((b.drop lo).take (hi - lo)) := by
    intro n
    induction n with
    | zero =>
      intro i h hlo
      refine Ev.step (fun k => ?_) (Ev.now _)
      rw [stoaref01_Piece.l0]
      by_cases h1 : i < b.length
      · rw [if_pos (by omega), if_neg (by omega), show i = hi from by omega]
      · rw [if_neg (by omega), List.take_of_length_le (by simp; omega), List.take_of_length_le (by simp; omega)]
    | succ n ih =>
      intro i h hlo
      have hi' : i < b.length := by omega
      refine Ev.step (fun k => ?_) (ih (i + 1) (by omega) (by omega))
      have e : (b.drop lo).take (i - lo) ++ [b[i]] = (b.drop lo).take (i + 1 - lo) := by
        rw [show i + 1 - lo = (i - lo) + 1 from by omega, ← take_snoc (b.drop lo) (i - lo) (by simp; omega)]
        congr 2
        rw [List.getElem_drop]
        congr 1
        omega
      rw [stoaref01_Piece.l0, if_pos (by omega), if_pos (by omega), if_pos (by omega), if_pos (by simp; omega), rd_at hi', w64s i (by omega), e]
  have h1 := h0 (min hi b.length - lo) lo (by omega) (Nat.le_refl _)
  rw [Nat.sub_self, List.take_zero] at h1
  refine Ev.step (fun k => ?_) h1
  unfold stoaref01_Piece.f
  rw [Option.bind_some, if_neg (by omega), stoaref01_Piece.j0]

theorem rtext_law {b : List Int} (hb : Bys b) (hl : b.length ≤ 140737488355328) {p : Nat} (hp : p ≤ b.length) : Ev (fun k => stoaref10_text.f k b (p : Int)) ((textS b p).1, ((textS b p).2.1 : Int), (textS b p).2.2) := by
  refine Ev.bind (rget_ev b p hb (by omega) hp) ?_
  unfold textS
  by_cases h1 : (vget b p).2.2 = 0
  · have hle := (vget_le hb h1).1
    rw [if_pos h1]
    by_cases h2 : 200 < (vget b p).1
    · rw [if_pos h2]
      exact Ev.same (fun k => by rw [if_pos h1, if_pos (by simp only; omega)]; rfl) (Ev.now _)
    · have e1 : IntKind.u64.wrap (wrap64 ((b.length : Int) - ((vget b p).2.1 : Int))) = ((b.length - (vget b p).2.1 : Nat) : Int) := by
        rw [w64 (by omega) (by omega), wraps_u64 _ (by omega) (by omega)]; omega
      rw [if_neg h2]
      by_cases h3 : b.length - (vget b p).2.1 < (vget b p).1
      · rw [if_pos h3]
        exact Ev.same (fun k => by rw [if_pos h1, if_neg (by simp only; omega)]; simp only [e1]; rw [if_pos (by omega)]; rfl) (Ev.now _)
      · rw [if_neg h3]
        have e2 : wrap64 (((vget b p).2.1 : Int) + wrap64 ((vget b p).1 : Int)) = (((vget b p).2.1 + (vget b p).1 : Nat) : Int) := by
          rw [w64 (n := ((vget b p).1 : Int)) (by omega) (by omega), w64 (by omega) (by omega)]; omega
        refine Ev.same (g := fun k => (stoaref01_Piece.f k b ((vget b p).2.1 : Int) (((vget b p).2.1 + (vget b p).1 : Nat) : Int)).bind fun t => some (t, (((vget b p).2.1 + (vget b p).1 : Nat) : Int), 0)) (fun k => ?_) (Ev.bind (piece_ev b _ _ (by omega) hle (by omega)) ?_)
        · rw [if_pos h1, if_neg (by simp only; omega)]
          simp only [e1, e2]
          rw [if_neg (by omega)]
        · rw [Nat.add_sub_cancel_left]
          exact Ev.now _
  · rw [if_neg h1]
    exact Ev.same (fun k => by rw [if_neg h1]; rfl) (Ev.now _)

theorem rtexts_l2 (out : List (List Int)) (n : Nat) (hn : n ≤ 4096) (us : List Int) : ∀ m i : Nat, i + m = n → (∀ j < i, (j : Int) ∈ us) → Ev (fun k => stoaref10_texts.l2 k out ((List.range n).map fun j : Nat => decide ((j : Int) ∈ us)) (i : Int)) (if ∀ i < n, (i : Int) ∈ us then (out, 0) else ([], 5)) := by
  intro m
  induction m with
  | zero =>
    intro i h hall
    rw [if_pos (fun j hj => hall j (by omega))]
    refine Ev.step (fun k => ?_) (Ev.now _)
    rw [stoaref10_texts.l2, if_neg (by simp; omega)]
  | succ m ih =>
    intro i h hall
    have hrd : rdOf false ((List.range n).map fun j : Nat => decide ((j : Int) ∈ us)) (i : Int) = decide ((i : Int) ∈ us) := by
      unfold rdOf
      rw [Int.toNat_natCast, List.getD_eq_getElem?_getD, List.getElem?_eq_getElem (by simp; omega)]
      simp
    by_cases h1 : (i : Int) ∈ us
    · refine Ev.step (fun k => ?_) (ih (i + 1) (by omega) (fun j hj => ?_))
      · rw [stoaref10_texts.l2, if_pos (by simp; omega), if_pos (by omega), hrd, if_pos (by simpa using h1), w64s i (by omega)]
      · rcases Nat.lt_or_eq_of_le (Nat.le_of_lt_succ hj) with h2 | h2
        · exact hall j h2
        · rw [h2]; exact h1
    · rw [if_neg (fun hc => h1 (hc i (by omega)))]
      refine Ev.step (fun k => ?_) (Ev.now _)
      rw [stoaref10_texts.l2, if_pos (by simp; omega), if_pos (by omega), hrd, if_neg (by simpa using h1)]
theorem rtexts_l1 (es : List (List Int)) (us : List Int) (hn : es.length ≤ 4096) (hl : us.length ≤ 4096) (hr : ∀ s ∈ es, s.length ≤ 200) (hu : ∀ u ∈ us, 0 ≤ u) : ∀ m i : Nat, i + m = us.length → (∀ u ∈ us.take i, u < es.length) →
    Ev (fun k => stoaref10_texts.l1 k es us ((us.take i).map fun u => es.getD u.toNat []) ((List.range es.length).map fun j : Nat => decide ((j : Int) ∈ us.take i)) (i : Int)) (textsS es us) := by
  intro m
  induction m with
  | zero =>
    intro i h hall
    rw [List.take_of_length_le (by omega)] at hall ⊢
    have := rtexts_l2 (us.map fun u => es.getD u.toNat []) es.length hn us es.length 0 (by omega) (fun j hj => absurd hj (by omega))
    unfold textsS
    have e : (if (∀ u ∈ us, u < es.length) ∧ (∀ i < es.length, (i : Int) ∈ us) then (us.map fun u => es.getD u.toNat [], (0 : Int)) else ([], 5)) = (if ∀ i < es.length, (i : Int) ∈ us then (us.map fun u => es.getD u.toNat [], 0) else ([], 5)) := by
      by_cases h1 : ∀ i < es.length, (i : Int) ∈ us
      · rw [if_pos h1, if_pos ⟨hall, h1⟩]
      · rw [if_neg h1, if_neg (fun hc => h1 hc.2)]
    rw [e]
    refine Ev.step (fun k => ?_) this
    rw [stoaref10_texts.l1, if_neg (by omega)]
    rfl
  | succ m ih =>
    intro i h hall
    have hi : i < us.length := by omega
    have h0 := hu us[i] (List.getElem_mem hi)
    have eu : IntKind.u64.wrap ((es.length : Int)) = (es.length : Int) := wraps_u64 _ (by omega) (by omega)
    by_cases h1 : us[i] < es.length
    · have hlt : us[i].toNat < es.length := by omega
      have eg2 : es.getD us[i].toNat [] = es[us[i].toNat] := by
        rw [List.getD_eq_getElem?_getD, List.getElem?_eq_getElem hlt]; rfl
      have eg : rd_L4 es us[i] = es[us[i].toNat] := eg2
      have hsl := hr es[us[i].toNat] (List.getElem_mem hlt)
      have hrec := ih (i + 1) (by omega) (fun u hm => by
        rw [← take_snoc us i hi] at hm
        rcases List.mem_append.1 hm with hm | hm
        · exact hall u hm
        · rw [List.mem_singleton.1 hm]; exact h1)
      refine Ev.step (g := fun k => (stoaref01_Copy.f k es[us[i].toNat]).bind fun t354 => stoaref10_texts.l1 k es us (((us.take i).map fun u => es.getD u.toNat []) ++ [t354]) ((List.range es.length).map fun j : Nat => decide ((j : Int) ∈ us.take (i + 1))) ((i + 1 : Nat) : Int)) (fun k => ?_) (Ev.bind (rd_copy_ev es[us[i].toNat] (by omega)) ?_)
      · rw [stoaref10_texts.l1, if_pos (by omega), if_pos (by omega), rd_at hi, eu, if_neg (by omega), if_pos h0, if_pos (by simp; omega), if_pos h1, eg, used_set es.length i us hi h0, w64s i (by omega)]
        congr 1
        funext t
        rw [if_pos (by simp; omega)]
      · rw [← take_snoc us i hi, List.map_append] at hrec
        simp only [List.map_cons, List.map_nil, eg2] at hrec
        rw [take_snoc us i hi] at hrec
        exact hrec
    · unfold textsS
      rw [if_neg (fun hc => h1 (hc.1 us[i] (List.getElem_mem hi)))]
      refine Ev.step (fun k => ?_) (Ev.now _)
      rw [stoaref10_texts.l1, if_pos (by omega), if_pos (by omega), rd_at hi, eu, if_pos (by omega)]
theorem rtexts_law (es : List (List Int)) (us : List Int) (hn : es.length ≤ 4096) (hl : us.length ≤ 4096) (hr : ∀ s ∈ es, s.length ≤ 200) (hu : ∀ u ∈ us, 0 ≤ u) : Ev (fun k => stoaref10_texts.f k es us) (textsS es us) := by
  have h0 : ∀ m i : Nat, i + m = es.length → Ev (fun k => stoaref10_texts.l0 k es us [] (List.replicate i false) (i : Int)) (textsS es us) := by
    intro m
    induction m with
    | zero =>
      intro i h
      have := rtexts_l1 es us hn hl hr hu us.length 0 (by omega) (fun u hm => by simp at hm)
      refine Ev.step (fun k => ?_) this
      rw [stoaref10_texts.l0, if_neg (by omega)]
      congr 1
      apply List.ext_getElem
      · simp; omega
      · intro j h1 h2
        simp
    | succ m ih =>
      intro i h
      refine Ev.step (fun k => ?_) (ih (i + 1) (by omega))
      rw [stoaref10_texts.l0, if_pos (by omega), if_pos (by simp; omega), w64s i (by omega), List.replicate_succ']
  exact h0 es.length 0 (by omega)

theorem rdec_tail {b : List Int} (hb : Bys b) (hl : b.length ≤ 140737488355328) (es : List (List Int)) (hn : es.length ≤ 4096) (hr : ∀ s ∈ es, s.length ≤ 200) (p : Nat) (hp : p ≤ b.length) :
    Ev (fun k => (stoaref02_Get.f k b (p : Int)).bind fun bt380 => (if bt380.2.2 = 0 then (if bt380.1 > 4096 then (some (([] : List (List Int)), 4)) else ((stoaref01_Piece.f k b bt380.2.1 (b.length : Int)).bind fun t383 => ((stoaref10_width.f k (es.length : Int)).bind fun t386 => ((stoaref01_Unpack.f k t383 t386 (wrap64 (bt380.1))).bind fun bt387 => (if bt387.2 = 0 then ((stoaref10_texts.f k es bt387.1).bind fun bt391 => (some (bt391.1, bt391.2))) else (some (([] : List (List Int)), bt387.2))))))) else (some (([] : List (List Int)), bt380.2.2)))) (decT b es p) := by
  refine Ev.bind (rget_ev b p hb (by omega) hp) ?_
  unfold decT
  by_cases h1 : (vget b p).2.2 = 0
  · have hle := (vget_le hb h1).1
    rw [if_pos h1]
    by_cases h2 : 4096 < (vget b p).1
    · rw [if_pos h2]
      exact Ev.same (fun k => by rw [if_pos h1, if_pos (by simp only; omega)]) (Ev.now _)
    · rw [if_neg h2]
      refine Ev.same (g := fun k => (stoaref01_Piece.f k b ((vget b p).2.1 : Int) (b.length : Int)).bind fun t383 => ((stoaref10_width.f k (es.length : Int)).bind fun t386 => ((stoaref01_Unpack.f k t383 t386 ((vget b p).1 : Int)).bind fun bt387 => (if bt387.2 = 0 then ((stoaref10_texts.f k es bt387.1).bind fun bt391 => (some (bt391.1, bt391.2))) else (some (([] : List (List Int)), bt387.2)))))) (fun k => by rw [if_pos h1, if_neg (by simp only; omega), w64 (n := ((vget b p).1 : Int)) (by omega) (by omega)]) ?_
      refine Ev.bind (piece_ev b _ _ hl hle hle) (Ev.bind (rwidth_law es.length (by omega)) ?_)
      rw [List.take_of_length_le (by rw [List.length_drop]; exact Nat.le_refl _)]
      have hw := wid_le es.length hn
      refine Ev.bind (runpack (hb.drop _) (by rw [List.length_drop]; omega) (by omega) (by omega)) ?_
      by_cases h3 : (unpackS (b.drop (vget b p).2.1) (wid es.length) (vget b p).1).2 = 0
      · rw [if_pos h3]
        refine Ev.same (g := fun k => (stoaref10_texts.f k es (unpackS (b.drop (vget b p).2.1) (wid es.length) (vget b p).1).1).bind fun bt391 => (some (bt391.1, bt391.2))) (fun k => by rw [if_pos h3]) ?_
        have hlen := unpackS_len (b := b.drop (vget b p).2.1) (w := wid es.length) (m := (vget b p).1)
        exact Ev.bind (rtexts_law es _ hn (by omega) hr unpackS_neg) (Ev.now _)
      · rw [if_neg h3]
        exact Ev.same (fun k => by rw [if_neg h3]) (Ev.now _)
  · rw [if_neg h1]
    exact Ev.same (fun k => by rw [if_neg h1]) (Ev.now _)
theorem rdec_l0 {b : List Int} (hb : Bys b) (hl : b.length ≤ 140737488355328) (n : Nat) (hn : n ≤ 4096) : ∀ (m p : Nat) (es : List (List Int)), es.length + m = n → p ≤ b.length → (∀ s ∈ es, s.length ≤ 200) →
    Ev (fun k => stoaref10_Decode.l0 k b (n : Int) (p : Int) es (es.length : Int)) (if (entS b m p es).2.2 = 0 then decT b (entS b m p es).1 (entS b m p es).2.1 else ([], (entS b m p es).2.2)) := by
  intro m
  induction m with
  | zero =>
    intro p es h hp hr
    simp only [entS]
    rw [if_pos trivial]
    refine Ev.step (fun k => ?_) (rdec_tail hb hl es (by omega) hr p hp)
    rw [stoaref10_Decode.l0, if_neg (by omega)]
  | succ m ih =>
    intro p es h hp hr
    have e1 : IntKind.u64.wrap ((es.length : Int) + 1) = ((es.length + 1 : Nat) : Int) := by rw [wraps_u64 _ (by omega) (by omega)]; rfl
    refine Ev.step (g := fun k => (stoaref10_text.f k b (p : Int)).bind fun bt367 => (if bt367.2.2 = 0 then (if (es.length : Int) > 0 then (if 0 ≤ (IntKind.u64.wrap ((es.length : Int) - 1)) then (if (IntKind.u64.wrap ((es.length : Int) - 1)) < (es.length : Int) then ((stoaref05_Order.f k bt367.1 (rd_L4 es (IntKind.u64.wrap ((es.length : Int) - 1)))).bind fun t373 => (if t373 ≤ 0 then (some (([] : List (List Int)), 5)) else (if es.length < 5864062014805 then (stoaref10_Decode.l0 k b (n : Int) bt367.2.1 (es ++ [bt367.1]) (IntKind.u64.wrap ((es.length : Int) + 1))) else (none)))) else (none)) else (none)) else (if es.length < 5864062014805 then (stoaref10_Decode.l0 k b (n : Int) bt367.2.1 (es ++ [bt367.1]) (IntKind.u64.wrap ((es.length : Int) + 1))) else (none))) else (some (([] : List (List Int)), bt367.2.2)))) (fun k => by rw [stoaref10_Decode.l0, if_pos (by omega)]) (Ev.bind (rtext_law hb hl hp) ?_)
    by_cases h1 : (textS b p).2.2 = 0
    · obtain ⟨k1, k2, k3, k4⟩ := textS_le hb h1
      have hrec := ih (textS b p).2.1 (es ++ [(textS b p).1]) (by simp; omega) k1 (fun s hm => by
        rcases List.mem_append.1 hm with hm | hm
        · exact hr s hm
        · rw [List.mem_singleton.1 hm]; exact k2)
      rw [List.length_append, List.length_singleton] at hrec
      by_cases h2 : 0 < es.length
      · have e2 : IntKind.u64.wrap ((es.length : Int) - 1) = ((es.length - 1 : Nat) : Int) := by rw [wraps_u64 _ (by omega) (by omega)]; omega
        have e3 : es.getD (es.length - 1) [] = es[es.length - 1] := by rw [List.getD_eq_getElem?_getD, List.getElem?_eq_getElem (by omega)]; rfl
        refine Ev.same (g := fun k => (stoaref05_Order.f k (textS b p).1 es[es.length - 1]).bind fun t373 => (if t373 ≤ 0 then (some (([] : List (List Int)), 5)) else (stoaref10_Decode.l0 k b (n : Int) ((textS b p).2.1 : Int) (es ++ [(textS b p).1]) ((es.length + 1 : Nat) : Int)))) (fun k => ?_) (Ev.bind (order_ev (textS b p).1 es[es.length - 1] (by omega)) ?_)
        · rw [if_pos h1, if_pos (by omega), e2, if_pos (by omega), if_pos (by omega), rd4_at (by omega), e1]
          congr 1
          funext t
          rw [if_pos (show es.length < 5864062014805 by omega)]
        · by_cases h3 : cmpL (textS b p).1 es[es.length - 1] ≤ 0
          · have ee : entS b (m + 1) p es = ([], 0, 5) := by rw [entS, if_pos h1, e3, if_pos ⟨h2, h3⟩]
            rw [ee, if_neg (by simp)]
            exact Ev.same (fun k => by rw [if_pos h3]) (Ev.now _)
          · have ee : entS b (m + 1) p es = entS b m (textS b p).2.1 (es ++ [(textS b p).1]) := by rw [entS, if_pos h1, e3, if_neg (fun hc => h3 hc.2)]
            rw [ee]
            exact Ev.same (fun k => by rw [if_neg h3]) hrec
      · have ee : entS b (m + 1) p es = entS b m (textS b p).2.1 (es ++ [(textS b p).1]) := by rw [entS, if_pos h1, if_neg (fun hc => h2 hc.1)]
        rw [ee]
        refine Ev.same (fun k => ?_) hrec
        rw [if_pos h1, if_neg (by omega), if_pos (by omega), e1]
    · have ee : entS b (m + 1) p es = ([], 0, (textS b p).2.2) := by rw [entS, if_neg h1]
      rw [ee, if_neg h1]
      exact Ev.same (fun k => by rw [if_neg h1]) (Ev.now _)
theorem rdec_law {b : List Int} (hb : Bys b) (hl : b.length ≤ 140737488355328) : Ev (fun k => stoaref10_Decode.f k b) (decS b) := by
  refine Ev.bind (rget_ev b 0 hb (by omega) (by omega)) ?_
  unfold decS
  by_cases h1 : (vget b 0).2.2 = 0
  · have hle := (vget_le hb h1).1
    rw [if_pos h1]
    by_cases h2 : 4096 < (vget b 0).1
    · rw [if_pos h2]
      exact Ev.same (fun k => by rw [if_pos h1, if_pos (by simp only; omega)]) (Ev.now _)
    · rw [if_neg h2]
      have := rdec_l0 hb hl (vget b 0).1 (by omega) (vget b 0).1 (vget b 0).2.1 [] (by simp) hle (fun s hm => by simp at hm)
      exact Ev.same (fun k => by rw [if_pos h1, if_neg (by simp only; omega)]; rfl) this
  · rw [if_neg h1]
    exact Ev.same (fun k => by rw [if_neg h1]) (Ev.now _)
end Go.Proofs.Ytiijkehiphkkiaa.PD
