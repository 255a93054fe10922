/-
  The reference's Encode: plain law.
-/
import Derived.Test.YtiijkehiphkkiaaKq
import Derived.Test.YtiijkehiphkkiaaKpr
import Derived.Test.YtiijkehiphkkiaaD7
namespace Go.Proofs.Ytiijkehiphkkiaa.PD
open Go.RowKit Go.Proofs.YtiijkehiphkkiaaW.PrintWords Go.Proofs.YtiijkehiphkkiaaW.PrintLast Go.Proofs.YtiijkehiphkkiaaW.PrintMore
set_option linter.unusedVariables false
set_option linter.unusedSimpArgs false

theorem renc_l1 (es : List (List Int)) (us out : List Int) (res) (hl : us.length ≤ 4096) (hu : Fit 64 us)
    (hres : Ev (fun k => (stoaref10_width.f k (es.length : Int)).bind fun t414 => ((stoaref01_Pack.f k t414 us).bind fun bt415 => ((stoaref02_Put.f k (IntKind.u64.wrap ((us.length : Int)))).bind fun t419 => ((stoaref01_Cat.f k out t419).bind fun t422 => ((stoaref01_Cat.f k t422 bt415.1).bind fun t425 => (some (t425, 0))))))) res) :
    ∀ n i : Nat, i + n = us.length → Ev (fun k => stoaref10_Encode.l1 k es us out (us.take i) (i : Int)) res := by
  intro n
  induction n with
  | zero =>
    intro i h
    refine Ev.step (fun k => ?_) hres
    rw [stoaref10_Encode.l1, if_neg (by omega), List.take_of_length_le (by omega)]
  | succ n ih =>
    intro i h
    have hi : i < us.length := by omega
    have h1 := hu us[i] (List.getElem_mem hi)
    refine Ev.step (fun k => ?_) (ih (i + 1) (by omega))
    rw [stoaref10_Encode.l1, if_pos (by omega), if_pos (by omega), if_pos (by simp; omega), rd_at hi, wraps_u64 _ h1.1 h1.2, w64s i (by omega), take_snoc us i hi]
theorem renc_l0 (es : List (List Int)) (us : List Int) (hes : es.length ≤ 4096) (hr : ∀ s ∈ es, s.length ≤ 200) (hl : us.length ≤ 4096) (hu : Fit (wid es.length) us) :
    ∀ n i : Nat, i + n = es.length → Ev (fun k => stoaref10_Encode.l0 k es us (vput es.length ++ ((es.take i).map one).flatten) (i : Int)) (encB es us, 0) := by
  have hw := wid_le es.length hes
  have hu64 : Fit 64 us := fun u hm => by
    have h1 := hu u hm
    refine ⟨h1.1, Int.lt_of_lt_of_le h1.2 ?_⟩
    have : 2 ^ wid es.length ≤ 2 ^ 64 := Nat.pow_le_pow_right (n := 2) (by decide) (by omega)
    exact_mod_cast this
  intro n
  induction n with
  | zero =>
    intro i h
    have h1 := ones_length es hr
    have h2 := vput_length es.length
    have h3 := vput_length us.length
    have h4 := packS_short (wid es.length) us (by omega) hl
    refine Ev.step (fun k => ?_) (renc_l1 es us (vput es.length ++ (es.map one).flatten) _ hl hu64 ?_ us.length 0 (by omega))
    · rw [stoaref10_Encode.l0, if_neg (by omega), List.take_of_length_le (by omega)]
      rfl
    · refine Ev.bind (rwidth_law es.length (by omega)) (Ev.bind (rpack (by omega) hu hl) ?_)
      rw [wraps_u64 _ (by omega) (by omega)]
      refine Ev.bind (rput_ev us.length (by omega)) (Ev.bind (cat_ev _ _ (by simp only [List.length_append]; omega)) (Ev.bind (cat_ev _ _ (by simp only [List.length_append]; omega)) (Ev.now _)))
  | succ n ih =>
    intro i h
    have hi : i < es.length := by omega
    have hs := hr es[i] (List.getElem_mem hi)
    have h1 := ones_length (es.take i) (fun s hm => hr s (List.mem_of_mem_take hm))
    rw [List.length_take] at h1
    have h2 := vput_length es.length
    have h3 := vput_length es[i].length
    have hrec := ih (i + 1) (by omega)
    rw [← take_snoc es i hi, List.map_append, List.flatten_append] at hrec
    simp only [List.map_cons, List.map_nil, List.flatten_cons, List.flatten_nil, List.append_nil] at hrec
    refine Ev.step (g := fun k => ((stoaref02_Put.f k ((es[i].length : Nat) : Int)).bind fun t397 => ((stoaref01_Cat.f k (vput es.length ++ ((es.take i).map one).flatten) t397).bind fun t400 => ((stoaref01_Cat.f k t400 es[i]).bind fun t404 => (stoaref10_Encode.l0 k es us t404 ((i + 1 : Nat) : Int)))))) (fun k => ?_) ?_
    · rw [stoaref10_Encode.l0, if_pos (by omega), if_pos (by omega), rd4_at hi, wraps_u64 _ (by omega) (by omega), w64s i (by omega)]
    · refine Ev.bind (rput_ev es[i].length (by omega)) (Ev.bind (cat_ev _ _ (by simp only [List.length_append]; omega)) (Ev.bind (cat_ev _ _ (by simp only [List.length_append]; omega)) ?_))
      refine Ev.same (fun k => ?_) hrec
      simp only [one, List.append_assoc]
theorem renc_law (ss : List (List Int)) : Ev (fun k => stoaref10_Encode.f k ss) (encS ss) := by
  refine Ev.bind (index_ev ss) ?_
  by_cases h : (idx ss).2.2 = 0
  · obtain ⟨h1, h2, h3, h4⟩ := idx_ok h
    have h5 := ents_length ss
    unfold encS
    rw [if_pos h, h3, h4]
    refine Ev.same (g := fun k => (stoaref02_Put.f k (((ents ss).length : Nat) : Int)).bind fun t393 => stoaref10_Encode.l0 k (ents ss) (ss.map (fun s => ((pos (ents ss) s : Nat) : Int))) t393 0) (fun k => by rw [if_pos h, wraps_u64 _ (by omega) (by omega)]) (Ev.bind (rput_ev (ents ss).length (by omega)) ?_)
    have := renc_l0 (ents ss) (ss.map (fun s => ((pos (ents ss) s : Nat) : Int))) (by omega) (fun s hs => h2 s (ents_mem.1 hs)) (by simpa using h1) (codes_fit h1) (ents ss).length 0 (by omega)
    simpa using this
  · unfold encS
    rw [if_neg h]
    exact Ev.same (fun k => by rw [if_neg h]) (Ev.now _)

end Go.Proofs.Ytiijkehiphkkiaa.PD
