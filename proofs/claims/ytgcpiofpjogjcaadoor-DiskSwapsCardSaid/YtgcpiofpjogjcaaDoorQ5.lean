/-
  Parts of the proof: Dt, Dv, Dra, Du, Duv, Dw, Dwo, Dz.
-/
import Derived.Test.YtgcpiofpjogjcaaDoorQ4
section
/-
  What a loss of power leaves, walked: left.
-/
namespace Go.Proofs.YtgcpiofpjogjcaaDoor.PK
open Go.RowKit Go.Maps Go.Sort Go.Proofs.YtgcpiofpjogjcaaDoorW.PrintWords
set_option linter.unusedVariables false
set_option linter.unusedSimpArgs false
variable {own : Nat → Prop} {w w' : World}

theorem chV_get (l : List Chg) (i : Nat) (h : i < l.length) : (l.flatMap chV)[i * 3]? = some (.string l[i].a) ∧ (l.flatMap chV)[i * 3 + 1]? = some (.string l[i].b) ∧ (l.flatMap chV)[i * 3 + 2]? = some (fileV l[i].f) := by
  induction l generalizing i with
  | nil => simp at h
  | cons c l ih =>
    cases i with
    | zero => simp [chV]
    | succ i =>
      have := ih i (by simpa using h)
      simp only [List.flatMap_cons, chV, List.getElem_cons_succ]
      rw [show (i + 1) * 3 = i * 3 + 3 from by omega, show i * 3 + 3 + 1 = i * 3 + 1 + 3 from by omega, show i * 3 + 3 + 2 = i * 3 + 2 + 3 from by omega]
      simp only [List.cons_append, List.nil_append, List.getElem?_cons_succ]
      exact this
theorem chg_cells {e n c : Nat} {p : Option Addr} {l : List Chg} (h : w.ownsRow 0 e 3 (.slice p n c) n (l.flatMap chV)) (hn : n = l.length) (i : Nat) (hi : i < l.length) :
    ∃ b, p = some ⟨b, 0, none⟩ ∧ b < w.heap.size ∧ w.cell? ⟨b, i * 3, none⟩ = some (.string l[i].a) ∧ w.cell? ⟨b, i * 3 + 1, none⟩ = some (.string l[i].b) ∧ w.cell? ⟨b, i * 3 + 2, none⟩ = some (fileV l[i].f) := by
  obtain ⟨h1, h2⟩ := h
  rcases h2 with ⟨h2, h3⟩ | ⟨g, cap, cur, hv, hg, hh, hnc, hcm, hsz, htake⟩
  · omega
  · injection hv with hv _ _
    have hget : ∀ j, j < n * 3 → w.cell? ⟨g, j, none⟩ = (l.flatMap chV)[j]? := fun j hj => by
      rw [← htake]
      simp [World.cell?, hh, List.getElem?_take, hj]
    obtain ⟨q0, q1, q2⟩ := chV_get l i hi
    exact ⟨g, hv, lt_of_block hh, (hget _ (by omega)).trans q0, (hget _ (by omega)).trans q1, (hget _ (by omega)).trans q2⟩
theorem row_cap {e s n c : Nat} {p : Option Addr} {xs : List Value} (h : w.ownsRow 0 e s (.slice p n c) n xs) : n ≤ c := by
  rcases h.2 with ⟨h1, h2⟩ | ⟨g, cap, cur, hv, _, _, hnc, _⟩
  · injection h1 with _ _ h3; omega
  · injection hv with _ _ h3; omega

theorem _root_.Go.RowKit.Below.turn {B : Nat} {w w1 w2 : World} (h : Below B w w1) {b : Nat} (t : Turn own w1 w2) (hk : ∀ k, k < w1.heap.size → k ≠ b → w2.heap[k]? = w1.heap[k]?) (hb : B ≤ b) (hB : B ≤ w1.heap.size) : Below B w w2 :=
  h.trans ⟨t.os, t.tape, t.output, t.size, fun k hk1 => hk k (by omega) (by omega)⟩
theorem foldl_length : ∀ (cs : List Chg) (l : Dir), (cs.foldl applyC l).length ≤ l.length + cs.length
  | [], l => by simp
  | c :: cs, l => by
    have h1 := length_applyC l c
    have h2 := foldl_length cs (applyC l c)
    simp only [List.foldl_cons, List.length_cons]
    omega
/-- The first loop: k changes are made. -/
structure LeftOne (S : Dk) (w : World) (b : Nat) (kv : Value) (k : Nat) (wr : World) : Prop where
  dir : DirAt wr b ((S.chg.take k).foldl applyC S.safe).length ((S.chg.take k).foldl applyC S.safe)
  below : Below w.heap.size w wr
  kb : wr.cell? ⟨w.heap.size, 0, none⟩ = some kv

set_option maxRecDepth 100000 in
theorem DirAt.short {b n : Nat} {l : Dir} (h : DirAt w b n l) : ∀ p ∈ l, p.1.length ≤ 9223372036854775807 := by
  intro p hp
  obtain ⟨es, clock, h1, h2, h3, h4⟩ := h
  unfold dmap at h4
  injection h4 with h4
  have hperm := WideShapes.sorted_perm (es.toList.map (WideElems.rg Tryd.prog 9 fileElem))
  rw [← h4] at hperm
  have hm := hperm.mem_iff.1 (List.mem_map_of_mem (f := fun p : List UInt8 × Nat => ((.string p.1 : Lit), (.held p.2 : DataW Nat))) hp)
  obtain ⟨x, hx, he⟩ := List.mem_map.1 hm
  obtain ⟨y, hy⟩ := h2.reads x hx
  rw [WideElems.rg_of hy] at he
  have hk := WideElems.rd_key hy
  obtain ⟨s, hs⟩ := invK9 _ _ hk
  rw [hs, he] at hk
  have hsz : s.size ≤ 9223372036854775807 := by
    refine Classical.byContradiction fun hc => ?_
    simp [keyOf, mapKey, Tryd.underlying9, maxLen, hc] at hk
  rw [key9 s hsz] at hk
  injection hk with hk
  injection hk with hk
  have e1 : s.data.toList.length = s.size := by rw [Array.length_toList]; rfl
  have e2 : s.data.toList.length = p.1.length := congrArg List.length hk
  omega

/-- Files that a call has made. -/
structure Made (w : World) (own : Nat → Prop) (l : Dir) (pd : Nat → Option Addr) (cd : Nat → Nat) (dat : Nat → List Int) : Prop where
  files : ∀ p ∈ l, FileIn w own p.2 (pd p.2) (cd p.2) (dat p.2) (dat p.2).length
  apart : ∀ p ∈ l, ∀ q ∈ l, p.2 ≠ q.2 → ∀ a b, pd p.2 = some a → pd q.2 = some b → a.block ≠ b.block
theorem Made.snoc {wr w4 : World} {nw : Dir} {pd : Nat → Option Addr} {cd : Nat → Nat} {dat : Nat → List Int} (h : Made wr own nw pd cd dat) {b g c' : Nat} {A' : Option Addr} {xs : List Int} {k : List UInt8} {es : Array MapEntry} {ck : Nat}
    (hb : wr.heap[b]? = some (.map es ck)) (hk : ∀ k, k < wr.heap.size → k ≠ b → w4.heap[k]? = wr.heap[k]?) (hg : wr.heap.size ≤ g) (hog : own g) (blk : w4.heap[g]? = some (.cells #[.slice A' xs.length c', .int .i64 xs.length] 63 (0, 0)))
    (row : w4.ownsRow 0 5 1 (.slice A' xs.length c') xs.length (nums .u8 xs)) (hA : ∀ a, A' = some a → wr.heap.size ≤ a.block) (hown : ∀ a, A' = some a → own a.block) (bys : ∀ x ∈ xs, 0 ≤ x ∧ x < 256) (short : xs.length ≤ 140737488355328) :
    Made w4 own (nw ++ [(k, g)]) (upd pd g A') (upd cd g c') (upd dat g xs) := by
  have hne : ∀ p ∈ nw, p.2 ≠ g := fun p hp e => by have := (h.files p hp).lt; omega
  have hold : ∀ p ∈ nw, ∀ a, pd p.2 = some a → a.block < wr.heap.size := fun p hp a ha => ((h.files p hp).pblock ha).1
  refine ⟨fun p hp => ?_, fun p hp q hq hpq a a' ha ha' => ?_⟩
  · rcases List.mem_append.1 hp with hp | hp
    · have hf := h.files p hp
      simp only [upd_other _ _ (hne p hp)]
      refine hf.kept (hk _ hf.lt (map_ne hf.blk hb)) (fun a ha => hk _ (hold p hp a ha) ?_)
      have h1 := hf.row
      rw [ha] at h1
      obtain ⟨cur, hcur⟩ := ownsRow_blk h1
      exact map_ne hcur hb
    · obtain rfl := List.mem_singleton.1 hp
      simp only [upd_same]
      exact ⟨hog, blk, row, hown, Nat.le_refl _, bys, short⟩
  · rcases List.mem_append.1 hp with hp | hp
    · rw [upd_other _ _ (hne p hp)] at ha
      rcases List.mem_append.1 hq with hq | hq
      · rw [upd_other _ _ (hne q hq)] at ha'
        exact h.apart p hp q hq hpq a a' ha ha'
      · obtain rfl := List.mem_singleton.1 hq
        rw [upd_same] at ha'
        have h1 := hold p hp a ha
        have h2 := hA a' ha'
        omega
    · obtain rfl := List.mem_singleton.1 hp
      rw [upd_same] at ha
      rcases List.mem_append.1 hq with hq | hq
      · rw [upd_other _ _ (hne q hq)] at ha'
        have h1 := hold q hq a' ha'
        have h2 := hA a ha
        omega
      · obtain rfl := List.mem_singleton.1 hq
        exact absurd rfl hpq
theorem cont_upd {nw : Dir} {dat : Nat → List Int} {g : Nat} {xs : List Int} {k : List UInt8} (h : ∀ p ∈ nw, p.2 ≠ g) : cont (upd dat g xs) (nw ++ [(k, g)]) = cont dat nw ++ [(k, xs)] := by
  unfold cont
  rw [List.map_append]
  congr 1
  · exact List.map_congr_left (fun p hp => by rw [upd_other _ _ (h p hp)])
  · simp [upd_same]
/-- What 'left' hands back. -/
def LeftMade (own : Nat → Prop) (S : Dk) (ks : List Int) (w : World) (e : Ending) (w' : World) : Prop :=
  ∃ b l pd cd dat, e = .returned (.map (some b)) ∧ w.heap.size ≤ b ∧ DirAt w' b l.length l ∧ Made w' own l pd cd dat ∧ cont dat l = S.leftCont ks ∧ Below w.heap.size w w'

/-- The second loop: i files are copied. -/
structure LeftTwo (own : Nat → Prop) (S : Dk) (ks : List Int) (w : World) (b : Nat) (kv v : Value) (L : Dir) (i : Nat) (wr : World) (nw : Dir) (pd : Nat → Option Addr) (cd : Nat → Nat) (dat : Nat → List Int) : Prop where
  len : nw.length = i
  names : nw.map (·.1) = (L.take i).map (·.1)
  dir : DirAt wr b (nw ++ L.drop i).length (nw ++ L.drop i)
  made : Made wr own nw pd cd dat
  cont : cont dat nw = (S.leftCont ks).take i
  below : Below w.heap.size w wr
  kb : wr.cell? ⟨w.heap.size, 0, none⟩ = some kv
  row : wr.ownsRow 0 9 1 v L.length (L.map fun p => encStr p.1)
def LeftAt (own : Nat → Prop) (S : Dk) (ks : List Int) (w : World) (b : Nat) (kv v : Value) (L : Dir) (i : Nat) (wr : World) : Prop := ∃ nw pd cd dat, LeftTwo own S ks w b kv v L i wr nw pd cd dat

set_option maxRecDepth 100000 in
set_option maxHeartbeats 6400000 in
theorem left_any (d : Nat) (S : Dk) (A : Option Addr) (c : Nat) (ks : List Int) (w : World) (h : DiskAt w own d S) (hfr : Fresh own w) (hC : Kd.C (Kd.int .i64) w A ks.length ks) (hcc : ks.length ≤ c) (hbig : S.chg.length ≤ 1099511627776) (hsafe : S.safe.length ≤ 400) (hlen0 : (S.leftDir ks).length ≤ 400) :
    Calls Tryd.prog 36 #[.pointer (some ⟨d, 0, none⟩), .slice A ks.length c] w (LeftMade own S ks w) := by
  obtain ⟨bn, bs, pc, cc, pp, cp, pd0, cd0, h⟩ := h
  obtain ⟨c0, c1, c2, c3, c4, c5, c6⟩ := seven_cells h.blk
  have ld := lt_of_block h.blk
  have hkb : (w.alloc (.cells #[.slice A ks.length c] 24)).cell? ⟨w.heap.size, 0, none⟩ = some (.slice A ks.length c) := cell_new _ _ _ _ rfl
  obtain ⟨wb, hwb⟩ : ∃ wb, wb = w.alloc (.cells #[.slice A ks.length c] 24) := ⟨_, rfl⟩
  have hwbs : wb.heap.size = w.heap.size + 1 := by rw [hwb]; simp
  have hbb : Below w.heap.size w wb := by rw [hwb]; exact (Below.refl _ _).alloc (Nat.le_refl _) _
  rw [← hwb] at hkb
  have e2 := (hbb.cell (p := ⟨d, 2, none⟩) ld).trans c2
  have e3 := (hbb.cell (p := ⟨d, 3, none⟩) ld).trans c3
  have hcl := clone_any bs _ S.safe wb (h.safe.kept (hbb.block _ h.safe.lt))
  have hrc := row_cap h.chg
  have hkeep : ∀ w1, Below w.heap.size w w1 → w1.cell? ⟨w.heap.size, 0, none⟩ = some (.slice A ks.length c) → ∀ i : Int, 0 ≤ i → Calls Tryd.prog 46 #[.int .i64 i, .pointer (some ⟨w.heap.size, 0, none⟩)] w1 fun e w' => e = .returned (.int .i64 (keepN ks i.toNat : Nat)) ∧ ∃ n, w' = w1.drewN n := fun w1 hb1 hk1 i hi =>
    (left1_any i w.heap.size A c ks w1 hi hk1 (Kd.C_below hC hb1) hcc).mono fun e w' ⟨he, hw⟩ => ⟨he, 0, hw.symm⟩
  have HH := Lib.hid h; have HF := Lib.hid hfr; have HC := Lib.hid hC; have HK := Lib.hid hkeep; have HBB := Lib.hid hbb
  clear h hfr hC hkeep c0 c1 c2 c3 c4 c5 c6 hbb
  obtain ⟨k0, hk0⟩ : ∃ k0 : Nat, k0 = keepN ks 0 := ⟨_, rfl⟩
  obtain ⟨m, hm⟩ : ∃ m : Nat, m = min k0 S.chg.length := ⟨_, rfl⟩
  have hml : m ≤ S.chg.length := by omega
  have em : (min (k0 : Int) ↑S.chg.length).toNat = m := by rw [hm]; omega
  have em2 : max (min (k0 : Int) ↑S.chg.length) 0 = (m : Int) := by rw [hm]; omega
  have hK0 : ∀ w1, Below w.heap.size w w1 → w1.cell? ⟨w.heap.size, 0, none⟩ = some (.slice A ks.length c) → Calls Tryd.prog 46 #[.int .i64 0, .pointer (some ⟨w.heap.size, 0, none⟩)] w1 fun e w' => e = .returned (.int .i64 (k0 : Nat)) ∧ ∃ n, w' = w1.drewN n := fun w1 hb1 hk1 => by rw [hk0]; exact HK.out w1 hb1 hk1 0 (by omega)
  have HK0 := Lib.hid hK0
  clear hK0
  have HE1 := Lib.hid em; have HE2 := Lib.hid em2
  clear em em2
  have HM := Lib.hid hm; have HKE := Lib.hid hk0
  clear hm hk0
  go_enter Tryd.func36, Tryd.ntmps36
  go_upto_region 2 with fail
  simp only [← hwb]
  have HWB := Lib.hid hwb
  clear hwb
  go_upto_region 3 with (go_at_call 35; refine hcl.mono ?_; rintro e w1 ⟨rfl, hs1, hb1⟩; have hbw : Below w.heap.size w w1 := HBB.out.trans (hb1.mono (by omega)); have hk1 : w1.cell? ⟨w.heap.size, 0, none⟩ = some (.slice A ks.length c) := (hb1.cell (p := ⟨w.heap.size, 0, none⟩) (by simp only; omega)).trans hkb; have e31 := (hb1.cell (p := ⟨d, 3, none⟩) (by simp only; omega)).trans e3)
  go_quiet ((go_at_call 46; refine (HK0.out _ (by repeat (first | exact hbw | apply below_drew | apply pw_below_drewN)) (by exact hk1)).mono ?_; rintro e w4 ⟨rfl, ⟨nd, rfl⟩⟩; (try first | exact ⟨rfl, _, World.drewN_drewN _ _ _⟩ | exact ⟨rfl, _, Eq.trans (World.drewN_drewN _ _ _) (congrArg (World.drewN _) (Nat.add_assoc _ _ _))⟩)))
  simp only [HE1.out, HE2.out]
  go_wp2
  have HC1 := Lib.hid hcl; have HS1 := Lib.hid hs1
  clear hcl hs1 e31 e2 e3
  go_loopw [8, 33] (fun _ s33 wr => ∃ k : Nat, k ≤ m ∧ s33 = .int .i64 k ∧ LeftOne S w (w.heap.size + 1) (.slice A ks.length c) k wr) (fun _ s33 _ => m - (intOf s33).toNat)
  case atStart =>
    exact ⟨0, Nat.zero_le _, rfl, ⟨by
      have h1 := HS1.out
      rw [hwbs] at h1
      exact h1.kept rfl, (HBB.out.trans (hb1.mono (by omega))).trans (pw_below_drewN (Below.refl _ _) _), hk1⟩⟩
  case round =>
    obtain ⟨k, hk, rfl, hL⟩ := hrel
    by_cases hlt : k < m
    · obtain ⟨b, hpb, lb, q0, q1, q2⟩ := chg_cells HH.out.chg rfl k (by omega)
      have hck := HH.out.chgs _ (List.getElem_mem (show k < S.chg.length by omega))
      have hlen := foldl_length (S.chg.take k) S.safe
      rw [List.length_take] at hlen
      have htk : S.chg.take (k + 1) = S.chg.take k ++ [S.chg[k]'(by omega)] := (List.take_succ_eq_append_getElem (by omega))
      subst hpb
      obtain ⟨pf, hpf⟩ : ∃ pf, fileV (S.chg[k]'(by omega)).f = .pointer pf := by cases (S.chg[k]'(by omega)).f <;> exact ⟨_, rfl⟩
      rw [hpf] at q2
      have r0 := (hL.below.cell (p := ⟨b, k * 3, none⟩) lb).trans q0
      have r1 := (hL.below.cell (p := ⟨b, k * 3 + 1, none⟩) lb).trans q1
      have r2 := (hL.below.cell (p := ⟨b, k * 3 + 2, none⟩) lb).trans q2
      have hdl := hL.dir.lt
      have hap := apply_any (own := own) (w.heap.size + 1) _ (S.chg[k]'(by omega)) (wr.alloc (.cells #[.string (S.chg[k]'(by omega)).a, .string (S.chg[k]'(by omega)).b, .pointer pf] 65)) (hL.dir.kept (Below.heap_alloc _ _ _ hdl)) hck (by omega) (HF.out _ (by omega))
      rw [hpf] at hap
      have HL := Lib.hid hL; have HT := Lib.hid htk; have HCK := Lib.hid hck
      clear hL htk hck q0 q1 q2 hpf hlen
      generalize hca : (S.chg[k]'(by omega)).a = ca at *
      generalize hcb : (S.chg[k]'(by omega)).b = cb at *
      go_wp2_with (first
        | (go_at_call 44; refine hap.mono ?_; rintro e w2 ⟨rfl, hd2, ht2, hk2⟩))
      go_roundw
      case rel =>
        refine ⟨k + 1, by omega, by go_num, ⟨?_, ?_, ?_⟩⟩
        · rw [HT.out, List.foldl_append]; exact hd2
        · exact (HL.out.below.alloc (by have := HL.out.below.size; omega) _).turn ht2 hk2 (by omega) (by have := HL.out.below.size; simp; omega)
        · exact (World.cell?_of_block (a := ⟨w.heap.size, 0, none⟩) (hk2 _ (by simp only; have := HL.out.below.size; simp; omega) (by simp only; omega))).trans (cell_old HL.out.kb)
      case measure => simp [intOf]; omega
    · obtain rfl : k = m := by omega
      have hL2 : (S.chg.take k).foldl applyC S.safe = S.leftDir ks := by
        unfold Dk.leftDir
        congr 1
        have h1 := HM.out; have h2 := HKE.out
        rw [← h2, List.take_eq_take_iff]; omega
      have hll := foldl_length (S.chg.take k) S.safe
      rw [List.length_take] at hll
      have hdir := hL.dir
      rw [hL2] at hdir hll
      obtain ⟨L, hLd⟩ : ∃ L, L = S.leftDir ks := ⟨_, rfl⟩
      rw [← hLd] at hdir hll
      rw [← hLd] at hlen0
      have hnm := names_any (w.heap.size + 1) _ L wr hdir (by omega)
      have HL := Lib.hid hL; have HLD := Lib.hid hLd; have HD := Lib.hid hdir
      clear hL hL2 hLd hdir
      go_wp2_with (go_at_call 47; refine hnm.mono ?_; rintro e w2 ⟨v, rfl, hrow, hb2⟩; obtain ⟨vA, vc, rfl⟩ := own_slice hrow)
      have HROW := Lib.hid hrow
      have hsz1 := HL.out.below.size
      have hsz2 := hb2.size
      clear hrow hnm
      go_loopw [9, 10, 11, 12, 44] (fun _ _ _ _ s44 wr2 => ∃ i : Nat, i ≤ L.length ∧ s44 = .int .i64 i ∧ LeftAt own S ks w (w.heap.size + 1) (.slice A ks.length c) (.slice vA L.length vc) L i wr2) (fun _ _ _ _ s44 _ => L.length - (intOf s44).toNat)
      case atStart =>
        refine ⟨0, Nat.zero_le _, rfl, [], fun _ => none, fun _ => 0, fun _ => [], ⟨rfl, rfl, ?_, ⟨fun p hp => (by cases hp), fun p hp => (by cases hp)⟩, rfl, ?_, ?_, ?_⟩⟩
        · exact (HD.out.kept (hb2.block _ HD.out.lt))
        · exact HL.out.below.trans (hb2.mono hsz1)
        · exact (hb2.cell (p := ⟨w.heap.size, 0, none⟩) (by simp only; have := HD.out.lt; omega)).trans HL.out.kb
        · exact own_weaken HROW.out (Nat.zero_le _)
      case round =>
        obtain ⟨i, hi, rfl, nw, pd, cd, dat, hT⟩ := hrel
        by_cases hlt : i < L.length
        · obtain ⟨kx, f, hkf⟩ : ∃ kx f, L[i] = (kx, f) := ⟨_, _, rfl⟩
          have hdrop : L.drop i = (kx, f) :: L.drop (i + 1) := by rw [List.drop_eq_getElem_cons hlt, hkf]
          have hmem : (kx, f) ∈ S.leftDir ks := by rw [← HLD.out, ← hkf]; exact List.getElem_mem hlt
          have hfs := HH.out.ref f (leftDir_live hmem)
          have hff := HH.out.files f hfs
          obtain ⟨f0, f1⟩ := two_cells hff.blk
          have lf := hff.lt
          have hdT := hT.dir
          rw [hdrop] at hdT
          have hlk := look_mid hdT.sorted
          have hks : kx.length ≤ 9223372036854775807 := hdT.short (kx, f) (by simp)
          obtain ⟨s, hse, hsk⟩ : ∃ s : ByteArray, encStr kx = .string s ∧ s.data.toList = kx := ⟨⟨kx.toArray⟩, rfl, by simp⟩
          have hss : s.size ≤ 9223372036854775807 := by
            have e1 : s.data.toList.length = s.size := by rw [Array.length_toList]; rfl
            rw [hsk] at e1; omega
          have hlk : look (nw ++ (kx, f) :: L.drop (i + 1)) s.data.toList = some f := by rw [hsk]; exact hlk
          obtain ⟨g, cap, hv, _, lg⟩ := hT.row.form (by omega)
          injection hv with hv _ hcv
          subst hv
          subst hcv
          have rn : wr.cell? ⟨g, i, none⟩ = some (.string s) := by
            rw [← hse]
            have h1 := hT.row.cellAt (g := g) i (by omega)
            rw [h1, List.getElem?_map, List.getElem?_eq_getElem hlt, hkf]
            rfl
          have g0 := (hT.below.cell (p := ⟨f, 0, none⟩) lf).trans f0
          have g1 := (hT.below.cell (p := ⟨f, 1, none⟩) lf).trans f1
          obtain ⟨kn, hkn⟩ : ∃ kn : Nat, kn = keepN ks (i + 1) := ⟨_, rfl⟩
          have hlen := hff.short
          have hsaf := hff.safe
          obtain ⟨n, hn⟩ : ∃ n : Nat, n = S.saf f + min kn ((S.dat f).length - S.saf f) := ⟨_, rfl⟩
          have hnl : n ≤ (S.dat f).length := by omega
          have hcap := row_cap hff.row
          have hx : ((S.dat f).take n).length = n := by rw [List.length_take]; omega
          have hbc : ∀ q, Calls Tryd.prog 38 #[.slice (pd0 f) n (cd0 f)] (wr.drewN q) fun e w' => ∃ A' c', e = .returned (.slice A' n c') ∧ w'.ownsRow wr.heap.size 5 1 (.slice A' n c') n (nums .u8 ((S.dat f).take n)) ∧ Below wr.heap.size (wr.drewN q) w' := fun q => by
            have hC1 : Kd.C (Kd.int .u8) (wr.drewN q) (pd0 f) ((S.dat f).take n).length ((S.dat f).take n) := by
              have h1 := Kd.reads_of_C (d := (0 : Int)) (Kd.C_below hff.C (hT.below.trans (pw_below_drewN (Below.refl _ _) q)))
              rw [hx]
              have h2 := h1.take_ n hnl
              exact Kd.C_of_reads h2
            have h3 := bclone_any (pd0 f) (cd0 f) ((S.dat f).take n) (wr.drewN q) hC1 (by omega)
            rw [hx] at h3
            exact h3
          have hK1 : ∀ w1, Below w.heap.size w w1 → w1.cell? ⟨w.heap.size, 0, none⟩ = some (.slice A ks.length c) → Calls Tryd.prog 46 #[.int .i64 (↑i + 1), .pointer (some ⟨w.heap.size, 0, none⟩)] w1 fun e w' => e = .returned (.int .i64 (kn : Nat)) ∧ ∃ n, w' = w1.drewN n := fun w1 hb1 hk1 => by rw [hkn]; exact HK.out w1 hb1 hk1 (↑i + 1) (by omega)
          have hwbr := hT.below
          have hkbr := hT.kb
          have hnlen : (nw ++ (kx, f) :: L.drop (i + 1)).length ≤ 1099511627776 := by
            rw [List.length_append, List.length_cons, List.length_drop, hT.len]; omega
          have HT := Lib.hid hT; have HDT := Lib.hid hdT; have HLK := Lib.hid hlk; have HX := Lib.hid hx; have HFF := Lib.hid hff; have HKN := Lib.hid hkn; have HN := Lib.hid hn; have HKF := Lib.hid hkf; have HDR := Lib.hid hdrop; have HSK := Lib.hid hsk; have HBC := Lib.hid hbc; have HK1 := Lib.hid hK1
          clear hT hdT hlk hx hff hkf hdrop hse hmem hfs hsk hbc hK1 f0 f1 hks
          go_upto_region 12 with (at_lookup; refine wpList_lookup_dir _ rfl _ _ rfl (w.heap.size + 1) _ (nw ++ (kx, f) :: L.drop (i + 1)) rfl HDT.out s rfl hss ?_; rw [HLK.out]; simp only [fileV])
          have hw1 : IntKind.i64.wrap ((i : Int) + 1) = (i : Int) + 1 := IntWalk.i64_in _ ⟨by omega, by omega⟩
          have hw2 : IntKind.i64.wrap (((S.dat f).length : Int) - (S.saf f : Int)) = ((S.dat f).length : Int) - (S.saf f : Int) := IntWalk.i64_in _ ⟨by omega, by omega⟩
          have hw3 : IntKind.i64.wrap ((S.saf f : Int) + min (kn : Int) (((S.dat f).length : Int) - (S.saf f : Int))) = (n : Int) := by
            rw [hn, IntWalk.i64_in _ ⟨by omega, by omega⟩]; omega
          clear hn hkn
          go_quiet ((go_at_call 46; refine (HK1.out _ (by repeat (first | exact hwbr | apply below_drew | apply pw_below_drewN)) (by exact hkbr)).mono ?_; rintro e w4 ⟨rfl, ⟨nd, rfl⟩⟩; (try first | exact ⟨rfl, _, World.drewN_drewN _ _ _⟩ | exact ⟨rfl, _, Eq.trans (World.drewN_drewN _ _ _) (congrArg (World.drewN _) (Nat.add_assoc _ _ _))⟩)))
          clear hw1 hw2 hw3
          have HD2 := Lib.hid hb2
          clear hb2
          go_wp2_with (first
            | (go_at_call 38; refine (HBC.out _).mono ?_; rintro e w3 ⟨A', c', rfl, ho3, hb3⟩; have hsz3 : wr.heap.size ≤ w3.heap.size := hb3.size; have hdT3 := HDT.out.kept (hb3.block _ HDT.out.lt); have hown3 : (w3.alloc (.cells #[.slice A' n c', .int .i64 ↑n] 63)).ownsMap Tryd.prog 9 fileElem (w.heap.size + 1) (nw ++ (kx, f) :: L.drop (i + 1)).length (dmap (nw ++ (kx, f) :: L.drop (i + 1))) := World.ownsMap.alloc hdT3 _)
            | (at_mapUpdate; refine wpList_mapUpdate_in _ rfl _ _ _ 55 rfl 9 61 law9 Tryd.underlying55 fileElem (w.heap.size + 1) _ _ rfl hown3 (by unfold maxLen; omega) _ _ _ rfl rfl (key9 s hss) (.held w3.heap.size) [] rfl ?_; intro w4 hown4 hturn4))
          go_roundw
          case rel =>
            have hg4 := hturn4.grown
            have hT := HT.out
            have hdb : w.heap.size + 1 < wr.heap.size := HDT.out.lt
            have hs4 : (w3.alloc (.cells #[.slice A' n c', .int .i64 ↑n] 63)).heap.size = w3.heap.size + 1 := by simp
            have hk4 : ∀ k, k < w3.heap.size + 1 → k ≠ w.heap.size + 1 → w4.heap[k]? = (w3.alloc (.cells #[.slice A' n c', .int .i64 ↑n] 63)).heap[k]? := fun k hk hkb => hg4.block k (by omega) (fun e => hkb (by injection e))
            have hkr : ∀ k, k < wr.heap.size → k ≠ w.heap.size + 1 → w4.heap[k]? = wr.heap[k]? := fun k hk hkb => ((hk4 k (by omega) hkb).trans (Below.heap_alloc _ _ _ (by omega))).trans (hb3.block k hk)
            obtain ⟨es, ck, hes⟩ := HDT.out.map
            have hblk : w4.heap[w3.heap.size]? = some (.cells #[.slice A' n c', .int .i64 ↑n] 63 (0, 0)) := (hk4 _ (by omega) (by omega)).trans (heap_alloc_new w3 _)
            have hA' : ∀ a, A' = some a → wr.heap.size ≤ a.block ∧ a.block < w3.heap.size := fun a ha => by
              subst ha
              obtain ⟨cur, hcur⟩ := ownsRow_blk ho3
              exact ⟨own_base ho3 _ rfl, lt_of_block hcur⟩
            have hrow4 : w4.ownsRow 0 5 1 (.slice A' n c') n (nums .u8 ((S.dat f).take n)) := own_weaken (own_ext ho3 (fun a ha => (hk4 _ (by have := hA' a ha; omega) (by have := hA' a ha; omega)).trans (Below.heap_alloc _ _ _ (hA' a ha).2))) (Nat.zero_le _)
            have hne : ∀ p ∈ nw, p.2 ≠ w3.heap.size := fun p hp e => by have := (hT.made.files p hp).lt; omega
            have hcg := leftCont_get S ks i (by rw [← HLD.out]; exact hlt)
            simp only [← HLD.out, HKF.out] at hcg
            have hnn : S.leftLen ks i f = n := by rw [HN.out, HKN.out]; rfl
            rw [hnn] at hcg
            refine ⟨i + 1, by omega, by go_num, nw ++ [(kx, w3.heap.size)], upd pd w3.heap.size A', upd cd w3.heap.size c', upd dat w3.heap.size ((S.dat f).take n), ⟨?_, ?_, ?_, ?_, ?_, ?_, ?_, ?_⟩⟩
            · rw [List.length_append, hT.len]; rfl
            · rw [List.map_append, hT.names, List.take_succ_eq_append_getElem hlt, List.map_append, HKF.out]; rfl
            · have h1 := DirAt.of_put hown4
              rw [HSK.out, put_mid HDT.out.sorted] at h1
              have h2 := h1.tight
              rw [List.append_assoc]
              exact h2
            · have h1 := Made.snoc (k := kx) hT.made hes hkr hsz3 (HF.out _ (by omega)) (A' := A') (c' := c') (xs := (S.dat f).take n) (by rw [HX.out]; exact hblk) (by rw [HX.out]; exact hrow4) (fun a ha => (hA' a ha).1) (fun a ha => HF.out _ (by have := hA' a ha; omega)) (fun x hx => HFF.out.bys x (List.mem_of_mem_take hx)) (by rw [HX.out]; omega)
              exact h1
            · rw [cont_upd hne, hT.cont]
              obtain ⟨hcl, hce⟩ := List.getElem?_eq_some_iff.1 hcg
              rw [List.take_succ_eq_append_getElem hcl, hce]
            · exact (((hT.below.trans (pw_below_drewN (Below.refl _ _) _)).trans (hb3.mono (by show w.heap.size ≤ wr.heap.size; omega))).alloc (by omega) _).grown hg4 (by omega) (fun r e => by injection e with e; omega)
            · exact (World.cell?_of_block (a := ⟨w.heap.size, 0, none⟩) (hkr _ (by simp only; omega) (by simp only; omega))).trans hT.kb
            · refine own_ext hT.row (fun a ha => ?_)
              injection ha with ha
              subst ha
              obtain ⟨cur, hcur⟩ := ownsRow_blk hT.row
              exact hkr _ (lt_of_block hcur) (map_ne hcur hes)
          case measure => simp [intOf]; omega
        · obtain rfl : i = L.length := by omega
          go_wp2
          go_ret
          refine ⟨w.heap.size + 1, nw, pd, cd, dat, rfl, by omega, ?_, hT.made, ?_, hT.below⟩
          · have := hT.dir
            rw [List.drop_length, List.append_nil] at this
            exact this
          · rw [hT.cont, List.take_of_length_le (by rw [leftCont_length, ← HLD.out]; exact Nat.le_refl _)]
end Go.Proofs.YtgcpiofpjogjcaaDoor.PK
end
section
/-
  A directory's files, listed (files, Files, Safe): walked.
-/
namespace Go.Proofs.YtgcpiofpjogjcaaDoor.PK
open Go.RowKit Go.Maps Go.Sort Go.Proofs.YtgcpiofpjogjcaaDoorW.PrintWords
set_option linter.unusedVariables false
set_option linter.unusedSimpArgs false
variable {own : Nat → Prop} {w w' : World}

/-- How a file of the list reads: its name, its bytes. -/
def fileK : Kd (ByteArray × List Int) := Kd.pair Kd.string (Kd.slice 5 (Kd.int .u8))
def nameB (k : List UInt8) : ByteArray := ⟨k.toArray⟩
theorem key_nameB (k : List UInt8) : key (nameB k) = k := by simp [key, nameB]
def listed (c : Cont) : List (ByteArray × List Int) := c.map fun p => (nameB p.1, p.2)
theorem infoF : (Tryd.prog.info? 47).map (fun i => (i.zero, i.size, i.bytes)) = some (some (.agg #[.string ⟨#[]⟩, .slice none 0 0]), fileK.sz, 40) := by kernel_rfl
def FilesMade (c : Cont) (w : World) (e : Ending) (w' : World) : Prop := ∃ A n cp, e = .returned (.slice A n cp) ∧ fileK.R 47 w' w.heap.size (fun k => w.heap.size ≤ k) (.slice A n cp) (listed c) ∧ Below w.heap.size w w'

set_option maxRecDepth 100000 in
set_option maxHeartbeats 3200000 in
theorem files_any (b : Nat) (l : Dir) (pd : Nat → Option Addr) (cd : Nat → Nat) (dat : Nat → List Int) (saf : Nat → Nat) (w : World) (h : DirAt w b l.length l) (hl : l.length ≤ 1099511627776) (hf : ∀ p ∈ l, FileIn w own p.2 (pd p.2) (cd p.2) (dat p.2) (saf p.2)) :
    Calls Tryd.prog 42 #[.map (some b)] w (FilesMade (cont dat l) w) := by
  have hnm := names_any b _ l w h hl
  have HH := Lib.hid h; have HFL := Lib.hid hf
  clear h hf
  go_enter Tryd.func42, Tryd.ntmps42
  go_wp2_with (go_at_call 47; refine hnm.mono ?_; rintro e w2 ⟨v, rfl, hrow, hb2⟩; obtain ⟨vA, vc, rfl⟩ := own_slice hrow)
  have HROW := Lib.hid hrow
  have hsz2 := hb2.size
  clear hrow hnm
  go_loopw [3, 5, 9] (fun s3 _ s9 wr => ∃ i : Nat, i ≤ l.length ∧ s9 = .int .i64 i ∧ fileK.R 47 wr w2.heap.size (fun k => w2.heap.size ≤ k) s3 (listed (cont dat (l.take i))) ∧ Below w2.heap.size w2 wr) (fun _ _ s9 _ => l.length - (intOf s9).toNat)
  case atStart => exact ⟨0, Nat.zero_le _, rfl, Kd.R_nil _ _ _ _ _, Below.refl _ _⟩
  case round =>
    obtain ⟨i, hi, rfl, hR, hbr⟩ := hrel
    obtain ⟨oA, oc, rfl⟩ := Kd.R_slice hR
    by_cases hlt : i < l.length
    · obtain ⟨kx, f, hkf⟩ : ∃ kx f, l[i] = (kx, f) := ⟨_, _, rfl⟩
      have hmem : (kx, f) ∈ l := by rw [← hkf]; exact List.getElem_mem hlt
      have hff := HFL.out _ hmem
      simp only at hff
      obtain ⟨f0, f1⟩ := two_cells hff.blk
      have lf := hff.lt
      have hlk := look_of_mem HH.out.sorted hmem
      have hks : kx.length ≤ 9223372036854775807 := HH.out.short (kx, f) hmem
      obtain ⟨s, hss0⟩ : ∃ s, s = nameB kx := ⟨_, rfl⟩
      have hsk : s.data.toList = kx := by rw [hss0]; exact key_nameB kx
      have hse : encStr kx = .string s := by rw [hss0]; rfl
      have hss : s.size ≤ 9223372036854775807 := by
        have e1 : s.data.toList.length = s.size := by rw [Array.length_toList]; rfl
        rw [hsk] at e1; omega
      have hlk : look l s.data.toList = some f := by rw [hsk]; exact hlk
      obtain ⟨g, cap, hv, _, lg⟩ := HROW.out.form (by omega)
      injection hv with hv _ hcv
      subst hv
      subst hcv
      have hbw : Below w.heap.size w wr := hb2.trans (hbr.mono hsz2)
      have rn : wr.cell? ⟨g, i, none⟩ = some (.string s) := by
        rw [← hse]
        have h1 := HROW.out.cellAt (g := g) i (by omega)
        rw [hbr.cell (p := ⟨g, i, none⟩) lg, h1, List.getElem?_map, List.getElem?_eq_getElem hlt, hkf]
        rfl
      have g0 := (hbw.cell (p := ⟨f, 0, none⟩) lf).trans f0
      have hdw := HH.out.kept (hbw.block _ HH.out.lt)
      have hbc := bclone_any (pd f) (cd f) (dat f) wr (Kd.C_below hff.C hbw) hff.short
      have htk : listed (cont dat (l.take (i + 1))) = listed (cont dat (l.take i)) ++ [(s, dat f)] := by
        rw [List.take_succ_eq_append_getElem hlt, hkf, hss0]; simp [listed, cont]
      have hll : (listed (cont dat (l.take i))).length ≤ 1099511627776 := by simp [listed, cont]; omega
      have HT := Lib.hid htk; have HD := Lib.hid hdw; have HLK := Lib.hid hlk; have HR := Lib.hid hR; have HBR := Lib.hid hbr; have HS := Lib.hid hss0
      clear htk hdw hlk hR hbr hkf hff hmem hsk hse hks hss0 f0 f1
      go_wp2_with (first
        | (at_lookup; refine wpList_lookup_dir _ rfl _ _ rfl b _ l rfl HD.out s rfl hss ?_; rw [HLK.out]; simp only [fileV])
        | (go_at_call 38; refine hbc.mono ?_; rintro e w3 ⟨A', c', rfl, ho3, hb3⟩; have hp3 : fileK.M w3 w2.heap.size (fun k => wr.heap.size ≤ k) (s, dat f) [.string s, .slice A' (dat f).length c'] := ⟨[.string s], [.slice A' (dat f).length c'], rfl, rfl, _, rfl, Kd.R_of_own (h1 := fun _ => rfl) (own_weaken ho3 HBR.out.size) (fun k hk => own_base ho3 k hk)⟩; have hR3 := Lib.hid (Kd.R_below HR.out hb3); have hb23 : Below w2.heap.size w2 w3 := HBR.out.trans (hb3.mono HBR.out.size); have hokp : ∀ k, wr.heap.size ≤ k → w2.heap.size ≤ k ∧ some k ≠ (Value.slice oA (listed (cont dat (l.take i))).length oc).ownBlock := fun k hk => ⟨Nat.le_trans HBR.out.size hk, fun e => (by obtain ⟨inn, ho⟩ := Kd.R_own HR.out; have := own_lt ho k e.symm; omega)⟩; have hkp := Lib.hid hokp; clear hokp; have hP3 := Lib.hid hp3; clear hp3; have hsz3 := hb23.size)
        | (at_builtin; refine Kd.R_append fileK (w0 := w2) (W := w3) w2.heap.size rfl _ _ 52 47 _ 40 rfl Tryd.underlying52 infoF rfl (by decide) (by omega) (.slice oA _ oc) (listed (cont dat (l.take i))) (s, dat f) [.string s, .slice A' (dat f).length c'] (fun k => w2.heap.size ≤ k) (fun k => wr.heap.size ≤ k) rfl rfl hP3.out hkp.out (fun k hk => Nat.le_trans hsz3 hk) hR3.out hb23 hsz3 (by omega) ?_; intro v1 w4 hR4 hb4 hg4 hat4))
      refine ⟨⟨i + 1, by omega, by go_num, ?_, hb4⟩, by simp [intOf]; omega⟩
      rw [HT.out]; exact hR4
    · obtain rfl : i = l.length := by omega
      simp only [List.take_length] at hR ⊢
      go_wp2
      go_ret
      exact ⟨_, _, _, rfl, Kd.R_mono (Kd.R_lower hR hsz2) (fun k hk => Nat.le_trans hsz2 hk), hb2.trans (hbr.mono hsz2)⟩

set_option maxRecDepth 100000 in
set_option maxHeartbeats 1600000 in
theorem filesOf_any (d : Nat) (S : Dk) (w : World) (h : DiskAt w own d S) :
    Calls Tryd.prog 23 #[.pointer (some ⟨d, 0, none⟩)] w (FilesMade (PK.cont S.dat S.now) w) := by
  obtain ⟨bn, bs, pc, cc, pp, cp, pd, cd, h⟩ := h
  obtain ⟨c0, c1, c2, c3, c4, c5, c6⟩ := seven_cells h.blk
  have hn1 := h.now1
  have hc := files_any (own := own) bn S.now pd cd S.dat S.saf w h.now (by omega) (fun p hp => h.files p.2 (h.ref _ (.inl ⟨p.1, hp⟩)))
  clear h
  go_enter Tryd.func23, Tryd.ntmps23
  go_wp2_with (go_at_call 42; refine hc.mono ?_; rintro e w1 ⟨A, n, cp', rfl, hR, hb⟩)
  go_ret
  exact ⟨A, n, cp', rfl, hR, hb⟩
end Go.Proofs.YtgcpiofpjogjcaaDoor.PK
end
section
/-
  Append, walked, where its fate leaves it whole.
-/
namespace Go.Proofs.YtgcpiofpjogjcaaDoor.PK
open Go.RowKit Go.Maps Go.Proofs.YtgcpiofpjogjcaaDoorW.PrintWords
set_option linter.unusedVariables false
set_option linter.unusedSimpArgs false
variable {own : Nat → Prop} {w w' : World}

set_option maxRecDepth 100000 in
set_option maxHeartbeats 1600000 in
theorem append_any (d : Nat) (S : Dk) (s : ByteArray) (A : Option Addr) (c : Nat) (bs : List Int) (w : World) (h : DiskAt w own d S) (hfr : Fresh own w) (hs : s.size ≤ 9223372036854775807) (hC : Kd.C (Kd.int .u8) w A bs.length bs) (hby : ∀ x ∈ bs, 0 ≤ x ∧ x < 256) (hA : ∀ a, A = some a → a.block ≠ d) (hk2 : S.fate.kind ≠ 2) (hst : S.steps ≤ 4611686018427387904) (hpl : S.plan.length ≤ 4611686018427387904) :
    Calls Tryd.prog 8 #[.pointer (some ⟨d, 0, none⟩), .string s, .slice A bs.length c] w fun e w' => ∃ x S', e = .returned (.int .i64 x) ∧ S.stepSaid (S.stepped.appE s bs.length) (fun T => T = S.stepped.appended s bs) (fun n T => T = S.stepped.parted s bs n) x S' ∧ DiskAt w' own d S' ∧ Turn own w w' := by
  obtain ⟨wb, hwb⟩ : ∃ wb, wb = ((w.alloc (.cells #[.pointer (some ⟨d, 0, none⟩)] 26)).alloc (.cells #[.string s] 9)).alloc (.cells #[.slice A bs.length c] 22) := ⟨_, rfl⟩
  have hwbs : wb.heap.size = w.heap.size + 3 := by rw [hwb]; simp
  have hbb : Below w.heap.size w wb := by rw [hwb]; exact (((Below.refl _ _).alloc (Nat.le_refl _) _).alloc (by simp) _).alloc (by simp; omega) _
  have x0 : wb.cell? ⟨w.heap.size, 0, none⟩ = some (.pointer (some ⟨d, 0, none⟩)) := by rw [hwb]; exact cell_old (cell_old (cell_new _ _ _ _ (rfl)))
  have x1 : wb.cell? ⟨w.heap.size + 1, 0, none⟩ = some (.string s) := by rw [hwb]; exact cell_old (cell_new _ _ _ _ (by simp))
  have x2 : wb.cell? ⟨w.heap.size + 2, 0, none⟩ = some (.slice A bs.length c) := by rw [hwb]; exact cell_new _ _ _ _ (by simp)
  have ld := h.flag.2.2
  have hcall := step_any d 30 32 #[.pointer (some ⟨w.heap.size, 0, none⟩), .pointer (some ⟨w.heap.size + 1, 0, none⟩), .pointer (some ⟨w.heap.size + 2, 0, none⟩)] #[.pointer (some ⟨w.heap.size, 0, none⟩), .pointer (some ⟨w.heap.size + 1, 0, none⟩), .pointer (some ⟨w.heap.size + 2, 0, none⟩)] S (S.stepped.appE s bs.length) (fun T => T = S.stepped.appended s bs) (fun n T => T = S.stepped.parted s bs n) wb (h.below hbb) (hfr.step (by omega)) hst hpl
    (fun w1 h1 f1 k1 => (append1_any _ _ _ d S.stepped s A c bs w1 h1 f1 hs (C_move (Kd.C_below hC hbb) (fun a ha hl => k1 _ hl (hA a ha))) hby ((World.cell?_of_block (w := wb) (a := ⟨w.heap.size, 0, none⟩) (k1 _ (by simp only; omega) (by simp only; omega))).trans x0) ((World.cell?_of_block (w := wb) (a := ⟨w.heap.size + 1, 0, none⟩) (k1 _ (by simp only; omega) (by simp only; omega))).trans x1) ((World.cell?_of_block (w := wb) (a := ⟨w.heap.size + 2, 0, none⟩) (k1 _ (by simp only; omega) (by simp only; omega))).trans x2)).mono fun e w2 ⟨he, h2, t2⟩ => ⟨he, _, rfl, h2, t2⟩)
    (fun hk => absurd hk hk2)
    (enters_of Tryd.func30 (by kernel_rfl) rfl) (enters_of Tryd.func32 (by kernel_rfl) rfl)
  have tb : Turn own w wb := Turn.of_below hbb
  have X1 := Lib.hid x1
  have X2 := Lib.hid x2
  clear hbb x1 x2
  go_enter Tryd.func8, Tryd.ntmps8
  go_upto_region 1 with fail
  simp only [← hwb]
  have HWB := Lib.hid hwb
  clear hwb
  go_wp2_with (first
    | (go_at_call 25; refine hcall.mono ?_; rintro e w2 ⟨x, T, rfl, hT, h2, t2⟩))
  go_ret
  exact ⟨x, T, rfl, hT, h2, tb.trans t2⟩

end Go.Proofs.YtgcpiofpjogjcaaDoor.PK
end
section
/-
  The power comes back (On); bytes are read (Read): walked.
-/
namespace Go.Proofs.YtgcpiofpjogjcaaDoor.PK
open Go.RowKit Go.Maps Go.Sort Go.Proofs.YtgcpiofpjogjcaaDoorW.PrintWords
set_option linter.unusedVariables false
set_option linter.unusedSimpArgs false
variable {own : Nat → Prop} {w w' : World}

/-- The disk behind On, whatever files there are. -/
def Dk.wake (S : Dk) (l : Dir) (dat : Nat → List Int) : Dk := { S with now := l, safe := l, chg := [], off := false, fs := fun f => ∃ k, (k, f) ∈ l, dat := dat, saf := fun f => (dat f).length }
theorem Dk.wake_woke (S : Dk) (l : Dir) (dat : Nat → List Int) (c : Cont) (h : PK.cont dat l = c) : S.woke (S.wake l dat) c := ⟨rfl, rfl, rfl, rfl, rfl, rfl, h, fun _ _ => rfl⟩
theorem cont_length {dat : Nat → List Int} {l : Dir} {c : Cont} (h : cont dat l = c) : l.length = c.length := by rw [← h]; simp [cont]

def Woken (own : Nat → Prop) (d : Nat) (S : Dk) (c : Cont) (w : World) (e : Ending) (w' : World) : Prop := e = .returned (.tuple #[]) ∧ (∃ S', S.woke S' c ∧ DiskAt w' own d S') ∧ Turn own w w'
set_option maxRecDepth 100000 in
set_option maxHeartbeats 3200000 in
theorem on_any (d : Nat) (S : Dk) (A : Option Addr) (c : Nat) (ks : List Int) (w : World) (h : DiskAt w own d S) (hfr : Fresh own w) (hC : Kd.C (Kd.int .i64) w A ks.length ks) (hcc : ks.length ≤ c) (hbig : S.chg.length ≤ 1099511627776) (hsafe : S.safe.length ≤ 400) (hlen : (S.leftDir ks).length ≤ 400) :
    Calls Tryd.prog 12 #[.pointer (some ⟨d, 0, none⟩), .slice A ks.length c] w (Woken own d S (S.leftCont ks) w) := by
  have hle := left_any d S A c ks w h hfr hC hcc hbig hsafe hlen
  obtain ⟨bn, bs, pc, cc, pp, cp, pd0, cd0, h⟩ := h
  obtain ⟨c0, c1, c2, c3, c4, c5, c6⟩ := seven_cells h.blk
  have ld := lt_of_block h.blk
  have z1 := all_free h.blk 1
  have HH := Lib.hid h; have HF := Lib.hid hfr
  clear h hfr hC
  go_enter Tryd.func12, Tryd.ntmps12
  go_wp2_with fail
  go_at_call 36
  refine hle.mono ?_
  rintro e w1 ⟨b, l, pd, cd, dat, rfl, hbw, hdir, hmade, hcont, hb1⟩
  have d1 := (hb1.cell (p := ⟨d, 1, none⟩) ld).trans c1
  have y1 := (hb1.frozen (p := ⟨d, 1, none⟩) ld).trans z1
  have hd1 := (hb1.block d ld).trans HH.out.blk
  obtain ⟨wc, hwc⟩ : ∃ wc, wc = w1.setCell ⟨d, 1, none⟩ (.map (some b)) := ⟨_, rfl⟩
  have hdc : wc.heap[d]? = some (.cells #[.int .i64 S.room, .map (some b), .map (some bs), .slice pc S.chg.length cc, .slice pp S.plan.length cp, .int .i64 S.steps, .bool S.off] 58 (0, 0)) := by rw [hwc]; exact block_setCell hd1
  have hco : ∀ k, k ≠ d → wc.heap[k]? = w1.heap[k]? := fun k hk => by rw [hwc]; exact Below.heap_setCell _ _ _ _ hk
  have hcs : wc.heap.size = w1.heap.size := by rw [hwc]; simp [World.setCell]
  have hdl := hdir.lt
  have hcl := clone_any b l.length l wc (hdir.kept (hco b (by omega)))
  obtain ⟨q0, q1, q2, q3, q4, q5, q6⟩ := seven_cells hdc
  have zz := fun i => all_free hdc i
  have z2 := zz 2; have z3 := zz 3; have z6 := zz 6
  have HD := Lib.hid hdir; have HM := Lib.hid hmade; have HCN := Lib.hid hcont; have HCO := Lib.hid hco; have HDC := Lib.hid hdc; have HB1 := Lib.hid hb1
  have hsz := hb1.size
  clear hdir hmade hcont hco hdc hb1 hle zz hd1
  go_upto_region 1 with fail
  simp only [← hwc]
  have HWC := Lib.hid hwc
  clear hwc
  go_wp2_with (go_at_call 35; refine hcl.mono ?_; rintro e w2 ⟨rfl, hs2, hb2⟩; have e2 := (hb2.cell (p := ⟨d, 2, none⟩) (by simp only; omega)).trans q2; have e3 := (hb2.cell (p := ⟨d, 3, none⟩) (by simp only; omega)).trans q3; have e6 := (hb2.cell (p := ⟨d, 6, none⟩) (by simp only; omega)).trans q6; have x2 := (hb2.frozen (p := ⟨d, 2, none⟩) (by simp only; omega)).trans z2; have x3 := (hb2.frozen (p := ⟨d, 3, none⟩) (by simp only; omega)).trans z3; have x6 := (hb2.frozen (p := ⟨d, 6, none⟩) (by simp only; omega)).trans z6)
  go_end0
  have hd2 := (hb2.block d (by omega)).trans HDC.out
  have hfin : ∀ (u2 u3 u6 : Value), (((w2.setCell ⟨d, 2, none⟩ u2).setCell ⟨d, 3, none⟩ u3).setCell ⟨d, 6, none⟩ u6).heap[d]? = some (.cells #[.int .i64 S.room, .map (some b), u2, u3, .slice pp S.plan.length cp, .int .i64 S.steps, u6] 58 (0, 0)) := fun u2 u3 u6 => block_setCell (block_setCell (block_setCell hd2))
  have hoth : ∀ (u2 u3 u6 : Value) (k : Nat), k ≠ d → (((w2.setCell ⟨d, 2, none⟩ u2).setCell ⟨d, 3, none⟩ u3).setCell ⟨d, 6, none⟩ u6).heap[k]? = w2.heap[k]? := fun u2 u3 u6 k hk => ((Below.heap_setCell _ _ _ _ hk).trans (Below.heap_setCell _ _ _ _ hk)).trans (Below.heap_setCell _ _ _ _ hk)
  have hkw : ∀ (u2 u3 u6 : Value) (k : Nat), k ≠ d → k < w1.heap.size → (((w2.setCell ⟨d, 2, none⟩ u2).setCell ⟨d, 3, none⟩ u3).setCell ⟨d, 6, none⟩ u6).heap[k]? = w1.heap[k]? := fun u2 u3 u6 k hk hlt => ((hoth u2 u3 u6 k hk).trans (hb2.block k (by omega))).trans (HCO.out k hk)
  have h := HH.out
  have hpp : ∀ a, pp = some a → a.block < w.heap.size ∧ a.block ≠ d := fun a ha => by
    have h1 := h.plan
    rw [ha] at h1
    obtain ⟨cur, hcur⟩ := ownsRow_blk h1
    exact ⟨lt_of_block hcur, ty_ne hcur h.blk (by decide)⟩
  rw [hcs] at hs2
  refine ⟨rfl, ⟨S.wake l dat, S.wake_woke l dat _ HCN.out, b, w1.heap.size, none, 0, pp, cp, pd, cd, {
    blk := hfin _ _ _
    now := HD.out.kept (hkw _ _ _ b (by omega) HD.out.lt)
    safe := hs2.kept (hoth _ _ _ _ (by omega))
    ne := by omega
    chg := ⟨rfl, .inl ⟨rfl, rfl⟩⟩
    plan := own_ext h.plan (fun a ha => (hkw _ _ _ _ (hpp a ha).2 (by have := (hpp a ha).1; omega)).trans (HB1.out.block _ (hpp a ha).1))
    ref := fun f hf => by
      rcases hf with ⟨k, hk⟩ | ⟨k, hk⟩ | ⟨c, hc, _⟩
      · exact ⟨k, hk⟩
      · exact ⟨k, hk⟩
      · cases hc
    files := fun f ⟨k, hk⟩ => by
      have hf := HM.out.files _ hk
      have hd1 := (HB1.out.block d ld).trans h.blk
      exact hf.kept (hkw _ _ _ _ (ty_ne hf.blk hd1 (by decide)) hf.lt) (fun a ha => by
        have h1 := hf.row
        rw [ha] at h1
        obtain ⟨cur, hcur⟩ := ownsRow_blk h1
        exact hkw _ _ _ _ (ty_ne hcur hd1 (by decide)) (lt_of_block hcur))
    apart := fun f g ⟨k, hk⟩ ⟨k', hk'⟩ hne a b ha hb => HM.out.apart _ hk _ hk' hne a b ha hb
    od := h.od
    on := HF.out _ hbw
    os := HF.out _ (by omega)
    oc := fun a ha => by cases ha
    op := h.op
    room0 := h.room0
    room1 := h.room1
    steps0 := h.steps0
    now1 := by
      have h1 := cont_length HCN.out
      rw [leftCont_length] at h1
      show l.length ≤ 400
      omega
    chgs := fun c hc => by cases hc
    fates := h.fates }⟩, ?_⟩
  exact ((((Turn.of_below HB1.out).trans (by rw [HWC.out]; exact Turn.setCell _ _ h.od)).trans (Turn.of_below hb2)).trans (Turn.setCell _ _ h.od)).trans ((Turn.setCell _ _ h.od).trans (Turn.setCell _ _ h.od))
end Go.Proofs.YtgcpiofpjogjcaaDoor.PK
end
section
/-
  Bytes are read (Read, from a file's beginning on): walked.
-/
namespace Go.Proofs.YtgcpiofpjogjcaaDoor.PK
open Go.RowKit Go.Maps Go.Sort Go.Proofs.YtgcpiofpjogjcaaDoorW.PrintWords
set_option linter.unusedVariables false
set_option linter.unusedSimpArgs false
variable {own : Nat → Prop} {w w' : World}

theorem row_cap' {e s n c : Nat} {p : Option Addr} {xs : List Value} (h : w.ownsRow 0 e s (.slice p n c) n xs) : n ≤ c := by
  rcases h.2 with ⟨h1, h2⟩ | ⟨g, cap, cur, hv, _, _, hnc, _⟩
  · injection h1 with _ _ h3; omega
  · injection hv with _ _ h3; omega
def ReadMade (xs : List Int) (w : World) (e : Ending) (w' : World) : Prop := ∃ A c, e = .returned (.tuple #[.slice A xs.length c, .int .i64 0]) ∧ w'.ownsRow w.heap.size 5 1 (.slice A xs.length c) xs.length (nums .u8 xs) ∧ Below w.heap.size w w'
set_option maxRecDepth 100000 in
set_option maxHeartbeats 1600000 in
theorem read_any (d : Nat) (S : Dk) (s : ByteArray) (f n : Nat) (w : World) (h : DiskAt w own d S) (hs : s.size ≤ 9223372036854775807) (hoff : S.off = false) (hf : look S.now (key s) = some f) (hn : n ≤ (S.dat f).length) :
    Calls Tryd.prog 14 #[.pointer (some ⟨d, 0, none⟩), .string s, .int .i64 0, .int .i64 n] w (ReadMade ((S.dat f).take n) w) := by
  have hlk := look_any d S s w h hs
  have e1 : S.find s = some f := by unfold Dk.find; rw [hoff, hf]; rfl
  have e2 : S.findErr s = 0 := by unfold Dk.findErr; rw [hoff, hf]; simp
  rw [e1, e2] at hlk
  simp only [fileV] at hlk
  obtain ⟨bn, bs, pc, cc, pp, cp, pd, cd, h⟩ := h
  have hff := h.files f (h.ref f (live_now hf))
  obtain ⟨f0, f1⟩ := two_cells hff.blk
  have hcap := row_cap' hff.row
  have hlen := hff.short
  have hx : ((S.dat f).take n).length = n := by rw [List.length_take]; omega
  have hC1 : Kd.C (Kd.int .u8) w (pd f) ((S.dat f).take n).length ((S.dat f).take n) := by
    have h1 := Kd.reads_of_C (d := (0 : Int)) hff.C
    rw [hx]
    exact Kd.C_of_reads (h1.take_ n hn)
  have hbc := bclone_any (pd f) (cd f) ((S.dat f).take n) w hC1 (by omega)
  rw [hx] at hbc
  have HH := Lib.hid h; have HFF := Lib.hid hff; have HX := Lib.hid hx
  clear h hff hx hC1 hoff hf e1 e2
  unfold ReadMade
  rw [HX.out]
  go_enter Tryd.func14, Tryd.ntmps14
  go_wp2_with (first
    | (go_at_call 37; refine hlk.mono ?_; rintro e w1 ⟨rfl, rfl⟩)
    | (go_at_call 38; refine hbc.mono ?_; rintro e w2 ⟨A', c', rfl, ho, hb⟩))
  go_ret2
  exact ⟨A', c', rfl, ho, hb⟩
end Go.Proofs.YtgcpiofpjogjcaaDoor.PK
end
section
/-
  A disk without a plan: its steps' plain answers; a disk of one file; what is found behind a loss of power.
-/
namespace Go.Proofs.YtgcpiofpjogjcaaDoor.PK
open Go.RowKit Go.Maps Go.Sort Go.Proofs.YtgcpiofpjogjcaaDoorW.PrintWords
set_option linter.unusedVariables false
set_option linter.unusedSimpArgs false
variable {own : Nat → Prop} {w w' : World}

theorem fate_none {S : Dk} (h : S.plan = []) : S.fate = ⟨0, 0, 0⟩ := by unfold Dk.fate; rw [h]; rfl
theorem said_plain {S : Dk} (h : S.plan = []) (ho : S.off = false) {doE : Int} {doS : Dk → Prop} {paS : Int → Dk → Prop} {x : Int} {S' : Dk} (hs : S.stepSaid doE doS paS x S') : x = doE ∧ doS S' := by
  unfold Dk.stepSaid at hs
  rw [fate_none h, ho] at hs
  simpa using hs

/-- A disk that nothing fails: at rest. -/
structure Dk.calm (S : Dk) : Prop where
  plan : S.plan = []
  off : S.off = false
theorem create_plain (d : Nat) (S : Dk) (s : ByteArray) (w : World) (h : DiskAt w own d S) (hfr : Fresh own w) (hc : S.calm) (hs : s.size ≤ 9223372036854775807) (hst : S.steps ≤ 4611686018427387904) (hbig : S.chg.length ≤ 1099511627776) :
    Calls Tryd.prog 7 #[.pointer (some ⟨d, 0, none⟩), .string s] w fun e w' => e = .returned (.int .i64 (S.refuse s)) ∧ (∃ S', S.stepped.created s S' ∧ DiskAt w' own d S') ∧ Turn own w w' :=
  (create_any d S s w h hfr hs hst (by rw [hc.plan]; simp) hbig).mono fun e w' ⟨x, S', he, hx, hd, ht⟩ => by
    obtain ⟨h1, h2⟩ := said_plain hc.plan hc.off hx
    exact ⟨by rw [he, h1]; rfl, ⟨S', h2, hd⟩, ht⟩
theorem append_plain (d : Nat) (S : Dk) (s : ByteArray) (A : Option Addr) (c : Nat) (bs : List Int) (w : World) (h : DiskAt w own d S) (hfr : Fresh own w) (hc : S.calm) (hs : s.size ≤ 9223372036854775807) (hC : Kd.C (Kd.int .u8) w A bs.length bs) (hby : ∀ x ∈ bs, 0 ≤ x ∧ x < 256) (hA : ∀ a, A = some a → a.block ≠ d) (hst : S.steps ≤ 4611686018427387904) :
    Calls Tryd.prog 8 #[.pointer (some ⟨d, 0, none⟩), .string s, .slice A bs.length c] w fun e w' => e = .returned (.int .i64 (S.stepped.appE s bs.length)) ∧ DiskAt w' own d (S.stepped.appended s bs) ∧ Turn own w w' :=
  (append_any d S s A c bs w h hfr hs hC hby hA (by rw [fate_none hc.plan]; decide) hst (by rw [hc.plan]; simp)).mono fun e w' ⟨x, S', he, hx, hd, ht⟩ => by
    obtain ⟨h1, h2⟩ := said_plain hc.plan hc.off hx
    subst h1; subst h2
    exact ⟨he, hd, ht⟩
theorem sync_plain (d : Nat) (S : Dk) (s : ByteArray) (w : World) (h : DiskAt w own d S) (hfr : Fresh own w) (hc : S.calm) (hs : s.size ≤ 9223372036854775807) (hst : S.steps ≤ 4611686018427387904) :
    Calls Tryd.prog 10 #[.pointer (some ⟨d, 0, none⟩), .string s] w fun e w' => e = .returned (.int .i64 (S.stepped.has s)) ∧ DiskAt w' own d (S.stepped.synced s) ∧ Turn own w w' :=
  (sync_any d S s w h hfr hs hst (by rw [hc.plan]; simp)).mono fun e w' ⟨x, S', he, hx, hd, ht⟩ => by
    obtain ⟨h1, h2⟩ := said_plain hc.plan hc.off hx
    subst h1; subst h2
    exact ⟨he, hd, ht⟩
theorem syncDir_plain (d : Nat) (S : Dk) (w : World) (h : DiskAt w own d S) (hfr : Fresh own w) (hc : S.calm) (hst : S.steps ≤ 4611686018427387904) :
    Calls Tryd.prog 11 #[.pointer (some ⟨d, 0, none⟩)] w fun e w' => e = .returned (.int .i64 0) ∧ DiskAt w' own d S.stepped.syncDir ∧ Turn own w w' :=
  (syncDir_any d S w h hfr hst (by rw [hc.plan]; simp)).mono fun e w' ⟨x, S', he, hx, hd, ht⟩ => by
    obtain ⟨h1, h2⟩ := said_plain hc.plan hc.off hx
    subst h1; subst h2
    exact ⟨he, hd, ht⟩
theorem rename_plain (d : Nat) (S : Dk) (a b : ByteArray) (w : World) (h : DiskAt w own d S) (hfr : Fresh own w) (hc : S.calm) (ha : a.size ≤ 9223372036854775807) (hb : b.size ≤ 9223372036854775807) (hne : look S.now (key a) ≠ none → a ≠ ⟨#[]⟩) (hbig : S.chg.length ≤ 1099511627776) (hst : S.steps ≤ 4611686018427387904) :
    Calls Tryd.prog 21 #[.pointer (some ⟨d, 0, none⟩), .string a, .string b] w fun e w' => e = .returned (.int .i64 (S.stepped.renE a b)) ∧ DiskAt w' own d (S.stepped.renamed a b) ∧ Turn own w w' :=
  (rename_any d S a b w h hfr ha hb hne hbig hst (by rw [hc.plan]; simp)).mono fun e w' ⟨x, S', he, hx, hd, ht⟩ => by
    obtain ⟨h1, h2⟩ := said_plain hc.plan hc.off hx
    subst h1; subst h2
    exact ⟨he, hd, ht⟩

/-! ### A disk of one file -/
structure One (S : Dk) (room steps : Int) (k : List UInt8) (f : Nat) (xs : List Int) (s : Nat) (safe : Dir) (chg : List Chg) : Prop where
  calm : S.calm
  room : S.room = room
  steps : S.steps = steps
  now : S.now = [(k, f)]
  safe : S.safe = safe
  chg : S.chg = chg
  dat : S.dat f = xs
  saf : S.saf f = s
section
variable {S : Dk} {room steps : Int} {k : List UInt8} {f s : Nat} {xs : List Int} {safe : Dir} {chg : List Chg}
theorem One.look (h : One S room steps k f xs s safe chg) : look S.now k = some f := by rw [h.now]; simp [PK.look]
theorem One.used (h : One S room steps k f xs s safe chg) : used S.dat S.now = xs.length := by rw [h.now]; simp [PK.used, h.dat]
theorem One.created {S : Dk} (hc : S.calm) (hn : S.now = []) {b : ByteArray} (hb : b ≠ ⟨#[]⟩) {S' : Dk} (hr : S.refuse b = 0) (h : S.stepped.created b S') : ∃ f, One S' S.room (S.steps + 1) (key b) f [] 0 S.safe (S.chg ++ [⟨⟨#[]⟩, b, some f⟩]) := by
  unfold Dk.created at h
  rw [if_pos (show S.stepped.refuse b = 0 from hr)] at h
  obtain ⟨f, hf, rfl⟩ := h
  refine ⟨f, ⟨⟨hc.plan, hc.off⟩, rfl, rfl, ?_, rfl, rfl, upd_same _ _ _, upd_same _ _ _⟩⟩
  simp [Dk.alter, applyC, Dk.addFile, Dk.stepped, hn, hb, put, del, ins]
theorem One.appended (h : One S room steps k f xs s safe chg) {b : ByteArray} (hk : key b = k) {bs : List Int} (hr : (xs.length : Int) + bs.length ≤ room) : S.stepped.appE b bs.length = 0 ∧ One (S.stepped.appended b bs) room (steps + 1) k f (xs ++ bs) s safe chg := by
  have hl : PK.look S.stepped.now (key b) = some f := by rw [hk]; exact h.look
  have hu : PK.used S.stepped.dat S.stepped.now = xs.length := h.used
  have hm : S.stepped.room = room := h.room
  have hn : ¬ (S.stepped.room - (PK.used S.stepped.dat S.stepped.now : Nat) < bs.length) := by rw [hu, hm]; omega
  unfold Dk.appE Dk.appended
  rw [hl]
  simp only
  rw [if_neg hn, if_neg hn]
  refine ⟨by simp, ⟨⟨h.calm.plan, h.calm.off⟩, h.room, by rw [← h.steps]; rfl, h.now, h.safe, h.chg, ?_, ?_⟩⟩
  · show upd S.stepped.dat f _ f = _
    rw [upd_same]; congr 1; exact h.dat
  · show upd S.stepped.saf f _ f = _
    rw [upd_same]; exact h.saf
theorem One.synced (h : One S room steps k f xs s safe chg) {b : ByteArray} (hk : key b = k) : S.stepped.has b = 0 ∧ One (S.stepped.synced b) room (steps + 1) k f xs xs.length safe chg := by
  have hl : PK.look S.stepped.now (key b) = some f := by rw [hk]; exact h.look
  unfold Dk.has Dk.synced
  rw [hl]
  refine ⟨by simp, ⟨⟨h.calm.plan, h.calm.off⟩, h.room, by rw [← h.steps]; rfl, h.now, h.safe, h.chg, ?_, ?_⟩⟩
  · show upd S.stepped.dat f _ f = _
    rw [upd_same]; exact h.dat
  · show upd S.stepped.saf f _ f = _
    rw [upd_same]; congr 1; exact h.dat
theorem One.syncDir (h : One S room steps k f xs s safe chg) : One S.stepped.syncDir room (steps + 1) k f xs s [(k, f)] [] :=
  ⟨⟨h.calm.plan, h.calm.off⟩, h.room, by rw [← h.steps]; rfl, h.now, h.now, rfl, h.dat, h.saf⟩
end

theorem woke_one {S S' : Dk} {ks : List Int} (h : S.woke S' (S.leftCont ks)) (hp : S.plan = []) {k : List UInt8} {f : Nat} (hl : S.leftDir ks = [(k, f)]) :
    ∃ g, One S' S.room S.steps k g ((S.dat f).take (S.leftLen ks 0 f)) ((S.dat f).take (S.leftLen ks 0 f)).length S'.now [] := by
  have h1 := h.cont
  unfold Dk.leftCont at h1
  rw [hl] at h1
  simp only [List.mapIdx_cons, List.mapIdx_nil] at h1
  unfold cont at h1
  rcases hn : S'.now with _ | ⟨⟨k', g⟩, r⟩
  · rw [hn] at h1; cases h1
  · rw [hn] at h1
    rcases r with _ | ⟨y, r⟩
    · simp only [List.map_cons, List.map_nil, List.cons.injEq, Prod.mk.injEq, and_true] at h1
      obtain ⟨rfl, h2⟩ := h1
      refine ⟨g, ⟨⟨h.plan.trans hp, h.off⟩, h.room, h.steps, hn, h.safe.trans hn, h.chg, h2, ?_⟩⟩
      rw [h.saf (k', g) (by rw [hn]; simp), h2]
    · simp at h1
theorem DiskAt.sorted {d : Nat} {S : Dk} (h : DiskAt w own d S) : Srt S.now := by
  obtain ⟨bn, bs, pc, cc, pp, cp, pd, cd, h⟩ := h
  exact h.now.sorted
end Go.Proofs.YtgcpiofpjogjcaaDoor.PK
end
section
/-
  A disk of one file, and of two: its calls.
-/
namespace Go.Proofs.YtgcpiofpjogjcaaDoor.PK
open Go.RowKit Go.Maps Go.Sort Go.Proofs.YtgcpiofpjogjcaaDoorW.PrintWords
set_option linter.unusedVariables false
set_option linter.unusedSimpArgs false
variable {own : Nat → Prop} {w w' : World}

/-- A call that answers x, and leaves a disk of which P is known. -/
def Leaves (own : Nat → Prop) (d : Nat) (w : World) (x : Ending) (P : Dk → Prop) (e : Ending) (w' : World) : Prop := e = x ∧ (∃ S, P S ∧ DiskAt w' own d S) ∧ Turn own w w'
abbrev okE : Ending := .returned (.int .i64 0)
theorem DiskAt.fs {d : Nat} {S : Dk} (h : DiskAt w own d S) {k : List UInt8} {f : Nat} (hl : look S.now k = some f) : S.fs f := by
  obtain ⟨bn, bs, pc, cc, pp, cp, pd, cd, h⟩ := h
  exact h.ref f (live_now hl)
section
variable {S : Dk} {d : Nat} {room steps : Int} {k : List UInt8} {f s : Nat} {xs : List Int} {safe : Dir} {chg : List Chg}
theorem append_one (h : DiskAt w own d S) (hfr : Fresh own w) (hO : One S room steps k f xs s safe chg) {b : ByteArray} (hk : key b = k) (hb : b.size ≤ 40) {A : Option Addr} {c : Nat} {bs : List Int} (hC : Kd.C (Kd.int .u8) w A bs.length bs) (hby : ∀ x ∈ bs, 0 ≤ x ∧ x < 256) (hA : ∀ a, A = some a → a.block ≠ d) (hst : steps ≤ 4611686018427387904) (hr : (xs.length : Int) + bs.length ≤ room) :
    Calls Tryd.prog 8 #[.pointer (some ⟨d, 0, none⟩), .string b, .slice A bs.length c] w (Leaves own d w okE fun S' => One S' room (steps + 1) k f (xs ++ bs) s safe chg) :=
  (append_plain d S b A c bs w h hfr hO.calm (by omega) hC hby hA (by rw [hO.steps]; exact hst)).mono fun e w' ⟨he, hd, ht⟩ => by
    obtain ⟨h1, h2⟩ := hO.appended hk hr
    exact ⟨by rw [he, h1], ⟨_, h2, hd⟩, ht⟩
theorem sync_one (h : DiskAt w own d S) (hfr : Fresh own w) (hO : One S room steps k f xs s safe chg) {b : ByteArray} (hk : key b = k) (hb : b.size ≤ 40) (hst : steps ≤ 4611686018427387904) :
    Calls Tryd.prog 10 #[.pointer (some ⟨d, 0, none⟩), .string b] w (Leaves own d w okE fun S' => One S' room (steps + 1) k f xs xs.length safe chg) :=
  (sync_plain d S b w h hfr hO.calm (by omega) (by rw [hO.steps]; exact hst)).mono fun e w' ⟨he, hd, ht⟩ => by
    obtain ⟨h1, h2⟩ := hO.synced hk
    exact ⟨by rw [he, h1], ⟨_, h2, hd⟩, ht⟩
theorem syncDir_one (h : DiskAt w own d S) (hfr : Fresh own w) (hO : One S room steps k f xs s safe chg) (hst : steps ≤ 4611686018427387904) :
    Calls Tryd.prog 11 #[.pointer (some ⟨d, 0, none⟩)] w (Leaves own d w okE fun S' => One S' room (steps + 1) k f xs s [(k, f)] []) :=
  (syncDir_plain d S w h hfr hO.calm (by rw [hO.steps]; exact hst)).mono fun e w' ⟨he, hd, ht⟩ => ⟨he, ⟨_, hO.syncDir, hd⟩, ht⟩
theorem on_one (h : DiskAt w own d S) (hfr : Fresh own w) (hcalm : S.plan = []) {A : Option Addr} {c : Nat} {ks : List Int} (hC : Kd.C (Kd.int .i64) w A ks.length ks) (hcc : ks.length ≤ c) (hbig : S.chg.length ≤ 1099511627776) (hsafe : S.safe.length ≤ 400) (hl : S.leftDir ks = [(k, f)]) :
    Calls Tryd.prog 12 #[.pointer (some ⟨d, 0, none⟩), .slice A ks.length c] w (Leaves own d w (.returned (.tuple #[])) fun S' => ∃ g, One S' S.room S.steps k g ((S.dat f).take (S.leftLen ks 0 f)) ((S.dat f).take (S.leftLen ks 0 f)).length S'.now []) :=
  (on_any d S A c ks w h hfr hC hcc hbig hsafe (by rw [hl]; simp)).mono fun e w' ⟨he, ⟨S', hw, hd⟩, ht⟩ => ⟨he, ⟨S', woke_one hw hcalm hl, hd⟩, ht⟩
theorem read_one (h : DiskAt w own d S) (hO : One S room steps k f xs s safe chg) {b : ByteArray} (hk : key b = k) (hb : b.size ≤ 40) {n : Nat} (hn : n ≤ xs.length) :
    Calls Tryd.prog 14 #[.pointer (some ⟨d, 0, none⟩), .string b, .int .i64 0, .int .i64 n] w (ReadMade (xs.take n) w) := by
  have h1 := read_any d S b f n w h (by omega) hO.calm.off (by rw [hk]; exact hO.look) (by rw [hO.dat]; exact hn)
  rw [hO.dat] at h1
  exact h1
end

/-- The example's second half: files a and b. -/
structure Duo (S : Dk) (steps : Int) (g h : Nat) (xs : List Int) (s : Nat) : Prop where
  calm : S.calm
  room : S.room = 10
  steps : S.steps = steps
  now : S.now = [([97], g), ([98], h)]
  safe : S.safe = [([97], g)]
  chg : S.chg = [⟨⟨#[]⟩, ⟨#[98]⟩, some h⟩]
  dat : S.dat h = xs
  saf : S.saf h = s
  other : (S.dat g).length = 4
section
variable {S : Dk} {d : Nat} {steps : Int} {g h s : Nat} {xs : List Int}
theorem Duo.look (hO : Duo S steps g h xs s) : look S.now [98] = some h := by rw [hO.now]; rfl
theorem create_duo (hD : DiskAt w own d S) (hfr : Fresh own w) (hO : One S 10 5 [97] g [120, 121, 122, 117] 4 [([97], g)] []) :
    Calls Tryd.prog 7 #[.pointer (some ⟨d, 0, none⟩), .string ⟨#[98]⟩] w (Leaves own d w okE fun S' => ∃ h, Duo S' 6 g h [] 0) :=
  (create_plain d S ⟨#[98]⟩ w hD hfr hO.calm (by decide) (by rw [hO.steps]; decide) (by rw [hO.chg]; decide)).mono fun e w' ⟨he, ⟨S', hc, hd⟩, ht⟩ => by
    have hr : S.refuse ⟨#[98]⟩ = 0 := by
      unfold Dk.refuse
      rw [if_neg (by decide +kernel), if_neg (by rw [hO.now, show look [([97], g)] (key ⟨#[98]⟩) = none from rfl]; simp), if_neg (by rw [hO.now]; simp)]
    have hg := hD.fs hO.look
    unfold Dk.created at hc
    rw [if_pos (show S.stepped.refuse ⟨#[98]⟩ = 0 from hr)] at hc
    obtain ⟨h, hf, rfl⟩ := hc
    have hne : g ≠ h := fun e => hf (e ▸ hg)
    refine ⟨by rw [he, hr], ⟨(S.stepped.addFile h).alter ⟨⟨#[]⟩, ⟨#[98]⟩, some h⟩, ⟨h, ⟨⟨hO.calm.plan, hO.calm.off⟩, hO.room, ?_, ?_, hO.safe, ?_, upd_same _ _ _, upd_same _ _ _, ?_⟩⟩, hd⟩, ht⟩
    · show S.steps + 1 = 6; rw [hO.steps]; rfl
    · show applyC S.now ⟨⟨#[]⟩, ⟨#[98]⟩, some h⟩ = _; rw [hO.now]; kernel_rfl
    · show S.chg ++ _ = _; rw [hO.chg]; rfl
    · show (upd S.dat h [] g).length = 4
      rw [upd_other _ _ hne, hO.dat]; rfl
theorem Duo.append (hO : Duo S steps g h xs s) (hgh : g ≠ h) {bs : List Int} (hr : 4 + xs.length + bs.length ≤ 10) : S.stepped.appE ⟨#[98]⟩ bs.length = 0 ∧ Duo (S.stepped.appended ⟨#[98]⟩ bs) (steps + 1) g h (xs ++ bs) s := by
  have hl : PK.look S.stepped.now (key ⟨#[98]⟩) = some h := hO.look
  have hu : PK.used S.stepped.dat S.stepped.now = 4 + xs.length := by
    show PK.used S.dat S.now = _
    rw [hO.now]; simp [PK.used, hO.dat, hO.other]
  have hm : S.stepped.room = 10 := hO.room
  have hn : ¬ (S.stepped.room - (PK.used S.stepped.dat S.stepped.now : Nat) < bs.length) := by rw [hu, hm]; omega
  unfold Dk.appE Dk.appended
  rw [hl]
  simp only
  rw [if_neg hn, if_neg hn]
  refine ⟨by simp, ⟨⟨hO.calm.plan, hO.calm.off⟩, hO.room, by rw [← hO.steps]; rfl, hO.now, hO.safe, hO.chg, ?_, ?_, ?_⟩⟩
  · show upd S.stepped.dat h _ h = _
    rw [upd_same]; congr 1; exact hO.dat
  · show upd S.stepped.saf h _ h = _
    rw [upd_same]; exact hO.saf
  · show (upd S.stepped.dat h _ g).length = 4
    rw [upd_other _ _ hgh]; exact hO.other
theorem Duo.ne (hO : Duo S steps g h xs s) (hl : xs.length ≠ 4) : g ≠ h := by
  rintro rfl
  have := hO.other
  rw [hO.dat] at this
  exact hl this
theorem append_duo (hD : DiskAt w own d S) (hfr : Fresh own w) (hO : Duo S 6 g h [] 0) {A : Option Addr} {c : Nat} (hC : Kd.C (Kd.int .u8) w A 1 [119]) (hA : ∀ a, A = some a → a.block ≠ d) :
    Calls Tryd.prog 8 #[.pointer (some ⟨d, 0, none⟩), .string ⟨#[98]⟩, .slice A 1 c] w (Leaves own d w okE fun S' => Duo S' 7 g h [119] 0) :=
  (append_plain d S ⟨#[98]⟩ A c [119] w hD hfr hO.calm (by decide) hC (by decide) hA (by rw [hO.steps]; decide)).mono fun e w' ⟨he, hd, ht⟩ => by
    obtain ⟨h1, h2⟩ := hO.append (hO.ne (by decide)) (bs := [119]) (by decide)
    exact ⟨by rw [he, h1], ⟨_, h2, hd⟩, ht⟩
theorem sync_duo (hD : DiskAt w own d S) (hfr : Fresh own w) (hO : Duo S 7 g h [119] 0) :
    Calls Tryd.prog 10 #[.pointer (some ⟨d, 0, none⟩), .string ⟨#[98]⟩] w (Leaves own d w okE fun S' => Duo S' 8 g h [119] 1) :=
  (sync_plain d S ⟨#[98]⟩ w hD hfr hO.calm (by decide) (by rw [hO.steps]; decide)).mono fun e w' ⟨he, hd, ht⟩ => by
    have hl : PK.look S.stepped.now (key ⟨#[98]⟩) = some h := hO.look
    have hgh := hO.ne (by decide)
    unfold Dk.has at he
    unfold Dk.synced at hd
    rw [hl] at he hd
    refine ⟨by rw [he]; rfl, ⟨_, ?_, hd⟩, ht⟩
    refine ⟨⟨hO.calm.plan, hO.calm.off⟩, hO.room, by show S.steps + 1 = 8; rw [hO.steps]; rfl, hO.now, hO.safe, hO.chg, ?_, ?_, ?_⟩
    · show upd S.stepped.dat h _ h = _
      rw [upd_same]; exact hO.dat
    · show upd S.stepped.saf h _ h = _
      rw [upd_same]; exact congrArg List.length hO.dat
    · show (upd S.stepped.dat h _ g).length = 4
      rw [upd_other _ _ hgh]; exact hO.other
/-- Behind the renaming: what a loss of power finds. -/
structure Last (S : Dk) (h : Nat) : Prop where
  plan : S.plan = []
  room : S.room = 10
  steps : S.steps = 9
  chg : S.chg.length = 2
  safe : S.safe.length = 1
  left : S.leftDir [2] = [([97], h)]
  dat : S.dat h = [119]
  saf : S.saf h = 1
theorem rename_duo (hD : DiskAt w own d S) (hfr : Fresh own w) (hO : Duo S 8 g h [119] 1) :
    Calls Tryd.prog 21 #[.pointer (some ⟨d, 0, none⟩), .string ⟨#[98]⟩, .string ⟨#[97]⟩] w (Leaves own d w okE fun S' => Last S' h) :=
  (rename_plain d S ⟨#[98]⟩ ⟨#[97]⟩ w hD hfr hO.calm (by decide) (by decide) (fun _ => by decide) (by rw [hO.chg]; simp) (by rw [hO.steps]; decide)).mono fun e w' ⟨he, hd, ht⟩ => by
    have hl : PK.look S.stepped.now (key ⟨#[98]⟩) = some h := hO.look
    unfold Dk.renE at he
    unfold Dk.renamed at hd
    rw [hl] at he hd
    have hb : bad ⟨#[97]⟩ = false := by decide +kernel
    simp only [hb] at he hd
    rw [if_neg (by decide), if_neg (by decide)] at hd
    refine ⟨by rw [he]; rfl, ⟨_, ?_, hd⟩, ht⟩
    refine ⟨hO.calm.plan, hO.room, by show S.steps + 1 = 9; rw [hO.steps]; rfl, ?_, ?_, ?_, hO.dat, hO.saf⟩
    · show (S.chg ++ _).length = 2
      rw [hO.chg]; rfl
    · show S.safe.length = 1
      rw [hO.safe]; rfl
    · show (List.take (keepN [2] 0) (S.chg ++ [⟨⟨#[98]⟩, ⟨#[97]⟩, some h⟩])).foldl applyC S.safe = _
      rw [hO.chg, hO.safe]
      kernel_rfl
end
end Go.Proofs.YtgcpiofpjogjcaaDoor.PK
end
section
/-
  A disk with files (Load), walked.
-/
namespace Go.Proofs.YtgcpiofpjogjcaaDoor.PK
open Go.RowKit Go.Maps Go.Sort Go.Proofs.YtgcpiofpjogjcaaDoorW.PrintWords
set_option linter.unusedVariables false
set_option linter.unusedSimpArgs false
variable {own : Nat → Prop} {w w' : World}

/-! ### What Load answers, on names with bytes -/
def insC (x : List UInt8 × List Int) : Cont → Cont
  | [] => [x]
  | y :: r => if bytesBefore x.1 y.1 then x :: y :: r else y :: insC x r
def hasC (c : Cont) (k : List UInt8) : Bool := c.any fun p => p.1 == k
def refuseC (c : Cont) (s : ByteArray) : Int := if bad s then 145 else if hasC c (key s) then 144 else if 400 ≤ c.length then 142 else 0
/-- The error's number, and what there is where it is 0. -/
def ldC : Cont → List (ByteArray × List Int) → Int × Cont
  | c, [] => (0, c)
  | c, p :: r => if refuseC c p.1 = 0 then ldC (insC (key p.1, p.2) c) r else (refuseC c p.1, [])

theorem hasC_cont (dat : Nat → List Int) (l : Dir) (k : List UInt8) : hasC (cont dat l) k = (look l k).isSome := by
  unfold hasC cont look
  induction l with
  | nil => rfl
  | cons y r ih =>
    rw [List.map_cons, List.any_cons, ih]
    by_cases h : y.1 = k
    · rw [List.find?_cons_of_pos (by simp [h])]; simp [h]
    · rw [List.find?_cons_of_neg (by simp [h])]; simp [h]
theorem insC_cont {dat : Nat → List Int} {f : Nat} {xs : List Int} {k : List UInt8} : ∀ {l : Dir}, (∀ p ∈ l, p.2 ≠ f) → insC (k, xs) (cont dat l) = cont (upd dat f xs) (ins (k, f) l)
  | [], _ => by simp [insC, cont, ins, upd_same]
  | y :: r, h => by
    have hy := h y (List.mem_cons_self ..)
    have ih := insC_cont (dat := dat) (xs := xs) (k := k) (l := r) (fun p hp => h p (List.mem_cons_of_mem _ hp))
    have hr : cont dat r = cont (upd dat f xs) r := List.map_congr_left (fun p hp => by rw [upd_other _ _ (h p (List.mem_cons_of_mem _ hp))])
    unfold ins
    rw [show cont dat (y :: r) = (y.1, dat y.2) :: cont dat r from rfl, insC]
    by_cases hb : bytesBefore k y.1 = true
    · rw [if_pos hb, if_pos hb, show cont (upd dat f xs) ((k, f) :: y :: r) = (k, upd dat f xs f) :: (y.1, upd dat f xs y.2) :: cont (upd dat f xs) r from rfl, upd_same, upd_other _ _ hy, hr]
    · rw [if_neg hb, if_neg hb, ih, show cont (upd dat f xs) (y :: ins (k, f) r) = (y.1, upd dat f xs y.2) :: cont (upd dat f xs) (ins (k, f) r) from rfl, upd_other _ _ hy]
theorem refuse_cont {S : Dk} {c : Cont} (h : cont S.dat S.now = c) (s : ByteArray) : S.refuse s = refuseC c s := by
  have hl : S.now.length = c.length := by rw [← h]; simp [cont]
  unfold Dk.refuse refuseC
  rw [← h, hasC_cont, h, hl]
  cases look S.now (key s) <;> simp

/-- A disk while its files are loaded. -/
structure Lod (S : Dk) (room : Int) (c : Cont) : Prop where
  calm : S.calm
  room : S.room = room
  steps : S.steps = 0
  safe : S.safe = []
  chg : S.chg = []
  cont : cont S.dat S.now = c
  saf : ∀ p ∈ S.now, S.saf p.2 = (S.dat p.2).length
  good : ∀ p ∈ S.now, ∃ s, bad s = false ∧ key s = p.1
  inj : ∀ p ∈ S.now, ∀ q ∈ S.now, p.2 = q.2 → p = q
/-- .. and when they are. -/
structure Loaded (S : Dk) (room : Int) (c : Cont) : Prop where
  calm : S.calm
  room : S.room = room
  steps : S.steps = 0
  safe : S.safe = S.now
  chg : S.chg = []
  cont : PK.cont S.dat S.now = c
  saf : ∀ p ∈ S.now, S.saf p.2 = (S.dat p.2).length
  good : ∀ p ∈ S.now, ∃ s, bad s = false ∧ key s = p.1
  inj : ∀ p ∈ S.now, ∀ q ∈ S.now, p.2 = q.2 → p = q

/-- A new file with bytes, named. -/
def Dk.put (S : Dk) (s : ByteArray) (f : Nat) (xs : List Int) : Dk := { S with now := PK.put S.now (key s) f, fs := fun g => S.fs g ∨ g = f, dat := upd S.dat f xs, saf := upd S.saf f xs.length }
theorem Lod.put {S : Dk} {room : Int} {c : Cont} (h : Lod S room c) {s : ByteArray} {f : Nat} {xs : List Int} (hr : refuseC c s = 0) (hf : ∀ p ∈ S.now, p.2 ≠ f) : Lod (S.put s f xs) room (insC (key s, xs) c) ∧ (S.put s f xs).now.length ≤ 400 := by
  rw [← refuse_cont h.cont] at hr
  have hb : bad s = false ∧ look S.now (key s) = none ∧ S.now.length < 400 := by
    unfold Dk.refuse at hr
    cases hb : bad s
    · rw [hb, if_neg (by simp)] at hr
      by_cases h1 : look S.now (key s) = none
      · rw [if_neg (by simp [h1])] at hr
        by_cases h2 : 400 ≤ S.now.length
        · rw [if_pos h2] at hr; omega
        · exact ⟨rfl, h1, by omega⟩
      · rw [if_pos h1] at hr; omega
    · rw [hb, if_pos rfl] at hr; omega
  have hmem : ∀ p, p ∈ PK.put S.now (key s) f → p = (key s, f) ∨ p ∈ S.now := fun p hp => by
    rcases mem_put.1 hp with h | h
    · exact .inl h
    · exact .inr h.1
  refine ⟨⟨⟨h.calm.plan, h.calm.off⟩, h.room, h.steps, h.safe, h.chg, ?_, ?_, ?_, ?_⟩, ?_⟩
  · show PK.cont (upd S.dat f xs) (PK.put S.now (key s) f) = _
    unfold PK.put
    rw [del_same hb.2.1, ← insC_cont hf, h.cont]
  · intro p hp
    show upd S.saf f xs.length p.2 = (upd S.dat f xs p.2).length
    rcases hmem p hp with rfl | hp
    · rw [upd_same, upd_same]
    · rw [upd_other _ _ (hf p hp), upd_other _ _ (hf p hp)]; exact h.saf p hp
  · intro p hp
    rcases hmem p hp with rfl | hp
    · exact ⟨s, hb.1, rfl⟩
    · exact h.good p hp
  · intro p hp q hq e
    rcases hmem p hp with rfl | hp
    · rcases hmem q hq with rfl | hq
      · rfl
      · exact absurd e.symm (hf q hq)
    · rcases hmem q hq with rfl | hq
      · exact absurd e (hf p hp)
      · exact h.inj p hp q hq e
  · have := length_put S.now (key s) f
    show (PK.put S.now (key s) f).length ≤ 400
    omega

theorem DiskIn.putFile {d bn bs cc cp : Nat} {pc pp : Option Addr} {pd : Nat → Option Addr} {cd : Nat → Nat} {S : Dk} (h : DiskIn w own d bn bs pc cc pp cp pd cd S) (hk : ∀ k, k < w.heap.size → k ≠ bn → w'.heap[k]? = w.heap[k]?) {g c' : Nat} (hg : w.heap.size ≤ g) (hog : own g) {s : ByteArray} {A' : Option Addr} {xs : List Int}
    (hnow : DirAt w' bn (PK.put S.now (key s) g).length (PK.put S.now (key s) g)) (hblk : w'.heap[g]? = some (.cells #[.slice A' xs.length c', .int .i64 xs.length] 63 (0, 0))) (hrow : w'.ownsRow 0 5 1 (.slice A' xs.length c') xs.length (nums .u8 xs))
    (hA : ∀ a, A' = some a → w.heap.size ≤ a.block) (hown : ∀ a, A' = some a → own a.block) (hb : ∀ x ∈ xs, 0 ≤ x ∧ x < 256) (hl : xs.length ≤ 140737488355328) (hlen : (PK.put S.now (key s) g).length ≤ 400) : DiskAt w' own d (S.put s g xs) := by
  obtain ⟨en, cn, hen⟩ := h.now.map
  obtain ⟨es, cs, hes⟩ := h.safe.map
  have hcells : ∀ k cur t m, w.heap[k]? = some (Obj.cells cur t m) → w'.heap[k]? = w.heap[k]? := fun k cur t m hk1 => hk k (lt_of_block hk1) (map_ne hk1 hen)
  have hfn : ∀ f, S.fs f → f ≠ g := fun f hf e => by have := (h.files f hf).lt; omega
  have hpl : ∀ f, S.fs f → ∀ a, pd f = some a → a.block < w.heap.size := fun f hf a ha => ((h.files f hf).pblock ha).1
  have hrowk : ∀ {e sz n c : Nat} {p : Option Addr} {l : List Value}, w.ownsRow 0 e sz (.slice p n c) n l → w'.ownsRow 0 e sz (.slice p n c) n l := fun hr => own_ext hr (fun a ha => by
    subst ha
    obtain ⟨cur, hcur⟩ := ownsRow_blk hr
    exact hcells _ _ _ _ hcur)
  refine ⟨bn, bs, pc, cc, pp, cp, upd pd g A', upd cd g c', { h with
    blk := (hcells _ _ _ _ h.blk).trans h.blk
    now := hnow
    safe := h.safe.kept (hk bs h.safe.lt (fun e => h.ne e.symm))
    chg := hrowk h.chg
    plan := hrowk h.plan
    ref := fun f hf => by
      rcases hf with ⟨k, hk⟩ | hf | hf
      · rcases mem_put.1 hk with hk | ⟨hk, _⟩
        · injection hk with _ hk; exact .inr hk
        · exact .inl (h.ref f (.inl ⟨k, hk⟩))
      · exact .inl (h.ref f (.inr (.inl hf)))
      · exact .inl (h.ref f (.inr (.inr hf)))
    files := fun f hf => by
      by_cases e : f = g
      · subst e
        simp only [Dk.put, upd_same]
        exact ⟨hog, hblk, hrow, hown, Nat.le_refl _, hb, hl⟩
      · have hf' : S.fs f := by
          rcases hf with hf | hf
          · exact hf
          · exact absurd hf e
        have hff := h.files f hf'
        simp only [Dk.put, upd_other _ _ e]
        exact hff.kept (hcells _ _ _ _ hff.blk) (fun a ha => by
          have h1 := hff.row
          rw [ha] at h1
          obtain ⟨cur, hcur⟩ := ownsRow_blk h1
          exact hcells _ _ _ _ hcur)
    apart := fun f1 f2 h1 h2 hne a b ha hb' => by
      have gs : ∀ f, (S.put s g xs).fs f → f ≠ g → S.fs f := fun f hf e => by
        rcases hf with hf | hf
        · exact hf
        · exact absurd hf e
      by_cases e1 : f1 = g
      · subst e1
        rw [upd_same] at ha
        have e2 : f2 ≠ f1 := fun e => hne e.symm
        rw [upd_other _ _ e2] at hb'
        have h3 := hA a ha
        have h4 := hpl f2 (gs f2 h2 e2) b hb'
        omega
      · rw [upd_other _ _ e1] at ha
        by_cases e2 : f2 = g
        · subst e2
          rw [upd_same] at hb'
          have h3 := hA b hb'
          have h4 := hpl f1 (gs f1 h1 e1) a ha
          omega
        · rw [upd_other _ _ e2] at hb'
          exact h.apart f1 f2 (gs f1 h1 e1) (gs f2 h2 e2) hne a b ha hb'
    now1 := hlen }⟩
theorem DiskIn.setSafe0 {d bn bs cc cp bs' : Nat} {pc pp : Option Addr} {pd : Nat → Option Addr} {cd : Nat → Nat} {S : Dk} (h : DiskIn w own d bn bs pc cc pp cp pd cd S) (hbs : w.heap.size ≤ bs') (ho : own bs')
    (hblk : w'.heap[d]? = some (.cells #[.int .i64 S.room, .map (some bn), .map (some bs'), .slice pc S.chg.length cc, .slice pp S.plan.length cp, .int .i64 S.steps, .bool S.off] 58 (0, 0)))
    (hsafe : DirAt w' bs' S.now.length S.now) (hk : ∀ k, k < w.heap.size → k ≠ d → w'.heap[k]? = w.heap[k]?) :
    DiskIn w' own d bn bs' pc cc pp cp pd cd { S with safe := S.now } := by
  obtain ⟨en, cn, hen⟩ := h.now.map
  have hcells : ∀ k cur t m, w.heap[k]? = some (Obj.cells cur t m) → t ≠ 58 → w'.heap[k]? = w.heap[k]? := fun k cur t m hk1 ht1 =>
    hk k (lt_of_block hk1) (ty_ne hk1 h.blk ht1)
  have hlt := h.now.lt
  have hrowc : ∀ {sz n c : Nat} {e : TypeId} {p : Option Addr} {l : List Value}, e ≠ 58 → w.ownsRow 0 e sz (.slice p n c) n l → w'.ownsRow 0 e sz (.slice p n c) n l := fun he hr => own_ext hr (fun a ha => by
    subst ha
    obtain ⟨cur, hcur⟩ := ownsRow_blk hr
    exact hcells _ _ _ _ hcur he)
  exact { h with
    blk := hblk
    now := h.now.kept (hk bn h.now.lt (fun e => map_ne h.blk hen e.symm))
    safe := hsafe
    ne := by omega
    chg := hrowc (by decide) h.chg
    plan := hrowc (by decide) h.plan
    ref := fun f hf => by
      rcases hf with hf | hf | hf
      · exact h.ref f (.inl hf)
      · exact h.ref f (.inl hf)
      · exact h.ref f (.inr (.inr hf))
    files := fun f hf => (h.files f hf).kept (hcells _ _ _ _ (h.files f hf).blk (by decide)) (fun a ha => by
      have h1 := (h.files f hf).row
      rw [ha] at h1
      obtain ⟨cur, hcur⟩ := ownsRow_blk h1
      exact hcells _ _ _ _ hcur (by decide))
    os := ho }
theorem addr_add {b o j : Nat} : (⟨b, o, none⟩ : Addr).add j = ⟨b, o + j, none⟩ := by unfold Addr.add; split <;> simp_all
theorem addr_spot {w : World} {b o : Nat} {sp : Option Nat} {v : Value} (h : w.cell? ((⟨b, o, sp⟩ : Addr).add 0) = some v) : sp = none := by
  have e : (⟨b, o, sp⟩ : Addr).add 0 = ⟨b, o, sp⟩ := by simp [Addr.add]
  rw [e] at h
  unfold World.cell? at h
  cases sp with
  | none => rfl
  | some n =>
    exfalso
    cases hh : w.heap[b]? with
    | none => simp [hh] at h
    | some o => cases o <;> simp [hh] at h
theorem row_spot {α : Type} {d : Kd α} {w : World} {b o n : Nat} {sp : Option Nat} {l : List α} (h : d.C w (some ⟨b, o, sp⟩) n l) (hn : 0 < n) (hs : 0 < d.sz) : sp = none := by
  obtain ⟨ad, he, hc⟩ := h.2.2 hn
  injection he with he
  subst he
  have hl : 0 < l.length := by have := h.1; omega
  obtain ⟨c, hsz, _, hcell⟩ := hc 0 _ (List.getElem?_eq_getElem hl)
  have h0 : 0 < c.length := by omega
  have h1 := hcell 0 _ (List.getElem?_eq_getElem h0)
  rw [Nat.zero_mul] at h1
  exact addr_spot h1
theorem row_spot' {α : Type} {d : Kd α} {w : World} {ad : Addr} {n : Nat} {l : List α} (h : d.C w (some ad) n l) (hn : 0 < n) (hs : 0 < d.sz) : ad.spot = none := by
  obtain ⟨b, o, sp⟩ := ad
  exact row_spot h hn hs
def LoadMade (room : Int) (fs : List (ByteArray × List Int)) (w : World) (e : Ending) (w' : World) : Prop :=
  ((ldC [] fs).1 ≠ 0 ∧ e = .returned (.tuple #[.pointer none, .int .i64 (ldC [] fs).1]) ∧ Below w.heap.size w w') ∨
  ((ldC [] fs).1 = 0 ∧ ∃ d S, e = .returned (.tuple #[.pointer (some ⟨d, 0, none⟩), .int .i64 0]) ∧ Loaded S (min (max room 0) 16777216) (ldC [] fs).2 ∧ DiskAt w' (fun k => w.heap.size ≤ k) d S ∧ Below w.heap.size w w')
def LodAt (room : Int) (w : World) (d : Nat) (c : Cont) (wr : World) : Prop := ∃ S, Lod S room c ∧ DiskAt wr (fun k => w.heap.size ≤ k) d S ∧ Below w.heap.size w wr

set_option maxRecDepth 100000 in
set_option maxHeartbeats 6400000 in
theorem load_any (room : Int) (A : Option Addr) (cp : Nat) (fs : List (ByteArray × List Int)) (w : World) (hC : fileK.C w A fs.length fs) (hs : ∀ p ∈ fs, p.1.size ≤ 9223372036854775807 ∧ p.2.length ≤ 140737488355328 ∧ (∀ x ∈ p.2, 0 ≤ x ∧ x < 256)) :
    Calls Tryd.prog 19 #[.int .i64 room, .slice A fs.length cp] w (LoadMade room fs w) := by
  have hl := hC.2.1
  have hnew := new_any (own := fun k => w.heap.size ≤ k) room w (fun k hk => hk)
  have Z := Lib.hid hC; have Y := Lib.hid hs
  clear hC hs
  go_enter Tryd.func19, Tryd.ntmps19
  go_wp2_with (go_at_call 6; refine hnew.mono ?_; rintro e w1 ⟨d, hd, rfl, hD1, hb1⟩)
  have HD1 := Lib.hid hD1; have HB1 := Lib.hid hb1
  clear hD1 hb1 hnew
  go_loopw [8, 9, 14] (fun _ _ s14 wr => ∃ i : Nat, i ≤ fs.length ∧ s14 = .int .i64 i ∧ ∃ c, ldC [] fs = ldC c (fs.drop i) ∧ LodAt (min (max room 0) 16777216) w d c wr) (fun _ _ s14 _ => fs.length - (intOf s14).toNat)
  case atStart => exact ⟨0, Nat.zero_le _, rfl, [], rfl, Dk.new room, ⟨⟨rfl, rfl⟩, rfl, rfl, rfl, rfl, rfl, fun p hp => (by cases hp), fun p hp => (by cases hp), fun p hp => (by cases hp)⟩, HD1.out, HB1.out⟩
  case round =>
    obtain ⟨i, hi, rfl, c, hld, S, hL, hD, hb⟩ := hrel
    have HLD := Lib.hid hld; have HL := Lib.hid hL; have HD := Lib.hid hD; have HB := Lib.hid hb
    clear hld hL hD hb
    by_cases hlt : i < fs.length
    · have hCr := Kd.C_below Z.out HB.out
      obtain ⟨ad, rfl, hcells⟩ := hCr.2.2 (by omega)
      have hsp := row_spot' hCr (by omega) (by decide)
      clear hCr
      obtain ⟨cs, hcs, hK, hcell⟩ := hcells i _ (List.getElem?_eq_getElem hlt)
      obtain ⟨s, xs, hsx⟩ : ∃ s xs, fs[i] = (s, xs) := ⟨_, _, rfl⟩
      rw [hsx] at hK
      obtain ⟨_, _, rfl, rfl, A2, c2, rfl, hc2, hR2⟩ := hK
      obtain ⟨b, off, sp⟩ := ad
      simp only at hsp
      subst hsp
      have r0 : wr.cell? ⟨b, off + i * 2, none⟩ = some (.string s) := by
        have h := hcell 0 _ rfl
        rw [addr_add] at h
        exact h
      have r1 : wr.cell? ⟨b, off + i * 2 + 1, none⟩ = some (.slice A2 xs.length c2) := by
        have h := hcell 1 _ rfl
        rw [addr_add] at h
        exact h
      have hdr : fs.drop i = (s, xs) :: fs.drop (i + 1) := by rw [List.drop_eq_getElem_cons hlt, hsx]
      have hy := Y.out _ (List.getElem_mem hlt)
      rw [hsx] at hy
      obtain ⟨hss, hxl, hxb⟩ := hy
      obtain ⟨wa, hwa⟩ : ∃ wa, wa = wr.alloc (.cells #[.string s, .slice A2 xs.length c2] 47) := ⟨_, rfl⟩
      have hba : Below wr.heap.size wr wa := by rw [hwa]; exact (Below.refl _ _).alloc (Nat.le_refl _) _
      have hDa := HD.out.below hba
      have hre := refuse_any d S s wa hDa hss
      rw [refuse_cont HL.out.cont] at hre
      have g0 : wa.cell? ⟨wr.heap.size, 0, none⟩ = some (.string s) := by rw [hwa]; simp [World.cell?_alloc_at]
      have g1 : wa.cell? ⟨wr.heap.size, 1, none⟩ = some (.slice A2 xs.length c2) := by rw [hwa]; simp [World.cell?_alloc_at]
      have hC2 : Kd.C (Kd.int .u8) wa A2 xs.length xs := Kd.C_below hR2 hba
      have lfa : wr.heap.size < wa.heap.size := by rw [hwa]; simp
      have HBA := Lib.hid hba; have HDA := Lib.hid hDa; have HDR := Lib.hid hdr; have HC2 := Lib.hid hC2
      clear hba hDa hdr hC2 hR2 hcell hsx hcells hcs
      go_upto_region 5 with fail
      simp only [← hwa]
      have HWA := Lib.hid hwa
      clear hwa
      by_cases h0 : refuseC c s = 0
      · have hne : (refuseC c s != 0) = false := by simpa using h0
        rw [h0] at hre
        have H0 := Lib.hid h0
        clear h0 hne
        obtain ⟨bn, bs, pc, cc, pp, cp', pd, cd, hin⟩ := HDA.out
        obtain ⟨c0, c1, c2', c3, c4, c5, c6⟩ := seven_cells hin.blk
        have ld := lt_of_block hin.blk
        have hn1 := hin.now1
        have HI := Lib.hid hin
        clear hin c0 c2' c3 c4 c5 c6
        go_upto_region 8 with (go_at_call 27; refine hre.mono ?_; rintro e w2 ⟨rfl, hb2⟩; have d1 := (hb2.cell (p := ⟨d, 1, none⟩) ld).trans c1; have f0 := (hb2.cell (p := ⟨wr.heap.size, 0, none⟩) lfa).trans g0; have f1 := (hb2.cell (p := ⟨wr.heap.size, 1, none⟩) lfa).trans g1)
        have hsz2 := hb2.size
        have hbc := bclone_any A2 c2 xs w2.drew (Kd.C_below HC2.out (hb2.trans ((Below.refl _ _).drew))) hxl
        have hnow2 : DirAt w2.drew bn S.now.length S.now := HI.out.now.kept (hb2.block _ HI.out.now.lt)
        have HNW := Lib.hid hnow2; have HB2 := Lib.hid hb2
        have lbn := hnow2.lt
        have ldn : d ≠ bn := map_ne HI.out.blk HI.out.now.map.choose_spec.choose_spec
        have lbf : wr.heap.size ≠ bn := map_ne (show wa.heap[wr.heap.size]? = _ from (by rw [HWA.out]; exact heap_alloc_new wr _)) HI.out.now.map.choose_spec.choose_spec
        clear hnow2 hb2
        go_region_held3 (fun w' => w'.cell? ⟨d, 1, none⟩ = some (.map (some bn)) ∧ w'.cell? ⟨wr.heap.size, 0, none⟩ = some (.string s) ∧ w'.cell? ⟨wr.heap.size, 1, none⟩ = some (.slice A2 xs.length c2))
          (go_keep)
          (first | (go_at_call 38; refine hbc.mono ?_; rintro e w3 ⟨A', c', rfl, ho3, hb3⟩; have d3 := (hb3.cell (p := ⟨d, 1, none⟩) (by simp only [World.drew]; omega)).trans d1; have f03 := (hb3.cell (p := ⟨wr.heap.size, 0, none⟩) (by simp only [World.drew]; omega)).trans f0; have f13 := (hb3.cell (p := ⟨wr.heap.size, 1, none⟩) (by simp only [World.drew]; omega)).trans f1; have hs3 : w2.heap.size ≤ w3.heap.size := hb3.size; have hown3 : (w3.alloc (.cells #[.slice A' xs.length c', .int .i64 ↑xs.length] 63)).ownsMap Tryd.prog 9 fileElem bn S.now.length (dmap S.now) := World.ownsMap.alloc (HNW.out.kept (hb3.block _ lbn)) _; obtain ⟨w4, hrun, hown4, hturn4⟩ := World.ownsMap.store hown3 law9 Tryd.underlying55 (by unfold maxLen; omega) (key9 s hss) (val := .pointer (some ⟨w3.heap.size, 0, none⟩)) (d := .held w3.heap.size) (ps := []) rfl; have hg4 := hturn4.grown; have hq4 : ∀ (a : Addr) (v : Value), a.block < w3.heap.size → a.block ≠ bn → w3.cell? a = some v → w4.cell? a = some v := fun a v hl hn hc => (hg4.cell_far a (by simp; omega) (fun e => hn (by injection e))).trans (cell_old hc); have d4 := hq4 ⟨d, 1, none⟩ _ (by simp only; omega) ldn d3; have f04 := hq4 ⟨wr.heap.size, 0, none⟩ _ (by simp only; omega) lbf f03; have f14 := hq4 ⟨wr.heap.size, 1, none⟩ _ (by simp only; omega) lbf f13; clear hq4))
        all_goals go_wp2
        all_goals
          have hin := HI.out
          have hrg : refuseC c s = 0 := H0.out
          have hsa : wa.heap.size = wr.heap.size + 1 := by rw [HWA.out]; simp
          have hk3 : ∀ k, k < w2.heap.size → w3.heap[k]? = w2.heap[k]? := fun k hk => hb3.block k hk
          have hk4 : ∀ k, k < w3.heap.size + 1 → k ≠ bn → w4.heap[k]? = (w3.alloc (.cells #[.slice A' xs.length c', .int .i64 ↑xs.length] 63)).heap[k]? := fun k hk hkb => hg4.block k (by simp; omega) (fun e => hkb (by injection e))
          have hk : ∀ k, k < wa.heap.size → k ≠ bn → w4.heap[k]? = wa.heap[k]? := fun k hk hkb => (((hk4 k (by omega) hkb).trans (Below.heap_alloc _ _ _ (by omega))).trans (hk3 k (by omega))).trans (HB2.out.block k hk)
          have lb2 : bn < wa.heap.size := hin.now.lt
          have hblk4 : w4.heap[w3.heap.size]? = some (.cells #[.slice A' xs.length c', .int .i64 ↑xs.length] 63 (0, 0)) := (hk4 _ (by omega) (by omega)).trans (heap_alloc_new w3 _)
          have hA' : ∀ a, A' = some a → w2.heap.size ≤ a.block ∧ a.block < w3.heap.size := fun a ha => by
            subst ha
            exact ⟨own_base ho3 _ rfl, own_lt ho3 _ rfl⟩
          have hrow4 : w4.ownsRow 0 5 1 (.slice A' xs.length c') xs.length (nums .u8 xs) := own_weaken (own_ext ho3 (fun a ha => (hk4 _ (by have := hA' a ha; omega) (by have := hA' a ha; omega)).trans (Below.heap_alloc _ _ _ (hA' a ha).2))) (Nat.zero_le _)
          have hwle := HB.out.size
          have hfn : ∀ p ∈ S.now, p.2 ≠ w3.heap.size := fun p hp e => by have := (hin.files p.2 (hin.ref _ (.inl ⟨p.1, hp⟩))).lt; omega
          obtain ⟨hL2, hlen⟩ := HL.out.put (xs := xs) hrg hfn
          have hnow4 := DirAt.of_put hown4
          have hD4 := DiskIn.putFile hin hk (g := w3.heap.size) (by omega) (by show w.heap.size ≤ w3.heap.size; omega) (s := s) hnow4.tight hblk4 hrow4 (fun a ha => by have := hA' a ha; omega) (fun a ha => by have := hA' a ha; show w.heap.size ≤ a.block; omega) hxb hxl hlen
          refine ⟨⟨i + 1, by omega, by go_num, insC (key s, xs) c, ?_, S.put s w3.heap.size xs, hL2, hD4, ?_⟩, by simp [intOf]; omega⟩
          · rw [HLD.out, HDR.out, ldC, if_pos hrg]
          · exact ((((HB.out.trans (HBA.out.mono HB.out.size)).trans (HB2.out.mono (by omega))).drew.trans (hb3.mono (by show w.heap.size ≤ w2.heap.size; omega))).alloc (by omega) _).grown hg4 (by simp; omega) (fun r e => by injection e with e; rw [← e]; exact hin.on)
      · have hne : (refuseC c s != 0) = true := by simpa using h0
        have hld : ldC [] fs = (refuseC c s, []) := by rw [HLD.out, HDR.out, ldC, if_neg h0]
        have HL2 := Lib.hid hld; have H0 := Lib.hid h0
        clear hld h0
        go_wp2_with (go_at_call 27; refine hre.mono ?_; rintro e w2 ⟨rfl, hb2⟩)
        go_ret2
        left
        rw [HL2.out]
        exact ⟨H0.out, rfl, (HB.out.trans (HBA.out.mono HB.out.size)).trans (hb2.mono (by have := HB.out.size; omega))⟩
    · obtain rfl : i = fs.length := by omega
      have hld : ldC [] fs = (0, c) := by rw [HLD.out, List.drop_length]; rfl
      have HL2 := Lib.hid hld
      clear hld
      obtain ⟨bn, bs, pc, cc, pp, cp', pd, cd, hin⟩ := HD.out
      obtain ⟨c0, c1, c2, c3, c4, c5, c6⟩ := seven_cells hin.blk
      have ld := lt_of_block hin.blk
      have z2 := all_free hin.blk 2
      have hcl := clone_any bn _ S.now wr hin.now
      have HI := Lib.hid hin
      clear hin
      go_wp2_with (go_at_call 35; refine hcl.mono ?_; rintro e w2 ⟨rfl, hs2, hb2⟩; have e2 := (hb2.cell (p := ⟨d, 2, none⟩) ld).trans c2; have x2 := (hb2.frozen (p := ⟨d, 2, none⟩) ld).trans z2)
      go_ret2
      right
      rw [HL2.out]
      have hh := HI.out
      have hd2 := (hb2.block d ld).trans hh.blk
      have hd3 := block_setCell (i := 2) (u := .map (some wr.heap.size)) hd2
      have hdi := DiskIn.setSafe0 (w := wr) (w' := w2.setCell ⟨d, 2, none⟩ (.map (some wr.heap.size))) hh (Nat.le_refl _) (show w.heap.size ≤ wr.heap.size from HB.out.size) hd3 (hs2.kept (Below.heap_setCell _ _ _ _ (Nat.ne_of_gt ld))) (fun k hk hkd => (Below.heap_setCell _ _ _ _ hkd).trans (hb2.block k hk))
      refine ⟨rfl, d, { S with safe := S.now }, rfl, ?_, ⟨_, _, _, _, _, _, _, _, hdi⟩, ?_⟩
      · exact ⟨⟨HL.out.calm.plan, HL.out.calm.off⟩, HL.out.room, HL.out.steps, rfl, HL.out.chg, HL.out.cont, HL.out.saf, HL.out.good, HL.out.inj⟩
      · exact (HB.out.trans (hb2.mono HB.out.size)).setCell (by exact hd) _
end Go.Proofs.YtgcpiofpjogjcaaDoor.PK
end
