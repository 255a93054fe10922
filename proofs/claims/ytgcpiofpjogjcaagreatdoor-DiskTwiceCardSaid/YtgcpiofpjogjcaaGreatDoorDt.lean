/-
  What a loss of power leaves, walked: left.
-/
import Derived.Test.YtgcpiofpjogjcaaGreatDoorDs
import Derived.Test.YtgcpiofpjogjcaaGreatDoorDq
namespace Go.Proofs.YtgcpiofpjogjcaaGreatDoor.PK
open Go.RowKit Go.Maps Go.Sort Go.Proofs.YtgcpiofpjogjcaaGreatDoorW.PrintWords
set_option linter.unusedVariables false
set_option linter.unusedSimpArgs false
variable {own : Nat → Prop} {w w' : World}

theorem chV_get (l : List Chg) (i : Nat) (h : i < l.length) : (l.flatMap chV)[i * 3]? = some (.string l[i].a) ∧ (l.flatMap chV)[i * 3 + 1]? = some (.string l[i].b) ∧ (l.flatMap chV)[i * 3 + 2]? = some (fileV l[i].f) := by
  induction l generalizing i with
  | nil => simp at h
  | cons c l ih =>
    cases i with
    | zero => simp [chV]
    | succ i =>
      have := ih i (by simpa using h)
      simp only [List.flatMap_cons, chV, List.getElem_cons_succ]
      rw [show (i + 1) * 3 = i * 3 + 3 from by omega, show i * 3 + 3 + 1 = i * 3 + 1 + 3 from by omega, show i * 3 + 3 + 2 = i * 3 + 2 + 3 from by omega]
      simp only [List.cons_append, List.nil_append, List.getElem?_cons_succ]
      exact this
theorem chg_cells {e n c : Nat} {p : Option Addr} {l : List Chg} (h : w.ownsRow 0 e 3 (.slice p n c) n (l.flatMap chV)) (hn : n = l.length) (i : Nat) (hi : i < l.length) :
    ∃ b, p = some ⟨b, 0, none⟩ ∧ b < w.heap.size ∧ w.cell? ⟨b, i * 3, none⟩ = some (.string l[i].a) ∧ w.cell? ⟨b, i * 3 + 1, none⟩ = some (.string l[i].b) ∧ w.cell? ⟨b, i * 3 + 2, none⟩ = some (fileV l[i].f) := by
  obtain ⟨h1, h2⟩ := h
  rcases h2 with ⟨h2, h3⟩ | ⟨g, cap, cur, hv, hg, hh, hnc, hcm, hsz, htake⟩
  · omega
  · injection hv with hv _ _
    have hget : ∀ j, j < n * 3 → w.cell? ⟨g, j, none⟩ = (l.flatMap chV)[j]? := fun j hj => by
      rw [← htake]
      simp [World.cell?, hh, List.getElem?_take, hj]
    obtain ⟨q0, q1, q2⟩ := chV_get l i hi
    exact ⟨g, hv, lt_of_block hh, (hget _ (by omega)).trans q0, (hget _ (by omega)).trans q1, (hget _ (by omega)).trans q2⟩
theorem row_cap {e s n c : Nat} {p : Option Addr} {xs : List Value} (h : w.ownsRow 0 e s (.slice p n c) n xs) : n ≤ c := by
  rcases h.2 with ⟨h1, h2⟩ | ⟨g, cap, cur, hv, _, _, hnc, _⟩
  · injection h1 with _ _ h3; omega
  · injection hv with _ _ h3; omega

theorem _root_.Go.RowKit.Below.turn {B : Nat} {w w1 w2 : World} (h : Below B w w1) {b : Nat} (t : Turn own w1 w2) (hk : ∀ k, k < w1.heap.size → k ≠ b → w2.heap[k]? = w1.heap[k]?) (hb : B ≤ b) (hB : B ≤ w1.heap.size) : Below B w w2 :=
  h.trans ⟨t.os, t.tape, t.output, t.size, fun k hk1 => hk k (by omega) (by omega)⟩
theorem foldl_length : ∀ (cs : List Chg) (l : Dir), (cs.foldl applyC l).length ≤ l.length + cs.length
  | [], l => by simp
  | c :: cs, l => by
    have h1 := length_applyC l c
    have h2 := foldl_length cs (applyC l c)
    simp only [List.foldl_cons, List.length_cons]
    omega
/-- The first loop: k changes are made. -/
structure LeftOne (S : Dk) (w : World) (b : Nat) (kv : Value) (k : Nat) (wr : World) : Prop where
  dir : DirAt wr b ((S.chg.take k).foldl applyC S.safe).length ((S.chg.take k).foldl applyC S.safe)
  below : Below w.heap.size w wr
  kb : wr.cell? ⟨w.heap.size, 0, none⟩ = some kv

set_option maxRecDepth 100000 in
theorem DirAt.short {b n : Nat} {l : Dir} (h : DirAt w b n l) : ∀ p ∈ l, p.1.length ≤ 9223372036854775807 := by
  intro p hp
  obtain ⟨es, clock, h1, h2, h3, h4⟩ := h
  unfold dmap at h4
  injection h4 with h4
  have hperm := WideShapes.sorted_perm (es.toList.map (WideElems.rg Tryz.prog 9 fileElem))
  rw [← h4] at hperm
  have hm := hperm.mem_iff.1 (List.mem_map_of_mem (f := fun p : List UInt8 × Nat => ((.string p.1 : Lit), (.held p.2 : DataW Nat))) hp)
  obtain ⟨x, hx, he⟩ := List.mem_map.1 hm
  obtain ⟨y, hy⟩ := h2.reads x hx
  rw [WideElems.rg_of hy] at he
  have hk := WideElems.rd_key hy
  obtain ⟨s, hs⟩ := invK9 _ _ hk
  rw [hs, he] at hk
  have hsz : s.size ≤ 9223372036854775807 := by
    refine Classical.byContradiction fun hc => ?_
    simp [keyOf, mapKey, Tryz.underlying9, maxLen, hc] at hk
  rw [key9 s hsz] at hk
  injection hk with hk
  injection hk with hk
  have e1 : s.data.toList.length = s.size := by rw [Array.length_toList]; rfl
  have e2 : s.data.toList.length = p.1.length := congrArg List.length hk
  omega

/-- Files that a call has made. -/
structure Made (w : World) (own : Nat → Prop) (l : Dir) (pd : Nat → Option Addr) (cd : Nat → Nat) (dat : Nat → List Int) : Prop where
  files : ∀ p ∈ l, FileIn w own p.2 (pd p.2) (cd p.2) (dat p.2) (dat p.2).length
  apart : ∀ p ∈ l, ∀ q ∈ l, p.2 ≠ q.2 → ∀ a b, pd p.2 = some a → pd q.2 = some b → a.block ≠ b.block
theorem Made.snoc {wr w4 : World} {nw : Dir} {pd : Nat → Option Addr} {cd : Nat → Nat} {dat : Nat → List Int} (h : Made wr own nw pd cd dat) {b g c' : Nat} {A' : Option Addr} {xs : List Int} {k : List UInt8} {es : Array MapEntry} {ck : Nat}
    (hb : wr.heap[b]? = some (.map es ck)) (hk : ∀ k, k < wr.heap.size → k ≠ b → w4.heap[k]? = wr.heap[k]?) (hg : wr.heap.size ≤ g) (hog : own g) (blk : w4.heap[g]? = some (.cells #[.slice A' xs.length c', .int .i64 xs.length] 77 (0, 0)))
    (row : w4.ownsRow 0 5 1 (.slice A' xs.length c') xs.length (nums .u8 xs)) (hA : ∀ a, A' = some a → wr.heap.size ≤ a.block) (hown : ∀ a, A' = some a → own a.block) (bys : ∀ x ∈ xs, 0 ≤ x ∧ x < 256) (short : xs.length ≤ 140737488355328) :
    Made w4 own (nw ++ [(k, g)]) (upd pd g A') (upd cd g c') (upd dat g xs) := by
  have hne : ∀ p ∈ nw, p.2 ≠ g := fun p hp e => by have := (h.files p hp).lt; omega
  have hold : ∀ p ∈ nw, ∀ a, pd p.2 = some a → a.block < wr.heap.size := fun p hp a ha => ((h.files p hp).pblock ha).1
  refine ⟨fun p hp => ?_, fun p hp q hq hpq a a' ha ha' => ?_⟩
  · rcases List.mem_append.1 hp with hp | hp
    · have hf := h.files p hp
      simp only [upd_other _ _ (hne p hp)]
      refine hf.kept (hk _ hf.lt (map_ne hf.blk hb)) (fun a ha => hk _ (hold p hp a ha) ?_)
      have h1 := hf.row
      rw [ha] at h1
      obtain ⟨cur, hcur⟩ := ownsRow_blk h1
      exact map_ne hcur hb
    · obtain rfl := List.mem_singleton.1 hp
      simp only [upd_same]
      exact ⟨hog, blk, row, hown, Nat.le_refl _, bys, short⟩
  · rcases List.mem_append.1 hp with hp | hp
    · rw [upd_other _ _ (hne p hp)] at ha
      rcases List.mem_append.1 hq with hq | hq
      · rw [upd_other _ _ (hne q hq)] at ha'
        exact h.apart p hp q hq hpq a a' ha ha'
      · obtain rfl := List.mem_singleton.1 hq
        rw [upd_same] at ha'
        have h1 := hold p hp a ha
        have h2 := hA a' ha'
        omega
    · obtain rfl := List.mem_singleton.1 hp
      rw [upd_same] at ha
      rcases List.mem_append.1 hq with hq | hq
      · rw [upd_other _ _ (hne q hq)] at ha'
        have h1 := hold q hq a' ha'
        have h2 := hA a ha
        omega
      · obtain rfl := List.mem_singleton.1 hq
        exact absurd rfl hpq
theorem cont_upd {nw : Dir} {dat : Nat → List Int} {g : Nat} {xs : List Int} {k : List UInt8} (h : ∀ p ∈ nw, p.2 ≠ g) : cont (upd dat g xs) (nw ++ [(k, g)]) = cont dat nw ++ [(k, xs)] := by
  unfold cont
  rw [List.map_append]
  congr 1
  · exact List.map_congr_left (fun p hp => by rw [upd_other _ _ (h p hp)])
  · simp [upd_same]
/-- What 'left' hands back. -/
def LeftMade (own : Nat → Prop) (S : Dk) (ks : List Int) (w : World) (e : Ending) (w' : World) : Prop :=
  ∃ b l pd cd dat, e = .returned (.map (some b)) ∧ w.heap.size ≤ b ∧ DirAt w' b l.length l ∧ Made w' own l pd cd dat ∧ cont dat l = S.leftCont ks ∧ Below w.heap.size w w'

/-- The second loop: i files are copied. -/
structure LeftTwo (own : Nat → Prop) (S : Dk) (ks : List Int) (w : World) (b : Nat) (kv v : Value) (L : Dir) (i : Nat) (wr : World) (nw : Dir) (pd : Nat → Option Addr) (cd : Nat → Nat) (dat : Nat → List Int) : Prop where
  len : nw.length = i
  names : nw.map (·.1) = (L.take i).map (·.1)
  dir : DirAt wr b (nw ++ L.drop i).length (nw ++ L.drop i)
  made : Made wr own nw pd cd dat
  cont : cont dat nw = (S.leftCont ks).take i
  below : Below w.heap.size w wr
  kb : wr.cell? ⟨w.heap.size, 0, none⟩ = some kv
  row : wr.ownsRow 0 9 1 v L.length (L.map fun p => encStr p.1)
def LeftAt (own : Nat → Prop) (S : Dk) (ks : List Int) (w : World) (b : Nat) (kv v : Value) (L : Dir) (i : Nat) (wr : World) : Prop := ∃ nw pd cd dat, LeftTwo own S ks w b kv v L i wr nw pd cd dat

set_option maxRecDepth 100000 in
set_option maxHeartbeats 6400000 in
theorem left_any (d : Nat) (S : Dk) (A : Option Addr) (c : Nat) (ks : List Int) (w : World) (h : DiskAt w own d S) (hfr : Fresh own w) (hC : Kd.C (Kd.int .i64) w A ks.length ks) (hcc : ks.length ≤ c) (hbig : S.chg.length ≤ 1099511627776) (hsafe : S.safe.length ≤ 400) (hlen0 : (S.leftDir ks).length ≤ 400) :
    Calls Tryz.prog 55 #[.pointer (some ⟨d, 0, none⟩), .slice A ks.length c] w (LeftMade own S ks w) := by
  obtain ⟨bn, bs, pc, cc, pp, cp, pd0, cd0, h⟩ := h
  obtain ⟨c0, c1, c2, c3, c4, c5, c6⟩ := seven_cells h.blk
  have ld := lt_of_block h.blk
  have hkb : (w.alloc (.cells #[.slice A ks.length c] 60)).cell? ⟨w.heap.size, 0, none⟩ = some (.slice A ks.length c) := cell_new _ _ _ _ rfl
  obtain ⟨wb, hwb⟩ : ∃ wb, wb = w.alloc (.cells #[.slice A ks.length c] 60) := ⟨_, rfl⟩
  have hwbs : wb.heap.size = w.heap.size + 1 := by rw [hwb]; simp
  have hbb : Below w.heap.size w wb := by rw [hwb]; exact (Below.refl _ _).alloc (Nat.le_refl _) _
  rw [← hwb] at hkb
  have e2 := (hbb.cell (p := ⟨d, 2, none⟩) ld).trans c2
  have e3 := (hbb.cell (p := ⟨d, 3, none⟩) ld).trans c3
  have hcl := clone_any bs _ S.safe wb (h.safe.kept (hbb.block _ h.safe.lt))
  have hrc := row_cap h.chg
  have hkeep : ∀ w1, Below w.heap.size w w1 → w1.cell? ⟨w.heap.size, 0, none⟩ = some (.slice A ks.length c) → ∀ i : Int, 0 ≤ i → Calls Tryz.prog 77 #[.int .i64 i, .pointer (some ⟨w.heap.size, 0, none⟩)] w1 fun e w' => e = .returned (.int .i64 (keepN ks i.toNat : Nat)) ∧ ∃ n, w' = w1.drewN n := fun w1 hb1 hk1 i hi =>
    (left1_any i w.heap.size A c ks w1 hi hk1 (Kd.C_below hC hb1) hcc).mono fun e w' ⟨he, hw⟩ => ⟨he, 0, hw.symm⟩
  have HH := Lib.hid h; have HF := Lib.hid hfr; have HC := Lib.hid hC; have HK := Lib.hid hkeep; have HBB := Lib.hid hbb
  clear h hfr hC hkeep c0 c1 c2 c3 c4 c5 c6 hbb
  obtain ⟨k0, hk0⟩ : ∃ k0 : Nat, k0 = keepN ks 0 := ⟨_, rfl⟩
  obtain ⟨m, hm⟩ : ∃ m : Nat, m = min k0 S.chg.length := ⟨_, rfl⟩
  have hml : m ≤ S.chg.length := by omega
  have em : (min (k0 : Int) ↑S.chg.length).toNat = m := by rw [hm]; omega
  have em2 : max (min (k0 : Int) ↑S.chg.length) 0 = (m : Int) := by rw [hm]; omega
  have hK0 : ∀ w1, Below w.heap.size w w1 → w1.cell? ⟨w.heap.size, 0, none⟩ = some (.slice A ks.length c) → Calls Tryz.prog 77 #[.int .i64 0, .pointer (some ⟨w.heap.size, 0, none⟩)] w1 fun e w' => e = .returned (.int .i64 (k0 : Nat)) ∧ ∃ n, w' = w1.drewN n := fun w1 hb1 hk1 => by rw [hk0]; exact HK.out w1 hb1 hk1 0 (by omega)
  have HK0 := Lib.hid hK0
  clear hK0
  have HE1 := Lib.hid em; have HE2 := Lib.hid em2
  clear em em2
  have HM := Lib.hid hm; have HKE := Lib.hid hk0
  clear hm hk0
  go_enter Tryz.func55, Tryz.ntmps55
  go_upto_region 2 with fail
  simp only [← hwb]
  have HWB := Lib.hid hwb
  clear hwb
  go_upto_region 3 with (go_at_call 39; refine hcl.mono ?_; rintro e w1 ⟨rfl, hs1, hb1⟩; have hbw : Below w.heap.size w w1 := HBB.out.trans (hb1.mono (by omega)); have hk1 : w1.cell? ⟨w.heap.size, 0, none⟩ = some (.slice A ks.length c) := (hb1.cell (p := ⟨w.heap.size, 0, none⟩) (by simp only; omega)).trans hkb; have e31 := (hb1.cell (p := ⟨d, 3, none⟩) (by simp only; omega)).trans e3)
  go_quiet ((go_at_call 77; refine (HK0.out _ (by repeat (first | exact hbw | apply below_drew | apply pw_below_drewN)) (by exact hk1)).mono ?_; rintro e w4 ⟨rfl, ⟨nd, rfl⟩⟩; (try first | exact ⟨rfl, _, World.drewN_drewN _ _ _⟩ | exact ⟨rfl, _, Eq.trans (World.drewN_drewN _ _ _) (congrArg (World.drewN _) (Nat.add_assoc _ _ _))⟩)))
  simp only [HE1.out, HE2.out]
  go_wp2
  have HC1 := Lib.hid hcl; have HS1 := Lib.hid hs1
  clear hcl hs1 e31 e2 e3
  go_loopw [8, 33] (fun _ s33 wr => ∃ k : Nat, k ≤ m ∧ s33 = .int .i64 k ∧ LeftOne S w (w.heap.size + 1) (.slice A ks.length c) k wr) (fun _ s33 _ => m - (intOf s33).toNat)
  case atStart =>
    exact ⟨0, Nat.zero_le _, rfl, ⟨by
      have h1 := HS1.out
      rw [hwbs] at h1
      exact h1.kept rfl, (HBB.out.trans (hb1.mono (by omega))).trans (pw_below_drewN (Below.refl _ _) _), hk1⟩⟩
  case round =>
    obtain ⟨k, hk, rfl, hL⟩ := hrel
    by_cases hlt : k < m
    · obtain ⟨b, hpb, lb, q0, q1, q2⟩ := chg_cells HH.out.chg rfl k (by omega)
      have hck := HH.out.chgs _ (List.getElem_mem (show k < S.chg.length by omega))
      have hlen := foldl_length (S.chg.take k) S.safe
      rw [List.length_take] at hlen
      have htk : S.chg.take (k + 1) = S.chg.take k ++ [S.chg[k]'(by omega)] := (List.take_succ_eq_append_getElem (by omega))
      subst hpb
      obtain ⟨pf, hpf⟩ : ∃ pf, fileV (S.chg[k]'(by omega)).f = .pointer pf := by cases (S.chg[k]'(by omega)).f <;> exact ⟨_, rfl⟩
      rw [hpf] at q2
      have r0 := (hL.below.cell (p := ⟨b, k * 3, none⟩) lb).trans q0
      have r1 := (hL.below.cell (p := ⟨b, k * 3 + 1, none⟩) lb).trans q1
      have r2 := (hL.below.cell (p := ⟨b, k * 3 + 2, none⟩) lb).trans q2
      have hdl := hL.dir.lt
      have hap := apply_any (own := own) (w.heap.size + 1) _ (S.chg[k]'(by omega)) (wr.alloc (.cells #[.string (S.chg[k]'(by omega)).a, .string (S.chg[k]'(by omega)).b, .pointer pf] 103)) (hL.dir.kept (Below.heap_alloc _ _ _ hdl)) hck (by omega) (HF.out _ (by omega))
      rw [hpf] at hap
      have HL := Lib.hid hL; have HT := Lib.hid htk; have HCK := Lib.hid hck
      clear hL htk hck q0 q1 q2 hpf hlen
      generalize hca : (S.chg[k]'(by omega)).a = ca at *
      generalize hcb : (S.chg[k]'(by omega)).b = cb at *
      go_wp2_with (first
        | (go_at_call 78; refine hap.mono ?_; rintro e w2 ⟨rfl, hd2, ht2, hk2⟩))
      go_roundw
      case rel =>
        refine ⟨k + 1, by omega, by go_num, ⟨?_, ?_, ?_⟩⟩
        · rw [HT.out, List.foldl_append]; exact hd2
        · exact (HL.out.below.alloc (by have := HL.out.below.size; omega) _).turn ht2 hk2 (by omega) (by have := HL.out.below.size; simp; omega)
        · exact (World.cell?_of_block (a := ⟨w.heap.size, 0, none⟩) (hk2 _ (by simp only; have := HL.out.below.size; simp; omega) (by simp only; omega))).trans (cell_old HL.out.kb)
      case measure => simp [intOf]; omega
    · obtain rfl : k = m := by omega
      have hL2 : (S.chg.take k).foldl applyC S.safe = S.leftDir ks := by
        unfold Dk.leftDir
        congr 1
        have h1 := HM.out; have h2 := HKE.out
        rw [← h2, List.take_eq_take_iff]; omega
      have hll := foldl_length (S.chg.take k) S.safe
      rw [List.length_take] at hll
      have hdir := hL.dir
      rw [hL2] at hdir hll
      obtain ⟨L, hLd⟩ : ∃ L, L = S.leftDir ks := ⟨_, rfl⟩
      rw [← hLd] at hdir hll
      rw [← hLd] at hlen0
      have hnm := names_any (w.heap.size + 1) _ L wr hdir (by omega)
      have HL := Lib.hid hL; have HLD := Lib.hid hLd; have HD := Lib.hid hdir
      clear hL hL2 hLd hdir
      go_wp2_with (go_at_call 76; refine hnm.mono ?_; rintro e w2 ⟨v, rfl, hrow, hb2⟩; obtain ⟨vA, vc, rfl⟩ := own_slice hrow)
      have HROW := Lib.hid hrow
      have hsz1 := HL.out.below.size
      have hsz2 := hb2.size
      clear hrow hnm
      go_loopw [9, 10, 11, 12, 44] (fun _ _ _ _ s44 wr2 => ∃ i : Nat, i ≤ L.length ∧ s44 = .int .i64 i ∧ LeftAt own S ks w (w.heap.size + 1) (.slice A ks.length c) (.slice vA L.length vc) L i wr2) (fun _ _ _ _ s44 _ => L.length - (intOf s44).toNat)
      case atStart =>
        refine ⟨0, Nat.zero_le _, rfl, [], fun _ => none, fun _ => 0, fun _ => [], ⟨rfl, rfl, ?_, ⟨fun p hp => (by cases hp), fun p hp => (by cases hp)⟩, rfl, ?_, ?_, ?_⟩⟩
        · exact (HD.out.kept (hb2.block _ HD.out.lt))
        · exact HL.out.below.trans (hb2.mono hsz1)
        · exact (hb2.cell (p := ⟨w.heap.size, 0, none⟩) (by simp only; have := HD.out.lt; omega)).trans HL.out.kb
        · exact own_weaken HROW.out (Nat.zero_le _)
      case round =>
        obtain ⟨i, hi, rfl, nw, pd, cd, dat, hT⟩ := hrel
        by_cases hlt : i < L.length
        · obtain ⟨kx, f, hkf⟩ : ∃ kx f, L[i] = (kx, f) := ⟨_, _, rfl⟩
          have hdrop : L.drop i = (kx, f) :: L.drop (i + 1) := by rw [List.drop_eq_getElem_cons hlt, hkf]
          have hmem : (kx, f) ∈ S.leftDir ks := by rw [← HLD.out, ← hkf]; exact List.getElem_mem hlt
          have hfs := HH.out.ref f (leftDir_live hmem)
          have hff := HH.out.files f hfs
          obtain ⟨f0, f1⟩ := two_cells hff.blk
          have lf := hff.lt
          have hdT := hT.dir
          rw [hdrop] at hdT
          have hlk := look_mid hdT.sorted
          have hks : kx.length ≤ 9223372036854775807 := hdT.short (kx, f) (by simp)
          obtain ⟨s, hse, hsk⟩ : ∃ s : ByteArray, encStr kx = .string s ∧ s.data.toList = kx := ⟨⟨kx.toArray⟩, rfl, by simp⟩
          have hss : s.size ≤ 9223372036854775807 := by
            have e1 : s.data.toList.length = s.size := by rw [Array.length_toList]; rfl
            rw [hsk] at e1; omega
          have hlk : look (nw ++ (kx, f) :: L.drop (i + 1)) s.data.toList = some f := by rw [hsk]; exact hlk
          obtain ⟨g, cap, hv, _, lg⟩ := hT.row.form (by omega)
          injection hv with hv _ hcv
          subst hv
          subst hcv
          have rn : wr.cell? ⟨g, i, none⟩ = some (.string s) := by
            rw [← hse]
            have h1 := hT.row.cellAt (g := g) i (by omega)
            rw [h1, List.getElem?_map, List.getElem?_eq_getElem hlt, hkf]
            rfl
          have g0 := (hT.below.cell (p := ⟨f, 0, none⟩) lf).trans f0
          have g1 := (hT.below.cell (p := ⟨f, 1, none⟩) lf).trans f1
          obtain ⟨kn, hkn⟩ : ∃ kn : Nat, kn = keepN ks (i + 1) := ⟨_, rfl⟩
          have hlen := hff.short
          have hsaf := hff.safe
          obtain ⟨n, hn⟩ : ∃ n : Nat, n = S.saf f + min kn ((S.dat f).length - S.saf f) := ⟨_, rfl⟩
          have hnl : n ≤ (S.dat f).length := by omega
          have hcap := row_cap hff.row
          have hx : ((S.dat f).take n).length = n := by rw [List.length_take]; omega
          have hbc : ∀ q, Calls Tryz.prog 38 #[.slice (pd0 f) n (cd0 f)] (wr.drewN q) fun e w' => ∃ A' c', e = .returned (.slice A' n c') ∧ w'.ownsRow wr.heap.size 5 1 (.slice A' n c') n (nums .u8 ((S.dat f).take n)) ∧ Below wr.heap.size (wr.drewN q) w' := fun q => by
            have hC1 : Kd.C (Kd.int .u8) (wr.drewN q) (pd0 f) ((S.dat f).take n).length ((S.dat f).take n) := by
              have h1 := Kd.reads_of_C (d := (0 : Int)) (Kd.C_below hff.C (hT.below.trans (pw_below_drewN (Below.refl _ _) q)))
              rw [hx]
              have h2 := h1.take_ n hnl
              exact Kd.C_of_reads h2
            have h3 := bclone_any (pd0 f) (cd0 f) ((S.dat f).take n) (wr.drewN q) hC1 (by omega)
            rw [hx] at h3
            exact h3
          have hK1 : ∀ w1, Below w.heap.size w w1 → w1.cell? ⟨w.heap.size, 0, none⟩ = some (.slice A ks.length c) → Calls Tryz.prog 77 #[.int .i64 (↑i + 1), .pointer (some ⟨w.heap.size, 0, none⟩)] w1 fun e w' => e = .returned (.int .i64 (kn : Nat)) ∧ ∃ n, w' = w1.drewN n := fun w1 hb1 hk1 => by rw [hkn]; exact HK.out w1 hb1 hk1 (↑i + 1) (by omega)
          have hwbr := hT.below
          have hkbr := hT.kb
          have hnlen : (nw ++ (kx, f) :: L.drop (i + 1)).length ≤ 1099511627776 := by
            rw [List.length_append, List.length_cons, List.length_drop, hT.len]; omega
          have HT := Lib.hid hT; have HDT := Lib.hid hdT; have HLK := Lib.hid hlk; have HX := Lib.hid hx; have HFF := Lib.hid hff; have HKN := Lib.hid hkn; have HN := Lib.hid hn; have HKF := Lib.hid hkf; have HDR := Lib.hid hdrop; have HSK := Lib.hid hsk; have HBC := Lib.hid hbc; have HK1 := Lib.hid hK1
          clear hT hdT hlk hx hff hkf hdrop hse hmem hfs hsk hbc hK1 f0 f1 hks
          go_upto_region 12 with (at_lookup; refine wpList_lookup_dir _ rfl _ _ rfl (w.heap.size + 1) _ (nw ++ (kx, f) :: L.drop (i + 1)) rfl HDT.out s rfl hss ?_; rw [HLK.out]; simp only [fileV])
          have hw1 : IntKind.i64.wrap ((i : Int) + 1) = (i : Int) + 1 := IntWalk.i64_in _ ⟨by omega, by omega⟩
          have hw2 : IntKind.i64.wrap (((S.dat f).length : Int) - (S.saf f : Int)) = ((S.dat f).length : Int) - (S.saf f : Int) := IntWalk.i64_in _ ⟨by omega, by omega⟩
          have hw3 : IntKind.i64.wrap ((S.saf f : Int) + min (kn : Int) (((S.dat f).length : Int) - (S.saf f : Int))) = (n : Int) := by
            rw [hn, IntWalk.i64_in _ ⟨by omega, by omega⟩]; omega
          clear hn hkn
          go_quiet ((go_at_call 77; refine (HK1.out _ (by repeat (first | exact hwbr | apply below_drew | apply pw_below_drewN)) (by exact hkbr)).mono ?_; rintro e w4 ⟨rfl, ⟨nd, rfl⟩⟩; (try first | exact ⟨rfl, _, World.drewN_drewN _ _ _⟩ | exact ⟨rfl, _, Eq.trans (World.drewN_drewN _ _ _) (congrArg (World.drewN _) (Nat.add_assoc _ _ _))⟩)))
          clear hw1 hw2 hw3
          have HD2 := Lib.hid hb2
          clear hb2
          go_wp2_with (first
            | (go_at_call 38; refine (HBC.out _).mono ?_; rintro e w3 ⟨A', c', rfl, ho3, hb3⟩; have hsz3 : wr.heap.size ≤ w3.heap.size := hb3.size; have hdT3 := HDT.out.kept (hb3.block _ HDT.out.lt); have hown3 : (w3.alloc (.cells #[.slice A' n c', .int .i64 ↑n] 77)).ownsMap Tryz.prog 9 fileElem (w.heap.size + 1) (nw ++ (kx, f) :: L.drop (i + 1)).length (dmap (nw ++ (kx, f) :: L.drop (i + 1))) := World.ownsMap.alloc hdT3 _)
            | (at_mapUpdate; refine wpList_mapUpdate_in _ rfl _ _ _ 79 rfl 9 75 law9 Tryz.underlying79 fileElem (w.heap.size + 1) _ _ rfl hown3 (by unfold maxLen; omega) _ _ _ rfl rfl (key9 s hss) (.held w3.heap.size) [] rfl ?_; intro w4 hown4 hturn4))
          go_roundw
          case rel =>
            have hg4 := hturn4.grown
            have hT := HT.out
            have hdb : w.heap.size + 1 < wr.heap.size := HDT.out.lt
            have hs4 : (w3.alloc (.cells #[.slice A' n c', .int .i64 ↑n] 77)).heap.size = w3.heap.size + 1 := by simp
            have hk4 : ∀ k, k < w3.heap.size + 1 → k ≠ w.heap.size + 1 → w4.heap[k]? = (w3.alloc (.cells #[.slice A' n c', .int .i64 ↑n] 77)).heap[k]? := fun k hk hkb => hg4.block k (by omega) (fun e => hkb (by injection e))
            have hkr : ∀ k, k < wr.heap.size → k ≠ w.heap.size + 1 → w4.heap[k]? = wr.heap[k]? := fun k hk hkb => ((hk4 k (by omega) hkb).trans (Below.heap_alloc _ _ _ (by omega))).trans (hb3.block k hk)
            obtain ⟨es, ck, hes⟩ := HDT.out.map
            have hblk : w4.heap[w3.heap.size]? = some (.cells #[.slice A' n c', .int .i64 ↑n] 77 (0, 0)) := (hk4 _ (by omega) (by omega)).trans (heap_alloc_new w3 _)
            have hA' : ∀ a, A' = some a → wr.heap.size ≤ a.block ∧ a.block < w3.heap.size := fun a ha => by
              subst ha
              obtain ⟨cur, hcur⟩ := ownsRow_blk ho3
              exact ⟨own_base ho3 _ rfl, lt_of_block hcur⟩
            have hrow4 : w4.ownsRow 0 5 1 (.slice A' n c') n (nums .u8 ((S.dat f).take n)) := own_weaken (own_ext ho3 (fun a ha => (hk4 _ (by have := hA' a ha; omega) (by have := hA' a ha; omega)).trans (Below.heap_alloc _ _ _ (hA' a ha).2))) (Nat.zero_le _)
            have hne : ∀ p ∈ nw, p.2 ≠ w3.heap.size := fun p hp e => by have := (hT.made.files p hp).lt; omega
            have hcg := leftCont_get S ks i (by rw [← HLD.out]; exact hlt)
            simp only [← HLD.out, HKF.out] at hcg
            have hnn : S.leftLen ks i f = n := by rw [HN.out, HKN.out]; rfl
            rw [hnn] at hcg
            refine ⟨i + 1, by omega, by go_num, nw ++ [(kx, w3.heap.size)], upd pd w3.heap.size A', upd cd w3.heap.size c', upd dat w3.heap.size ((S.dat f).take n), ⟨?_, ?_, ?_, ?_, ?_, ?_, ?_, ?_⟩⟩
            · rw [List.length_append, hT.len]; rfl
            · rw [List.map_append, hT.names, List.take_succ_eq_append_getElem hlt, List.map_append, HKF.out]; rfl
            · have h1 := DirAt.of_put hown4
              rw [HSK.out, put_mid HDT.out.sorted] at h1
              have h2 := h1.tight
              rw [List.append_assoc]
              exact h2
            · have h1 := Made.snoc (k := kx) hT.made hes hkr hsz3 (HF.out _ (by omega)) (A' := A') (c' := c') (xs := (S.dat f).take n) (by rw [HX.out]; exact hblk) (by rw [HX.out]; exact hrow4) (fun a ha => (hA' a ha).1) (fun a ha => HF.out _ (by have := hA' a ha; omega)) (fun x hx => HFF.out.bys x (List.mem_of_mem_take hx)) (by rw [HX.out]; omega)
              exact h1
            · rw [cont_upd hne, hT.cont]
              obtain ⟨hcl, hce⟩ := List.getElem?_eq_some_iff.1 hcg
              rw [List.take_succ_eq_append_getElem hcl, hce]
            · exact (((hT.below.trans (pw_below_drewN (Below.refl _ _) _)).trans (hb3.mono (by show w.heap.size ≤ wr.heap.size; omega))).alloc (by omega) _).grown hg4 (by omega) (fun r e => by injection e with e; omega)
            · exact (World.cell?_of_block (a := ⟨w.heap.size, 0, none⟩) (hkr _ (by simp only; omega) (by simp only; omega))).trans hT.kb
            · refine own_ext hT.row (fun a ha => ?_)
              injection ha with ha
              subst ha
              obtain ⟨cur, hcur⟩ := ownsRow_blk hT.row
              exact hkr _ (lt_of_block hcur) (map_ne hcur hes)
          case measure => simp [intOf]; omega
        · obtain rfl : i = L.length := by omega
          go_wp2
          go_ret
          refine ⟨w.heap.size + 1, nw, pd, cd, dat, rfl, by omega, ?_, hT.made, ?_, hT.below⟩
          · have := hT.dir
            rw [List.drop_length, List.append_nil] at this
            exact this
          · rw [hT.cont, List.take_of_length_le (by rw [leftCont_length, ← HLD.out]; exact Nat.le_refl _)]
end Go.Proofs.YtgcpiofpjogjcaaGreatDoor.PK
