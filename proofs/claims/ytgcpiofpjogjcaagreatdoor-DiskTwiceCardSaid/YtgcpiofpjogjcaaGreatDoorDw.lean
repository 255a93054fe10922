/-
  A disk without a plan: its steps' plain answers; a disk of one file; what is found behind a loss of power.
-/
import Derived.Test.YtgcpiofpjogjcaaGreatDoorDu
import Derived.Test.YtgcpiofpjogjcaaGreatDoorDuv
import Derived.Test.YtgcpiofpjogjcaaGreatDoorDra
namespace Go.Proofs.YtgcpiofpjogjcaaGreatDoor.PK
open Go.RowKit Go.Maps Go.Sort Go.Proofs.YtgcpiofpjogjcaaGreatDoorW.PrintWords
set_option linter.unusedVariables false
set_option linter.unusedSimpArgs false
variable {own : Nat → Prop} {w w' : World}

theorem fate_none {S : Dk} (h : S.plan = []) : S.fate = ⟨0, 0, 0⟩ := by unfold Dk.fate; rw [h]; rfl
theorem said_plain {S : Dk} (h : S.plan = []) (ho : S.off = false) {doE : Int} {doS : Dk → Prop} {paS : Int → Dk → Prop} {x : Int} {S' : Dk} (hs : S.stepSaid doE doS paS x S') : x = doE ∧ doS S' := by
  unfold Dk.stepSaid at hs
  rw [fate_none h, ho] at hs
  simpa using hs

/-- A disk that nothing fails: at rest. -/
structure Dk.calm (S : Dk) : Prop where
  plan : S.plan = []
  off : S.off = false
theorem create_plain (d : Nat) (S : Dk) (s : ByteArray) (w : World) (h : DiskAt w own d S) (hfr : Fresh own w) (hc : S.calm) (hs : s.size ≤ 9223372036854775807) (hst : S.steps ≤ 4611686018427387904) (hbig : S.chg.length ≤ 1099511627776) :
    Calls Tryz.prog 32 #[.pointer (some ⟨d, 0, none⟩), .string s] w fun e w' => e = .returned (.int .i64 (S.refuse s)) ∧ (∃ S', S.stepped.created s S' ∧ DiskAt w' own d S') ∧ Turn own w w' :=
  (create_any d S s w h hfr hs hst (by rw [hc.plan]; simp) hbig).mono fun e w' ⟨x, S', he, hx, hd, ht⟩ => by
    obtain ⟨h1, h2⟩ := said_plain hc.plan hc.off hx
    exact ⟨by rw [he, h1]; rfl, ⟨S', h2, hd⟩, ht⟩
theorem append_plain (d : Nat) (S : Dk) (s : ByteArray) (A : Option Addr) (c : Nat) (bs : List Int) (w : World) (h : DiskAt w own d S) (hfr : Fresh own w) (hc : S.calm) (hs : s.size ≤ 9223372036854775807) (hC : Kd.C (Kd.int .u8) w A bs.length bs) (hby : ∀ x ∈ bs, 0 ≤ x ∧ x < 256) (hA : ∀ a, A = some a → a.block ≠ d) (hst : S.steps ≤ 4611686018427387904) :
    Calls Tryz.prog 12 #[.pointer (some ⟨d, 0, none⟩), .string s, .slice A bs.length c] w fun e w' => e = .returned (.int .i64 (S.stepped.appE s bs.length)) ∧ DiskAt w' own d (S.stepped.appended s bs) ∧ Turn own w w' :=
  (append_any d S s A c bs w h hfr hs hC hby hA (by rw [fate_none hc.plan]; decide) hst (by rw [hc.plan]; simp)).mono fun e w' ⟨x, S', he, hx, hd, ht⟩ => by
    obtain ⟨h1, h2⟩ := said_plain hc.plan hc.off hx
    subst h1; subst h2
    exact ⟨he, hd, ht⟩
theorem sync_plain (d : Nat) (S : Dk) (s : ByteArray) (w : World) (h : DiskAt w own d S) (hfr : Fresh own w) (hc : S.calm) (hs : s.size ≤ 9223372036854775807) (hst : S.steps ≤ 4611686018427387904) :
    Calls Tryz.prog 33 #[.pointer (some ⟨d, 0, none⟩), .string s] w fun e w' => e = .returned (.int .i64 (S.stepped.has s)) ∧ DiskAt w' own d (S.stepped.synced s) ∧ Turn own w w' :=
  (sync_any d S s w h hfr hs hst (by rw [hc.plan]; simp)).mono fun e w' ⟨x, S', he, hx, hd, ht⟩ => by
    obtain ⟨h1, h2⟩ := said_plain hc.plan hc.off hx
    subst h1; subst h2
    exact ⟨he, hd, ht⟩
theorem syncDir_plain (d : Nat) (S : Dk) (w : World) (h : DiskAt w own d S) (hfr : Fresh own w) (hc : S.calm) (hst : S.steps ≤ 4611686018427387904) :
    Calls Tryz.prog 60 #[.pointer (some ⟨d, 0, none⟩)] w fun e w' => e = .returned (.int .i64 0) ∧ DiskAt w' own d S.stepped.syncDir ∧ Turn own w w' :=
  (syncDir_any d S w h hfr hst (by rw [hc.plan]; simp)).mono fun e w' ⟨x, S', he, hx, hd, ht⟩ => by
    obtain ⟨h1, h2⟩ := said_plain hc.plan hc.off hx
    subst h1; subst h2
    exact ⟨he, hd, ht⟩
theorem rename_plain (d : Nat) (S : Dk) (a b : ByteArray) (w : World) (h : DiskAt w own d S) (hfr : Fresh own w) (hc : S.calm) (ha : a.size ≤ 9223372036854775807) (hb : b.size ≤ 9223372036854775807) (hne : look S.now (key a) ≠ none → a ≠ ⟨#[]⟩) (hbig : S.chg.length ≤ 1099511627776) (hst : S.steps ≤ 4611686018427387904) :
    Calls Tryz.prog 34 #[.pointer (some ⟨d, 0, none⟩), .string a, .string b] w fun e w' => e = .returned (.int .i64 (S.stepped.renE a b)) ∧ DiskAt w' own d (S.stepped.renamed a b) ∧ Turn own w w' :=
  (rename_any d S a b w h hfr ha hb hne hbig hst (by rw [hc.plan]; simp)).mono fun e w' ⟨x, S', he, hx, hd, ht⟩ => by
    obtain ⟨h1, h2⟩ := said_plain hc.plan hc.off hx
    subst h1; subst h2
    exact ⟨he, hd, ht⟩

/-! ### A disk of one file -/
structure One (S : Dk) (room steps : Int) (k : List UInt8) (f : Nat) (xs : List Int) (s : Nat) (safe : Dir) (chg : List Chg) : Prop where
  calm : S.calm
  room : S.room = room
  steps : S.steps = steps
  now : S.now = [(k, f)]
  safe : S.safe = safe
  chg : S.chg = chg
  dat : S.dat f = xs
  saf : S.saf f = s
section
variable {S : Dk} {room steps : Int} {k : List UInt8} {f s : Nat} {xs : List Int} {safe : Dir} {chg : List Chg}
theorem One.look (h : One S room steps k f xs s safe chg) : look S.now k = some f := by rw [h.now]; simp [PK.look]
theorem One.used (h : One S room steps k f xs s safe chg) : used S.dat S.now = xs.length := by rw [h.now]; simp [PK.used, h.dat]
theorem One.created {S : Dk} (hc : S.calm) (hn : S.now = []) {b : ByteArray} (hb : b ≠ ⟨#[]⟩) {S' : Dk} (hr : S.refuse b = 0) (h : S.stepped.created b S') : ∃ f, One S' S.room (S.steps + 1) (key b) f [] 0 S.safe (S.chg ++ [⟨⟨#[]⟩, b, some f⟩]) := by
  unfold Dk.created at h
  rw [if_pos (show S.stepped.refuse b = 0 from hr)] at h
  obtain ⟨f, hf, rfl⟩ := h
  refine ⟨f, ⟨⟨hc.plan, hc.off⟩, rfl, rfl, ?_, rfl, rfl, upd_same _ _ _, upd_same _ _ _⟩⟩
  simp [Dk.alter, applyC, Dk.addFile, Dk.stepped, hn, hb, put, del, ins]
theorem One.appended (h : One S room steps k f xs s safe chg) {b : ByteArray} (hk : key b = k) {bs : List Int} (hr : (xs.length : Int) + bs.length ≤ room) : S.stepped.appE b bs.length = 0 ∧ One (S.stepped.appended b bs) room (steps + 1) k f (xs ++ bs) s safe chg := by
  have hl : PK.look S.stepped.now (key b) = some f := by rw [hk]; exact h.look
  have hu : PK.used S.stepped.dat S.stepped.now = xs.length := h.used
  have hm : S.stepped.room = room := h.room
  have hn : ¬ (S.stepped.room - (PK.used S.stepped.dat S.stepped.now : Nat) < bs.length) := by rw [hu, hm]; omega
  unfold Dk.appE Dk.appended
  rw [hl]
  simp only
  rw [if_neg hn, if_neg hn]
  refine ⟨by simp, ⟨⟨h.calm.plan, h.calm.off⟩, h.room, by rw [← h.steps]; rfl, h.now, h.safe, h.chg, ?_, ?_⟩⟩
  · show upd S.stepped.dat f _ f = _
    rw [upd_same]; congr 1; exact h.dat
  · show upd S.stepped.saf f _ f = _
    rw [upd_same]; exact h.saf
theorem One.synced (h : One S room steps k f xs s safe chg) {b : ByteArray} (hk : key b = k) : S.stepped.has b = 0 ∧ One (S.stepped.synced b) room (steps + 1) k f xs xs.length safe chg := by
  have hl : PK.look S.stepped.now (key b) = some f := by rw [hk]; exact h.look
  unfold Dk.has Dk.synced
  rw [hl]
  refine ⟨by simp, ⟨⟨h.calm.plan, h.calm.off⟩, h.room, by rw [← h.steps]; rfl, h.now, h.safe, h.chg, ?_, ?_⟩⟩
  · show upd S.stepped.dat f _ f = _
    rw [upd_same]; exact h.dat
  · show upd S.stepped.saf f _ f = _
    rw [upd_same]; congr 1; exact h.dat
theorem One.syncDir (h : One S room steps k f xs s safe chg) : One S.stepped.syncDir room (steps + 1) k f xs s [(k, f)] [] :=
  ⟨⟨h.calm.plan, h.calm.off⟩, h.room, by rw [← h.steps]; rfl, h.now, h.now, rfl, h.dat, h.saf⟩
end

/-! ### Behind a loss of power -/
theorem woke_look {S S' : Dk} {ks : List Int} (h : S.woke S' (S.leftCont ks)) (hs : Srt S'.now) {k : List UInt8} {f : Nat} (hl : look (S.leftDir ks) k = some f) :
    ∃ g i, look S'.now k = some g ∧ S'.dat g = (S.dat f).take (S.leftLen ks i f) ∧ S'.saf g = (S'.dat g).length := by
  obtain ⟨i, hi, hk⟩ := List.getElem_of_mem (look_mem hl)
  have h1 := leftCont_get S ks i hi
  rw [hk, ← h.cont] at h1
  unfold cont at h1
  rw [List.getElem?_map] at h1
  obtain ⟨⟨k', g⟩, hg, he⟩ := Option.map_eq_some_iff.1 h1
  simp only [Prod.mk.injEq] at he
  obtain ⟨he1, he2⟩ := he
  subst he1
  have hm := List.mem_of_getElem? hg
  exact ⟨g, i, look_of_mem hs hm, he2, h.saf _ hm⟩
theorem woke_one {S S' : Dk} {ks : List Int} (h : S.woke S' (S.leftCont ks)) (hp : S.plan = []) {k : List UInt8} {f : Nat} (hl : S.leftDir ks = [(k, f)]) :
    ∃ g, One S' S.room S.steps k g ((S.dat f).take (S.leftLen ks 0 f)) ((S.dat f).take (S.leftLen ks 0 f)).length S'.now [] := by
  have h1 := h.cont
  unfold Dk.leftCont at h1
  rw [hl] at h1
  simp only [List.mapIdx_cons, List.mapIdx_nil] at h1
  unfold cont at h1
  rcases hn : S'.now with _ | ⟨⟨k', g⟩, r⟩
  · rw [hn] at h1; cases h1
  · rw [hn] at h1
    rcases r with _ | ⟨y, r⟩
    · simp only [List.map_cons, List.map_nil, List.cons.injEq, Prod.mk.injEq, and_true] at h1
      obtain ⟨rfl, h2⟩ := h1
      refine ⟨g, ⟨⟨h.plan.trans hp, h.off⟩, h.room, h.steps, hn, h.safe.trans hn, h.chg, h2, ?_⟩⟩
      rw [h.saf (k', g) (by rw [hn]; simp), h2]
    · simp at h1
theorem DiskAt.sorted {d : Nat} {S : Dk} (h : DiskAt w own d S) : Srt S.now := by
  obtain ⟨bn, bs, pc, cc, pp, cp, pd, cd, h⟩ := h
  exact h.now.sorted
end Go.Proofs.YtgcpiofpjogjcaaGreatDoor.PK
