/-
  A disk of one file, and of two: its calls.
-/
import Derived.Test.YtgcpiofpjogjcaaGreatDoorDw
namespace Go.Proofs.YtgcpiofpjogjcaaGreatDoor.PK
open Go.RowKit Go.Maps Go.Sort Go.Proofs.YtgcpiofpjogjcaaGreatDoorW.PrintWords
set_option linter.unusedVariables false
set_option linter.unusedSimpArgs false
variable {own : Nat → Prop} {w w' : World}

/-- A call that answers x, and leaves a disk of which P is known. -/
def Leaves (own : Nat → Prop) (d : Nat) (w : World) (x : Ending) (P : Dk → Prop) (e : Ending) (w' : World) : Prop := e = x ∧ (∃ S, P S ∧ DiskAt w' own d S) ∧ Turn own w w'
abbrev okE : Ending := .returned (.int .i64 0)
theorem DiskAt.fs {d : Nat} {S : Dk} (h : DiskAt w own d S) {k : List UInt8} {f : Nat} (hl : look S.now k = some f) : S.fs f := by
  obtain ⟨bn, bs, pc, cc, pp, cp, pd, cd, h⟩ := h
  exact h.ref f (live_now hl)
theorem DiskAt.saf_le {d : Nat} {S : Dk} (h : DiskAt w own d S) {f : Nat} (hf : S.fs f) : S.saf f ≤ (S.dat f).length := by
  obtain ⟨bn, bs, pc, cc, pp, cp, pd, cd, h⟩ := h
  exact (h.files f hf).safe
section
variable {S : Dk} {d : Nat} {room steps : Int} {k : List UInt8} {f s : Nat} {xs : List Int} {safe : Dir} {chg : List Chg}
theorem append_one (h : DiskAt w own d S) (hfr : Fresh own w) (hO : One S room steps k f xs s safe chg) {b : ByteArray} (hk : key b = k) (hb : b.size ≤ 40) {A : Option Addr} {c : Nat} {bs : List Int} (hC : Kd.C (Kd.int .u8) w A bs.length bs) (hby : ∀ x ∈ bs, 0 ≤ x ∧ x < 256) (hA : ∀ a, A = some a → a.block ≠ d) (hst : steps ≤ 4611686018427387904) (hr : (xs.length : Int) + bs.length ≤ room) :
    Calls Tryz.prog 12 #[.pointer (some ⟨d, 0, none⟩), .string b, .slice A bs.length c] w (Leaves own d w okE fun S' => One S' room (steps + 1) k f (xs ++ bs) s safe chg) :=
  (append_plain d S b A c bs w h hfr hO.calm (by omega) hC hby hA (by rw [hO.steps]; exact hst)).mono fun e w' ⟨he, hd, ht⟩ => by
    obtain ⟨h1, h2⟩ := hO.appended hk hr
    exact ⟨by rw [he, h1], ⟨_, h2, hd⟩, ht⟩
theorem sync_one (h : DiskAt w own d S) (hfr : Fresh own w) (hO : One S room steps k f xs s safe chg) {b : ByteArray} (hk : key b = k) (hb : b.size ≤ 40) (hst : steps ≤ 4611686018427387904) :
    Calls Tryz.prog 33 #[.pointer (some ⟨d, 0, none⟩), .string b] w (Leaves own d w okE fun S' => One S' room (steps + 1) k f xs xs.length safe chg) :=
  (sync_plain d S b w h hfr hO.calm (by omega) (by rw [hO.steps]; exact hst)).mono fun e w' ⟨he, hd, ht⟩ => by
    obtain ⟨h1, h2⟩ := hO.synced hk
    exact ⟨by rw [he, h1], ⟨_, h2, hd⟩, ht⟩
theorem syncDir_one (h : DiskAt w own d S) (hfr : Fresh own w) (hO : One S room steps k f xs s safe chg) (hst : steps ≤ 4611686018427387904) :
    Calls Tryz.prog 60 #[.pointer (some ⟨d, 0, none⟩)] w (Leaves own d w okE fun S' => One S' room (steps + 1) k f xs s [(k, f)] []) :=
  (syncDir_plain d S w h hfr hO.calm (by rw [hO.steps]; exact hst)).mono fun e w' ⟨he, hd, ht⟩ => ⟨he, ⟨_, hO.syncDir, hd⟩, ht⟩
theorem on_one (h : DiskAt w own d S) (hfr : Fresh own w) (hcalm : S.plan = []) {A : Option Addr} {c : Nat} {ks : List Int} (hC : Kd.C (Kd.int .i64) w A ks.length ks) (hcc : ks.length ≤ c) (hbig : S.chg.length ≤ 1099511627776) (hsafe : S.safe.length ≤ 400) (hl : S.leftDir ks = [(k, f)]) :
    Calls Tryz.prog 26 #[.pointer (some ⟨d, 0, none⟩), .slice A ks.length c] w (Leaves own d w (.returned (.tuple #[])) fun S' => ∃ g, One S' S.room S.steps k g ((S.dat f).take (S.leftLen ks 0 f)) ((S.dat f).take (S.leftLen ks 0 f)).length S'.now []) :=
  (on_any d S A c ks w h hfr hC hcc hbig hsafe (by rw [hl]; simp)).mono fun e w' ⟨he, ⟨S', hw, hd⟩, ht⟩ => ⟨he, ⟨S', woke_one hw hcalm hl, hd⟩, ht⟩
theorem read_one (h : DiskAt w own d S) (hO : One S room steps k f xs s safe chg) {b : ByteArray} (hk : key b = k) (hb : b.size ≤ 40) {n : Nat} (hn : n ≤ xs.length) :
    Calls Tryz.prog 23 #[.pointer (some ⟨d, 0, none⟩), .string b, .int .i64 0, .int .i64 n] w (ReadMade (xs.take n) w) := by
  have h1 := read_any d S b f n w h (by omega) hO.calm.off (by rw [hk]; exact hO.look) (by rw [hO.dat]; exact hn)
  rw [hO.dat] at h1
  exact h1
end

/-- The example's second half: files a and b. -/
structure Duo (S : Dk) (steps : Int) (g h : Nat) (xs : List Int) (s : Nat) : Prop where
  calm : S.calm
  room : S.room = 10
  steps : S.steps = steps
  now : S.now = [([97], g), ([98], h)]
  safe : S.safe = [([97], g)]
  chg : S.chg = [⟨⟨#[]⟩, ⟨#[98]⟩, some h⟩]
  dat : S.dat h = xs
  saf : S.saf h = s
  other : (S.dat g).length = 4
section
variable {S : Dk} {d : Nat} {steps : Int} {g h s : Nat} {xs : List Int}
theorem Duo.look (hO : Duo S steps g h xs s) : look S.now [98] = some h := by rw [hO.now]; rfl
theorem create_duo (hD : DiskAt w own d S) (hfr : Fresh own w) (hO : One S 10 5 [97] g [120, 121, 122, 117] 4 [([97], g)] []) :
    Calls Tryz.prog 32 #[.pointer (some ⟨d, 0, none⟩), .string ⟨#[98]⟩] w (Leaves own d w okE fun S' => ∃ h, Duo S' 6 g h [] 0) :=
  (create_plain d S ⟨#[98]⟩ w hD hfr hO.calm (by decide) (by rw [hO.steps]; decide) (by rw [hO.chg]; decide)).mono fun e w' ⟨he, ⟨S', hc, hd⟩, ht⟩ => by
    have hr : S.refuse ⟨#[98]⟩ = 0 := by
      unfold Dk.refuse
      rw [if_neg (by decide +kernel), if_neg (by rw [hO.now, show look [([97], g)] (key ⟨#[98]⟩) = none from rfl]; simp), if_neg (by rw [hO.now]; simp)]
    have hg := hD.fs hO.look
    unfold Dk.created at hc
    rw [if_pos (show S.stepped.refuse ⟨#[98]⟩ = 0 from hr)] at hc
    obtain ⟨h, hf, rfl⟩ := hc
    have hne : g ≠ h := fun e => hf (e ▸ hg)
    refine ⟨by rw [he, hr], ⟨(S.stepped.addFile h).alter ⟨⟨#[]⟩, ⟨#[98]⟩, some h⟩, ⟨h, ⟨⟨hO.calm.plan, hO.calm.off⟩, hO.room, ?_, ?_, hO.safe, ?_, upd_same _ _ _, upd_same _ _ _, ?_⟩⟩, hd⟩, ht⟩
    · show S.steps + 1 = 6; rw [hO.steps]; rfl
    · show applyC S.now ⟨⟨#[]⟩, ⟨#[98]⟩, some h⟩ = _; rw [hO.now]; kernel_rfl
    · show S.chg ++ _ = _; rw [hO.chg]; rfl
    · show (upd S.dat h [] g).length = 4
      rw [upd_other _ _ hne, hO.dat]; rfl
theorem Duo.append (hO : Duo S steps g h xs s) (hgh : g ≠ h) {bs : List Int} (hr : 4 + xs.length + bs.length ≤ 10) : S.stepped.appE ⟨#[98]⟩ bs.length = 0 ∧ Duo (S.stepped.appended ⟨#[98]⟩ bs) (steps + 1) g h (xs ++ bs) s := by
  have hl : PK.look S.stepped.now (key ⟨#[98]⟩) = some h := hO.look
  have hu : PK.used S.stepped.dat S.stepped.now = 4 + xs.length := by
    show PK.used S.dat S.now = _
    rw [hO.now]; simp [PK.used, hO.dat, hO.other]
  have hm : S.stepped.room = 10 := hO.room
  have hn : ¬ (S.stepped.room - (PK.used S.stepped.dat S.stepped.now : Nat) < bs.length) := by rw [hu, hm]; omega
  unfold Dk.appE Dk.appended
  rw [hl]
  simp only
  rw [if_neg hn, if_neg hn]
  refine ⟨by simp, ⟨⟨hO.calm.plan, hO.calm.off⟩, hO.room, by rw [← hO.steps]; rfl, hO.now, hO.safe, hO.chg, ?_, ?_, ?_⟩⟩
  · show upd S.stepped.dat h _ h = _
    rw [upd_same]; congr 1; exact hO.dat
  · show upd S.stepped.saf h _ h = _
    rw [upd_same]; exact hO.saf
  · show (upd S.stepped.dat h _ g).length = 4
    rw [upd_other _ _ hgh]; exact hO.other
theorem Duo.ne (hO : Duo S steps g h xs s) (hl : xs.length ≠ 4) : g ≠ h := by
  rintro rfl
  have := hO.other
  rw [hO.dat] at this
  exact hl this
theorem append_duo (hD : DiskAt w own d S) (hfr : Fresh own w) (hO : Duo S 6 g h [] 0) {A : Option Addr} {c : Nat} (hC : Kd.C (Kd.int .u8) w A 1 [119]) (hA : ∀ a, A = some a → a.block ≠ d) :
    Calls Tryz.prog 12 #[.pointer (some ⟨d, 0, none⟩), .string ⟨#[98]⟩, .slice A 1 c] w (Leaves own d w okE fun S' => Duo S' 7 g h [119] 0) :=
  (append_plain d S ⟨#[98]⟩ A c [119] w hD hfr hO.calm (by decide) hC (by decide) hA (by rw [hO.steps]; decide)).mono fun e w' ⟨he, hd, ht⟩ => by
    obtain ⟨h1, h2⟩ := hO.append (hO.ne (by decide)) (bs := [119]) (by decide)
    exact ⟨by rw [he, h1], ⟨_, h2, hd⟩, ht⟩
theorem sync_duo (hD : DiskAt w own d S) (hfr : Fresh own w) (hO : Duo S 7 g h [119] 0) :
    Calls Tryz.prog 33 #[.pointer (some ⟨d, 0, none⟩), .string ⟨#[98]⟩] w (Leaves own d w okE fun S' => Duo S' 8 g h [119] 1) :=
  (sync_plain d S ⟨#[98]⟩ w hD hfr hO.calm (by decide) (by rw [hO.steps]; decide)).mono fun e w' ⟨he, hd, ht⟩ => by
    have hl : PK.look S.stepped.now (key ⟨#[98]⟩) = some h := hO.look
    have hgh := hO.ne (by decide)
    unfold Dk.has at he
    unfold Dk.synced at hd
    rw [hl] at he hd
    refine ⟨by rw [he]; rfl, ⟨_, ?_, hd⟩, ht⟩
    refine ⟨⟨hO.calm.plan, hO.calm.off⟩, hO.room, by show S.steps + 1 = 8; rw [hO.steps]; rfl, hO.now, hO.safe, hO.chg, ?_, ?_, ?_⟩
    · show upd S.stepped.dat h _ h = _
      rw [upd_same]; exact hO.dat
    · show upd S.stepped.saf h _ h = _
      rw [upd_same]; exact congrArg List.length hO.dat
    · show (upd S.stepped.dat h _ g).length = 4
      rw [upd_other _ _ hgh]; exact hO.other
/-- Behind the renaming: what a loss of power finds. -/
structure Last (S : Dk) (h : Nat) : Prop where
  plan : S.plan = []
  room : S.room = 10
  steps : S.steps = 9
  chg : S.chg.length = 2
  safe : S.safe.length = 1
  left : S.leftDir [2] = [([97], h)]
  dat : S.dat h = [119]
  saf : S.saf h = 1
theorem rename_duo (hD : DiskAt w own d S) (hfr : Fresh own w) (hO : Duo S 8 g h [119] 1) :
    Calls Tryz.prog 34 #[.pointer (some ⟨d, 0, none⟩), .string ⟨#[98]⟩, .string ⟨#[97]⟩] w (Leaves own d w okE fun S' => Last S' h) :=
  (rename_plain d S ⟨#[98]⟩ ⟨#[97]⟩ w hD hfr hO.calm (by decide) (by decide) (fun _ => by decide) (by rw [hO.chg]; simp) (by rw [hO.steps]; decide)).mono fun e w' ⟨he, hd, ht⟩ => by
    have hl : PK.look S.stepped.now (key ⟨#[98]⟩) = some h := hO.look
    unfold Dk.renE at he
    unfold Dk.renamed at hd
    rw [hl] at he hd
    have hb : bad ⟨#[97]⟩ = false := by decide +kernel
    simp only [hb] at he hd
    rw [if_neg (by decide), if_neg (by decide)] at hd
    refine ⟨by rw [he]; rfl, ⟨_, ?_, hd⟩, ht⟩
    refine ⟨hO.calm.plan, hO.room, by show S.steps + 1 = 9; rw [hO.steps]; rfl, ?_, ?_, ?_, hO.dat, hO.saf⟩
    · show (S.chg ++ _).length = 2
      rw [hO.chg]; rfl
    · show S.safe.length = 1
      rw [hO.safe]; rfl
    · show (List.take (keepN [2] 0) (S.chg ++ [⟨⟨#[98]⟩, ⟨#[97]⟩, some h⟩])).foldl applyC S.safe = _
      rw [hO.chg, hO.safe]
      kernel_rfl
end
end Go.Proofs.YtgcpiofpjogjcaaGreatDoor.PK
