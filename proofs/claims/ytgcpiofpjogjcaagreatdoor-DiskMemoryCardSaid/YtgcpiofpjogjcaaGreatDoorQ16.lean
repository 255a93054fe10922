/-
  Parts of the proof: Dz, Ea, Gb, Gc, Ra, Rc, Rb, Rd, Re, Rt.
-/
import Derived.Test.YtgcpiofpjogjcaaGreatDoorQ15
import Derived.Test.YtgcpiofpjogjcaaGreatDoorQ3
import Derived.Test.YtgcpiofpjogjcaaGreatDoorQ10
import Derived.SizedLaws
import Derived.ChangeSame
import Derived.Deep.Slices
import Derived.Deep.Strs
import Derived.ProofKit
import Derived.OpenShut
import Derived.Test.YtgcpiofpjogjcaaGreatDoorQ6
import Derived.Test.YtgcpiofpjogjcaaGreatDoorQ14
import Derived.Test.YtgcpiofpjogjcaaGreatDoorQ4
import Derived.Test.YtgcpiofpjogjcaaGreatDoorQ5
import Derived.Test.YtgcpiofpjogjcaaGreatDoorQ7
import Derived.Test.YtgcpiofpjogjcaaGreatDoorQ8
import Derived.Test.YtgcpiofpjogjcaaGreatDoorQ9
section
/-
  A disk with files (Load), walked.
-/
namespace Go.Proofs.YtgcpiofpjogjcaaGreatDoor.PK
open Go.RowKit Go.Maps Go.Sort Go.Proofs.YtgcpiofpjogjcaaGreatDoorW.PrintWords
set_option linter.unusedVariables false
set_option linter.unusedSimpArgs false
variable {own : Nat → Prop} {w w' : World}

/-! ### What Load answers, on names with bytes -/
def insC (x : List UInt8 × List Int) : Cont → Cont
  | [] => [x]
  | y :: r => if bytesBefore x.1 y.1 then x :: y :: r else y :: insC x r
def hasC (c : Cont) (k : List UInt8) : Bool := c.any fun p => p.1 == k
def refuseC (c : Cont) (s : ByteArray) : Int := if bad s then 145 else if hasC c (key s) then 144 else if 400 ≤ c.length then 142 else 0
/-- The error's number, and what there is where it is 0. -/
def ldC : Cont → List (ByteArray × List Int) → Int × Cont
  | c, [] => (0, c)
  | c, p :: r => if refuseC c p.1 = 0 then ldC (insC (key p.1, p.2) c) r else (refuseC c p.1, [])

theorem hasC_cont (dat : Nat → List Int) (l : Dir) (k : List UInt8) : hasC (cont dat l) k = (look l k).isSome := by
  unfold hasC cont look
  induction l with
  | nil => rfl
  | cons y r ih =>
    rw [List.map_cons, List.any_cons, ih]
    by_cases h : y.1 = k
    · rw [List.find?_cons_of_pos (by simp [h])]; simp [h]
    · rw [List.find?_cons_of_neg (by simp [h])]; simp [h]
theorem insC_cont {dat : Nat → List Int} {f : Nat} {xs : List Int} {k : List UInt8} : ∀ {l : Dir}, (∀ p ∈ l, p.2 ≠ f) → insC (k, xs) (cont dat l) = cont (upd dat f xs) (ins (k, f) l)
  | [], _ => by simp [insC, cont, ins, upd_same]
  | y :: r, h => by
    have hy := h y (List.mem_cons_self ..)
    have ih := insC_cont (dat := dat) (xs := xs) (k := k) (l := r) (fun p hp => h p (List.mem_cons_of_mem _ hp))
    have hr : cont dat r = cont (upd dat f xs) r := List.map_congr_left (fun p hp => by rw [upd_other _ _ (h p (List.mem_cons_of_mem _ hp))])
    unfold ins
    rw [show cont dat (y :: r) = (y.1, dat y.2) :: cont dat r from rfl, insC]
    by_cases hb : bytesBefore k y.1 = true
    · rw [if_pos hb, if_pos hb, show cont (upd dat f xs) ((k, f) :: y :: r) = (k, upd dat f xs f) :: (y.1, upd dat f xs y.2) :: cont (upd dat f xs) r from rfl, upd_same, upd_other _ _ hy, hr]
    · rw [if_neg hb, if_neg hb, ih, show cont (upd dat f xs) (y :: ins (k, f) r) = (y.1, upd dat f xs y.2) :: cont (upd dat f xs) (ins (k, f) r) from rfl, upd_other _ _ hy]
theorem refuse_cont {S : Dk} {c : Cont} (h : cont S.dat S.now = c) (s : ByteArray) : S.refuse s = refuseC c s := by
  have hl : S.now.length = c.length := by rw [← h]; simp [cont]
  unfold Dk.refuse refuseC
  rw [← h, hasC_cont, h, hl]
  cases look S.now (key s) <;> simp

/-- A disk while its files are loaded. -/
structure Lod (S : Dk) (room : Int) (c : Cont) : Prop where
  calm : S.calm
  room : S.room = room
  steps : S.steps = 0
  safe : S.safe = []
  chg : S.chg = []
  cont : cont S.dat S.now = c
  saf : ∀ p ∈ S.now, S.saf p.2 = (S.dat p.2).length
  good : ∀ p ∈ S.now, ∃ s, bad s = false ∧ key s = p.1
  inj : ∀ p ∈ S.now, ∀ q ∈ S.now, p.2 = q.2 → p = q
/-- .. and when they are. -/
structure Loaded (S : Dk) (room : Int) (c : Cont) : Prop where
  calm : S.calm
  room : S.room = room
  steps : S.steps = 0
  safe : S.safe = S.now
  chg : S.chg = []
  cont : PK.cont S.dat S.now = c
  saf : ∀ p ∈ S.now, S.saf p.2 = (S.dat p.2).length
  good : ∀ p ∈ S.now, ∃ s, bad s = false ∧ key s = p.1
  inj : ∀ p ∈ S.now, ∀ q ∈ S.now, p.2 = q.2 → p = q

/-- A new file with bytes, named. -/
def Dk.put (S : Dk) (s : ByteArray) (f : Nat) (xs : List Int) : Dk := { S with now := PK.put S.now (key s) f, fs := fun g => S.fs g ∨ g = f, dat := upd S.dat f xs, saf := upd S.saf f xs.length }
theorem Lod.put {S : Dk} {room : Int} {c : Cont} (h : Lod S room c) {s : ByteArray} {f : Nat} {xs : List Int} (hr : refuseC c s = 0) (hf : ∀ p ∈ S.now, p.2 ≠ f) : Lod (S.put s f xs) room (insC (key s, xs) c) ∧ (S.put s f xs).now.length ≤ 400 := by
  rw [← refuse_cont h.cont] at hr
  have hb : bad s = false ∧ look S.now (key s) = none ∧ S.now.length < 400 := by
    unfold Dk.refuse at hr
    cases hb : bad s
    · rw [hb, if_neg (by simp)] at hr
      by_cases h1 : look S.now (key s) = none
      · rw [if_neg (by simp [h1])] at hr
        by_cases h2 : 400 ≤ S.now.length
        · rw [if_pos h2] at hr; omega
        · exact ⟨rfl, h1, by omega⟩
      · rw [if_pos h1] at hr; omega
    · rw [hb, if_pos rfl] at hr; omega
  have hmem : ∀ p, p ∈ PK.put S.now (key s) f → p = (key s, f) ∨ p ∈ S.now := fun p hp => by
    rcases mem_put.1 hp with h | h
    · exact .inl h
    · exact .inr h.1
  refine ⟨⟨⟨h.calm.plan, h.calm.off⟩, h.room, h.steps, h.safe, h.chg, ?_, ?_, ?_, ?_⟩, ?_⟩
  · show PK.cont (upd S.dat f xs) (PK.put S.now (key s) f) = _
    unfold PK.put
    rw [del_same hb.2.1, ← insC_cont hf, h.cont]
  · intro p hp
    show upd S.saf f xs.length p.2 = (upd S.dat f xs p.2).length
    rcases hmem p hp with rfl | hp
    · rw [upd_same, upd_same]
    · rw [upd_other _ _ (hf p hp), upd_other _ _ (hf p hp)]; exact h.saf p hp
  · intro p hp
    rcases hmem p hp with rfl | hp
    · exact ⟨s, hb.1, rfl⟩
    · exact h.good p hp
  · intro p hp q hq e
    rcases hmem p hp with rfl | hp
    · rcases hmem q hq with rfl | hq
      · rfl
      · exact absurd e.symm (hf q hq)
    · rcases hmem q hq with rfl | hq
      · exact absurd e (hf p hp)
      · exact h.inj p hp q hq e
  · have := length_put S.now (key s) f
    show (PK.put S.now (key s) f).length ≤ 400
    omega

theorem DiskIn.putFile {d bn bs cc cp : Nat} {pc pp : Option Addr} {pd : Nat → Option Addr} {cd : Nat → Nat} {S : Dk} (h : DiskIn w own d bn bs pc cc pp cp pd cd S) (hk : ∀ k, k < w.heap.size → k ≠ bn → w'.heap[k]? = w.heap[k]?) {g c' : Nat} (hg : w.heap.size ≤ g) (hog : own g) {s : ByteArray} {A' : Option Addr} {xs : List Int}
    (hnow : DirAt w' bn (PK.put S.now (key s) g).length (PK.put S.now (key s) g)) (hblk : w'.heap[g]? = some (.cells #[.slice A' xs.length c', .int .i64 xs.length] 77 (0, 0))) (hrow : w'.ownsRow 0 5 1 (.slice A' xs.length c') xs.length (nums .u8 xs))
    (hA : ∀ a, A' = some a → w.heap.size ≤ a.block) (hown : ∀ a, A' = some a → own a.block) (hb : ∀ x ∈ xs, 0 ≤ x ∧ x < 256) (hl : xs.length ≤ 140737488355328) (hlen : (PK.put S.now (key s) g).length ≤ 400) : DiskAt w' own d (S.put s g xs) := by
  obtain ⟨en, cn, hen⟩ := h.now.map
  obtain ⟨es, cs, hes⟩ := h.safe.map
  have hcells : ∀ k cur t m, w.heap[k]? = some (Obj.cells cur t m) → w'.heap[k]? = w.heap[k]? := fun k cur t m hk1 => hk k (lt_of_block hk1) (map_ne hk1 hen)
  have hfn : ∀ f, S.fs f → f ≠ g := fun f hf e => by have := (h.files f hf).lt; omega
  have hpl : ∀ f, S.fs f → ∀ a, pd f = some a → a.block < w.heap.size := fun f hf a ha => ((h.files f hf).pblock ha).1
  have hrowk : ∀ {e sz n c : Nat} {p : Option Addr} {l : List Value}, w.ownsRow 0 e sz (.slice p n c) n l → w'.ownsRow 0 e sz (.slice p n c) n l := fun hr => own_ext hr (fun a ha => by
    subst ha
    obtain ⟨cur, hcur⟩ := ownsRow_blk hr
    exact hcells _ _ _ _ hcur)
  refine ⟨bn, bs, pc, cc, pp, cp, upd pd g A', upd cd g c', { h with
    blk := (hcells _ _ _ _ h.blk).trans h.blk
    now := hnow
    safe := h.safe.kept (hk bs h.safe.lt (fun e => h.ne e.symm))
    chg := hrowk h.chg
    plan := hrowk h.plan
    ref := fun f hf => by
      rcases hf with ⟨k, hk⟩ | hf | hf
      · rcases mem_put.1 hk with hk | ⟨hk, _⟩
        · injection hk with _ hk; exact .inr hk
        · exact .inl (h.ref f (.inl ⟨k, hk⟩))
      · exact .inl (h.ref f (.inr (.inl hf)))
      · exact .inl (h.ref f (.inr (.inr hf)))
    files := fun f hf => by
      by_cases e : f = g
      · subst e
        simp only [Dk.put, upd_same]
        exact ⟨hog, hblk, hrow, hown, Nat.le_refl _, hb, hl⟩
      · have hf' : S.fs f := by
          rcases hf with hf | hf
          · exact hf
          · exact absurd hf e
        have hff := h.files f hf'
        simp only [Dk.put, upd_other _ _ e]
        exact hff.kept (hcells _ _ _ _ hff.blk) (fun a ha => by
          have h1 := hff.row
          rw [ha] at h1
          obtain ⟨cur, hcur⟩ := ownsRow_blk h1
          exact hcells _ _ _ _ hcur)
    apart := fun f1 f2 h1 h2 hne a b ha hb' => by
      have gs : ∀ f, (S.put s g xs).fs f → f ≠ g → S.fs f := fun f hf e => by
        rcases hf with hf | hf
        · exact hf
        · exact absurd hf e
      by_cases e1 : f1 = g
      · subst e1
        rw [upd_same] at ha
        have e2 : f2 ≠ f1 := fun e => hne e.symm
        rw [upd_other _ _ e2] at hb'
        have h3 := hA a ha
        have h4 := hpl f2 (gs f2 h2 e2) b hb'
        omega
      · rw [upd_other _ _ e1] at ha
        by_cases e2 : f2 = g
        · subst e2
          rw [upd_same] at hb'
          have h3 := hA b hb'
          have h4 := hpl f1 (gs f1 h1 e1) a ha
          omega
        · rw [upd_other _ _ e2] at hb'
          exact h.apart f1 f2 (gs f1 h1 e1) (gs f2 h2 e2) hne a b ha hb'
    now1 := hlen }⟩
theorem DiskIn.setSafe0 {d bn bs cc cp bs' : Nat} {pc pp : Option Addr} {pd : Nat → Option Addr} {cd : Nat → Nat} {S : Dk} (h : DiskIn w own d bn bs pc cc pp cp pd cd S) (hbs : w.heap.size ≤ bs') (ho : own bs')
    (hblk : w'.heap[d]? = some (.cells #[.int .i64 S.room, .map (some bn), .map (some bs'), .slice pc S.chg.length cc, .slice pp S.plan.length cp, .int .i64 S.steps, .bool S.off] 82 (0, 0)))
    (hsafe : DirAt w' bs' S.now.length S.now) (hk : ∀ k, k < w.heap.size → k ≠ d → w'.heap[k]? = w.heap[k]?) :
    DiskIn w' own d bn bs' pc cc pp cp pd cd { S with safe := S.now } := by
  obtain ⟨en, cn, hen⟩ := h.now.map
  have hcells : ∀ k cur t m, w.heap[k]? = some (Obj.cells cur t m) → t ≠ 82 → w'.heap[k]? = w.heap[k]? := fun k cur t m hk1 ht1 =>
    hk k (lt_of_block hk1) (ty_ne hk1 h.blk ht1)
  have hlt := h.now.lt
  have hrowc : ∀ {sz n c : Nat} {e : TypeId} {p : Option Addr} {l : List Value}, e ≠ 82 → w.ownsRow 0 e sz (.slice p n c) n l → w'.ownsRow 0 e sz (.slice p n c) n l := fun he hr => own_ext hr (fun a ha => by
    subst ha
    obtain ⟨cur, hcur⟩ := ownsRow_blk hr
    exact hcells _ _ _ _ hcur he)
  exact { h with
    blk := hblk
    now := h.now.kept (hk bn h.now.lt (fun e => map_ne h.blk hen e.symm))
    safe := hsafe
    ne := by omega
    chg := hrowc (by decide) h.chg
    plan := hrowc (by decide) h.plan
    ref := fun f hf => by
      rcases hf with hf | hf | hf
      · exact h.ref f (.inl hf)
      · exact h.ref f (.inl hf)
      · exact h.ref f (.inr (.inr hf))
    files := fun f hf => (h.files f hf).kept (hcells _ _ _ _ (h.files f hf).blk (by decide)) (fun a ha => by
      have h1 := (h.files f hf).row
      rw [ha] at h1
      obtain ⟨cur, hcur⟩ := ownsRow_blk h1
      exact hcells _ _ _ _ hcur (by decide))
    os := ho }
theorem addr_add {b o j : Nat} : (⟨b, o, none⟩ : Addr).add j = ⟨b, o + j, none⟩ := by unfold Addr.add; split <;> simp_all
theorem addr_spot {w : World} {b o : Nat} {sp : Option Nat} {v : Value} (h : w.cell? ((⟨b, o, sp⟩ : Addr).add 0) = some v) : sp = none := by
  have e : (⟨b, o, sp⟩ : Addr).add 0 = ⟨b, o, sp⟩ := by simp [Addr.add]
  rw [e] at h
  unfold World.cell? at h
  cases sp with
  | none => rfl
  | some n =>
    exfalso
    cases hh : w.heap[b]? with
    | none => simp [hh] at h
    | some o => cases o <;> simp [hh] at h
theorem row_spot {α : Type} {d : Kd α} {w : World} {b o n : Nat} {sp : Option Nat} {l : List α} (h : d.C w (some ⟨b, o, sp⟩) n l) (hn : 0 < n) (hs : 0 < d.sz) : sp = none := by
  obtain ⟨ad, he, hc⟩ := h.2.2 hn
  injection he with he
  subst he
  have hl : 0 < l.length := by have := h.1; omega
  obtain ⟨c, hsz, _, hcell⟩ := hc 0 _ (List.getElem?_eq_getElem hl)
  have h0 : 0 < c.length := by omega
  have h1 := hcell 0 _ (List.getElem?_eq_getElem h0)
  rw [Nat.zero_mul] at h1
  exact addr_spot h1
theorem row_spot' {α : Type} {d : Kd α} {w : World} {ad : Addr} {n : Nat} {l : List α} (h : d.C w (some ad) n l) (hn : 0 < n) (hs : 0 < d.sz) : ad.spot = none := by
  obtain ⟨b, o, sp⟩ := ad
  exact row_spot h hn hs
def LoadMade (room : Int) (fs : List (ByteArray × List Int)) (w : World) (e : Ending) (w' : World) : Prop :=
  ((ldC [] fs).1 ≠ 0 ∧ e = .returned (.tuple #[.pointer none, .int .i64 (ldC [] fs).1]) ∧ Below w.heap.size w w') ∨
  ((ldC [] fs).1 = 0 ∧ ∃ d S, e = .returned (.tuple #[.pointer (some ⟨d, 0, none⟩), .int .i64 0]) ∧ Loaded S (min (max room 0) 16777216) (ldC [] fs).2 ∧ DiskAt w' (fun k => w.heap.size ≤ k) d S ∧ Below w.heap.size w w')
def LodAt (room : Int) (w : World) (d : Nat) (c : Cont) (wr : World) : Prop := ∃ S, Lod S room c ∧ DiskAt wr (fun k => w.heap.size ≤ k) d S ∧ Below w.heap.size w wr

set_option maxRecDepth 100000 in
set_option maxHeartbeats 6400000 in
theorem load_any (room : Int) (A : Option Addr) (cp : Nat) (fs : List (ByteArray × List Int)) (w : World) (hC : fileK.C w A fs.length fs) (hs : ∀ p ∈ fs, p.1.size ≤ 9223372036854775807 ∧ p.2.length ≤ 140737488355328 ∧ (∀ x ∈ p.2, 0 ≤ x ∧ x < 256)) :
    Calls Tryz.prog 8 #[.int .i64 room, .slice A fs.length cp] w (LoadMade room fs w) := by
  have hl := hC.2.1
  have hnew := new_any (own := fun k => w.heap.size ≤ k) room w (fun k hk => hk)
  have Z := Lib.hid hC; have Y := Lib.hid hs
  clear hC hs
  go_enter Tryz.func8, Tryz.ntmps8
  go_wp2_with (go_at_call 36; refine hnew.mono ?_; rintro e w1 ⟨d, hd, rfl, hD1, hb1⟩)
  have HD1 := Lib.hid hD1; have HB1 := Lib.hid hb1
  clear hD1 hb1 hnew
  go_loopw [8, 9, 14] (fun _ _ s14 wr => ∃ i : Nat, i ≤ fs.length ∧ s14 = .int .i64 i ∧ ∃ c, ldC [] fs = ldC c (fs.drop i) ∧ LodAt (min (max room 0) 16777216) w d c wr) (fun _ _ s14 _ => fs.length - (intOf s14).toNat)
  case atStart => exact ⟨0, Nat.zero_le _, rfl, [], rfl, Dk.new room, ⟨⟨rfl, rfl⟩, rfl, rfl, rfl, rfl, rfl, fun p hp => (by cases hp), fun p hp => (by cases hp), fun p hp => (by cases hp)⟩, HD1.out, HB1.out⟩
  case round =>
    obtain ⟨i, hi, rfl, c, hld, S, hL, hD, hb⟩ := hrel
    have HLD := Lib.hid hld; have HL := Lib.hid hL; have HD := Lib.hid hD; have HB := Lib.hid hb
    clear hld hL hD hb
    by_cases hlt : i < fs.length
    · have hCr := Kd.C_below Z.out HB.out
      obtain ⟨ad, rfl, hcells⟩ := hCr.2.2 (by omega)
      have hsp := row_spot' hCr (by omega) (by decide)
      clear hCr
      obtain ⟨cs, hcs, hK, hcell⟩ := hcells i _ (List.getElem?_eq_getElem hlt)
      obtain ⟨s, xs, hsx⟩ : ∃ s xs, fs[i] = (s, xs) := ⟨_, _, rfl⟩
      rw [hsx] at hK
      obtain ⟨_, _, rfl, rfl, A2, c2, rfl, hc2, hR2⟩ := hK
      obtain ⟨b, off, sp⟩ := ad
      simp only at hsp
      subst hsp
      have r0 : wr.cell? ⟨b, off + i * 2, none⟩ = some (.string s) := by
        have h := hcell 0 _ rfl
        rw [addr_add] at h
        exact h
      have r1 : wr.cell? ⟨b, off + i * 2 + 1, none⟩ = some (.slice A2 xs.length c2) := by
        have h := hcell 1 _ rfl
        rw [addr_add] at h
        exact h
      have hdr : fs.drop i = (s, xs) :: fs.drop (i + 1) := by rw [List.drop_eq_getElem_cons hlt, hsx]
      have hy := Y.out _ (List.getElem_mem hlt)
      rw [hsx] at hy
      obtain ⟨hss, hxl, hxb⟩ := hy
      obtain ⟨wa, hwa⟩ : ∃ wa, wa = wr.alloc (.cells #[.string s, .slice A2 xs.length c2] 40) := ⟨_, rfl⟩
      have hba : Below wr.heap.size wr wa := by rw [hwa]; exact (Below.refl _ _).alloc (Nat.le_refl _) _
      have hDa := HD.out.below hba
      have hre := refuse_any d S s wa hDa hss
      rw [refuse_cont HL.out.cont] at hre
      have g0 : wa.cell? ⟨wr.heap.size, 0, none⟩ = some (.string s) := by rw [hwa]; simp [World.cell?_alloc_at]
      have g1 : wa.cell? ⟨wr.heap.size, 1, none⟩ = some (.slice A2 xs.length c2) := by rw [hwa]; simp [World.cell?_alloc_at]
      have hC2 : Kd.C (Kd.int .u8) wa A2 xs.length xs := Kd.C_below hR2 hba
      have lfa : wr.heap.size < wa.heap.size := by rw [hwa]; simp
      have HBA := Lib.hid hba; have HDA := Lib.hid hDa; have HDR := Lib.hid hdr; have HC2 := Lib.hid hC2
      clear hba hDa hdr hC2 hR2 hcell hsx hcells hcs
      go_upto_region 5 with fail
      simp only [← hwa]
      have HWA := Lib.hid hwa
      clear hwa
      by_cases h0 : refuseC c s = 0
      · have hne : (refuseC c s != 0) = false := by simpa using h0
        rw [h0] at hre
        have H0 := Lib.hid h0
        clear h0 hne
        obtain ⟨bn, bs, pc, cc, pp, cp', pd, cd, hin⟩ := HDA.out
        obtain ⟨c0, c1, c2', c3, c4, c5, c6⟩ := seven_cells hin.blk
        have ld := lt_of_block hin.blk
        have hn1 := hin.now1
        have HI := Lib.hid hin
        clear hin c0 c2' c3 c4 c5 c6
        go_upto_region 8 with (go_at_call 37; refine hre.mono ?_; rintro e w2 ⟨rfl, hb2⟩; have d1 := (hb2.cell (p := ⟨d, 1, none⟩) ld).trans c1; have f0 := (hb2.cell (p := ⟨wr.heap.size, 0, none⟩) lfa).trans g0; have f1 := (hb2.cell (p := ⟨wr.heap.size, 1, none⟩) lfa).trans g1)
        have hsz2 := hb2.size
        have hbc := bclone_any A2 c2 xs w2.drew (Kd.C_below HC2.out (hb2.trans ((Below.refl _ _).drew))) hxl
        have hnow2 : DirAt w2.drew bn S.now.length S.now := HI.out.now.kept (hb2.block _ HI.out.now.lt)
        have HNW := Lib.hid hnow2; have HB2 := Lib.hid hb2
        have lbn := hnow2.lt
        have ldn : d ≠ bn := map_ne HI.out.blk HI.out.now.map.choose_spec.choose_spec
        have lbf : wr.heap.size ≠ bn := map_ne (show wa.heap[wr.heap.size]? = _ from (by rw [HWA.out]; exact heap_alloc_new wr _)) HI.out.now.map.choose_spec.choose_spec
        clear hnow2 hb2
        go_region_held3 (fun w' => w'.cell? ⟨d, 1, none⟩ = some (.map (some bn)) ∧ w'.cell? ⟨wr.heap.size, 0, none⟩ = some (.string s) ∧ w'.cell? ⟨wr.heap.size, 1, none⟩ = some (.slice A2 xs.length c2))
          (go_keep)
          (first | (go_at_call 38; refine hbc.mono ?_; rintro e w3 ⟨A', c', rfl, ho3, hb3⟩; have d3 := (hb3.cell (p := ⟨d, 1, none⟩) (by simp only [World.drew]; omega)).trans d1; have f03 := (hb3.cell (p := ⟨wr.heap.size, 0, none⟩) (by simp only [World.drew]; omega)).trans f0; have f13 := (hb3.cell (p := ⟨wr.heap.size, 1, none⟩) (by simp only [World.drew]; omega)).trans f1; have hs3 : w2.heap.size ≤ w3.heap.size := hb3.size; have hown3 : (w3.alloc (.cells #[.slice A' xs.length c', .int .i64 ↑xs.length] 77)).ownsMap Tryz.prog 9 fileElem bn S.now.length (dmap S.now) := World.ownsMap.alloc (HNW.out.kept (hb3.block _ lbn)) _; obtain ⟨w4, hrun, hown4, hturn4⟩ := World.ownsMap.store hown3 law9 Tryz.underlying79 (by unfold maxLen; omega) (key9 s hss) (val := .pointer (some ⟨w3.heap.size, 0, none⟩)) (d := .held w3.heap.size) (ps := []) rfl; have hg4 := hturn4.grown; have hq4 : ∀ (a : Addr) (v : Value), a.block < w3.heap.size → a.block ≠ bn → w3.cell? a = some v → w4.cell? a = some v := fun a v hl hn hc => (hg4.cell_far a (by simp; omega) (fun e => hn (by injection e))).trans (cell_old hc); have d4 := hq4 ⟨d, 1, none⟩ _ (by simp only; omega) ldn d3; have f04 := hq4 ⟨wr.heap.size, 0, none⟩ _ (by simp only; omega) lbf f03; have f14 := hq4 ⟨wr.heap.size, 1, none⟩ _ (by simp only; omega) lbf f13; clear hq4))
        all_goals go_wp2
        all_goals
          have hin := HI.out
          have hrg : refuseC c s = 0 := H0.out
          have hsa : wa.heap.size = wr.heap.size + 1 := by rw [HWA.out]; simp
          have hk3 : ∀ k, k < w2.heap.size → w3.heap[k]? = w2.heap[k]? := fun k hk => hb3.block k hk
          have hk4 : ∀ k, k < w3.heap.size + 1 → k ≠ bn → w4.heap[k]? = (w3.alloc (.cells #[.slice A' xs.length c', .int .i64 ↑xs.length] 77)).heap[k]? := fun k hk hkb => hg4.block k (by simp; omega) (fun e => hkb (by injection e))
          have hk : ∀ k, k < wa.heap.size → k ≠ bn → w4.heap[k]? = wa.heap[k]? := fun k hk hkb => (((hk4 k (by omega) hkb).trans (Below.heap_alloc _ _ _ (by omega))).trans (hk3 k (by omega))).trans (HB2.out.block k hk)
          have lb2 : bn < wa.heap.size := hin.now.lt
          have hblk4 : w4.heap[w3.heap.size]? = some (.cells #[.slice A' xs.length c', .int .i64 ↑xs.length] 77 (0, 0)) := (hk4 _ (by omega) (by omega)).trans (heap_alloc_new w3 _)
          have hA' : ∀ a, A' = some a → w2.heap.size ≤ a.block ∧ a.block < w3.heap.size := fun a ha => by
            subst ha
            exact ⟨own_base ho3 _ rfl, own_lt ho3 _ rfl⟩
          have hrow4 : w4.ownsRow 0 5 1 (.slice A' xs.length c') xs.length (nums .u8 xs) := own_weaken (own_ext ho3 (fun a ha => (hk4 _ (by have := hA' a ha; omega) (by have := hA' a ha; omega)).trans (Below.heap_alloc _ _ _ (hA' a ha).2))) (Nat.zero_le _)
          have hwle := HB.out.size
          have hfn : ∀ p ∈ S.now, p.2 ≠ w3.heap.size := fun p hp e => by have := (hin.files p.2 (hin.ref _ (.inl ⟨p.1, hp⟩))).lt; omega
          obtain ⟨hL2, hlen⟩ := HL.out.put (xs := xs) hrg hfn
          have hnow4 := DirAt.of_put hown4
          have hD4 := DiskIn.putFile hin hk (g := w3.heap.size) (by omega) (by show w.heap.size ≤ w3.heap.size; omega) (s := s) hnow4.tight hblk4 hrow4 (fun a ha => by have := hA' a ha; omega) (fun a ha => by have := hA' a ha; show w.heap.size ≤ a.block; omega) hxb hxl hlen
          refine ⟨⟨i + 1, by omega, by go_num, insC (key s, xs) c, ?_, S.put s w3.heap.size xs, hL2, hD4, ?_⟩, by simp [intOf]; omega⟩
          · rw [HLD.out, HDR.out, ldC, if_pos hrg]
          · exact ((((HB.out.trans (HBA.out.mono HB.out.size)).trans (HB2.out.mono (by omega))).drew.trans (hb3.mono (by show w.heap.size ≤ w2.heap.size; omega))).alloc (by omega) _).grown hg4 (by simp; omega) (fun r e => by injection e with e; rw [← e]; exact hin.on)
      · have hne : (refuseC c s != 0) = true := by simpa using h0
        have hld : ldC [] fs = (refuseC c s, []) := by rw [HLD.out, HDR.out, ldC, if_neg h0]
        have HL2 := Lib.hid hld; have H0 := Lib.hid h0
        clear hld h0
        go_wp2_with (go_at_call 37; refine hre.mono ?_; rintro e w2 ⟨rfl, hb2⟩)
        go_ret2
        left
        rw [HL2.out]
        exact ⟨H0.out, rfl, (HB.out.trans (HBA.out.mono HB.out.size)).trans (hb2.mono (by have := HB.out.size; omega))⟩
    · obtain rfl : i = fs.length := by omega
      have hld : ldC [] fs = (0, c) := by rw [HLD.out, List.drop_length]; rfl
      have HL2 := Lib.hid hld
      clear hld
      obtain ⟨bn, bs, pc, cc, pp, cp', pd, cd, hin⟩ := HD.out
      obtain ⟨c0, c1, c2, c3, c4, c5, c6⟩ := seven_cells hin.blk
      have ld := lt_of_block hin.blk
      have z2 := all_free hin.blk 2
      have hcl := clone_any bn _ S.now wr hin.now
      have HI := Lib.hid hin
      clear hin
      go_wp2_with (go_at_call 39; refine hcl.mono ?_; rintro e w2 ⟨rfl, hs2, hb2⟩; have e2 := (hb2.cell (p := ⟨d, 2, none⟩) ld).trans c2; have x2 := (hb2.frozen (p := ⟨d, 2, none⟩) ld).trans z2)
      go_ret2
      right
      rw [HL2.out]
      have hh := HI.out
      have hd2 := (hb2.block d ld).trans hh.blk
      have hd3 := block_setCell (i := 2) (u := .map (some wr.heap.size)) hd2
      have hdi := DiskIn.setSafe0 (w := wr) (w' := w2.setCell ⟨d, 2, none⟩ (.map (some wr.heap.size))) hh (Nat.le_refl _) (show w.heap.size ≤ wr.heap.size from HB.out.size) hd3 (hs2.kept (Below.heap_setCell _ _ _ _ (Nat.ne_of_gt ld))) (fun k hk hkd => (Below.heap_setCell _ _ _ _ hkd).trans (hb2.block k hk))
      refine ⟨rfl, d, { S with safe := S.now }, rfl, ?_, ⟨_, _, _, _, _, _, _, _, hdi⟩, ?_⟩
      · exact ⟨⟨HL.out.calm.plan, HL.out.calm.off⟩, HL.out.room, HL.out.steps, rfl, HL.out.chg, HL.out.cont, HL.out.saf, HL.out.good, HL.out.inj⟩
      · exact (HB.out.trans (hb2.mono HB.out.size)).setCell (by exact hd) _
end Go.Proofs.YtgcpiofpjogjcaaGreatDoor.PK
end
section
/-
  The references' helpers (Copy, Same, Piece, Cat): their plain laws, and their calls.
-/
namespace Go.Proofs.YtgcpiofpjogjcaaGreatDoor.PK
open Go.RowKit Go.Proofs.YtgcpiofpjogjcaaGreatDoorW.PrintWords Go.Proofs.YtgcpiofpjogjcaaGreatDoorW.PrintLast Go.Proofs.YtgcpiofpjogjcaaGreatDoorW.PrintMore
set_option linter.unusedVariables false
set_option linter.unusedSimpArgs false
variable {own : Nat → Prop} {w w' : World}

theorem w64 {n : Int} (h0 : -9223372036854775808 ≤ n) (h1 : n ≤ 9223372036854775807) : wrap64 n = n := by unfold wrap64; omega
theorem w64s (i : Nat) (h : i < 9223372036854775807) : wrap64 ((i : Int) + 1) = ((i + 1 : Nat) : Int) := by rw [w64 (by omega) (by omega)]; omega
theorem up {α : Type} {g : Nat → Option α} (m : ∀ k, LeO (g k) (g (k + 1))) {k : Nat} {r : α} (h : g k = some r) : ∀ k', k ≤ k' → g k' = some r := by
  intro k' hk
  induction hk with
  | refl => exact h
  | step _ ih => exact m _ _ ih
theorem rd_at {xs : List Int} {i : Nat} (h : i < xs.length) : rd xs (i : Int) = xs[i] := by
  simp [rd, List.getD, h]
theorem take_snoc {α : Type} (l : List α) (i : Nat) (h : i < l.length) : l.take i ++ [l[i]] = l.take (i + 1) := by
  rw [List.take_add_one, List.getElem?_eq_getElem h]; rfl
theorem copy_l0 (l : List Int) (hl : l.length ≤ 140737488355328) : ∀ n i, i + n = l.length → stoaref01_Copy.l0 (n + 1) l (l.take i) (i : Int) = some l := by
  intro n
  induction n with
  | zero =>
    intro i h
    unfold stoaref01_Copy.l0
    rw [if_neg (by omega), List.take_of_length_le (by omega)]
  | succ n ih =>
    intro i h
    unfold stoaref01_Copy.l0
    rw [if_pos (by omega), if_pos (by omega), if_pos (by rw [List.length_take]; omega), rd_at (by omega), take_snoc l i (by omega), w64s i (by omega)]
    exact ih (i + 1) (by omega)
theorem drop_yes {α : Type} [DecidableEq α] (a b : List α) (i : Nat) (ha : i < a.length) (hb : i < b.length) (h : a[i] = b[i]) : decide (a.drop i = b.drop i) = decide (a.drop (i + 1) = b.drop (i + 1)) := by
  have e1 := List.drop_eq_getElem_cons ha
  have e2 := List.drop_eq_getElem_cons hb
  rw [decide_eq_decide, e1, e2, h]
  exact ⟨fun h => (List.cons.inj h).2, fun h => by rw [h]⟩
theorem drop_no {α : Type} [DecidableEq α] (a b : List α) (i : Nat) (ha : i < a.length) (hb : i < b.length) (h : a[i] ≠ b[i]) : decide (a.drop i = b.drop i) = false := by
  have e1 := List.drop_eq_getElem_cons ha
  have e2 := List.drop_eq_getElem_cons hb
  rw [decide_eq_false_iff_not, e1, e2]
  exact fun h' => h (List.cons.inj h').1
theorem same_l0 (a b : List Int) (hab : a.length = b.length) (hl : a.length < 9223372036854775807) : ∀ n i, i + n = a.length → stoaref01_Same.l0 (n + 1) a b (i : Int) = some (decide (a.drop i = b.drop i)) := by
  intro n
  induction n with
  | zero =>
    intro i h
    unfold stoaref01_Same.l0
    rw [if_neg (by omega), List.drop_of_length_le (by omega), List.drop_of_length_le (by omega)]
    simp
  | succ n ih =>
    intro i h
    unfold stoaref01_Same.l0
    rw [if_pos (by omega), if_pos (by omega), if_pos (by omega), rd_at (by omega), rd_at (by omega)]
    by_cases he : a[i]'(by omega) = b[i]'(by omega)
    · rw [if_pos he, w64s i (by omega), ih (i + 1) (by omega), drop_yes a b i (by omega) (by omega) he]
    · rw [if_neg he, drop_no a b i (by omega) (by omega) he]
theorem same_law (a b : List Int) (hl : a.length < 9223372036854775807) : stoaref01_Same.f (a.length + 1) a b = some (decide (a = b)) := by
  unfold stoaref01_Same.f
  by_cases h : a.length = b.length
  · rw [if_pos (by omega)]
    exact same_l0 a b h hl a.length 0 (by omega)
  · rw [if_neg (by omega)]
    have : ¬ a = b := fun e => h (by rw [e])
    simp [this]
theorem piece_l0 (l : List Int) (n : Nat) (hn : n ≤ l.length) (hl : l.length ≤ 140737488355328) : ∀ m i, i + m = n → stoaref01_Piece.l0 (m + 1) l (n : Int) (l.take i) (i : Int) = some (l.take n) := by
  intro m
  induction m with
  | zero =>
    intro i h
    obtain rfl : i = n := by omega
    unfold stoaref01_Piece.l0
    by_cases h1 : (i : Int) < l.length
    · rw [if_pos h1, if_neg (by omega)]
    · rw [if_neg h1]
  | succ m ih =>
    intro i h
    unfold stoaref01_Piece.l0
    rw [if_pos (by omega), if_pos (by omega), if_pos (by omega), if_pos (by rw [List.length_take]; omega), rd_at (by omega), take_snoc l i (by omega), w64s i (by omega)]
    exact ih (i + 1) (by omega)
theorem piece_law (l : List Int) (n : Nat) (hn : n ≤ l.length) (hl : l.length ≤ 140737488355328) : stoaref01_Piece.f (n + 2) l 0 n = some (l.take n) := by
  unfold stoaref01_Piece.f
  rw [Option.bind_some, if_neg (by omega)]
  unfold stoaref01_Piece.j0
  exact piece_l0 l n hn hl n 0 (by omega)
end Go.Proofs.YtgcpiofpjogjcaaGreatDoor.PK
end
section
/-
  Arguments of any kind opened: a kind's cells out of what the claim says of a value.
-/
namespace Go.Proofs.YtgcpiofpjogjcaaGreatDoor.PK
open Go.ChangeShapes Go.WideShapes Go.ChangeAt Go.RowKit Go.Deep Go.Proofs.YtgcpiofpjogjcaaGreatDoorW.PrintWords
set_option linter.unusedVariables false
set_option linter.unusedSimpArgs false

theorem reachBytes_eq : reachBytes = 140737488351232 := by decide
theorem list_of {α : Type} {Q : Nat → α → Prop} : ∀ n, (∀ i, i < n → ∃ y, Q i y) → ∃ l : List α, l.length = n ∧ ∀ i y, l[i]? = some y → Q i y
  | 0, _ => ⟨[], rfl, fun i y h => (by simp at h)⟩
  | n + 1, h => by
    obtain ⟨l, h1, h2⟩ := list_of n (fun i hi => h i (by omega))
    obtain ⟨y, hy⟩ := h n (by omega)
    refine ⟨l ++ [y], by simp [h1], fun i z hz => ?_⟩
    by_cases hi : i < n
    · rw [List.getElem?_append_left (by omega)] at hz
      exact h2 i z hz
    · have : i = n := by
        have := (List.getElem?_eq_some_iff.1 hz).1
        simp [h1] at this
        omega
      subst this
      rw [List.getElem?_append_right (by omega), h1, Nat.sub_self] at hz
      simp at hz
      exact hz ▸ hy
section
variable {P : Program} {W : World}
/-- What the claim says of a value of type t gives kind k's cells, with G. -/
def Opens (P : Program) (W : World) {α : Type} (t : TypeId) (k : Kd α) (G : α → Prop) : Prop :=
  ∀ (H : Type) (enc : TypeId × Value → H) (fuel : Nat) (cs : List Value) (x : DataW H × List MemPlace), DataW.trod enc P W 0 (fun _ => true) true fuel t cs = some x → (x.1.weights P t).all (· ≤ reachBytes) = true → ∃ a, k.K W a cs ∧ G a
theorem Opens.imp {α : Type} {t : TypeId} {k : Kd α} {G G' : α → Prop} (h : Opens P W t k G) (hi : ∀ a, G a → G' a) : Opens P W t k G' := fun H enc fuel cs x hx hw => by
  obtain ⟨a, h1, h2⟩ := h H enc fuel cs x hx hw
  exact ⟨a, h1, hi a h2⟩
theorem opens_int {t : TypeId} {q : IntKind} (ht : P.underlying t = some (.int q)) : Opens P W t (Kd.int q) (fun n => (Lit.int q n).wf = true) := by
  intro H enc fuel cs x hx hw
  cases fuel with
  | zero => simp [DataW.trod] at hx
  | succ fuel =>
    unfold DataW.trod at hx
    rw [ht] at hx
    split at hx <;> simp_all
    rename_i k' n h1
    obtain ⟨⟨rfl, h2⟩, _⟩ := hx
    exact ⟨n, rfl, h2⟩
theorem opens_string {t : TypeId} (ht : P.underlying t = some .string) : Opens P W t Kd.string (fun s => s.size ≤ 9223372036854775807) := by
  intro H enc fuel cs x hx hw
  cases fuel with
  | zero => simp [DataW.trod] at hx
  | succ fuel =>
    unfold DataW.trod at hx
    rw [ht] at hx
    split at hx <;> simp_all
    rename_i s
    exact ⟨_, rfl, hx.1⟩
theorem weightsAll_mem {H : Type} {e : TypeId} : ∀ {l : List (DataW H)} {d : DataW H}, d ∈ l → ∀ n ∈ d.weights P e, n ∈ DataW.weightsAll P e l
  | [], d, hd, n, hn => by cases hd
  | d0 :: l, d, hd, n, hn => by
    rw [DataW.weightsAll, List.mem_append]
    rcases List.mem_cons.1 hd with rfl | hd
    · exact .inl hn
    · exact .inr (weightsAll_mem hd n hn)
theorem opens_slice {α : Type} {t e : TypeId} {k : Kd α} {G : α → Prop} {B : Nat} (ht : P.underlying t = some (.slice e)) (hk : Opens P W e k G) (hc : P.cellsOf e = k.sz) (hB : P.bytesOf e = B) : Opens P W t (Kd.slice e k) (fun l => (∀ a ∈ l, G a) ∧ l.length * B ≤ 140737488351232) := by
  intro H enc fuel cs x hx hw
  rcases open_slice ht hx with ⟨rfl, rfl⟩ | ⟨a, len, cap, m, n, D, Pl, rfl, _, hl, hm, hmm, rfl, hel⟩
  · exact ⟨[], ⟨none, 0, rfl, Nat.le_refl _, Kd.C_nil _ _⟩, ⟨fun a ha => (by cases ha), by simp⟩⟩
  · simp only [if_true] at hmm
    subst hmm
    simp only [DataW.weights, ht, List.length_map, List.length_range, List.all_cons, Bool.and_eq_true, decide_eq_true_eq, List.all_append] at hw
    obtain ⟨hw1, hw2, _⟩ := hw
    rw [hB] at hw1
    have hel' : ∀ i, i < len → ∃ y c, c.length = k.sz ∧ (∀ j u, c[j]? = some u → W.cell? (a.add (i * k.sz + j)) = some u) ∧ k.K W y c ∧ G y := by
      intro i hi
      obtain ⟨cs', h1, h2⟩ := hel i (by omega)
      obtain ⟨_, hlen, hcell⟩ := World.cells?_some h1
      rw [hc] at hlen hcell
      obtain ⟨y, hy, hG⟩ := hk H enc n cs' _ h2 (by
        rw [List.all_eq_true] at hw2 ⊢
        intro z hz
        exact hw2 z (weightsAll_mem (List.mem_map.2 ⟨i, List.mem_range.2 hi, rfl⟩) z hz))
      refine ⟨y, cs', hlen, fun j u hu => ?_, hy, hG⟩
      have hj : j < k.sz := by rw [← hlen]; exact (List.getElem?_eq_some_iff.1 hu).1
      have := hcell j hj
      rw [hu] at this
      rw [← this]
      congr 1
      exact (Go.Deep.add_add _ _ _).symm
    obtain ⟨l, hll, hlq⟩ := list_of len hel'
    refine ⟨l, ⟨some a, m, by rw [hll], by omega, ⟨rfl, by rw [hll]; unfold maxLen at hm; omega, fun _ => ⟨a, rfl, fun j p hj => ?_⟩⟩⟩, fun y hy => ?_, ?_⟩
    · obtain ⟨c, h1, h2, h3, _⟩ := hlq j p hj
      exact ⟨c, h1, h3, h2⟩
    · obtain ⟨j, hj, rfl⟩ := List.mem_iff_getElem.1 hy
      exact (hlq j _ (List.getElem?_eq_getElem hj)).choose_spec.2.2.2
    · rw [hll]
      have := reachBytes_eq
      refine Nat.le_trans (Nat.mul_le_mul_right _ (show len ≤ len + (m - len) by omega)) (by omega)
/-- A run of a struct's fields, from an offset on. -/
def OpensL (P : Program) (W : World) {α : Type} (fs : List Field) (off : Nat) (k : Kd α) (G : α → Prop) : Prop :=
  ∀ (H : Type) (enc : TypeId × Value → H) (n : Nat) (cs : List Value) (xs : List (DataW H × List MemPlace)), off + k.sz ≤ cs.length → xs.length = fs.length → (∀ (i : Nat) (f : Field), fs[i]? = some f → DataW.trod enc P W 0 (fun _ => true) true n f.type ((cs.drop f.offset).take (P.cellsOf f.type)) = xs[i]?) →
    (DataW.weightsEach P (fs.map (·.type)) (xs.map (·.1))).all (· ≤ reachBytes) = true → ∃ a, k.K W a ((cs.drop off).take k.sz) ∧ G a
theorem opensL_one {α : Type} {f : Field} {off : Nat} {k : Kd α} {G : α → Prop} (h : Opens P W f.type k G) (ho : f.offset = off) (hc : P.cellsOf f.type = k.sz) : OpensL P W [f] off k G := by
  intro H enc n cs xs hl hx hf hw
  match xs, hx with
  | [x], _ =>
    have h0 := hf 0 f rfl
    rw [ho, hc] at h0
    simp only [List.map_cons, List.map_nil, DataW.weightsEach, List.append_nil] at hw
    exact h H enc n _ x h0 hw
theorem opensL_cons {α β : Type} {f : Field} {r : List Field} {off : Nat} {k : Kd α} {G : α → Prop} {kr : Kd β} {Gr : β → Prop} (h : Opens P W f.type k G) (ho : f.offset = off) (hc : P.cellsOf f.type = k.sz) (hr : OpensL P W r (off + k.sz) kr Gr) : OpensL P W (f :: r) off (Kd.pair k kr) (fun p => G p.1 ∧ Gr p.2) := by
  intro H enc n cs xs hl hx hf hw
  match xs, hx with
  | x :: xs, hx =>
    have h0 := hf 0 f rfl
    rw [ho, hc] at h0
    simp only [List.map_cons, DataW.weightsEach, List.all_append, Bool.and_eq_true] at hw
    have hsz : (Kd.pair k kr).sz = k.sz + kr.sz := rfl
    rw [hsz] at hl ⊢
    obtain ⟨a, ha, hG⟩ := h H enc n _ x h0 hw.1
    obtain ⟨b, hb, hGr⟩ := hr H enc n cs xs (by omega) (by simpa using hx) (fun i g hg => hf (i + 1) g hg) hw.2
    refine ⟨(a, b), ⟨_, _, ?_, ha, hb⟩, hG, hGr⟩
    rw [List.take_add, List.drop_drop]
theorem opens_struct {α : Type} {t : TypeId} {fs : Array Field} {k : Kd α} {G : α → Prop} (ht : P.underlying t = some (.struct fs)) (hc : P.cellsOf t = k.sz) (h : OpensL P W fs.toList 0 k G) : Opens P W t k G := by
  intro H enc fuel cs x hx hw
  obtain ⟨xs, n, _, rfl, hl, hlen, hf⟩ := DataW.trod_struct ht hx
  rw [hc] at hl
  simp only [DataW.weights, ht] at hw
  obtain ⟨a, ha, hG⟩ := h H enc n cs xs (by omega) (by simpa using hlen) (fun i f hi => hf i f (by simpa using hi)) hw
  rw [List.drop_zero, List.take_of_length_le (by omega)] at ha
  exact ⟨a, ha, hG⟩
/-- A variable's value opened. -/
theorem open_var {α : Type} {H : Type} {enc : TypeId × Value → H} {t : TypeId} {k : Kd α} {G : α → Prop} (h : Opens P W t k G) {ts : List TypeId} {ds : List (DataW H)} {j : Nat} {d : DataW H} {v : Value} {ps : List MemPlace} (hsz : (DataW.weightsEach P ts ds).all (· ≤ reachBytes) = true) (ht : ts[j]? = some t) (hd : ds[j]? = some d)
    (hv : DataW.Trod enc P W 0 (fun _ => true) true t v d ps) : ∃ a, k.K W a v.cells.toList ∧ G a := by
  obtain ⟨fuel, hf⟩ := hv
  refine h H enc fuel _ _ hf ?_
  rw [List.all_eq_true] at hsz ⊢
  intro n hn
  exact hsz n (DataW.weights_mem_each ht hd n hn)
theorem slice_cells {α : Type} {e : Nat} {k : Kd α} {a : List α} {p : Option Addr} {len cap : Nat} (h : (Kd.slice e k).K W a (Value.slice p len cap).cells.toList) : len = a.length ∧ a.length ≤ cap ∧ k.C W p a.length a := by
  obtain ⟨A, c, he, hl, hC⟩ := h
  simp [Value.cells] at he
  obtain ⟨rfl, rfl, rfl⟩ := he
  exact ⟨rfl, hl, hC⟩
end
end Go.Proofs.YtgcpiofpjogjcaaGreatDoor.PK
end
section
/-
  The arguments of the laws of disk, opened: files, calls, bytes, numbers.
-/
namespace Go.Proofs.YtgcpiofpjogjcaaGreatDoor.PK
open Go.ChangeShapes Go.WideShapes Go.ChangeAt Go.RowKit Go.Deep Go.Proofs.YtgcpiofpjogjcaaGreatDoorW.PrintWords
set_option linter.unusedVariables false
set_option linter.unusedSimpArgs false
variable {W : World}

theorem byte_wf {n : Int} (h : (Lit.int .u8 n).wf = true) : 0 ≤ n ∧ n < 256 := by
  simp only [Lit.wf, IntKind.min, IntKind.max, IntKind.signed, IntKind.bits, Bool.and_eq_true, decide_eq_true_eq] at h
  simp at h
  omega
def okBytes (l : List Int) : Prop := (∀ x ∈ l, 0 ≤ x ∧ x < 256) ∧ l.length ≤ 140737488351232
theorem opens_bytes : Opens Tryz.prog W 23 (Kd.slice 5 (Kd.int .u8)) okBytes :=
  (opens_slice (B := 1) Tryz.underlying23 (opens_int Tryz.underlying5) (by kernel_rfl) (by kernel_rfl)).imp fun l h => ⟨fun x hx => byte_wf (h.1 x hx), by have := h.2; omega⟩
def okFile (p : ByteArray × List Int) : Prop := p.1.size ≤ 9223372036854775807 ∧ okBytes p.2
set_option maxRecDepth 100000 in
theorem opens_file : Opens Tryz.prog W 40 fileK okFile :=
  opens_struct Tryz.underlying40 (by kernel_rfl) (opensL_cons (opens_string Tryz.underlying9) rfl (by kernel_rfl) (opensL_one opens_bytes rfl (by kernel_rfl)))
theorem opens_files : Opens Tryz.prog W 22 (Kd.slice 40 fileK) (fun l => (∀ p ∈ l, okFile p) ∧ l.length * 40 ≤ 140737488351232) :=
  opens_slice Tryz.underlying22 opens_file (by kernel_rfl) (by kernel_rfl)
end Go.Proofs.YtgcpiofpjogjcaaGreatDoor.PK
end
section
/-
  The reference's disk: names, directories, Load: plain laws.
-/
namespace Go.Proofs.YtgcpiofpjogjcaaGreatDoor.PK
open Go.RowKit Go.Proofs.YtgcpiofpjogjcaaGreatDoorW.PrintWords Go.Proofs.YtgcpiofpjogjcaaGreatDoorW.PrintLast Go.Proofs.YtgcpiofpjogjcaaGreatDoorW.PrintMore
set_option linter.unusedVariables false
set_option linter.unusedSimpArgs false

/-! ### Names -/
def okU (b : UInt8) : Bool := (97 ≤ b.toNat && b.toNat ≤ 122) || (48 ≤ b.toNat && b.toNat ≤ 57) || b.toNat == 46 || b.toNat == 95 || b.toNat == 45
theorem okU_cut : ∀ b : UInt8, cutB.data.toList.contains b = okU b := by
  intro b
  have h : ∀ n : Fin 256, cutB.data.toList.contains (UInt8.ofNat n.val) = okU (UInt8.ofNat n.val) := by decide +kernel
  have := h ⟨b.toNat, b.toNat_lt⟩
  simpa using this
theorem dropWhile_nil {α : Type} {p : α → Bool} {l : List α} : l.dropWhile p = [] ↔ ∀ x ∈ l, p x = true := by
  induction l with
  | nil => simp
  | cons a l ih =>
    rw [List.dropWhile_cons]
    by_cases h : p a = true
    · rw [if_pos h, ih]; simp [h]
    · rw [if_neg h]; simp [h]
theorem trimS_nil (l cs : List UInt8) : Lib.trimS l cs = [] ↔ ∀ x ∈ l, cs.contains x = true := by
  unfold Lib.trimS Lib.trimLeftS Lib.trimRightS
  rw [dropWhile_nil]
  constructor
  · intro h
    have h2 : l.reverse.dropWhile (cs.contains ·) = [] := by
      cases hm : l.reverse.dropWhile (cs.contains ·) with
      | nil => rfl
      | cons a m =>
        exfalso
        have h3 := List.head?_dropWhile_not (cs.contains ·) l.reverse
        rw [hm] at h3
        simp only [List.head?_cons] at h3
        rw [hm] at h
        have := h a (by simp)
        rw [this] at h3
        cases h3
    rw [dropWhile_nil] at h2
    intro x hx
    exact h2 x (by simpa using hx)
  · intro h x hx
    rw [List.mem_reverse] at hx
    exact h x (by have := List.dropWhile_sublist (cs.contains ·) |>.subset hx; simpa using this)
theorem bad_eq (s : ByteArray) : bad s = !(decide (s.size ≠ 0) && (decide (s.size ≤ 40) && s.data.toList.all okU)) := by
  have h1 : s = ⟨#[]⟩ ↔ s.size = 0 := by
    constructor
    · rintro rfl; rfl
    · intro h
      obtain ⟨⟨l⟩⟩ := s
      have : l.length = 0 := h
      rw [List.eq_nil_of_length_eq_zero this]
  have h2 : trimmed s = ⟨#[]⟩ ↔ s.data.toList.all okU = true := by
    unfold trimmed
    have : (⟨(Lib.trimS s.data.toList cutB.data.toList).toArray⟩ : ByteArray) = ⟨#[]⟩ ↔ Lib.trimS s.data.toList cutB.data.toList = [] := by
      constructor
      · intro h
        have := congrArg (fun b : ByteArray => b.data.toList) h
        simpa using this
      · intro h; rw [h]
    rw [this, trimS_nil, List.all_eq_true]
    exact ⟨fun h x hx => by rw [← okU_cut]; exact h x hx, fun h x hx => by rw [okU_cut]; exact h x hx⟩
  unfold bad
  by_cases a1 : s.size = 0 <;> by_cases a2 : s.size ≤ 40 <;> by_cases a3 : s.data.toList.all okU = true
  all_goals simp [h1, h2, a1, a2, a3]
  all_goals (try omega)
theorem bt_at {s : ByteArray} {i : Nat} (h : i < s.size) : bt s (i : Int) = ((s.data.toList[i]'(by rw [Array.length_toList]; exact h)).toNat : Int) := by
  unfold bt
  rw [dif_pos (by simpa using h)]
  simp
  rfl
theorem named_l0 (s : ByteArray) (hs : s.size ≤ 9223372036854775806) : ∀ n i, i + n = s.size → stoaref14_Named.l0 (n + 1) s (i : Int) = some ((s.data.toList.drop i).all okU) := by
  have hlen : s.data.toList.length = s.size := by rw [Array.length_toList]; rfl
  intro n
  induction n with
  | zero =>
    intro i h
    unfold stoaref14_Named.l0
    rw [if_neg (by omega), List.drop_of_length_le (by omega)]
    rfl
  | succ n ih =>
    intro i h
    have hi : i < s.data.toList.length := by omega
    have ih := ih (i + 1) (by omega)
    unfold stoaref14_Named.l0
    rw [if_pos (by omega), if_pos (by omega), bt_at (by omega), w64s i (by omega), List.drop_eq_getElem_cons hi, List.all_cons, ih]
    generalize s.data.toList[i] = b
    have hb : okU b = true ↔ (97 ≤ (b.toNat : Int) ∧ (b.toNat : Int) ≤ 122) ∨ (48 ≤ (b.toNat : Int) ∧ (b.toNat : Int) ≤ 57) ∨ (b.toNat : Int) = 46 ∨ (b.toNat : Int) = 95 ∨ (b.toNat : Int) = 45 := by
      unfold okU
      simp only [Bool.or_eq_true, Bool.and_eq_true, decide_eq_true_eq, beq_iff_eq]
      omega
    by_cases hk : okU b = true
    · rw [hk, Bool.true_and]
      have h1 := hb.1 hk
      repeat' split
      all_goals first | rfl | (exfalso; omega)
    · have h1 := fun h => hk (hb.2 h)
      rw [Bool.eq_false_iff.2 hk, Bool.false_and]
      repeat' split
      all_goals first | rfl | (exfalso; exact h1 (by omega))
theorem named_law (s : ByteArray) : Ev (fun k => stoaref14_Named.f k s) (!bad s) := by
  refine Ev.of (fun k => stoaref14_Named.mono s k) (k := s.size + 2) ?_
  rw [bad_eq, Bool.not_not]
  unfold stoaref14_Named.f
  have j1 : stoaref14_Named.j0 (s.size + 2) s true = some false := by unfold stoaref14_Named.j0; rfl
  have j2 : stoaref14_Named.j0 (s.size + 2) s false = stoaref14_Named.l0 (s.size + 1) s 0 := by
    rw [show s.size + 2 = (s.size + 1) + 1 from rfl]
    simp only [stoaref14_Named.j0]
    rfl
  by_cases h1 : s.size = 0
  · rw [if_pos (by omega), j1]
    simp [h1]
  · rw [if_neg (by omega)]
    by_cases h2 : s.size ≤ 40
    · have h0 : stoaref14_Named.l0 (s.size + 1) s 0 = _ := named_l0 s (by omega) s.size 0 (by omega)
      rw [show decide ((s.size : Int) > 40) = false from by simp; omega, j2, h0]
      simp [h1, h2]
    · rw [show decide ((s.size : Int) > 40) = true from by simp; omega, j1]
      simp [h1, h2]
end Go.Proofs.YtgcpiofpjogjcaaGreatDoor.PK
end
section
/-
  Plan, Power, Twin, Alike, and one step of a script: walked.
-/
namespace Go.Proofs.YtgcpiofpjogjcaaGreatDoor.PK
open Go.RowKit Go.Maps Go.Sort Go.Proofs.YtgcpiofpjogjcaaGreatDoorW.PrintWords Go.Proofs.YtgcpiofpjogjcaaGreatDoorW.PrintLast Go.Proofs.YtgcpiofpjogjcaaGreatDoorW.PrintMore
open Go.Op (binOp)
set_option linter.unusedVariables false
set_option linter.unusedSimpArgs false
variable {own : Nat → Prop} {w w' : World}

/-! ### Twin, Alike -/
def toF (p : ByteArray × List Int) : S40 := ⟨p.1, p.2⟩
def prF (p : S40) : ByteArray × List Int := (p.f0, p.f1)
theorem prF_toF (l : List (ByteArray × List Int)) : (l.map toF).map prF = l := by rw [List.map_map]; exact (List.map_congr_left (fun _ _ => rfl)).trans (List.map_id _)
theorem fileC_toF {A : Option Addr} {n : Nat} {fs : List (ByteArray × List Int)} (h : fileK.C w A n fs) : Kd.C k40 w A n (fs.map toF) := by
  refine ⟨by rw [List.length_map]; exact h.1, h.2.1, fun hp => ?_⟩
  obtain ⟨ad, rfl, hr⟩ := h.2.2 hp
  refine ⟨ad, rfl, fun j p hj => ?_⟩
  rw [List.getElem?_map] at hj
  obtain ⟨q, hq, rfl⟩ := Option.map_eq_some_iff.1 hj
  exact hr j q hq
theorem fileC_ofF {A : Option Addr} {n : Nat} {fs : List S40} (h : Kd.C k40 w A n fs) : fileK.C w A n (fs.map prF) := by
  refine ⟨by rw [List.length_map]; exact h.1, h.2.1, fun hp => ?_⟩
  obtain ⟨ad, rfl, hr⟩ := h.2.2 hp
  refine ⟨ad, rfl, fun j p hj => ?_⟩
  rw [List.getElem?_map] at hj
  obtain ⟨q, hq, rfl⟩ := Option.map_eq_some_iff.1 hj
  exact hr j q hq
theorem Ev.to {α : Type} {g : Nat → Option α} {r r' : α} (h : Ev g r) (e : r = r') : Ev g r' := e ▸ h
theorem rdF_at {l : List S40} {i : Nat} (h : i < l.length) : rd_T40 l (i : Int) = l[i] := by unfold rd_T40; rw [Int.toNat_natCast, List.getD_eq_getElem?_getD, List.getElem?_eq_getElem h, Option.getD_some]
theorem copy_ev (l : List Int) (hl : l.length ≤ 140737488355328) : Ev (fun k => stoaref01_Copy.f k l) l := ⟨l.length + 1, fun k hk => up (fun k => stoaref01_Copy.mono l k) (copy_l0 l hl l.length 0 (by omega)) k hk⟩
theorem same_ev (a b : List Int) (hl : a.length < 9223372036854775807) : Ev (fun k => stoaref01_Same.f k a b) (decide (a = b)) := ⟨a.length + 1, fun k hk => up (fun k => stoaref01_Same.mono a b k) (same_law a b hl) k hk⟩
theorem twin_l0 (l : List S40) (hl : l.length < 3518437208883) (hs : ∀ p ∈ l, p.f1.length ≤ 140737488355328) : ∀ (n i : Nat) (out : List S40), i + n = l.length → out.length + n ≤ 3518437208882 → Ev (fun k => stoaref14_Twin.l0 k l out (i : Int)) (out ++ l.drop i) := by
  intro n
  induction n with
  | zero =>
    intro i out h ho
    refine Ev.step (f := fun _ => some out) (fun k => ?_) ?_
    · rw [stoaref14_Twin.l0, if_neg (by omega)]
    · rw [List.drop_of_length_le (by omega), List.append_nil]; exact Ev.now _
  | succ n ih =>
    intro i out h ho
    have hi : i < l.length := by omega
    have hx := hs _ (List.getElem_mem hi)
    refine Ev.step (f := fun k => (stoaref01_Copy.f k l[i].f1).bind fun t => stoaref14_Twin.l0 k l (out ++ [⟨l[i].f0, t⟩]) ((i + 1 : Nat) : Int)) (fun k => ?_) ?_
    · rw [stoaref14_Twin.l0, if_pos (by omega), if_pos (by omega), rdF_at hi, w64s i (by omega)]
      congr 1
      funext t
      rw [if_pos (by omega)]
    · refine Ev.bind (copy_ev _ hx) ?_
      rw [List.drop_eq_getElem_cons hi]
      exact Ev.to (ih (i + 1) (out ++ [l[i]]) (by omega) (by rw [List.length_append, List.length_singleton]; omega)) (by simp)
theorem twin_any (A : Option Addr) (c : Nat) (fs : List (ByteArray × List Int)) (w : World) (h : fileK.C w A fs.length fs) (hc : fs.length ≤ c) (hl : fs.length < 3518437208883) (hs : ∀ p ∈ fs, p.2.length ≤ 140737488355328) :
    Calls Tryz.prog 7 #[.slice A fs.length c] w fun e w' => ∃ v, e = .returned v ∧ Kd.S k40 40 w' w.heap.size (fun _ => True) v (fs.map toF) ∧ Below w.heap.size w w' := by
  have hlen : (fs.map toF).length = fs.length := List.length_map ..
  obtain ⟨k, hk⟩ := (show Ev (fun k => stoaref14_Twin.f k (fs.map toF)) (fs.map toF) from by
    have := twin_l0 (fs.map toF) (by omega) (by intro p hp; obtain ⟨q, hq, rfl⟩ := List.mem_map.1 hp; exact hs q hq) (fs.map toF).length 0 [] (by omega) (by simp; omega)
    exact Ev.to this (by simp)).rounds
  have := stoaref14_Twin.calls k A c (fs.map toF) (fs.map toF) w (by rw [hlen]; exact fileC_toF h) (by omega) hk
  rw [hlen] at this
  exact this
/-- Are two lists of files the same? -/
def alikeB (a b : List S40) : Bool := decide (a.map (fun p => (p.f0.toList, p.f1)) = b.map (fun p => (p.f0.toList, p.f1)))
theorem alikeB_cons (x y : S40) (r s : List S40) : alikeB (x :: r) (y :: s) = (decide (x.f0.toList = y.f0.toList ∧ x.f1 = y.f1) && alikeB r s) := by
  unfold alikeB
  rw [List.map_cons, List.map_cons]
  by_cases h1 : x.f0.toList = y.f0.toList <;> by_cases h2 : x.f1 = y.f1 <;> simp [h1, h2]
theorem alike_l0 (a b : List S40) (hab : a.length = b.length) (hl : a.length < 9223372036854775807) (hs : ∀ p ∈ a, p.f1.length < 9223372036854775807) : ∀ n i : Nat, i + n = a.length → Ev (fun k => stoaref14_Alike.l0 k a b (i : Int)) (alikeB (a.drop i) (b.drop i)) := by
  intro n
  induction n with
  | zero =>
    intro i h
    refine Ev.step (f := fun _ => some true) (fun k => ?_) ?_
    · rw [stoaref14_Alike.l0, if_neg (by omega)]
    · rw [List.drop_of_length_le (by omega), List.drop_of_length_le (by omega)]; exact Ev.now _
  | succ n ih =>
    intro i h
    have hi : i < a.length := by omega
    have hj : i < b.length := by omega
    have hx := hs _ (List.getElem_mem hi)
    rw [List.drop_eq_getElem_cons hi, List.drop_eq_getElem_cons hj]
    by_cases he : a[i].f0.toList = b[i].f0.toList
    · refine Ev.step (f := fun k => (stoaref01_Same.f k a[i].f1 b[i].f1).bind fun t => if t = true then stoaref14_Alike.l0 k a b ((i + 1 : Nat) : Int) else some false) (fun k => ?_) ?_
      · rw [stoaref14_Alike.l0, if_pos (by omega), if_pos (by omega), if_pos (by omega), rdF_at hi, rdF_at hj, if_pos he, w64s i (by omega)]
      · refine Ev.bind (same_ev _ _ hx) ?_
        by_cases h2 : a[i].f1 = b[i].f1
        · refine Ev.congr (fun k => if_pos (by simpa using h2)) (Ev.to (ih (i + 1) (by omega)) ?_)
          rw [alikeB_cons, decide_eq_true ⟨he, h2⟩, Bool.true_and]
        · refine Ev.congr (fun k => if_neg (by simpa using h2)) (Ev.to (Ev.now false) ?_)
          rw [alikeB_cons, decide_eq_false (fun e => h2 e.2), Bool.false_and]
    · refine Ev.step (f := fun _ => some false) (fun k => ?_) (Ev.to (Ev.now false) ?_)
      · rw [stoaref14_Alike.l0, if_pos (by omega), if_pos (by omega), if_pos (by omega), rdF_at hi, rdF_at hj, if_neg he]
      · rw [alikeB_cons, decide_eq_false (fun e => he e.1), Bool.false_and]
theorem alike_law (a b : List S40) (hl : a.length < 9223372036854775807) (hs : ∀ p ∈ a, p.f1.length < 9223372036854775807) : Ev (fun k => stoaref14_Alike.f k a b) (alikeB a b) := by
  unfold stoaref14_Alike.f
  by_cases h : a.length = b.length
  · refine Ev.congr (fun k => if_pos (by omega)) ?_
    have := alike_l0 a b h hl hs a.length 0 (by omega)
    rw [List.drop_zero, List.drop_zero] at this
    exact this
  · refine Ev.congr (fun k => if_neg (by omega)) (Ev.to (Ev.now false) ?_)
    unfold alikeB
    symm
    rw [decide_eq_false_iff_not]
    intro e
    have := congrArg List.length e
    simp at this
    exact h this
theorem alike_any (A B : Option Addr) (c d : Nat) (a b : List S40) (w : World) (h : Kd.C k40 w A a.length a) (hc : a.length ≤ c) (h2 : Kd.C k40 w B b.length b) (hd : b.length ≤ d) (hl : a.length < 9223372036854775807) (hs : ∀ p ∈ a, p.f1.length < 9223372036854775807) :
    Calls Tryz.prog 19 #[.slice A a.length c, .slice B b.length d] w fun e w' => e = .returned (.bool (alikeB a b)) ∧ Drawn0 w w' := by
  obtain ⟨k, hk⟩ := (alike_law a b hl hs).rounds
  exact stoaref14_Alike.calls k A c a B d b _ w h hc h2 hd hk
end Go.Proofs.YtgcpiofpjogjcaaGreatDoor.PK
end
section
/-
  The reference's disk without changes: Find, refuse, with, body, Load: plain laws.
-/
namespace Go.Proofs.YtgcpiofpjogjcaaGreatDoor.PK
open Go.RowKit Go.Proofs.YtgcpiofpjogjcaaGreatDoorW.PrintWords Go.Proofs.YtgcpiofpjogjcaaGreatDoorW.PrintLast Go.Proofs.YtgcpiofpjogjcaaGreatDoorW.PrintMore
set_option linter.unusedVariables false
set_option linter.unusedSimpArgs false


theorem rdE_at {dir : List S93} {i : Nat} (h : i < dir.length) : rd_T93 dir (i : Int) = dir[i] := by unfold rd_T93; rw [Int.toNat_natCast, List.getD_eq_getElem?_getD, List.getElem?_eq_getElem h, Option.getD_some]
theorem rdB_at {bs : List S54} {i : Nat} (h : i < bs.length) : rd_T54 bs (i : Int) = bs[i] := by unfold rd_T54; rw [Int.toNat_natCast, List.getD_eq_getElem?_getD, List.getElem?_eq_getElem h, Option.getD_some]


/-! ### Find -/
/-- The number of a name's file. -/
def findE (dir : List S93) (s : ByteArray) : Int := match dir.find? (fun e => e.f0.toList == s.toList) with | some e => e.f1 | none => -1
def hasE (dir : List S93) (s : ByteArray) : Bool := dir.any fun e => e.f0.toList == s.toList
/-- Numbers that may stand in a directory. -/
def Ids (dir : List S93) : Prop := ∀ e ∈ dir, 0 ≤ e.f1
theorem findE_has {dir : List S93} (h : Ids dir) (s : ByteArray) : hasE dir s = decide (0 ≤ findE dir s) := by
  unfold hasE findE
  induction dir with
  | nil => simp
  | cons e r ih =>
    have ih := ih (fun x hx => h x (List.mem_cons_of_mem _ hx))
    rw [List.any_cons]
    by_cases he : e.f0.toList = s.toList
    · rw [List.find?_cons_of_pos (by simpa using he)]
      have := h e (List.mem_cons_self ..)
      simp [he, this]
    · rw [List.find?_cons_of_neg (by simpa using he), ← ih]
      simp [he]
theorem find_l0 (s : ByteArray) (dir : List S93) (hl : dir.length < 9223372036854775807) : ∀ n i : Nat, i + n = dir.length → Ev (fun k => stoaref14_Find.l0 k s dir (i : Int)) (findE (dir.drop i) s) := by
  intro n
  induction n with
  | zero =>
    intro i h
    refine Ev.step (f := fun _ => some (-1)) (fun k => ?_) ?_
    · rw [stoaref14_Find.l0, if_neg (by omega)]
    · rw [List.drop_of_length_le (by omega)]; exact Ev.now _
  | succ n ih =>
    intro i h
    have hi : i < dir.length := by omega
    rw [List.drop_eq_getElem_cons hi]
    by_cases he : dir[i].f0.toList = s.toList
    · refine Ev.step (f := fun _ => some (dir[i].f1)) (fun k => ?_) ?_
      · rw [stoaref14_Find.l0, if_pos (by omega), if_pos (by omega), rdE_at hi, if_pos he]
      · unfold findE
        rw [List.find?_cons_of_pos (by simpa using he)]
        exact Ev.now _
    · refine Ev.step (f := fun k => stoaref14_Find.l0 k s dir ((i + 1 : Nat) : Int)) (fun k => ?_) ?_
      · rw [stoaref14_Find.l0, if_pos (by omega), if_pos (by omega), rdE_at hi, if_neg he, w64s i (by omega)]
      · unfold findE
        rw [List.find?_cons_of_neg (by simpa using he)]
        exact ih (i + 1) (by omega)
theorem after_nil (bs : List S54) (dir : List S93) (room : Int) (pl : List S69) (st : Int) (off : Bool) (n : Int) : Ev (fun k => stoaref14_After.f k bs dir [] room pl st off n) dir := by
  unfold stoaref14_After.f
  refine Ev.step (f := fun k => stoaref14_After.j1 k n dir 0 false bs dir [] room pl st off) (fun k => ?_) (Ev.step (f := fun _ => some dir) (fun k => ?_) (Ev.now _))
  · rw [stoaref14_After.l0, if_neg (by simp)]
  · rw [stoaref14_After.j1, if_neg (by simp)]
theorem now_nil (bs : List S54) (dir : List S93) (room : Int) (pl : List S69) (st : Int) (off : Bool) : Ev (fun k => stoaref14_Now.f k bs dir [] room pl st off) dir := by
  unfold stoaref14_Now.f
  exact Ev.bind (after_nil bs dir room pl st off _) (Ev.now _)
theorem find_nil (bs : List S54) (dir : List S93) (room : Int) (pl : List S69) (st : Int) (off : Bool) (s : ByteArray) (hl : dir.length < 9223372036854775807) : Ev (fun k => stoaref14_Find.f k bs dir [] room pl st off s) (findE dir s) := by
  unfold stoaref14_Find.f
  exact Ev.bind (now_nil bs dir room pl st off) (by have := find_l0 s dir hl dir.length 0 (by omega); rw [List.drop_zero] at this; exact this)

/-! ### refuse -/
def refuseE (dir : List S93) (s : ByteArray) : Int := if bad s then 145 else if hasE dir s then 144 else if 400 ≤ dir.length then 142 else 0
theorem refuse_nil (bs : List S54) (dir : List S93) (room : Int) (pl : List S69) (st : Int) (off : Bool) (s : ByteArray) (hi : Ids dir) (hl : dir.length < 9223372036854775807) : Ev (fun k => stoaref14_refuse.f k bs dir [] room pl st off s) (refuseE dir s) := by
  unfold stoaref14_refuse.f refuseE
  refine Ev.bind (named_law s) ?_
  cases hb : bad s
  · rw [if_neg (show ¬ (false = true) from by simp)]
    refine Ev.congr (fun k => if_pos rfl) (Ev.bind (find_nil bs dir room pl st off s hl) ?_)
    rw [findE_has hi s]
    by_cases h1 : 0 ≤ findE dir s
    · rw [if_pos (by simpa using h1)]
      exact Ev.congr (fun k => if_pos h1) (Ev.now _)
    · rw [if_neg (by simpa using h1)]
      refine Ev.congr (fun k => if_neg h1) (Ev.bind (now_nil bs dir room pl st off) ?_)
      by_cases h2 : 400 ≤ dir.length
      · rw [if_pos h2]
        exact Ev.congr (fun k => if_pos (by omega)) (Ev.now _)
      · rw [if_neg h2]
        exact Ev.congr (fun k => if_neg (by omega)) (Ev.now _)
  · rw [if_pos rfl]
    exact Ev.congr (fun k => if_neg (by simp)) (Ev.now _)

/-! ### with -/
def withoutE (dir : List S93) (s : ByteArray) : List S93 := dir.filter fun e => !(e.f0.toList == s.toList)
def insE (x : S93) : List S93 → List S93
  | [] => [x]
  | y :: r => if Op.bytesLess x.f0.toList y.f0.toList = true then x :: y :: r else y :: insE x r
theorem without_l0 (dir : List S93) (s : ByteArray) (hl : dir.length < 1099511627776) : ∀ (n i : Nat) (out : List S93), i + n = dir.length → out.length + n ≤ 1099511627776 → Ev (fun k => stoaref14_without.l0 k dir s out (i : Int)) (out ++ withoutE (dir.drop i) s) := by
  intro n
  induction n with
  | zero =>
    intro i out h ho
    refine Ev.step (f := fun _ => some out) (fun k => ?_) ?_
    · rw [stoaref14_without.l0, if_neg (by omega)]
    · rw [List.drop_of_length_le (by omega)]
      unfold withoutE
      rw [List.filter_nil, List.append_nil]
      exact Ev.now _
  | succ n ih =>
    intro i out h ho
    have hi : i < dir.length := by omega
    rw [List.drop_eq_getElem_cons hi]
    by_cases he : dir[i].f0.toList = s.toList
    · refine Ev.step (f := fun k => stoaref14_without.l0 k dir s out ((i + 1 : Nat) : Int)) (fun k => ?_) ?_
      · rw [stoaref14_without.l0, if_pos (by omega), if_pos (by omega), rdE_at hi, if_pos he, w64s i (by omega)]
      · unfold withoutE
        rw [List.filter_cons_of_neg (by simpa using he)]
        exact ih (i + 1) out (by omega) (by omega)
    · refine Ev.step (f := fun k => stoaref14_without.l0 k dir s (out ++ [dir[i]]) ((i + 1 : Nat) : Int)) (fun k => ?_) ?_
      · rw [stoaref14_without.l0, if_pos (by omega), if_pos (by omega), rdE_at hi, if_neg he, if_pos (by omega), w64s i (by omega)]
      · unfold withoutE
        rw [List.filter_cons_of_pos (by simpa using he)]
        exact Ev.to (ih (i + 1) (out ++ [dir[i]]) (by omega) (by rw [List.length_append]; simp; omega)) (by simp [withoutE])
theorem withoutE_not {dir : List S93} {s : ByteArray} (h : hasE dir s = false) : withoutE dir s = dir := by
  unfold withoutE
  rw [List.filter_eq_self]
  intro e he
  unfold hasE at h
  rw [List.any_eq_false] at h
  simpa using h e he
theorem with_done (s : ByteArray) (id : Int) (dir : List S93) (hl : dir.length < 1099511627776) : ∀ (n i : Nat) (out : List S93), i + n = dir.length → out.length + n ≤ 1099511627777 → Ev (fun k => stoaref14_with.l0 k s id dir out true (i : Int)) (out ++ dir.drop i) := by
  intro n
  induction n with
  | zero =>
    intro i out h ho
    refine Ev.step (f := fun _ => some out) (fun k => ?_) ?_
    · rw [stoaref14_with.l0, if_neg (by omega), if_pos rfl]
    · rw [List.drop_of_length_le (by omega), List.append_nil]
      exact Ev.now _
  | succ n ih =>
    intro i out h ho
    have hi : i < dir.length := by omega
    rw [List.drop_eq_getElem_cons hi]
    refine Ev.step (f := fun k => stoaref14_with.l0 k s id dir (out ++ [dir[i]]) true ((i + 1 : Nat) : Int)) (fun k => ?_) ?_
    · rw [stoaref14_with.l0, if_pos (by omega), if_pos rfl, if_pos (by omega), if_pos (by omega), rdE_at hi, w64s i (by omega)]
    · exact Ev.to (ih (i + 1) (out ++ [dir[i]]) (by omega) (by rw [List.length_append]; simp; omega)) (by simp)
theorem with_l0 (s : ByteArray) (id : Int) (dir : List S93) (hl : dir.length < 1099511627776) : ∀ (n i : Nat) (out : List S93), i + n = dir.length → out.length + n ≤ 1099511627776 → Ev (fun k => stoaref14_with.l0 k s id dir out false (i : Int)) (out ++ insE ⟨s, id⟩ (dir.drop i)) := by
  intro n
  induction n with
  | zero =>
    intro i out h ho
    refine Ev.step (f := fun _ => some (out ++ [⟨s, id⟩])) (fun k => ?_) ?_
    · rw [stoaref14_with.l0, if_neg (by omega), if_neg (by simp), if_pos (by omega)]
    · rw [List.drop_of_length_le (by omega)]
      exact Ev.now _
  | succ n ih =>
    intro i out h ho
    have hi : i < dir.length := by omega
    rw [List.drop_eq_getElem_cons hi, insE]
    by_cases hb : Op.bytesLess s.toList dir[i].f0.toList = true
    · rw [if_pos hb]
      refine Ev.step (f := fun k => stoaref14_with.l0 k s id dir ((out ++ [⟨s, id⟩]) ++ [dir[i]]) true ((i + 1 : Nat) : Int)) (fun k => ?_) ?_
      · rw [stoaref14_with.l0, if_pos (by omega), if_neg (by simp), if_pos (by omega), rdE_at hi, if_pos hb, if_pos (by omega), Option.bind_some, if_pos (by rw [List.length_append, List.length_singleton]; omega), w64s i (by omega)]
      · exact Ev.to (with_done s id dir hl n (i + 1) _ (by omega) (by rw [List.length_append, List.length_append]; simp; omega)) (by simp)
    · rw [if_neg hb]
      refine Ev.step (f := fun k => stoaref14_with.l0 k s id dir (out ++ [dir[i]]) false ((i + 1 : Nat) : Int)) (fun k => ?_) ?_
      · rw [stoaref14_with.l0, if_pos (by omega), if_neg (by simp), if_pos (by omega), rdE_at hi, if_neg hb, if_pos (by omega), w64s i (by omega)]
      · exact Ev.to (ih (i + 1) (out ++ [dir[i]]) (by omega) (by rw [List.length_append]; simp; omega)) (by simp)
theorem with_law (dir : List S93) (s : ByteArray) (id : Int) (h : hasE dir s = false) (hl : dir.length < 1099511627776) : Ev (fun k => stoaref14_with.f k dir s id) (insE ⟨s, id⟩ dir) := by
  unfold stoaref14_with.f
  have h1 := without_l0 dir s hl dir.length 0 [] (by omega) (by simp; omega)
  have h2 := with_l0 s id dir hl dir.length 0 [] (by omega) (by simp; omega)
  rw [List.drop_zero, List.nil_append] at h1 h2
  rw [withoutE_not h] at h1
  exact Ev.bind h1 h2

/-! ### body -/
theorem body_l0 (bs : List S54) (dir : List S93) (cs : List S113) (room : Int) (pl : List S69) (st : Int) (off : Bool) (d : List Int) (sf : Int) (hl : bs.length < 1099511627776) : ∀ (n i : Nat) (out : List S54), i + n = bs.length → out.length + n ≤ 1099511627776 →
    Ev (fun k => stoaref14_body.l0 k out (i : Int) bs dir cs room pl st off d sf) (out ++ bs.drop i ++ [⟨d, sf⟩], dir, cs, room, pl, st, off) := by
  intro n
  induction n with
  | zero =>
    intro i out h ho
    refine Ev.step (f := fun _ => some (out ++ [⟨d, sf⟩], dir, cs, room, pl, st, off)) (fun k => ?_) ?_
    · rw [stoaref14_body.l0, if_neg (by omega), if_pos (by omega)]
    · rw [List.drop_of_length_le (by omega), List.append_nil]
      exact Ev.now _
  | succ n ih =>
    intro i out h ho
    have hi : i < bs.length := by omega
    rw [List.drop_eq_getElem_cons hi]
    refine Ev.step (f := fun k => stoaref14_body.l0 k (out ++ [bs[i]]) ((i + 1 : Nat) : Int) bs dir cs room pl st off d sf) (fun k => ?_) ?_
    · rw [stoaref14_body.l0, if_pos (by omega), if_pos (by omega), if_pos (by omega), rdB_at hi, w64s i (by omega)]
    · exact Ev.to (ih (i + 1) (out ++ [bs[i]]) (by omega) (by rw [List.length_append]; simp; omega)) (by simp)
theorem body_law (bs : List S54) (dir : List S93) (cs : List S113) (room : Int) (pl : List S69) (st : Int) (off : Bool) (d : List Int) (sf : Int) (hl : bs.length < 1099511627776) : Ev (fun k => stoaref14_body.f k bs dir cs room pl st off d sf) (bs ++ [⟨d, sf⟩], dir, cs, room, pl, st, off) := by
  unfold stoaref14_body.f
  have h := body_l0 bs dir cs room pl st off d sf hl bs.length 0 [] (by omega) (by simp; omega)
  rw [List.drop_zero, List.nil_append] at h
  exact h

/-! ### Load -/
theorem new_law (room : Int) : stoaref14_New.f room = some ([], [], [], min (max room 0) 16777216, [], 0, false) := by
  unfold stoaref14_New.f
  by_cases h1 : room < 0
  · rw [if_pos h1, if_neg (by omega), show min (max room 0) 16777216 = 0 from by omega]
  · rw [if_neg h1]
    by_cases h2 : room > 16777216
    · rw [if_pos h2, show min (max room 0) 16777216 = 16777216 from by omega]
    · rw [if_neg h2, show min (max room 0) 16777216 = room from by omega]
abbrev RefR := List S54 × List S93 × List S113 × Int × List S69 × Int × Bool × Int
def ldE (room : Int) : List S54 → List S93 → List S40 → RefR
  | bs, dir, [] => (bs, dir, [], room, [], 0, false, 0)
  | bs, dir, p :: r => if refuseE dir p.f0 = 0 then ldE room (bs ++ [⟨p.f1, p.f1.length⟩]) (insE ⟨p.f0, bs.length⟩ dir) r else ([], [], [], 0, [], 0, false, refuseE dir p.f0)
theorem insE_length (x : S93) : ∀ dir, (insE x dir).length = dir.length + 1
  | [] => rfl
  | y :: r => by rw [insE]; split <;> simp [insE_length x r]
theorem insE_mem {x e : S93} : ∀ {dir}, e ∈ insE x dir ↔ e = x ∨ e ∈ dir
  | [] => by simp [insE]
  | y :: r => by
    rw [insE]
    split
    · simp
    · rw [List.mem_cons, insE_mem (dir := r), List.mem_cons]
      constructor
      · rintro (h | h | h) <;> simp [h]
      · rintro (h | h | h) <;> simp [h]
theorem refuseE_zero {dir : List S93} {s : ByteArray} (h : refuseE dir s = 0) : bad s = false ∧ hasE dir s = false ∧ dir.length < 400 := by
  unfold refuseE at h
  split at h
  · exact absurd h (by decide)
  · split at h
    · exact absurd h (by decide)
    · split at h
      · exact absurd h (by decide)
      · rename_i h1 h2 h3
        exact ⟨by simpa using h1, by simpa using h2, by omega⟩
theorem load_l0 (room : Int) (l : List S40) (hl : l.length < 9223372036854775807) (hs : ∀ p ∈ l, p.f1.length ≤ 140737488355328) : ∀ (n i : Nat) (bs : List S54) (dir : List S93), i + n = l.length → bs.length = dir.length → dir.length ≤ 400 → Ids dir →
    Ev (fun k => stoaref14_Load.l0 k l (i : Int) bs dir [] room [] 0 false) (ldE room bs dir (l.drop i)) := by
  intro n
  induction n with
  | zero =>
    intro i bs dir h hb hd hI
    refine Ev.step (f := fun _ => some (bs, dir, [], room, [], 0, false, 0)) (fun k => ?_) ?_
    · rw [stoaref14_Load.l0, if_neg (by omega)]
    · rw [List.drop_of_length_le (by omega)]
      exact Ev.now _
  | succ n ih =>
    intro i bs dir h hb hd hI
    have hi : i < l.length := by omega
    have hx := hs _ (List.getElem_mem hi)
    rw [List.drop_eq_getElem_cons hi, ldE]
    generalize hp : l[i] = p at hx ⊢
    refine Ev.step (f := fun k => (stoaref14_refuse.f k bs dir [] room [] 0 false p.f0).bind fun t335 => (if t335 = 0 then ((stoaref01_Copy.f k p.f1).bind fun t337 => ((stoaref14_body.f k bs dir [] room [] 0 false t337 (p.f1.length : Int)).bind fun bt341 => ((stoaref14_with.f k bt341.2.1 p.f0 (wrap64 ((bt341.1.length : Int) - 1))).bind fun t357 => (stoaref14_Load.l0 k l ((i + 1 : Nat) : Int) bt341.1 t357 bt341.2.2.1 bt341.2.2.2.1 bt341.2.2.2.2.1 bt341.2.2.2.2.2.1 bt341.2.2.2.2.2.2)))) else (some (([] : List (S54)), ([] : List (S93)), ([] : List (S113)), 0, ([] : List (S69)), 0, false, t335)))) (fun k => ?_) ?_
    · rw [stoaref14_Load.l0, if_pos (by omega), if_pos (by omega), rdF_at hi, hp, w64s i (by omega)]
    · refine Ev.bind (refuse_nil bs dir room [] 0 false p.f0 hI (by omega)) ?_
      by_cases h0 : refuseE dir p.f0 = 0
      · obtain ⟨hb0, hh0, hl0⟩ := refuseE_zero h0
        rw [if_pos h0]
        refine Ev.congr (fun k => if_pos h0) (Ev.bind (a := p.f1) ⟨p.f1.length + 1, fun k hk => ?_⟩ (Ev.bind (body_law bs dir [] room [] 0 false p.f1 p.f1.length (by omega)) (Ev.bind (a := insE ⟨p.f0, bs.length⟩ dir) ?_ ?_)))
        · exact up (fun k => stoaref01_Copy.mono p.f1 k) (copy_l0 p.f1 hx p.f1.length 0 (by omega)) k hk
        · rw [show wrap64 (((bs ++ [(⟨p.f1, p.f1.length⟩ : S54)]).length : Int) - 1) = (bs.length : Int) from by rw [List.length_append, List.length_singleton, w64 (by omega) (by omega)]; omega]
          exact with_law dir p.f0 bs.length hh0 (by omega)
        · refine ih (i + 1) _ _ (by omega) (by rw [List.length_append, insE_length, List.length_singleton]; omega) (by rw [insE_length]; omega) (fun e he => ?_)
          rcases insE_mem.1 he with rfl | he
          · simp
          · exact hI e he
      · rw [if_neg h0]
        exact Ev.congr (fun k => if_neg h0) (Ev.now _)
theorem load_law (room : Int) (l : List S40) (hl : l.length < 9223372036854775807) (hs : ∀ p ∈ l, p.f1.length ≤ 140737488355328) : Ev (fun k => stoaref14_Load.f k room l) (ldE (min (max room 0) 16777216) [] [] l) := by
  unfold stoaref14_Load.f
  rw [new_law]
  refine Ev.congr (fun k => Option.bind_some _ _) ?_
  have h := load_l0 (min (max room 0) 16777216) l hl hs l.length 0 [] [] (by omega) rfl (by simp) (fun e he => by cases he)
  rw [List.drop_zero] at h
  exact h

/-! ### What it answers, and Load's answer -/
theorem less_before : ∀ a b : List UInt8, Op.bytesLess a b = bytesBefore a b
  | [], [] => rfl
  | [], _ :: _ => rfl
  | _ :: _, [] => rfl
  | a :: r, b :: s => by simp only [Op.bytesLess, bytesBefore, less_before r s]
theorem toList_key (s : ByteArray) : s.toList = key s := ByteArray.toList_eq s
/-- The reference's directory and files, as names with bytes. -/
def contE (bs : List S54) (dir : List S93) : Cont := dir.map fun e => (key e.f0, (bs.getD e.f1.toNat z54).f0)
structure RefC (bs : List S54) (dir : List S93) (c : Cont) : Prop where
  cont : contE bs dir = c
  ids : ∀ e ∈ dir, 0 ≤ e.f1 ∧ e.f1 < bs.length
  len : bs.length = dir.length
  saf : ∀ b ∈ bs, b.f1 = b.f0.length
  names : ∀ e ∈ dir, ∀ f ∈ dir, key e.f0 = key f.f0 → e = f
  once : ∀ e ∈ dir, ∀ f ∈ dir, e.f1 = f.f1 → e = f
theorem hasE_hasC {bs : List S54} {dir : List S93} {c : Cont} (h : RefC bs dir c) (s : ByteArray) : hasE dir s = hasC c (key s) := by
  rw [← h.cont]
  unfold hasE hasC contE
  rw [List.any_map]
  congr 1
  funext e
  simp only [Function.comp, toList_key]
theorem refuseE_C {bs : List S54} {dir : List S93} {c : Cont} (h : RefC bs dir c) (s : ByteArray) : refuseE dir s = refuseC c s := by
  unfold refuseE refuseC
  rw [hasE_hasC h, ← h.cont]
  simp [contE]
theorem insE_insC {bs : List S54} {s : ByteArray} {xs : List Int} {n : Int} : ∀ {dir : List S93}, (∀ e ∈ dir, 0 ≤ e.f1 ∧ e.f1 < bs.length) → contE (bs ++ [⟨xs, n⟩]) (insE ⟨s, bs.length⟩ dir) = insC (key s, xs) (contE bs dir)
  | [], _ => by simp [insE, insC, contE]
  | y :: r, h => by
    have hy := h y (List.mem_cons_self ..)
    have ih := insE_insC (bs := bs) (s := s) (xs := xs) (n := n) (dir := r) (fun p hp => h p (List.mem_cons_of_mem _ hp))
    have hold : ∀ e : S93, 0 ≤ e.f1 ∧ e.f1 < bs.length → ((bs ++ [(⟨xs, n⟩ : S54)]).getD e.f1.toNat z54) = bs.getD e.f1.toNat z54 := by
      intro e he
      rw [List.getD_eq_getElem?_getD, List.getD_eq_getElem?_getD, List.getElem?_append_left (by omega)]
    have hr : contE (bs ++ [⟨xs, n⟩]) r = contE bs r := List.map_congr_left (fun p hp => by rw [hold p (h p (List.mem_cons_of_mem _ hp))])
    rw [insE, show contE bs (y :: r) = (key y.f0, (bs.getD y.f1.toNat z54).f0) :: contE bs r from rfl, insC, less_before, toList_key, toList_key]
    by_cases hb : bytesBefore (key s) (key y.f0) = true
    · rw [if_pos hb, if_pos hb]
      show (key s, ((bs ++ [(⟨xs, n⟩ : S54)]).getD ((bs.length : Int)).toNat z54).f0) :: (key y.f0, ((bs ++ [(⟨xs, n⟩ : S54)]).getD y.f1.toNat z54).f0) :: contE (bs ++ [⟨xs, n⟩]) r = _
      rw [hold y hy, hr]
      simp
    · rw [if_neg hb, if_neg hb]
      show (key y.f0, ((bs ++ [(⟨xs, n⟩ : S54)]).getD y.f1.toNat z54).f0) :: contE (bs ++ [⟨xs, n⟩]) (insE ⟨s, bs.length⟩ r) = _
      rw [hold y hy, ih]


theorem ldE_spec (room : Int) : ∀ (l : List S40) (bs : List S54) (dir : List S93) (c : Cont), RefC bs dir c →
    (ldE room bs dir l).2.2.2.2.2.2.2 = (ldC c (l.map prF)).1 ∧ ((ldC c (l.map prF)).1 = 0 → ∃ bs' dir', ldE room bs dir l = (bs', dir', [], room, [], 0, false, 0) ∧ RefC bs' dir' (ldC c (l.map prF)).2)
  | [], bs, dir, c, h => ⟨rfl, fun _ => ⟨bs, dir, rfl, h⟩⟩
  | p :: r, bs, dir, c, h => by
    rw [ldE, List.map_cons, ldC, refuseE_C h, show (prF p).1 = p.f0 from rfl, show (prF p).2 = p.f1 from rfl]
    by_cases h0 : refuseC c p.f0 = 0
    · rw [if_pos h0, if_pos h0]
      have hh0 : hasE dir p.f0 = false := (refuseE_zero ((refuseE_C h p.f0).trans h0)).2.1
      have hnew : ∀ e ∈ dir, key e.f0 ≠ key p.f0 := fun e he hk => by
        unfold hasE at hh0
        rw [List.any_eq_false] at hh0
        exact hh0 e he (by simpa [toList_key] using hk)
      refine ldE_spec room r _ _ _ ⟨?_, ?_, ?_, ?_, ?_, ?_⟩
      · rw [insE_insC h.ids, h.cont]
      · intro e he
        rw [List.length_append, List.length_singleton]
        rcases insE_mem.1 he with rfl | he
        · simp
          omega
        · have := h.ids e he
          omega
      · rw [List.length_append, insE_length, List.length_singleton, h.len]
      · intro b hb
        rcases List.mem_append.1 hb with hb | hb
        · exact h.saf b hb
        · rw [List.mem_singleton.1 hb]
      · intro e he f hf hk
        rcases insE_mem.1 he with rfl | he
        · rcases insE_mem.1 hf with rfl | hf
          · rfl
          · exact absurd hk.symm (hnew f hf)
        · rcases insE_mem.1 hf with rfl | hf
          · exact absurd hk (hnew e he)
          · exact h.names e he f hf hk
      · intro e he f hf hk
        rcases insE_mem.1 he with rfl | he
        · rcases insE_mem.1 hf with rfl | hf
          · rfl
          · have := h.ids f hf
            simp only at hk
            omega
        · rcases insE_mem.1 hf with rfl | hf
          · have := h.ids e he
            simp only at hk
            omega
          · exact h.once e he f hf hk
    · rw [if_neg h0, if_neg h0]
      exact ⟨rfl, fun h1 => absurd h1 h0⟩
theorem refNil : RefC [] [] [] := ⟨rfl, fun e he => (by cases he), rfl, fun b hb => (by cases hb), fun e he => (by cases he), fun e he => (by cases he)⟩

/-! ### The call -/
/-- What the reference's Load answers: the error's number; where it is 0, its disk. -/
def RLoadMade (room : Int) (fs : List (ByteArray × List Int)) (w : World) (e : Ending) (w' : World) : Prop :=
  ∃ (a0 : Option Addr) (n0 c0 : Nat) (a1 : Option Addr) (n1 c1 : Nat) (a2 : Option Addr) (n2 c2 : Nat) (a4 : Option Addr) (n4 c4 : Nat) (r4 r6 : Int) (r7 : Bool), e = .returned (.tuple #[.agg #[.slice a0 n0 c0, .slice a1 n1 c1, .slice a2 n2 c2, .int .i64 r4, .slice a4 n4 c4, .int .i64 r6, .bool r7], .int .i64 (ldC [] fs).1]) ∧ Below w.heap.size w w' ∧
    ((ldC [] fs).1 = 0 → r4 = min (max room 0) 16777216 ∧ r6 = 0 ∧ r7 = false ∧ ∃ bs dir, RefC bs dir (ldC [] fs).2 ∧
      Kd.N k54 54 w' w.heap.size (fun k_ => (w.heap.size ≤ k_) ∧ some k_ ≠ (Value.slice a1 n1 c1).ownBlock ∧ some k_ ≠ (Value.slice a2 n2 c2).ownBlock ∧ some k_ ≠ (Value.slice a4 n4 c4).ownBlock) (.slice a0 n0 c0) bs ∧ Kd.R k93 93 w' w.heap.size (fun k_ => (w.heap.size ≤ k_)) (.slice a1 n1 c1) dir ∧ Kd.R k113 113 w' w.heap.size (fun k_ => (w.heap.size ≤ k_)) (.slice a2 n2 c2) [] ∧ Kd.R k69 69 w' w.heap.size (fun k_ => (w.heap.size ≤ k_)) (.slice a4 n4 c4) [])
theorem rload_any (room : Int) (A : Option Addr) (cp : Nat) (fs : List (ByteArray × List Int)) (w : World) (hC : fileK.C w A fs.length fs) (hc : fs.length ≤ cp) (hl : fs.length < 9223372036854775807) (hs : ∀ p ∈ fs, p.2.length ≤ 140737488355328) :
    Calls Tryz.prog 9 #[.int .i64 room, .slice A fs.length cp] w (RLoadMade room fs w) := by
  have hlen : (fs.map toF).length = fs.length := List.length_map ..
  have hpr : (fs.map toF).map prF = fs := prF_toF fs
  obtain ⟨k, hk⟩ := (load_law room (fs.map toF) (by omega) (by intro p hp; obtain ⟨q, hq, rfl⟩ := List.mem_map.1 hp; exact hs q hq)).rounds
  obtain ⟨h1, h2⟩ := ldE_spec (min (max room 0) 16777216) (fs.map toF) [] [] [] refNil
  rw [hpr] at h1 h2
  obtain ⟨r1, r2, r3, r4, r5, r6, r7, r8, hr⟩ : ∃ r1 r2 r3 r4 r5 r6 r7 r8, ldE (min (max room 0) 16777216) [] [] (fs.map toF) = (r1, r2, r3, r4, r5, r6, r7, r8) := ⟨_, _, _, _, _, _, _, _, rfl⟩
  rw [hr] at hk h1 h2
  have hcall := stoaref14_Load.calls k room A cp (fs.map toF) r1 r2 r3 r4 r5 r6 r7 r8 w (by rw [hlen]; exact fileC_toF hC) (by omega) hk
  rw [hlen] at hcall
  refine hcall.mono ?_
  rintro e w' ⟨v0, v1, v2, v4, rfl, hN, hR1, hR2, hR4, hb⟩
  simp only at h1
  subst h1
  obtain ⟨a0, c0, rfl⟩ := Kd.N_slice hN
  obtain ⟨a1, c1, rfl⟩ := Kd.R_slice hR1
  obtain ⟨a2, c2, rfl⟩ := Kd.R_slice hR2
  obtain ⟨a4, c4, rfl⟩ := Kd.R_slice hR4
  refine ⟨a0, _, c0, a1, _, c1, a2, _, c2, a4, _, c4, r4, r6, r7, rfl, hb, fun h0 => ?_⟩
  obtain ⟨bs, dir, he, hRef⟩ := h2 h0
  simp only [Prod.mk.injEq] at he
  obtain ⟨rfl, rfl, rfl, rfl, rfl, rfl, rfl, _⟩ := he
  exact ⟨rfl, rfl, rfl, r1, r2, hRef, hN, hR1, hR2, hR4⟩
end Go.Proofs.YtgcpiofpjogjcaaGreatDoor.PK
end
section
/-
  One step of a script (the law's 'step'): walked.
-/
namespace Go.Proofs.YtgcpiofpjogjcaaGreatDoor.PK
open Go.RowKit Go.Maps Go.Sort Go.Proofs.YtgcpiofpjogjcaaGreatDoorW.PrintWords
set_option linter.unusedVariables false
set_option linter.unusedSimpArgs false
variable {own : Nat → Prop} {w w' : World}

/-- A call of a script: its kind, names and bytes. -/
structure Call where
  kind : Int
  name : ByteArray
  dest : ByteArray
  data : List Int
def Dk.opS (S : Dk) (o : Call) (T : Dk) : Prop := if o.kind = 1 then S.created o.name T else T = (if o.kind = 2 then S.appended o.name o.data else if o.kind = 3 then S.synced o.name else if o.kind = 4 then S.renamed o.name o.dest else if o.kind = 5 then S.removed o.name else S.syncDir)
theorem Dk.stepSaid.to {S : Dk} {E : Int} {D : Dk → Prop} {P P' : Int → Dk → Prop} {x : Int} {S' : Dk} (h : S.stepSaid E D P x S') (hk : S.fate.kind ≠ 2) : S.stepSaid E D P' x S' := by
  unfold Dk.stepSaid at h ⊢
  rw [if_neg hk] at h ⊢
  exact h
end Go.Proofs.YtgcpiofpjogjcaaGreatDoor.PK
end
section
/-
  DiskFails, walked: a failed step changes nothing.
-/
namespace Go.Proofs.YtgcpiofpjogjcaaGreatDoor.PK
open Go.RowKit Go.Maps Go.Sort Go.Proofs.YtgcpiofpjogjcaaGreatDoorW.PrintWords
set_option linter.unusedVariables false
set_option linter.unusedSimpArgs false
variable {own : Nat → Prop} {w w' : World}

/-- What is left behind a crash where nothing is loose and all is safe: all. -/
theorem left_all {S : Dk} {c : Cont} (hchg : S.chg = []) (hsafe : S.safe = S.now) (hsaf : ∀ p ∈ S.now, S.saf p.2 = (S.dat p.2).length) (hc : cont S.dat S.now = c) (ks : List Int) : S.leftDir ks = S.now ∧ S.leftCont ks = c := by
  have h1 : S.leftDir ks = S.now := by unfold Dk.leftDir; rw [hchg, List.take_nil]; exact hsafe
  refine ⟨h1, ?_⟩
  unfold Dk.leftCont
  rw [h1, ← hc]
  unfold cont
  apply List.ext_getElem?
  intro i
  rw [List.getElem?_mapIdx, List.getElem?_map]
  cases hi : S.now[i]? with
  | none => rfl
  | some p =>
    have hm : p ∈ S.now := List.mem_of_getElem? hi
    simp only [Option.map_some, Option.some.injEq, Prod.mk.injEq, true_and]
    unfold Dk.leftLen
    rw [hsaf p hm, List.take_of_length_le (by omega)]
theorem listed_length (c : Cont) : (listed c).length = c.length := by simp [listed]
theorem DiskAt.now1 {d : Nat} {S : Dk} (h : DiskAt w own d S) : S.now.length ≤ 400 := by
  obtain ⟨bn, bs, pc, cc, pp, cp, pd, cd, h⟩ := h
  exact h.now1
/-- A disk that a step has left as it was. -/
structure Same (S : Dk) (c : Cont) (off : Bool) (steps : Int) : Prop where
  cont : PK.cont S.dat S.now = c
  chg : S.chg = []
  safe : S.safe = S.now
  saf : ∀ p ∈ S.now, S.saf p.2 = (S.dat p.2).length
  off : S.off = off
  steps : S.steps = steps

end Go.Proofs.YtgcpiofpjogjcaaGreatDoor.PK
end
section
/-
  DiskTwice, walked: a second loss of power with nothing between changes nothing.
-/
namespace Go.Proofs.YtgcpiofpjogjcaaGreatDoor.PK
open Go.RowKit Go.Maps Go.Sort Go.Proofs.YtgcpiofpjogjcaaGreatDoorW.PrintWords
set_option linter.unusedVariables false
set_option linter.unusedSimpArgs false
variable {own : Nat → Prop} {w w' : World}

/-! ### A script's disk -/
/-- A disk behind at most n calls. -/
structure Run (S : Dk) (n : Nat) : Prop where
  calm : S.calm
  steps : S.steps ≤ n
  chg : S.chg.length ≤ n
  path : S.chg.foldl applyC S.safe = S.now
  short : ∀ k, ((S.chg.take k).foldl applyC S.safe).length ≤ 400
  good : ∀ p ∈ S.now, ∃ s, bad s = false ∧ key s = p.1
theorem good_apply {l : Dir} {c : Chg} (hg : ∀ p ∈ l, ∃ s, bad s = false ∧ key s = p.1) (hc : c.b ≠ ⟨#[]⟩ → bad c.b = false) : ∀ p ∈ applyC l c, ∃ s, bad s = false ∧ key s = p.1 := by
  have h1 : ∀ q, q ∈ (if c.a = ⟨#[]⟩ then l else del l (key c.a)) → q ∈ l := by
    intro q hq
    split at hq
    · exact hq
    · exact (mem_del.1 hq).1
  intro p hp
  unfold applyC at hp
  simp only at hp
  by_cases hb : c.b = ⟨#[]⟩
  · rw [if_pos hb] at hp
    exact hg p (h1 p hp)
  · rw [if_neg hb] at hp
    cases hf : c.f with
    | none =>
      rw [hf] at hp
      exact hg p (h1 p hp)
    | some f =>
      rw [hf] at hp
      rcases mem_put.1 hp with rfl | ⟨hp, _⟩
      · exact ⟨c.b, hc hb, rfl⟩
      · exact hg p (h1 p hp)
theorem Run.same {S T : Dk} {n : Nat} (h : Run S n) (h1 : T.plan = S.plan) (h2 : T.off = S.off) (h3 : T.steps = S.steps + 1) (h4 : T.chg = S.chg) (h5 : T.safe = S.safe) (h6 : T.now = S.now) : Run T (n + 1) :=
  ⟨⟨h1.trans h.calm.plan, h2.trans h.calm.off⟩, by rw [h3]; have := h.steps; omega, by rw [h4]; have := h.chg; omega, by rw [h4, h5, h6]; exact h.path, by rw [h4, h5]; exact h.short, by rw [h6]; exact h.good⟩
theorem Run.alter {S T : Dk} {n : Nat} {c : Chg} (h : Run S n) (h1 : T.plan = S.plan) (h2 : T.off = S.off) (h3 : T.steps = S.steps + 1) (h4 : T.chg = S.chg ++ [c]) (h5 : T.safe = S.safe) (h6 : T.now = applyC S.now c) (hl : T.now.length ≤ 400) (hc : c.b ≠ ⟨#[]⟩ → bad c.b = false) : Run T (n + 1) := by
  have hp : T.chg.foldl applyC T.safe = T.now := by rw [h4, h5, h6, List.foldl_append, h.path]; rfl
  refine ⟨⟨h1.trans h.calm.plan, h2.trans h.calm.off⟩, by rw [h3]; have := h.steps; omega, by rw [h4, List.length_append, List.length_singleton]; have := h.chg; omega, hp, fun k => ?_, by rw [h6]; exact good_apply h.good hc⟩
  by_cases hk : k ≤ S.chg.length
  · rw [h4, h5, List.take_append_of_le_length hk]
    exact h.short k
  · rw [List.take_of_length_le (by rw [h4, List.length_append, List.length_singleton]; omega), hp]
    exact hl
theorem Run.step {S T : Dk} {n : Nat} {o : Call} (h : Run S n) (hT : S.stepped.opS o T) (hl : T.now.length ≤ 400) : Run T (n + 1) := by
  have hsame : Run S.stepped (n + 1) := h.same rfl rfl rfl rfl rfl rfl
  unfold Dk.opS at hT
  by_cases k1 : o.kind = 1
  · rw [if_pos k1] at hT
    unfold Dk.created at hT
    split at hT
    · rename_i hr
      obtain ⟨f, _, rfl⟩ := hT
      refine h.alter (c := ⟨⟨#[]⟩, o.name, some f⟩) rfl rfl rfl rfl rfl rfl hl (fun _ => ?_)
      unfold Dk.refuse at hr
      cases hb : bad o.name
      · rfl
      · rw [if_pos hb] at hr; exact absurd hr (by decide)
    · rw [hT]; exact hsame
  rw [if_neg k1] at hT
  by_cases k2 : o.kind = 2
  · rw [if_pos k2] at hT
    subst hT
    unfold Dk.appended
    cases look S.stepped.now (key o.name) with
    | none => exact hsame
    | some f =>
      simp only
      split
      · exact hsame
      · exact h.same rfl rfl rfl rfl rfl rfl
  rw [if_neg k2] at hT
  by_cases k3 : o.kind = 3
  · rw [if_pos k3] at hT
    subst hT
    unfold Dk.synced
    cases look S.stepped.now (key o.name) with
    | none => exact hsame
    | some f => exact h.same rfl rfl rfl rfl rfl rfl
  rw [if_neg k3] at hT
  by_cases k4 : o.kind = 4
  · rw [if_pos k4] at hT
    subst hT
    unfold Dk.renamed at hl ⊢
    cases hlk : look S.stepped.now (key o.name) with
    | none => exact hsame
    | some f =>
      rw [hlk] at hl
      simp only at hl ⊢
      by_cases hb : bad o.dest = true
      · rw [if_pos hb]; exact hsame
      · rw [if_neg hb] at hl ⊢
        by_cases he : o.name = o.dest
        · rw [if_pos he]; exact hsame
        · rw [if_neg he] at hl ⊢
          exact h.alter (c := ⟨o.name, o.dest, some f⟩) rfl rfl rfl rfl rfl rfl hl (fun _ => by simpa using hb)
  rw [if_neg k4] at hT
  by_cases k5 : o.kind = 5
  · rw [if_pos k5] at hT
    subst hT
    unfold Dk.removed at hl ⊢
    cases hlk : look S.stepped.now (key o.name) with
    | none => exact hsame
    | some f =>
      rw [hlk] at hl
      exact h.alter (c := ⟨o.name, ⟨#[]⟩, none⟩) rfl rfl rfl rfl rfl rfl hl (fun hb => absurd rfl hb)
  rw [if_neg k5] at hT
  subst hT
  exact ⟨⟨h.calm.plan, h.calm.off⟩, by show S.steps + 1 ≤ _; have := h.steps; omega, by show ([] : List Chg).length ≤ _; simp, rfl, fun k => by show (([] : List Chg).take k |>.foldl applyC S.now).length ≤ 400; rw [List.take_nil]; exact hl, h.good⟩
theorem Run.mono {S : Dk} {n m : Nat} (h : Run S n) (hnm : n ≤ m) : Run S m := ⟨h.calm, by have := h.steps; omega, by have := h.chg; omega, h.path, h.short, h.good⟩
theorem Loaded.run {S : Dk} {room : Int} {c : Cont} (h : Loaded S room c) (hl : S.now.length ≤ 400) : Run S 0 :=
  ⟨h.calm, by rw [h.steps]; decide, by rw [h.chg]; decide, by rw [h.chg, h.safe]; rfl, fun k => by rw [h.chg, List.take_nil, h.safe]; exact hl, h.good⟩
theorem Run.left {S : Dk} {n : Nat} (h : Run S n) (ks : List Int) : (S.leftDir ks).length ≤ 400 := h.short _
end Go.Proofs.YtgcpiofpjogjcaaGreatDoor.PK
end
