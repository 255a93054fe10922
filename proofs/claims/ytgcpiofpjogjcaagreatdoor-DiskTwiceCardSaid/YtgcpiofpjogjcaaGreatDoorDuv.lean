/-
  Bytes are read (Read, from a file's beginning on): walked.
-/
import Derived.Test.YtgcpiofpjogjcaaGreatDoorDs
import Derived.Test.YtgcpiofpjogjcaaGreatDoorDq
namespace Go.Proofs.YtgcpiofpjogjcaaGreatDoor.PK
open Go.RowKit Go.Maps Go.Sort Go.Proofs.YtgcpiofpjogjcaaGreatDoorW.PrintWords
set_option linter.unusedVariables false
set_option linter.unusedSimpArgs false
variable {own : Nat → Prop} {w w' : World}

theorem row_cap' {e s n c : Nat} {p : Option Addr} {xs : List Value} (h : w.ownsRow 0 e s (.slice p n c) n xs) : n ≤ c := by
  rcases h.2 with ⟨h1, h2⟩ | ⟨g, cap, cur, hv, _, _, hnc, _⟩
  · injection h1 with _ _ h3; omega
  · injection hv with _ _ h3; omega
def ReadMade (xs : List Int) (w : World) (e : Ending) (w' : World) : Prop := ∃ A c, e = .returned (.tuple #[.slice A xs.length c, .int .i64 0]) ∧ w'.ownsRow w.heap.size 5 1 (.slice A xs.length c) xs.length (nums .u8 xs) ∧ Below w.heap.size w w'
set_option maxRecDepth 100000 in
set_option maxHeartbeats 1600000 in
theorem read_any (d : Nat) (S : Dk) (s : ByteArray) (f n : Nat) (w : World) (h : DiskAt w own d S) (hs : s.size ≤ 9223372036854775807) (hoff : S.off = false) (hf : look S.now (key s) = some f) (hn : n ≤ (S.dat f).length) :
    Calls Tryz.prog 23 #[.pointer (some ⟨d, 0, none⟩), .string s, .int .i64 0, .int .i64 n] w (ReadMade ((S.dat f).take n) w) := by
  have hlk := look_any d S s w h hs
  have e1 : S.find s = some f := by unfold Dk.find; rw [hoff, hf]; rfl
  have e2 : S.findErr s = 0 := by unfold Dk.findErr; rw [hoff, hf]; simp
  rw [e1, e2] at hlk
  simp only [fileV] at hlk
  obtain ⟨bn, bs, pc, cc, pp, cp, pd, cd, h⟩ := h
  have hff := h.files f (h.ref f (live_now hf))
  obtain ⟨f0, f1⟩ := two_cells hff.blk
  have hcap := row_cap' hff.row
  have hlen := hff.short
  have hx : ((S.dat f).take n).length = n := by rw [List.length_take]; omega
  have hC1 : Kd.C (Kd.int .u8) w (pd f) ((S.dat f).take n).length ((S.dat f).take n) := by
    have h1 := Kd.reads_of_C (d := (0 : Int)) hff.C
    rw [hx]
    exact Kd.C_of_reads (h1.take_ n hn)
  have hbc := bclone_any (pd f) (cd f) ((S.dat f).take n) w hC1 (by omega)
  rw [hx] at hbc
  have HH := Lib.hid h; have HFF := Lib.hid hff; have HX := Lib.hid hx
  clear h hff hx hC1 hoff hf e1 e2
  unfold ReadMade
  rw [HX.out]
  go_enter Tryz.func23, Tryz.ntmps23
  go_wp2_with (first
    | (go_at_call 58; refine hlk.mono ?_; rintro e w1 ⟨rfl, rfl⟩)
    | (go_at_call 38; refine hbc.mono ?_; rintro e w2 ⟨A', c', rfl, ho, hb⟩))
  go_ret2
  exact ⟨A', c', rfl, ho, hb⟩
end Go.Proofs.YtgcpiofpjogjcaaGreatDoor.PK
