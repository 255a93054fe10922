/-
  Parts of the proof: AKs, Cw, Cx, Cy, Xf, Xg, Xh, Xi.
-/
import Derived.Test.YteeikgjjgfdjgaaGreatR25
import Derived.Deep.Upon
import Derived.Test.YteeikgjjgfdjgaaGreatR8
import Derived.Test.YteeikgjjgfdjgaaGreatR9
import Derived.Test.YteeikgjjgfdjgaaGreatR7
import Derived.Test.YteeikgjjgfdjgaaGreatR26
import Derived.Test.YteeikgjjgfdjgaaGreatR13
import Derived.Test.YteeikgjjgfdjgaaGreatR29
import Derived.Test.YteeikgjjgfdjgaaGreatR31
import Derived.Test.YteeikgjjgfdjgaaGreatR22
import Derived.SizedLaws
import Derived.ChangeSame
import Derived.Deep.Slices
import Derived.Deep.Strs
import Derived.ProofKit
import Derived.OpenShut
import Derived.Test.YteeikgjjgfdjgaaGreatR23
import Derived.Carry
import Derived.ChangeOld
section
namespace Go.Proofs.YteeikgjjgfdjgaaGreat.PK
open Go.RowKit Go.Maps Go.Proofs.YteeikgjjgfdjgaaGreatW.PrintWords Go.Proofs.YteeikgjjgfdjgaaGreatW.PrintLast Go.Proofs.YteeikgjjgfdjgaaGreatW.PrintMore
set_option linter.unusedVariables false
set_option linter.unusedSimpArgs false
structure Hold (B:Nat) (w w':World):Prop where
 os:w'.os = w.os
 output:w'.output = w.output
 size:w.heap.size ≤ w'.heap.size
 block:∀ k,k < B → k < w.heap.size → w'.heap[k]? = w.heap[k]?
theorem Hold.of_below {B:Nat} {w w':World} (h:Below B w w'):Hold B w w':=⟨h.os,h.output,h.size,fun k hk _=>h.block k hk⟩
theorem Hold.trans {B:Nat} {a b c:World} (h:Hold B a b) (k:Hold B b c):Hold B a c:=
 ⟨k.os.trans h.os,k.output.trans h.output,Nat.le_trans h.size k.size,fun i hi hl=>(k.block i hi (by have:=h.size;omega)).trans (h.block i hi hl)⟩
theorem Hold.mono {B B':Nat} {w w':World} (h:Hold B w w') (hB:B' ≤ B):Hold B' w w':=⟨h.os,h.output,h.size,fun k hk hl=>h.block k (by omega) hl⟩
theorem Hold.below {w w':World} (h:Hold w.heap.size w w'):Below w.heap.size w { w' with tape:=w.tape }:=⟨h.os,rfl,h.output,h.size,fun k hk=>h.block k hk hk⟩
theorem Byt.cell {w:World} {base:Nat} {og:Option Nat} {v:Value} {xs:List Int} (h:Byt w base og v xs) {i:Nat} (hi:i < xs.length):∃ g cap,og = some g ∧ v = .slice (some ⟨g,0,none⟩) xs.length cap ∧ w.cell? ⟨g,i,none⟩ = some (.int .u8 xs[i]) ∧ w.frozen? ⟨g,i,none⟩ = false:=by
 rcases h with ⟨_,_,rfl⟩ | ⟨g,cap,cells,m,h1,h2,h3,h4,hh,h6,h7,hx,hcell⟩
 ·simp at hi
 ·refine ⟨g,cap,h1,h2,?_,?_⟩
  ·simp only [World.cell?,hh]
   rw [hcell i hi]
   simp
  ·simp only [World.frozen?,hh]
   rcases h7 with h7 | h7
   ·simp;omega
   ·simp;omega
theorem Byt.store {w:World} {base g:Nat} {v:Value} {xs:List Int} (h:Byt w base (some g) v xs) {i:Nat} (hi:i < xs.length) (x:Int):Byt (w.setCell ⟨g,i,none⟩ (.int .u8 x)) base (some g) v (xs.set i x) ∧ w.grownBy (w.setCell ⟨g,i,none⟩ (.int .u8 x)) (some g):=by
 rcases h with ⟨h,_⟩ | ⟨g',cap,cells,m,h1,h2,h3,h4,hh,h6,h7,hx,hcell⟩
 ·cases h
 ·injection h1 with h1
  subst h1
  refine ⟨.inr ⟨g,cap,cells.setIfInBounds i (.int .u8 x),m,rfl,by rw [List.length_set];exact h2,h3,by rw [List.length_set];exact h4,?_,by simpa using h6,h7,hx,fun j hj=>?_⟩,⟨rfl,rfl,rfl,by simp,fun k _ hk=>heap_setCell_other w ⟨g,i,none⟩ k _ (fun e=>hk (by simp [e]))⟩⟩
  ·simp only [World.setCell,Array.getElem?_modify,if_pos rfl,hh]
   rfl
  ·rw [List.length_set] at hj
   rw [Array.getElem?_setIfInBounds]
   by_cases hij:i = j
   ·subst hij
    rw [if_pos rfl,if_pos (by omega)]
    simp
   ·rw [if_neg hij,hcell j hj,List.getElem_set_ne hij]
end Go.Proofs.YteeikgjjgfdjgaaGreat.PK
end
section
namespace Go.Proofs.YteeikgjjgfdjgaaGreat.PK
open Go.RowKit Go.Proofs.YteeikgjjgfdjgaaGreatW.PrintWords Go.Proofs.YteeikgjjgfdjgaaGreatW.PrintLast Go.Proofs.YteeikgjjgfdjgaaGreatW.PrintMore
set_option linter.unusedVariables false
set_option linter.unusedSimpArgs false
def someN (l:List Cel):Int:=if ∃ c ∈ l,c.f0 = true then 1 else 0
theorem someN_yes {cs:List Cel} {i:Nat} (hi:i < cs.length) (h:cs[i].f0 = true):someN (cs.take (i + 1)) = 1:=by
 unfold someN
 rw [if_pos ⟨cs[i],by rw [← take_snoc cs i hi];exact List.mem_append_right _ (List.mem_singleton.2 rfl),h⟩]
theorem someN_no {cs:List Cel} {i:Nat} (hi:i < cs.length) (h:¬ cs[i].f0 = true):someN (cs.take (i + 1)) = someN (cs.take i):=by
 unfold someN
 have:(∃ c ∈ cs.take (i + 1),c.f0 = true) ↔ (∃ c ∈ cs.take i,c.f0 = true):=by
  rw [← take_snoc cs i hi]
  constructor
  ·rintro ⟨c,hc,e⟩
   rcases List.mem_append.1 hc with hc | hc
   ·exact ⟨c,hc,e⟩
   ·obtain rfl:=List.mem_singleton.1 hc
    exact absurd e h
  ·rintro ⟨c,hc,e⟩
   exact ⟨c,List.mem_append_left _ hc,e⟩
 by_cases hh:∃ c ∈ cs.take i,c.f0 = true
 ·rw [if_pos hh,if_pos (this.2 hh)]
 ·rw [if_neg hh,if_neg (fun e=>hh (this.1 e))]
theorem headS_some {codec:Int} {cs:List Cel} (h:someN cs = 1):headS codec cs = ((codec :: vput cs.length) ++ [someN cs]) ++ packS 1 (cs.map markC):=by
 have hh:∃ c ∈ cs,c.f0 = true:=Classical.byContradiction fun hn=>by unfold someN at h;rw [if_neg hn] at h;exact absurd h (by decide)
 unfold headS nullsS
 rw [if_pos hh,h]
 simp
theorem headS_none {codec:Int} {cs:List Cel} (h:someN cs ≠ 1):headS codec cs = (codec :: vput cs.length) ++ [someN cs] ∧ someN cs = 0:=by
 have hh:¬ ∃ c ∈ cs,c.f0 = true:=fun hn=>by unfold someN at h;rw [if_pos hn] at h;exact absurd rfl h
 unfold headS nullsS someN
 rw [if_neg hh,if_neg hh]
 simp
theorem lit_R (W:World) (e:TypeId) (k:IntKind) (xs:List Int) (base:Nat) (hb:base ≤ W.heap.size) (hl:xs.length ≤ 1000):Kd.R (Kd.int k) e (W.alloc (.cells (xs.map (Value.int k)).toArray e)) base (fun _=>True) (.slice (some ⟨W.heap.size,0,none⟩) xs.length xs.length) xs:=
 Kd.R_of_own (own_lit W base e k xs hb (by omega)) (fun _ _=>trivial)
set_option maxRecDepth 100000 in
set_option maxHeartbeats 2000000 in
theorem rwrite_any (kind codec:Int) (A:Option Addr) (c:Nat) (cs:List Cel) (w:World) (hf:Fine kind cs) (hfit:fitsC kind codec) (h:Kd.C k53 w A cs.length cs) (hc:cs.length ≤ c) :
  Calls Tryz.prog 34 #[.int .i64 kind,.int .i64 codec,.slice A cs.length c] w (RowMade w (writeS kind codec cs).1 (writeS kind codec cs).2):=by
 have hcl:=hf.len
 have hcd:=fits_codec hfit
 have hw8:IntKind.u8.wrap codec = codec:=by rw [IntKind.wrap_u8];omega
 have hwl:IntKind.u64.wrap (cs.length:Int) = (cs.length:Int):=wraps_u64 _ (by omega) (by omega)
 obtain ⟨kp,hkp⟩:=(rput_ev cs.length (by omega)).ex
 have hvl:=vput_length cs.length
 have hbf:=body_fine hf hfit
 have hhf:=head_fine hf.len hfit
 have hpk:Ev (fun k=>stoaref01_Pack.f k ((1:Nat):Int) (cs.map markC)) (packS 1 (cs.map markC),0):=rpack (by decide) (marks_fit cs) (by rw [List.length_map];exact hcl)
 obtain ⟨kk,hkk⟩:=hpk.ex
 have hRB:=fun (w2:World) (hb:Below w.heap.size w w2)=>rbody_any kind codec A c cs w2 hf hfit (Kd.C_below h hb) hc
 have HC:=Lib.hid h;have HKP:=Lib.hid hkp;have HBF:=Lib.hid hbf;have HHF:=Lib.hid hhf;have HKK:=Lib.hid hkk;have HRB:=Lib.hid hRB;have HVL:=Lib.hid hvl
 clear h hf hfit hkp hbf hhf hpk hkk hRB hvl
 go_enter Tryz.func34,Tryz.ntmps34
 go_upto_region 2 with (fail)
 have R8:=Lib.hid (lit_R w 5 .u8 [codec] w.heap.size (Nat.le_refl _) (by simp))
 have B1:=Lib.hid (below_alloc (Below.refl w.heap.size w) (.cells #[.int .u8 codec] 5))
 have hsz:w.heap.size < (w.alloc (.cells #[.int .u8 codec] 5)).heap.size:=by simp
 have HSZ:=Lib.hid hsz
 clear hsz
 have R8':RowKit.Hid (Kd.R (Kd.int .u8) 5 (w.alloc (.cells #[.int .u8 codec] 5)) w.heap.size (fun _=>True) (.slice (some ⟨w.heap.size,0,none⟩) 1 1) [codec]):=Lib.hid R8.out
 clear R8
 generalize w.alloc (.cells #[.int .u8 codec] 5) = w1 at *
 have hx8:([codec]:List Int).length + (vput cs.length).length ≤ 140737488355328:=by have:=HVL.out;simp;omega
 have hV:[codec] ++ vput cs.length = codec :: vput cs.length:=rfl
 generalize hvv:vput cs.length = vl at *
 have HVV:=Lib.hid hvv;have HX8:=Lib.hid hx8;have HV:=Lib.hid hV
 clear hvv hx8 hV
 go_upto_region 3 with (first
  | (go_at_call 58;refine (stoaref02_Put.calls kp _ _ _ HKP.out).mono ?_;rintro e w2 ⟨v2,rfl,hR2,hb2⟩;have MU:=Lib.hid hR2;have M8:=Lib.hid (Kd.R_below R8'.out hb2);have MB:=Lib.hid (below_then B1.out B1.out.size hb2);clear hR2 hb2)
  | (go_at_call 57;refine (radd_own M8.out MB.out (fun k hk=>(by have h1:=HSZ.out;have h2:w.heap.size = k:=(by simpa [Value.ownBlock] using hk);omega)) MU.out HX8.out).mono ?_;rintro e w3 ⟨v3,rfl,hR3,hb3,_⟩;have N8:=Lib.hid hR3;have NB:=Lib.hid hb3;clear hR3 hb3))
 have E9:=empty_R (Kd.int .u64) w3 63 w.heap.size NB.out.size
 go_upto_region 5 with (fail)
 have N8':RowKit.Hid (Kd.R (Kd.int .u8) 5 (w3.alloc (.cells #[] 63)) w.heap.size (fun _=>True) v3 (codec :: vl)):=Lib.hid (by rw [← HV.out];exact Kd.R_alloc N8.out _)
 have NB':=Lib.hid (below_alloc NB.out (.cells #[] 63))
 have E9':=Lib.hid E9
 clear E9 N8 NB
 have hg9:RowKit.Hid (∃ v9,v9 = Value.slice (some ⟨w3.heap.size,0,none⟩) 0 0):=Lib.hid ⟨_,rfl⟩
 generalize w3.alloc (.cells #[] 63) = w4 at *
 clear R8' B1 HSZ M8 MB MU hg9
 go_wp2
 go_loopw [9,10,11,12] (fun v9 v10 vi _ wq=>∃ i:Nat,i ≤ cs.length ∧ vi = .int .i64 i ∧ v10 = .int .u8 (someN (cs.take i)) ∧ RowKit.Hid (Kd.R (Kd.int .u64) 63 wq w.heap.size (fun _=>True) v9 ((cs.take i).map markC)) ∧ RowKit.Hid (Kd.R (Kd.int .u8) 5 wq w.heap.size (fun _=>True) v3 (codec :: vl)) ∧ RowKit.Hid (Below w.heap.size w wq)) (fun _ _ vi _ _=>cs.length - (intOf vi).toNat)
 case atStart=>exact ⟨0,Nat.zero_le _,rfl,rfl,Lib.hid (by rw [List.take_zero];exact E9'.out),N8',NB'⟩
 case round =>
  obtain ⟨i,hi9,rfl,rfl,H9,H8,HB⟩:=hrel
  clear E9' N8' NB'
  by_cases hlt:i < cs.length
  ·obtain ⟨ad,A2,c2,rfl,hx0,hx1,hx2,hl2,hC2⟩:=at_T53 HC.out (i:Int) (by omega) (by omega)
   rw [rdc_at hlt,Int.toNat_natCast] at hx0
   replace hx0:=(HB.out.cell (World.block_lt_of_cell? w _ hx0)).trans hx0
   clear hx1 hx2 hl2 hC2
   have hml:((cs.take i).map markC).length ≤ 4096:=by rw [List.length_map,List.length_take];omega
   have HML:=Lib.hid hml
   have hmk:(cs.take (i + 1)).map markC = (cs.take i).map markC ++ [markC cs[i]]:=by rw [← take_snoc cs i hlt,List.map_append];rfl
   clear hml
   by_cases h0:cs[i].f0 = true
   ·have hsm:=someN_yes hlt h0
    have hm1:markC cs[i] = 1:=by unfold markC;rw [if_pos h0]
    rw [hm1] at hmk
    rw [h0] at hx0
    have HMK:=Lib.hid hmk;have HSM:=Lib.hid hsm;have HLT:=Lib.hid hlt
    clear hmk hsm hm1 h0 hlt
    generalize (cs.take i).map markC = us at *
    go_wp2_with (at_builtin;refine Kd.R_append (Kd.int .u64) (w0:=w) w.heap.size rfl (.tmp 36) (.tmp 38) 66 63 (.int .u64 0) 8 rfl Tryz.underlying66 info63 rfl (by decide) (by decide) _ us 1 [.int .u64 1] (fun _=>True) (fun _=>False) rfl rfl rfl (fun _ hk=>hk.elim) (fun _ _=>trivial) H9.out HB.out HB.out.size (by have:=HML.out;omega) ?_;intro v7 w7 hR7 hb7 hg7 hat7;have J9:=Lib.hid hR7;have J8:=Lib.hid (Kd.R_over' H8.out (Kd.R_typed H9.out) (by decide) hg7);have JB:=Lib.hid hb7;clear hR7 hb7 hg7 hat7)
    go_roundw
    case rel=>exact ⟨i + 1,HLT.out,by go_num,by rw [HSM.out],Lib.hid (by rw [HMK.out];exact J9.out),J8,JB⟩
    case measure=>have:=HLT.out;simp [intOf];omega
   ·have hsm:=someN_no hlt h0
    have hm1:markC cs[i] = 0:=by unfold markC;rw [if_neg h0]
    rw [hm1] at hmk
    have h0f:cs[i].f0 = false:=by simpa using h0
    rw [h0f] at hx0
    have HMK:=Lib.hid hmk;have HSM:=Lib.hid hsm;have HLT:=Lib.hid hlt
    clear hmk hsm hm1 h0 h0f hlt
    generalize (cs.take i).map markC = us at *
    go_wp2_with (at_builtin;refine Kd.R_append (Kd.int .u64) (w0:=w) w.heap.size rfl (.tmp 36) (.tmp 38) 66 63 (.int .u64 0) 8 rfl Tryz.underlying66 info63 rfl (by decide) (by decide) _ us 0 [.int .u64 0] (fun _=>True) (fun _=>False) rfl rfl rfl (fun _ hk=>hk.elim) (fun _ _=>trivial) H9.out HB.out HB.out.size (by have:=HML.out;omega) ?_;intro v7 w7 hR7 hb7 hg7 hat7;have J9:=Lib.hid hR7;have J8:=Lib.hid (Kd.R_over' H8.out (Kd.R_typed H9.out) (by decide) hg7);have JB:=Lib.hid hb7;clear hR7 hb7 hg7 hat7)
    go_roundw
    case rel=>exact ⟨i + 1,HLT.out,by go_num,by rw [HSM.out],Lib.hid (by rw [HMK.out];exact J9.out),J8,JB⟩
    case measure=>have:=HLT.out;simp [intOf];omega
  ·obtain rfl:i = cs.length:=by omega
   have hta:cs.take cs.length = cs:=List.take_length
   rw [hta] at H9 ⊢
   clear hta
   have hx9:(codec :: vl).length ≤ 1000000:=by have:=HX8.out;have h2:=HVL.out;rw [List.length_cons];omega
   have HX9:=Lib.hid hx9
   have hW:writeS kind codec cs = if 65000 < (headS codec cs).length + (bodyS kind codec cs).1.length + 4 then ([],4) else (sealS (headS codec cs ++ (bodyS kind codec cs).1),0):=by
    unfold writeS
    rw [if_neg (fun e=>e HBF.out.2.2)]
   have hW2:∃ X Bd,X = headS codec cs ∧ Bd = (bodyS kind codec cs).1:=⟨_,_,rfl,rfl⟩
   obtain ⟨X,Bd,hX,hBd⟩:=hW2
   rw [← hX,← hBd] at hW
   rw [← hX] at HHF
   rw [← hBd] at HBF HRB
   have HW:=Lib.hid hW
   clear hx9 hW hBd
   by_cases hs1:someN cs = 1
   ·have hXe:X = ((codec :: vl) ++ [(1:Int)]) ++ packS 1 (cs.map markC):=by rw [hX,headS_some hs1,hs1,HVV.out]
    rw [hs1]
    clear hX hs1
    have HXE:=Lib.hid hXe
    clear hXe
    generalize cs.map markC = us at *
    have hpl:((codec :: vl) ++ [(1:Int)]).length + (packS 1 us).length ≤ 140737488355328:=by have h1:=HHF.out.2;rw [HXE.out,List.length_append] at h1;omega
    have HPL:=Lib.hid hpl
    clear hpl
    go_upto_region 14 with (at_builtin;refine Kd.R_append (Kd.int .u8) (w0:=w) w.heap.size rfl (.tmp 40) (.tmp 42) 25 5 (.int .u8 0) 1 rfl Tryz.underlying25 info5 rfl (by decide) (by decide) _ (codec :: vl) 1 [.int .u8 1] (fun _=>True) (fun _=>False) rfl rfl rfl (fun _ hk=>hk.elim) (fun _ _=>trivial) H8.out HB.out HB.out.size (by have:=HX9.out;omega) ?_;intro v7 w7 hR7 hb7 hg7 hat7;have J8:=Lib.hid hR7;have J9:=Lib.hid (Kd.R_over' H9.out (Kd.R_typed H8.out) (by decide) hg7);have JB:=Lib.hid hb7;clear hR7 hb7 hg7 hat7)
    obtain ⟨A9,c9,rfl,hc9,hC9⟩:=Kd.R_reads J9.out
    have HC9:=Lib.hid hC9
    clear hC9
    go_upto_region 17 with (first
     | (go_at_call 59;refine (stoaref01_Pack.calls kk 1 A9 c9 us _ 0 _ HC9.out hc9 HKK.out).mono ?_;rintro e w8 ⟨v8p,rfl,hR8,hb8⟩;have T8:=Lib.hid (Kd.R_below J8.out hb8);have TB:=Lib.hid (below_then JB.out JB.out.size hb8);have TV:=Lib.hid (Kd.R_lt J8.out);have TU:=Lib.hid hR8;clear hR8 hb8)
     | (go_at_call 57;refine (radd_own T8.out TB.out TV.out TU.out HPL.out).mono ?_;rintro e w11 ⟨v11,rfl,hR11,hb11,_⟩;have H8x:RowKit.Hid (Kd.R (Kd.int .u8) 5 w11 w.heap.size (fun _=>True) v11 X):=Lib.hid (by rw [HXE.out];exact hR11);have HBx:=Lib.hid hb11;clear hR11 hb11))
    clear T8 TB TV TU J8 J9 JB
    have hbl:X.length + Bd.length ≤ 140737488355328:=by have h1:=HHF.out.2;have h2:=HBF.out.2.1;omega
    have HBL:=Lib.hid hbl
    clear hbl
    go_upto_region 18 with (first
     | (go_at_call 60;refine (HRB.out _ HBx.out).mono ?_;rintro e w9 ⟨v9b,rfl,hR9,hb9⟩;have T8:=Lib.hid (Kd.R_below H8x.out hb9);have TB:=Lib.hid (below_then HBx.out HBx.out.size hb9);have TV:=Lib.hid (Kd.R_lt H8x.out);have TU:=Lib.hid hR9;clear hR9 hb9)
     | (go_at_call 57;refine (radd_own T8.out TB.out TV.out TU.out HBL.out).mono ?_;rintro e w10 ⟨v10b,rfl,hR10,hb10,_⟩;have F8:=Lib.hid hR10;have FB:=Lib.hid hb10;clear hR10 hb10))
    have hyb:Bys (X ++ Bd):=HHF.out.1.append HBF.out.1
    have hyl:(X ++ Bd).length = X.length + Bd.length:=List.length_append
    have hXX:=HW.out
    clear T8 TB TV TU H8x HBx
    generalize X ++ Bd = Y at *
    obtain ⟨A10,c10,rfl,hc10,hC10⟩:=Kd.R_reads F8.out
    have hyl2:Y.length ≤ 2000000:=by have h1:=HHF.out.2;have h2:=HBF.out.2.1;omega
    have HYL:=Lib.hid hyl;have HC10:=Lib.hid hC10;have HYB:=Lib.hid hyb
    clear hyl hC10 hyb
    by_cases hg:65000 < Y.length + 4
    ·have hgi:(65000:Int) < (Y.length:Int) + 4:=by omega
     rw [if_pos (by have:=HYL.out;omega)] at hXX
     have HXX:=Lib.hid hXX
     clear hXX hg
     go_wp2
     go_ret2
     rw [HXX.out]
     exact ⟨_,rfl,Kd.R_nil _ _ _ _ _,FB.out⟩
    ·have hgi:decide ((65000:Int) < (Y.length:Int) + 4) = false:=by simp;omega
     rw [if_neg (by have:=HYL.out;omega)] at hXX
     have HXX:=Lib.hid hXX
     obtain ⟨kz,hkz⟩:=(rseal_ev HYB.out (by omega)).ex
     have HKZ:=Lib.hid hkz
     clear hXX hg hkz
     go_wp2_with (go_at_call 26;refine (stoaref03_Seal.calls kz A10 c10 Y _ _ HC10.out hc10 HKZ.out).mono ?_;rintro e w12 ⟨v12,rfl,hR12,hb12⟩)
     go_ret2
     rw [HXX.out]
     exact ⟨_,rfl,Kd.R_lower hR12 FB.out.size,below_then FB.out FB.out.size hb12⟩
   ·obtain ⟨hh1,hh0⟩:=headS_none (codec:=codec) hs1
    have hXe:X = (codec :: vl) ++ [(0:Int)]:=by rw [hX,hh1,hh0,HVV.out]
    rw [hh0]
    clear hX hs1 hh1 hh0
    have HXE:=Lib.hid hXe
    clear hXe
    generalize cs.map markC = us at *
    go_upto_region 17 with (at_builtin;refine Kd.R_append (Kd.int .u8) (w0:=w) w.heap.size rfl (.tmp 40) (.tmp 42) 25 5 (.int .u8 0) 1 rfl Tryz.underlying25 info5 rfl (by decide) (by decide) _ (codec :: vl) 0 [.int .u8 0] (fun _=>True) (fun _=>False) rfl rfl rfl (fun _ hk=>hk.elim) (fun _ _=>trivial) H8.out HB.out HB.out.size (by have:=HX9.out;omega) ?_;intro v7 w7 hR7 hb7 hg7 hat7;have J8:=Lib.hid hR7;have J9:=Lib.hid (Kd.R_over' H9.out (Kd.R_typed H8.out) (by decide) hg7);have JB:=Lib.hid hb7;clear hR7 hb7 hg7 hat7)
    have H8x:RowKit.Hid (Kd.R (Kd.int .u8) 5 _ w.heap.size (fun _=>True) _ X):=Lib.hid (by rw [HXE.out];exact J8.out)
    have HBx:=JB
    have hbl:X.length + Bd.length ≤ 140737488355328:=by have h1:=HHF.out.2;have h2:=HBF.out.2.1;omega
    have HBL:=Lib.hid hbl
    clear hbl
    go_upto_region 18 with (first
     | (go_at_call 60;refine (HRB.out _ HBx.out).mono ?_;rintro e w9 ⟨v9b,rfl,hR9,hb9⟩;have T8:=Lib.hid (Kd.R_below H8x.out hb9);have TB:=Lib.hid (below_then HBx.out HBx.out.size hb9);have TV:=Lib.hid (Kd.R_lt H8x.out);have TU:=Lib.hid hR9;clear hR9 hb9)
     | (go_at_call 57;refine (radd_own T8.out TB.out TV.out TU.out HBL.out).mono ?_;rintro e w10 ⟨v10b,rfl,hR10,hb10,_⟩;have F8:=Lib.hid hR10;have FB:=Lib.hid hb10;clear hR10 hb10))
    have hyb:Bys (X ++ Bd):=HHF.out.1.append HBF.out.1
    have hyl:(X ++ Bd).length = X.length + Bd.length:=List.length_append
    have hXX:=HW.out
    clear T8 TB TV TU H8x HBx
    generalize X ++ Bd = Y at *
    obtain ⟨A10,c10,rfl,hc10,hC10⟩:=Kd.R_reads F8.out
    have hyl2:Y.length ≤ 2000000:=by have h1:=HHF.out.2;have h2:=HBF.out.2.1;omega
    have HYL:=Lib.hid hyl;have HC10:=Lib.hid hC10;have HYB:=Lib.hid hyb
    clear hyl hC10 hyb
    by_cases hg:65000 < Y.length + 4
    ·have hgi:(65000:Int) < (Y.length:Int) + 4:=by omega
     rw [if_pos (by have:=HYL.out;omega)] at hXX
     have HXX:=Lib.hid hXX
     clear hXX hg
     go_wp2
     go_ret2
     rw [HXX.out]
     exact ⟨_,rfl,Kd.R_nil _ _ _ _ _,FB.out⟩
    ·have hgi:decide ((65000:Int) < (Y.length:Int) + 4) = false:=by simp;omega
     rw [if_neg (by have:=HYL.out;omega)] at hXX
     have HXX:=Lib.hid hXX
     obtain ⟨kz,hkz⟩:=(rseal_ev HYB.out (by omega)).ex
     have HKZ:=Lib.hid hkz
     clear hXX hg hkz
     go_wp2_with (go_at_call 26;refine (stoaref03_Seal.calls kz A10 c10 Y _ _ HC10.out hc10 HKZ.out).mono ?_;rintro e w12 ⟨v12,rfl,hR12,hb12⟩)
     go_ret2
     rw [HXX.out]
     exact ⟨_,rfl,Kd.R_lower hR12 FB.out.size,below_then FB.out FB.out.size hb12⟩
set_option maxRecDepth 100000 in
set_option maxHeartbeats 2000000 in
theorem rbest_any (kind:Int) (A:Option Addr) (c:Nat) (cs:List Cel) (w:World) (hok:∀ c ∈ cs,CelOk c) (h:Kd.C k53 w A cs.length cs) (hc:cs.length ≤ c) (hl:cs.length ≤ 140737488355328) :
  Calls Tryz.prog 16 #[.int .i64 kind,.slice A cs.length c] w (BestMade w (bestBlk kind cs).1 (bestBlk kind cs).2.1 (bestBlk kind cs).2.2):=by
 unfold bestBlk
 by_cases h1:kind < 1 ∨ 8 < kind
 ·rw [if_pos h1]
  clear h hok
  rcases h1 with h1 | h1
  ·go_enter Tryz.func16,Tryz.ntmps16
   go_wp2
   go_ret3
   exact ⟨_,rfl,Kd.R_nil _ _ _ _ _,Below.refl _ _⟩
  ·have h2:decide (kind < 1) = false:=by simp;omega
   go_enter Tryz.func16,Tryz.ntmps16
   go_wp2
   go_ret3
   exact ⟨_,rfl,Kd.R_nil _ _ _ _ _,Below.refl _ _⟩
 rw [if_neg h1]
 have d1:decide (kind < 1) = false:=by simp;omega
 have d8:decide (8 < kind) = false:=by simp;omega
 have hfit:=fun codec=>rfits_law (kind:=kind) ⟨by omega,by omega⟩ codec
 obtain ⟨kc,hkc⟩:=(rchecks_ev (kind:=kind) hl (fun c hc=>(hok c hc).2.2)).ex
 have HC:=Lib.hid h
 by_cases h3:checkCs kind cs = 0
 ·have hf:=fine_of h1 h3 hok
  have hw:=fun codec (h2:fitsC kind codec) (w2:World) (hb:Below w.heap.size w w2)=>rwrite_any kind codec A c cs w2 hf h2 (Kd.C_below h hb) hc
  rw [if_neg (by simpa using h3)]
  rw [h3] at hkc
  obtain ⟨X,hX⟩:∃ X,bestL kind cs 5 1 0 [] = X:=⟨_,rfl⟩
  rw [hX]
  obtain ⟨T,hT⟩:∃ T:Int × List Int × Int,T = (if X.1 = 0 then (0,[],4) else (X.1,X.2,0)):=⟨_,rfl⟩
  rw [← hT]
  have HX:=Lib.hid hX;have HT:=Lib.hid hT
  clear hT
  have HF:=Lib.hid hfit;have HKC:=Lib.hid hkc;have HW:=Lib.hid hw
  clear hfit hw hf h3 h1 h hok hX hkc
  go_enter Tryz.func16,Tryz.ntmps16
  go_wp2_with (first
   | (go_at_call 33;refine (stoaref12_check.calls kc kind A c cs 0 _ HC.out hc HKC.out).mono ?_;rintro e w3 ⟨rfl,hb3⟩;have R0:=Lib.hid (empty_R (Kd.int .u8) w3 5 w.heap.size hb3.size)))
  go_loopw [8,9,10] (fun v8 v9 v10 wq=>∃ (i:Nat) (k:Int) (b:List Int),1 ≤ i ∧ i ≤ 6 ∧ v8 = .int .i64 k ∧ v10 = .int .i64 i ∧ RowKit.Hid (bestL kind cs (6 - i) i k b = X) ∧ Kd.R (Kd.int .u8) 5 wq w.heap.size (fun _=>True) v9 b ∧ Below w.heap.size w wq) (fun _ _ v10 _=>6 - (intOf v10).toNat)
  case atStart=>exact ⟨1,0,[],by decide,by decide,rfl,rfl,HX,R0.out,below_alloc hb3 _⟩
  case round =>
   obtain ⟨i,k,b,hi1,hi6,rfl,rfl,hXi,hRb,hbr⟩:=hrel
   obtain ⟨Ab,cb,rfl⟩:=Kd.R_slice hRb
   by_cases hlt:i < 6
   ·obtain ⟨n,hn⟩:∃ n,6 - i = n + 1:=⟨5 - i,by omega⟩
    rw [hn] at hXi
    have hn2:6 - (i + 1) = n:=by omega
    have hkf:=HF.out (i:Int)
    have hle:(i:Int) ≤ 5:=by omega
    by_cases h2:fitsC kind (i:Int)
    ·rw [decide_eq_true h2] at hkf
     have hX2:=bestL_fit hXi.out h2
     have hwr:=HW.out (i:Int) h2
     generalize writeS kind i cs = r at *
     obtain ⟨p,er⟩:=r
     have HKF:=Lib.hid hkf;have HWR:=Lib.hid hwr;have HN:=Lib.hid hn2;have HR:=Lib.hid hRb;have HBR:=Lib.hid hbr;have HLT:=Lib.hid hlt;have HI1:=Lib.hid hi1
     clear hkf hwr hXi hn hn2 hRb hbr h2 hlt
     simp only at hX2
     by_cases he:er = 0
     ·subst he
      by_cases hk0:k = 0
      ·subst hk0
       rw [if_pos ⟨rfl,Or.inl rfl⟩] at hX2
       have HX2:=Lib.hid hX2
       clear hX2
       go_wp2_with (first
        | (go_at_call 32;refine (stoaref12_Fits.calls kind i true _ HKF.out).mono ?_;rintro e w4 ⟨rfl,⟨m4,rfl⟩⟩)
        | (go_at_call 34;refine (HWR.out _ (pw_below_drewN HBR.out _)).mono ?_;rintro e w5 ⟨v5,rfl,hR5,hb5⟩;have hbr5:=(fun (hx:Below w.heap.size w (wr.drewN m4))=>below_then hx hx.size hb5) (pw_below_drewN HBR.out _);have hR5w:=Kd.R_lower hR5 (pw_below_drewN HBR.out m4).size;have hRb5:=Kd.R_below (Kd.R_drewN HR.out m4) hb5;obtain ⟨A5,c5,rfl⟩:=Kd.R_slice hR5w))
       go_roundw
       case rel=>exact ⟨i + 1,i,p,by omega,by have:=HLT.out;omega,rfl,by go_num,Lib.hid (by rw [HN.out];exact HX2.out),hR5w,hbr5⟩
       case measure=>have:=HLT.out;simp [intOf];omega
      ·have dk:decide (k = 0) = false:=by simpa using hk0
       have hkb:(k == 0) = false:=by simpa using hk0
       by_cases hlen:p.length < b.length
       ·rw [if_pos ⟨rfl,Or.inr hlen⟩] at hX2
        have HX2:=Lib.hid hX2
        have dl:decide (p.length < b.length) = true:=by simpa using hlen
        have di:(p.length:Int) < (b.length:Int):=by omega
        clear hX2
        go_wp2_with (first
         | (go_at_call 32;refine (stoaref12_Fits.calls kind i true _ HKF.out).mono ?_;rintro e w4 ⟨rfl,⟨m4,rfl⟩⟩)
         | (go_at_call 34;refine (HWR.out _ (pw_below_drewN HBR.out _)).mono ?_;rintro e w5 ⟨v5,rfl,hR5,hb5⟩;have hbr5:=(fun (hx:Below w.heap.size w (wr.drewN m4))=>below_then hx hx.size hb5) (pw_below_drewN HBR.out _);have hR5w:=Kd.R_lower hR5 (pw_below_drewN HBR.out m4).size;have hRb5:=Kd.R_below (Kd.R_drewN HR.out m4) hb5;obtain ⟨A5,c5,rfl⟩:=Kd.R_slice hR5w))
        go_roundw
        case rel=>exact ⟨i + 1,i,p,by omega,by have:=HLT.out;omega,rfl,by go_num,Lib.hid (by rw [HN.out];exact HX2.out),hR5w,hbr5⟩
        case measure=>have:=HLT.out;simp [intOf];omega
       ·rw [if_neg (fun h=>h.2.elim hk0 hlen)] at hX2
        have HX2:=Lib.hid hX2
        have dl:decide (p.length < b.length) = false:=by simpa using hlen
        have di:decide ((p.length:Int) < (b.length:Int)) = false:=by simpa using hlen
        clear hX2
        go_wp2_with (first
         | (go_at_call 32;refine (stoaref12_Fits.calls kind i true _ HKF.out).mono ?_;rintro e w4 ⟨rfl,⟨m4,rfl⟩⟩)
         | (go_at_call 34;refine (HWR.out _ (pw_below_drewN HBR.out _)).mono ?_;rintro e w5 ⟨v5,rfl,hR5,hb5⟩;have hbr5:=(fun (hx:Below w.heap.size w (wr.drewN m4))=>below_then hx hx.size hb5) (pw_below_drewN HBR.out _);have hR5w:=Kd.R_lower hR5 (pw_below_drewN HBR.out m4).size;have hRb5:=Kd.R_below (Kd.R_drewN HR.out m4) hb5;obtain ⟨A5,c5,rfl⟩:=Kd.R_slice hR5w))
        go_roundw
        case rel=>exact ⟨i + 1,k,b,by omega,by have:=HLT.out;omega,rfl,by go_num,Lib.hid (by rw [HN.out];exact HX2.out),hRb5,hbr5⟩
        case measure=>have:=HLT.out;simp [intOf];omega
     ·rw [if_neg (fun h=>he h.1)] at hX2
      have HX2:=Lib.hid hX2
      have de:decide (er = 0) = false:=by simpa using he
      clear hX2
      have heb:(er == 0) = false:=by simpa using he
      go_wp2_with (first
       | (go_at_call 32;refine (stoaref12_Fits.calls kind i true _ HKF.out).mono ?_;rintro e w4 ⟨rfl,⟨m4,rfl⟩⟩)
       | (go_at_call 34;refine (HWR.out _ (pw_below_drewN HBR.out _)).mono ?_;rintro e w5 ⟨v5,rfl,hR5,hb5⟩;have hbr5:=(fun (hx:Below w.heap.size w (wr.drewN m4))=>below_then hx hx.size hb5) (pw_below_drewN HBR.out _);have hR5w:=Kd.R_lower hR5 (pw_below_drewN HBR.out m4).size;have hRb5:=Kd.R_below (Kd.R_drewN HR.out m4) hb5;obtain ⟨A5,c5,rfl⟩:=Kd.R_slice hR5w))
      go_roundw
      case rel=>exact ⟨i + 1,k,b,by omega,by have:=HLT.out;omega,rfl,by go_num,Lib.hid (by rw [HN.out];exact HX2.out),hRb5,hbr5⟩
      case measure=>have:=HLT.out;simp [intOf];omega
    ·rw [decide_eq_false h2] at hkf
     have hX2:=bestL_skip hXi.out h2
     have HKF:=Lib.hid hkf;have HX2:=Lib.hid hX2;have HN:=Lib.hid hn2;have HR:=Lib.hid hRb;have HBR:=Lib.hid hbr;have HLT:=Lib.hid hlt;have HI1:=Lib.hid hi1
     clear hkf hX2 hXi hn hn2 hRb hbr h2 hlt
     go_wp2_with (go_at_call 32;refine (stoaref12_Fits.calls kind i false _ HKF.out).mono ?_;rintro e w4 ⟨rfl,⟨m4,rfl⟩⟩)
     go_roundw
     case rel=>exact ⟨i + 1,k,b,by omega,by have:=HLT.out;omega,rfl,by go_num,Lib.hid (by rw [HN.out];exact HX2.out),Kd.R_drewN HR.out _,pw_below_drewN HBR.out _⟩
     case measure=>have:=HLT.out;simp [intOf];omega
   ·obtain rfl:i = 6:=by omega
    have hX6:X = (k,b):=hXi.out.symm
    subst hX6
    clear HX hXi
    have HR:=Lib.hid hRb;have HBR:=Lib.hid hbr
    clear hRb hbr
    by_cases hk0:k = 0
    ·subst hk0
     have hT:=HT.out
     rw [if_pos rfl] at hT
     subst hT
     clear HT
     go_wp2
     go_ret3
     exact ⟨_,rfl,Kd.R_nil _ _ _ _ _,HBR.out⟩
    ·have dk:decide (k = 0) = false:=by simpa using hk0
     have hkb:(k == 0) = false:=by simpa using hk0
     have hT:=HT.out
     rw [if_neg hk0] at hT
     subst hT
     clear HT
     go_wp2
     go_ret3
     exact ⟨_,rfl,HR.out,HBR.out⟩
 ·rw [if_pos h3]
  have HKC:=Lib.hid hkc
  generalize checkCs kind cs = r at *
  have d3:decide (r = 0) = false:=by simpa using h3
  have d4:(r == 0) = false:=by simpa using h3
  clear hfit h1 h hok hkc
  go_enter Tryz.func16,Tryz.ntmps16
  go_wp2_with (go_at_call 33;refine (stoaref12_check.calls kc kind A c cs r _ HC.out hc HKC.out).mono ?_;rintro e w3 ⟨rfl,hb3⟩)
  go_ret3
  exact ⟨_,rfl,Kd.R_nil _ _ _ _ _,hb3⟩
end Go.Proofs.YteeikgjjgfdjgaaGreat.PK
end
section
namespace Go.Proofs.YteeikgjjgfdjgaaGreat.PK
open Go.RowKit Go.Maps Go.Proofs.YteeikgjjgfdjgaaGreatW.PrintWords Go.Proofs.YteeikgjjgfdjgaaGreatW.PrintLast Go.Proofs.YteeikgjjgfdjgaaGreatW.PrintMore
set_option linter.unusedVariables false
set_option linter.unusedSimpArgs false
theorem bestBlk_len (kind:Int) (cs:List Cel):(bestBlk kind cs).2.1.length ≤ 65000:=by
 by_cases h:(bestBlk kind cs).2.2 = 0
 ·have h1:=bestBlk_ok h
  obtain ⟨_,_,_,_,h5,h6,_⟩:=encBlk_ok (kind:=kind) (codec:=(bestBlk kind cs).1) (cs:=cs) (by rw [h1])
  rw [h1] at h6
  have:=congrArg Prod.fst h6
  simp only at this
  rw [this,sealS_length,List.length_append]
  omega
 ·have:(bestBlk kind cs).2.1 = []:=by
   unfold bestBlk at h ⊢
   split
   ·rfl
   ·split
    ·rfl
    ·split
     ·rfl
     ·rename_i h1 h2 h3
      rw [if_neg h1,if_neg h2,if_neg h3] at h
      exact absurd rfl h
  rw [this];decide
set_option maxHeartbeats 4000000 in
set_option maxRecDepth 100000 in
theorem blockbest_any (kind:Int) (A:Option Addr) (c:Nat) (cs:List Cel) (w:World) (hr:Kd.C k53 w A cs.length cs) (hc:cs.length ≤ c) (hok:∀ c ∈ cs,CelOk c) (hl:cs.length * 40 ≤ 140737488351232) :
  Calls Tryz.prog 4 #[.int .i64 kind,.slice A cs.length c] w fun e w'=>e = .returned (.bool true) ∧ Hold w.heap.size w w':=by
 obtain ⟨kt,hkt⟩:=(twinrow_ev cs (by omega) (fun c hc=>(hok c hc).2.2)).ex
 obtain ⟨ka,hka⟩:=(alikerow_ev cs (by omega) (fun c hc=>(hok c hc).2.2)).ex
 have hke:=fun (w2:World) (hb:Below w.heap.size w w2)=>rbest_any kind A c cs w2 hok (Kd.C_below hr hb) hc (by omega)
 have hlen:=bestBlk_len kind cs
 have hsp:=fun j=>@best_spec kind cs j
 have HEN:=fun (codec:Int) (A:Option Addr) (c:Nat) (w:World) (hr:Kd.C k53 w A cs.length cs) (hc:cs.length ≤ c)=>blkEnc_any (kind:=kind) (codec:=codec) hok hr hc (fun hf=>body_any hf hr hc)
 have HBE:=fun (A:Option Addr) (c:Nat) (w:World) (hr:Kd.C k53 w A cs.length cs) (hc:cs.length ≤ c)=>best_any (kind:=kind) hok hr hc (fun hf=>body_any hf hr hc)
 generalize bestBlk kind cs = r at *
 obtain ⟨bc,bl,be⟩:=r
 simp only at hlen HBE hsp hke
 obtain ⟨ks,hks⟩:=(same_ev bl (by omega)).ex
 have HE:=Lib.hid HEN;have HB:=Lib.hid HBE;have HR:=Lib.hid hr;have HKT:=Lib.hid hkt;have HKE:=Lib.hid hke;have HKA:=Lib.hid hka;have HKS:=Lib.hid hks;have HSP:=Lib.hid hsp
 clear HEN HBE hr hkt hke hka hok hks hsp
 go_enter Tryz.func4,Tryz.ntmps4
 go_upto_region 4 with (first
  | (go_at_call 9;refine (alive_any _).mono ?_;rintro e w1 ⟨rfl,hb1⟩)
  | (go_at_call 10;refine (stoaref05_TwinRow.calls kt A c cs cs _ (Kd.C_below HR.out hb1) hc HKT.out).mono ?_;rintro e w2 ⟨v2,rfl,hS2,hb2⟩;obtain ⟨A2,c2,rfl,hc2,hC2⟩:=Kd.S_reads hS2;have hB2:=below_then hb1 hb1.size hb2;have HB2:=Lib.hid hB2;have HC2:=Lib.hid hC2;clear hS2 hC2 hb1 hb2 hB2))
 go_upto_region 5 with (go_at_call 15;refine (HB.out A2 c2 _ HC2.out hc2).mono ?_;rintro e w3 ⟨v3,rfl,hR3,hb3⟩)
 obtain ⟨A3,c3,rfl,hc3,hC3⟩:=Kd.R_reads hR3
 have B03:=below_then HB2.out HB2.out.size hb3
 go_upto_region 6 with (go_at_call 16;refine (HKE.out _ B03).mono ?_;rintro e w4 ⟨v4,rfl,hR4,hb4⟩)
 obtain ⟨A4,c4,rfl,hc4,hC4⟩:=Kd.R_reads hR4
 have HC34:=Lib.hid (Kd.C_below hC3 hb4)
 have HC44:=Lib.hid hC4
 have HC24:=Lib.hid (Kd.C_below (Kd.C_below HC2.out hb3) hb4)
 have HB4:=Lib.hid (below_then B03 B03.size hb4)
 clear hR3 hR4 hC3 hC4 B03 hb3 hb4
 go_upto_region 8 with (first
  | (go_at_call 17;refine (stoaref01_Same.calls ks A3 c3 bl A4 c4 bl true _ HC34.out hc3 HC44.out hc4 HKS.out).mono ?_;rintro e w5 ⟨rfl,hD5⟩;have HD5:=Lib.hid hD5.below;clear hD5)
  | (go_at_call 14;refine (stoaref05_AlikeRow.calls ka A2 c2 cs A c cs true _ (Kd.C_below HC24.out HD5.out) hc2 (Kd.C_below HR.out (below_then HB4.out HB4.out.size HD5.out)) hc HKA.out).mono ?_;rintro e w6 ⟨rfl,hb6⟩))
 have HC26:=Lib.hid (Kd.C_below (Kd.C_below HC24.out HD5.out) hb6)
 have HB6:=Lib.hid (below_then (below_then HB4.out HB4.out.size HD5.out) (below_then HB4.out HB4.out.size HD5.out).size hb6)
 clear hb6 HB4 HC24 HC34 HC44 HB HKT HKE HKA HKS HD5
 iterate 3 (first | go_values | go_skip | go_guarded | go_step | go_upon)
 rename_i hkont
 refine hkont _ _ ?_
 iterate 3 (first | go_values | go_skip | go_guarded | go_step | go_upon)
 go_step
 go_loopw [12,13,14] (fun v12 _ _ wq=>∃ i:Nat,1 ≤ i ∧ i ≤ 6 ∧ v12 = .int .i64 i ∧ RowKit.Hid (Kd.C k53 wq A2 cs.length cs) ∧ RowKit.Hid (Below w.heap.size w wq)) (fun v12 _ _ _=>6 - (intOf v12).toNat)
 case atStart=>exact ⟨1,by decide,by decide,rfl,HC26,HB6⟩
 case round =>
  obtain ⟨i,hi1,hi6,rfl,HCr,HBr⟩:=hrel
  by_cases hlt:i < 6
  ·have hle:(i:Int) ≤ 5:=by omega
   have hwr:=HE.out (i:Int) A2 c2
   have hsp:=HSP.out (i:Int)
   generalize encBlk kind i cs = r at *
   obtain ⟨p,er⟩:=r
   simp only at hwr hsp
   have HWR:=Lib.hid hwr;have HLT:=Lib.hid hlt;have HI1:=Lib.hid hi1
   clear hwr hi1 hlt
   by_cases he:er = 0
   ·subst he
    obtain ⟨rfl,hs⟩:=hsp rfl
    have g1:decide ((p.length:Int) < (bl.length:Int)) = false:=by simp;omega
    have hge:bl.length ≤ p.length:=by omega
    by_cases hs2:p.length = bl.length
    ·have g2:((p.length:Int) == (bl.length:Int)) = true:=by simp [hs2]
     have g3:decide ((i:Int) < bc) = false:=by simp;omega
     have hbi:bc ≤ (i:Int):=by omega
     clear hs hsp hs2
     go_wp2_with (go_at_call 11;refine (HWR.out _ HCr.out hc2).mono ?_;rintro e w7 ⟨v7,rfl,hR7,hb7⟩;obtain ⟨A7,c7,rfl⟩:=Kd.R_slice hR7)
     go_roundw
     case rel=>exact ⟨i + 1,by omega,by have:=HLT.out;omega,by go_num,Lib.hid (Kd.C_below HCr.out hb7),Lib.hid (below_then HBr.out HBr.out.size hb7)⟩
     case measure=>have:=HLT.out;simp [intOf];omega
    ·have g2:((p.length:Int) == (bl.length:Int)) = false:=by simp;omega
     have hne:¬ p.length = bl.length:=hs2
     clear hs hsp hs2
     go_wp2_with (go_at_call 11;refine (HWR.out _ HCr.out hc2).mono ?_;rintro e w7 ⟨v7,rfl,hR7,hb7⟩;obtain ⟨A7,c7,rfl⟩:=Kd.R_slice hR7)
     go_roundw
     case rel=>exact ⟨i + 1,by omega,by have:=HLT.out;omega,by go_num,Lib.hid (Kd.C_below HCr.out hb7),Lib.hid (below_then HBr.out HBr.out.size hb7)⟩
     case measure=>have:=HLT.out;simp [intOf];omega
   ·have heb:(er == 0) = false:=by simpa using he
    have de:decide (er = 0) = false:=by simpa using he
    clear hsp
    go_wp2_with (go_at_call 11;refine (HWR.out _ HCr.out hc2).mono ?_;rintro e w7 ⟨v7,rfl,hR7,hb7⟩;obtain ⟨A7,c7,rfl⟩:=Kd.R_slice hR7)
    go_roundw
    case rel=>exact ⟨i + 1,by omega,by have:=HLT.out;omega,by go_num,Lib.hid (Kd.C_below HCr.out hb7),Lib.hid (below_then HBr.out HBr.out.size hb7)⟩
    case measure=>have:=HLT.out;simp [intOf];omega
  ·obtain rfl:i = 6:=by omega
   go_wp2
   go_ret
   exact ⟨rfl,Hold.of_below HBr.out⟩
end Go.Proofs.YteeikgjjgfdjgaaGreat.PK
end
section
namespace Go.Proofs.YteeikgjjgfdjgaaGreat.PK
open Go.ChangeShapes Go.WideShapes Go.ChangeAt Go.RowKit Go.Deep Go.Proofs.YteeikgjjgfdjgaaGreatW.PrintWords
set_option linter.unusedVariables false
set_option linter.unusedSimpArgs false
theorem reachBytes_eq:reachBytes = 140737488351232:=by decide
theorem list_of {α:Type} {Q:Nat → α → Prop}:∀ n,(∀ i,i < n → ∃ y,Q i y) → ∃ l:List α,l.length = n ∧ ∀ i y,l[i]? = some y → Q i y
 | 0,_=>⟨[],rfl,fun i y h=>(by simp at h)⟩
 | n + 1,h=>by
  obtain ⟨l,h1,h2⟩:=list_of n (fun i hi=>h i (by omega))
  obtain ⟨y,hy⟩:=h n (by omega)
  refine ⟨l ++ [y],by simp [h1],fun i z hz=>?_⟩
  by_cases hi:i < n
  ·rw [List.getElem?_append_left (by omega)] at hz
   exact h2 i z hz
  ·have:i = n:=by
    have:=(List.getElem?_eq_some_iff.1 hz).1
    simp [h1] at this
    omega
   subst this
   rw [List.getElem?_append_right (by omega),h1,Nat.sub_self] at hz
   simp at hz
   exact hz ▸ hy
section
variable {P:Program} {W:World}
def Opens (P:Program) (W:World) {α:Type} (t:TypeId) (k:Kd α) (G:α → Prop):Prop:=
 ∀ (H:Type) (enc:TypeId × Value → H) (fuel:Nat) (cs:List Value) (x:DataW H × List MemPlace),DataW.trod enc P W 0 (fun _=>true) true fuel t cs = some x → (x.1.weights P t).all (· ≤ reachBytes) = true → ∃ a,k.K W a cs ∧ G a
theorem Opens.imp {α:Type} {t:TypeId} {k:Kd α} {G G':α → Prop} (h:Opens P W t k G) (hi:∀ a,G a → G' a):Opens P W t k G':=fun H enc fuel cs x hx hw=>by
 obtain ⟨a,h1,h2⟩:=h H enc fuel cs x hx hw
 exact ⟨a,h1,hi a h2⟩
theorem opens_int {t:TypeId} {q:IntKind} (ht:P.underlying t = some (.int q)):Opens P W t (Kd.int q) (fun n=>(Lit.int q n).wf = true):=by
 intro H enc fuel cs x hx hw
 cases fuel with
 | zero=>simp [DataW.trod] at hx
 | succ fuel =>
  unfold DataW.trod at hx
  rw [ht] at hx
  split at hx <;> simp_all
  rename_i k' n h1
  obtain ⟨⟨rfl,h2⟩,_⟩:=hx
  exact ⟨n,rfl,h2⟩
theorem weightsAll_mem {H:Type} {e:TypeId}:∀ {l:List (DataW H)} {d:DataW H},d ∈ l → ∀ n ∈ d.weights P e,n ∈ DataW.weightsAll P e l
 | [],d,hd,n,hn=>by cases hd
 | d0 :: l,d,hd,n,hn=>by
  rw [DataW.weightsAll,List.mem_append]
  rcases List.mem_cons.1 hd with rfl | hd
  ·exact .inl hn
  ·exact .inr (weightsAll_mem hd n hn)
theorem opens_slice {α:Type} {t e:TypeId} {k:Kd α} {G:α → Prop} {B:Nat} (ht:P.underlying t = some (.slice e)) (hk:Opens P W e k G) (hc:P.cellsOf e = k.sz) (hB:P.bytesOf e = B):Opens P W t (Kd.slice e k) (fun l=>(∀ a ∈ l,G a) ∧ l.length * B ≤ 140737488351232):=by
 intro H enc fuel cs x hx hw
 rcases open_slice ht hx with ⟨rfl,rfl⟩ | ⟨a,len,cap,m,n,D,Pl,rfl,_,hl,hm,hmm,rfl,hel⟩
 ·exact ⟨[],⟨none,0,rfl,Nat.le_refl _,Kd.C_nil _ _⟩,⟨fun a ha=>(by cases ha),by simp⟩⟩
 ·simp only [if_true] at hmm
  subst hmm
  simp only [DataW.weights,ht,List.length_map,List.length_range,List.all_cons,Bool.and_eq_true,decide_eq_true_eq,List.all_append] at hw
  obtain ⟨hw1,hw2,_⟩:=hw
  rw [hB] at hw1
  have hel':∀ i,i < len → ∃ y c,c.length = k.sz ∧ (∀ j u,c[j]? = some u → W.cell? (a.add (i * k.sz + j)) = some u) ∧ k.K W y c ∧ G y:=by
   intro i hi
   obtain ⟨cs',h1,h2⟩:=hel i (by omega)
   obtain ⟨_,hlen,hcell⟩:=World.cells?_some h1
   rw [hc] at hlen hcell
   obtain ⟨y,hy,hG⟩:=hk H enc n cs' _ h2 (by
    rw [List.all_eq_true] at hw2 ⊢
    intro z hz
    exact hw2 z (weightsAll_mem (List.mem_map.2 ⟨i,List.mem_range.2 hi,rfl⟩) z hz))
   refine ⟨y,cs',hlen,fun j u hu=>?_,hy,hG⟩
   have hj:j < k.sz:=by rw [← hlen];exact (List.getElem?_eq_some_iff.1 hu).1
   have:=hcell j hj
   rw [hu] at this
   rw [← this]
   congr 1
   exact (Go.Deep.add_add _ _ _).symm
  obtain ⟨l,hll,hlq⟩:=list_of len hel'
  refine ⟨l,⟨some a,m,by rw [hll],by omega,⟨rfl,by rw [hll];unfold maxLen at hm;omega,fun _=>⟨a,rfl,fun j p hj=>?_⟩⟩⟩,fun y hy=>?_,?_⟩
  ·obtain ⟨c,h1,h2,h3,_⟩:=hlq j p hj
   exact ⟨c,h1,h3,h2⟩
  ·obtain ⟨j,hj,rfl⟩:=List.mem_iff_getElem.1 hy
   exact (hlq j _ (List.getElem?_eq_getElem hj)).choose_spec.2.2.2
  ·rw [hll]
   have:=reachBytes_eq
   refine Nat.le_trans (Nat.mul_le_mul_right _ (show len ≤ len + (m - len) by omega)) (by omega)
def OpensL (P:Program) (W:World) {α:Type} (fs:List Field) (off:Nat) (k:Kd α) (G:α → Prop):Prop:=
 ∀ (H:Type) (enc:TypeId × Value → H) (n:Nat) (cs:List Value) (xs:List (DataW H × List MemPlace)),off + k.sz ≤ cs.length → xs.length = fs.length → (∀ (i:Nat) (f:Field),fs[i]? = some f → DataW.trod enc P W 0 (fun _=>true) true n f.type ((cs.drop f.offset).take (P.cellsOf f.type)) = xs[i]?) →
  (DataW.weightsEach P (fs.map (·.type)) (xs.map (·.1))).all (· ≤ reachBytes) = true → ∃ a,k.K W a ((cs.drop off).take k.sz) ∧ G a
theorem opensL_one {α:Type} {f:Field} {off:Nat} {k:Kd α} {G:α → Prop} (h:Opens P W f.type k G) (ho:f.offset = off) (hc:P.cellsOf f.type = k.sz):OpensL P W [f] off k G:=by
 intro H enc n cs xs hl hx hf hw
 match xs,hx with
 | [x],_ =>
  have h0:=hf 0 f rfl
  rw [ho,hc] at h0
  simp only [List.map_cons,List.map_nil,DataW.weightsEach,List.append_nil] at hw
  exact h H enc n _ x h0 hw
theorem opensL_cons {α β:Type} {f:Field} {r:List Field} {off:Nat} {k:Kd α} {G:α → Prop} {kr:Kd β} {Gr:β → Prop} (h:Opens P W f.type k G) (ho:f.offset = off) (hc:P.cellsOf f.type = k.sz) (hr:OpensL P W r (off + k.sz) kr Gr):OpensL P W (f :: r) off (Kd.pair k kr) (fun p=>G p.1 ∧ Gr p.2):=by
 intro H enc n cs xs hl hx hf hw
 match xs,hx with
 | x :: xs,hx =>
  have h0:=hf 0 f rfl
  rw [ho,hc] at h0
  simp only [List.map_cons,DataW.weightsEach,List.all_append,Bool.and_eq_true] at hw
  have hsz:(Kd.pair k kr).sz = k.sz + kr.sz:=rfl
  rw [hsz] at hl ⊢
  obtain ⟨a,ha,hG⟩:=h H enc n _ x h0 hw.1
  obtain ⟨b,hb,hGr⟩:=hr H enc n cs xs (by omega) (by simpa using hx) (fun i g hg=>hf (i + 1) g hg) hw.2
  refine ⟨(a,b),⟨_,_,?_,ha,hb⟩,hG,hGr⟩
  rw [List.take_add,List.drop_drop]
theorem opens_struct {α:Type} {t:TypeId} {fs:Array Field} {k:Kd α} {G:α → Prop} (ht:P.underlying t = some (.struct fs)) (hc:P.cellsOf t = k.sz) (h:OpensL P W fs.toList 0 k G):Opens P W t k G:=by
 intro H enc fuel cs x hx hw
 obtain ⟨xs,n,_,rfl,hl,hlen,hf⟩:=DataW.trod_struct ht hx
 rw [hc] at hl
 simp only [DataW.weights,ht] at hw
 obtain ⟨a,ha,hG⟩:=h H enc n cs xs (by omega) (by simpa using hlen) (fun i f hi=>hf i f (by simpa using hi)) hw
 rw [List.drop_zero,List.take_of_length_le (by omega)] at ha
 exact ⟨a,ha,hG⟩
theorem open_var {α:Type} {H:Type} {enc:TypeId × Value → H} {t:TypeId} {k:Kd α} {G:α → Prop} (h:Opens P W t k G) {ts:List TypeId} {ds:List (DataW H)} {j:Nat} {d:DataW H} {v:Value} {ps:List MemPlace} (hsz:(DataW.weightsEach P ts ds).all (· ≤ reachBytes) = true) (ht:ts[j]? = some t) (hd:ds[j]? = some d)
  (hv:DataW.Trod enc P W 0 (fun _=>true) true t v d ps):∃ a,k.K W a v.cells.toList ∧ G a:=by
 obtain ⟨fuel,hf⟩:=hv
 refine h H enc fuel _ _ hf ?_
 rw [List.all_eq_true] at hsz ⊢
 intro n hn
 exact hsz n (DataW.weights_mem_each ht hd n hn)
theorem slice_cells {α:Type} {e:Nat} {k:Kd α} {a:List α} {p:Option Addr} {len cap:Nat} (h:(Kd.slice e k).K W a (Value.slice p len cap).cells.toList):len = a.length ∧ a.length ≤ cap ∧ k.C W p a.length a:=by
 obtain ⟨A,c,he,hl,hC⟩:=h
 simp [Value.cells] at he
 obtain ⟨rfl,rfl,rfl⟩:=he
 exact ⟨rfl,hl,hC⟩
end
end Go.Proofs.YteeikgjjgfdjgaaGreat.PK
end
section
namespace Go.Proofs.YteeikgjjgfdjgaaGreat.PK
open Go.ChangeShapes Go.WideShapes Go.ChangeAt Go.RowKit Go.Deep Go.Proofs.YteeikgjjgfdjgaaGreatW.PrintWords
set_option linter.unusedVariables false
set_option linter.unusedSimpArgs false
variable {W:World}
theorem byte_wf {n:Int} (h:(Lit.int .u8 n).wf = true):0 ≤ n ∧ n < 256:=by
 simp only [Lit.wf,IntKind.min,IntKind.max,IntKind.signed,IntKind.bits,Bool.and_eq_true,decide_eq_true_eq] at h
 simp at h
 omega
theorem i64_wf {n:Int} (h:(Lit.int .i64 n).wf = true):I64 n:=by
 simp only [Lit.wf,IntKind.min,IntKind.max,IntKind.signed,IntKind.bits,Bool.and_eq_true,decide_eq_true_eq] at h
 simp at h
 unfold I64
 omega
theorem opens_bool {P:Program} {t:TypeId} (ht:P.underlying t = some .bool):Opens P W t Kd.bool (fun _=>True):=by
 intro H enc fuel cs x hx hw
 cases fuel with
 | zero=>simp [DataW.trod] at hx
 | succ fuel =>
  unfold DataW.trod at hx
  rw [ht] at hx
  split at hx <;> simp_all
  rename_i b
  cases b
  ·exact .inl rfl
  ·exact .inr rfl
def okBytes (l:List Int):Prop:=Bys l ∧ l.length ≤ 140737488351232
theorem opens_bytes:Opens Tryz.prog W 25 (Kd.slice 5 (Kd.int .u8)) okBytes:=
 (opens_slice (B:=1) Tryz.underlying25 (opens_int Tryz.underlying5) (by kernel_rfl) (by kernel_rfl)).imp fun l h=>⟨fun x hx=>byte_wf (h.1 x hx),by have:=h.2;omega⟩
set_option maxRecDepth 100000 in
theorem opens_cell0:Opens Tryz.prog W 53 (Kd.pair Kd.bool (Kd.pair (Kd.int .i64) (Kd.slice 5 (Kd.int .u8)))) (fun p=>True ∧ (Lit.int .i64 p.2.1).wf = true ∧ okBytes p.2.2):=
 opens_struct Tryz.underlying53 (by kernel_rfl) (opensL_cons (opens_bool Tryz.underlying4) rfl (by kernel_rfl) (opensL_cons (opens_int Tryz.underlying2) rfl (by kernel_rfl) (opensL_one opens_bytes rfl (by kernel_rfl))))
theorem opens_cell:Opens Tryz.prog W 53 k53 CelOk:=fun H enc fuel cs x hx hw=>by
 obtain ⟨a,h1,_,h2,h3⟩:=opens_cell0 H enc fuel cs x hx hw
 exact ⟨⟨a.1,a.2.1,a.2.2⟩,h1,i64_wf h2,h3.1,by have:=h3.2;show a.2.2.length ≤ _;omega⟩
theorem opens_cells:Opens Tryz.prog W 22 (Kd.slice 53 k53) (fun l=>(∀ c ∈ l,CelOk c) ∧ l.length * 40 ≤ 140737488351232):=
 opens_slice Tryz.underlying22 opens_cell (by kernel_rfl) (by kernel_rfl)
end Go.Proofs.YteeikgjjgfdjgaaGreat.PK
end
section
namespace Go.Proofs.YteeikgjjgfdjgaaGreat.PK
open Go.RowKit Go.Deep Go.Proofs.YteeikgjjgfdjgaaGreatW.PrintWords
set_option linter.unusedVariables false
set_option linter.unusedSimpArgs false
theorem Hold.same {W w':World} (h:Hold W.heap.size W w') {p:MemPlace} (hp:p.block < W.heap.size):W.sameAt w' p:=by
 cases p with
 | cell b o=>exact World.cell?_of_block (w:=W) (h.block b hp hp)
 | map b=>exact h.block b hp hp
theorem Hold.frame {W w':World} (h:Hold W.heap.size W w') (may:MemPlace → Prop):W.keptBut w' may:=by
 refine ⟨h.os,h.output,fun i hi=>?_⟩
 rw [h.block i hi hi]
 split <;> simp_all
theorem Hold.trod {H:Type} {enc:TypeId × Value → H} {P:Program} {t:TypeId} (hl:laidOutB P = true) (hr:P.readableRec t = true) (hrow:t < P.types.size) {W W':World} {v:Value} {d:DataW H} {ps:List MemPlace}
  (h:DataW.Trod enc P W 0 (fun _=>true) true t v d ps) (hb:Hold W.heap.size W W') (hlt:∀ x ∈ ps,x.block < W.heap.size) :
  DataW.Trod enc P W' 0 (fun b=>decide (b < W.heap.size)) true t v d ps:=
 WideElems.Trod_stays hl hr hrow h (fun x hx=>hb.same (hlt x hx)) (fun x hx=>by simpa using hlt x hx)
end Go.Proofs.YteeikgjjgfdjgaaGreat.PK
end
