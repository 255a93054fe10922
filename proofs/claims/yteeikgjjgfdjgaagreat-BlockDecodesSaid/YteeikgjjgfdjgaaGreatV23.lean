/-
  Parts of the proof: Wiz, Wi, Wj, Wk, Wl, Wm, Wn, Wo, Wp, Wq.
-/
import Derived.Test.YteeikgjjgfdjgaaGreatV22
import Derived.Test.YteeikgjjgfdjgaaGreatV21
set_option maxHeartbeats 2000000
set_option maxRecDepth 100000
section
namespace Go.Proofs.YteeikgjjgfdjgaaGreat.PK
open Go.RowKit YteeikgjjgfdjgaaGreatW.PrintWords YteeikgjjgfdjgaaGreatW.PrintLast YteeikgjjgfdjgaaGreatW.PrintMore
set_option linter.unusedVariables false
set_option linter.unusedSimpArgs false
theorem yne (cs:List Cel) (i:Nat):(yde (cs.take i)).length≤cs.length:=Nat.le_trans (List.length_filter_le _ _) (List.length_take_le' _ _)
theorem ylb (cs:List Cel) (A:Option Addr) (c:Nat) (w:World) (hl:cs.length≤4096) (h:Kd.C k53 w A cs.length cs) (hc:cs.length≤c) :
  Calls Tryz.prog 85 #[.slice A cs.length c] w fun e w'=>∃ v,e=.returned v∧Kd.R (Kd.int .i64) 2 w' w.heap.size (fun _=>True) v (ydc cs)∧Below w.heap.size w w':=by
 have HC:=Lib.hid h
 clear h
 go_enter Tryz.func85,Tryz.ntmps85
 go_wp2
 go_loopw [3,8] (fun v3 vi wq=>∃ i:Nat,i≤cs.length∧vi=.int .i64 i∧RowKit.Hid (Kd.R (Kd.int .i64) 2 wq w.heap.size (fun _=>True) v3 (ydc (cs.take i)))∧RowKit.Hid (Below w.heap.size w wq)) (fun _ vi _=>cs.length-(intOf vi).toNat)
 case atStart=>exact⟨0,Nat.zero_le _,rfl,Lib.hid (by rw[List.take_zero];exact Kd.R_nil _ _ _ _ _),Lib.hid (Below.refl _ _)⟩
 case round =>
  obtain⟨i,hi9,rfl,H3,HB⟩:=hrel
  by_cases hlt:i<cs.length
  ·obtain⟨ad,A2,c2,rfl,hx0,hx1,hx2,hl2,hC2⟩:=yfv HC.out (i:Int) (by omega) (by omega)
   rw[yhk hlt,Int.toNat_natCast] at *
   replace hx0:=(HB.out.cell (World.block_lt_of_cell? w _ hx0)).trans hx0
   replace hx1:=(HB.out.cell (World.block_lt_of_cell? w _ hx1)).trans hx1
   replace hx2:=(HB.out.cell (World.block_lt_of_cell? w _ hx2)).trans hx2
   have hnl:(ydc (cs.take i)).length≤4096:=by unfold ydc;rw[List.length_map];exact Nat.le_trans (yne cs i) hl
   by_cases h0:cs[i].f0=true
   ·have m1:=(yl6 (kind:=1) hlt h0).1
    rw[h0] at hx0
    have HM:=Lib.hid m1
    clear m1 h0 hC2
    obtain⟨x,hx⟩:∃ x,x=cs[i]:=⟨_,rfl⟩
    rw[← hx] at hx1 hx2 hl2
    have HLT:=Lib.hid hlt
    obtain⟨f0,f1,f2⟩:=x
    clear hx hlt
    generalize ydc (cs.take i)=N at *
    go_wp2
    go_roundw
    case rel=>exact⟨i+1,HLT.out,by go_num,Lib.hid (by rw[HM.out];exact Kd.R_alloc H3.out _),Lib.hid (yaj HB.out _)⟩
    case measure=>have:=HLT.out;simp [intOf];omega
   ·have m1:=(yo1 (kind:=1) hlt h0).1
    have h0f:cs[i].f0=false:=by simpa using h0
    rw[h0f] at hx0
    obtain⟨x,hx⟩:∃ x,x=cs[i]:=⟨_,rfl⟩
    rw[← hx] at hx1 hx2 hl2 m1
    have HM:=Lib.hid m1;have HLT:=Lib.hid hlt;have HNL:=Lib.hid hnl
    clear m1 h0 hC2 hnl h0f
    obtain⟨f0,f1,f2⟩:=x
    clear hx hlt
    generalize ydc (cs.take i)=N at *
    go_upto_region 6 with (fail)
    have hh:=heap_alloc_new wr (.cells #[.bool false,.int .i64 f1,.slice A2 f2.length c2] 53)
    have kk:(wr.alloc (.cells #[.bool false,.int .i64 f1,.slice A2 f2.length c2] 53)).cell? ⟨wr.heap.size,1,none⟩=some (.int .i64 f1):=by unfold World.cell?;simp only[hh];rfl
    have HW3:=Lib.hid (Kd.R_alloc H3.out (.cells #[.bool false,.int .i64 f1,.slice A2 f2.length c2] 53))
    have HWB:=Lib.hid (yaj HB.out (.cells #[.bool false,.int .i64 f1,.slice A2 f2.length c2] 53))
    clear hh
    generalize wr.alloc (.cells #[.bool false,.int .i64 f1,.slice A2 f2.length c2] 53)=wa at *
    go_wp2_with (at_builtin;refine Kd.R_append (Kd.int .i64) (w0:=w) w.heap.size rfl (.tmp 15) (.tmp 18) 94 2 (.int .i64 0) 8 rfl Tryz.underlying94 yjs rfl (by decide) (by decide) _ N f1 [.int .i64 f1] (fun _=>True) (fun _=>False) rfl rfl rfl (fun _ hk=>hk.elim) (fun _ _=>trivial) HW3.out HWB.out HWB.out.size (by have:=HNL.out;omega) ?_;intro v7 w7 hR7 hb7 hg7 hat7;have J7:=Lib.hid hR7;have JB:=Lib.hid hb7;clear hR7 hb7 hg7 hat7)
    go_roundw
    case rel=>exact⟨i+1,HLT.out,by go_num,Lib.hid (by rw[HM.out];exact J7.out),JB⟩
    case measure=>have:=HLT.out;simp [intOf];omega
  ·obtain rfl:i=cs.length:=by omega
   have hta:cs.take cs.length=cs:=List.take_length
   rw[hta] at H3
   clear hta
   go_wp2
   go_ret
   exact⟨_,rfl,H3.out,HB.out⟩
theorem ync (cs:List Cel) (A:Option Addr) (c:Nat) (w:World) (hl:cs.length≤4096) (h:Kd.C k53 w A cs.length cs) (hc:cs.length≤c) :
  Calls Tryz.prog 88 #[.slice A cs.length c] w fun e w'=>∃ A' c',e=.returned (.slice A' (yb2 cs).length c')∧(yb2 cs).length≤c'∧Kd.C (Kd.slice 5 (Kd.int .u8)) w' A' (yb2 cs).length (yb2 cs)∧Below w.heap.size w w':=by
 have HC:=Lib.hid h
 clear h
 go_enter Tryz.func88,Tryz.ntmps88
 go_wp2
 go_loopw [3,8] (fun v3 vi wq=>∃ (i:Nat) (vs8:List Value),i≤cs.length∧vi=.int .i64 i∧RowKit.Hid (yg0 w vs8 (yb2 (cs.take i))∧Kd.R (Kd.raw 1) 25 wq w.heap.size (fun _=>True) v3 (vs8.map fun u=>[u]))∧RowKit.Hid (Below w.heap.size w wq)) (fun _ vi _=>cs.length-(intOf vi).toNat)
 case atStart=>exact⟨0,[],Nat.zero_le _,rfl,Lib.hid (by rw[List.take_zero];exact⟨yg0.nil _,Kd.R_nil _ _ _ _ _⟩),Lib.hid (Below.refl _ _)⟩
 case round =>
  obtain⟨i,vs8,hi9,rfl,H3,HB⟩:=hrel
  by_cases hlt:i<cs.length
  ·obtain⟨ad,A2,c2,rfl,hx0,hx1,hx2,hl2,hC2⟩:=yfv HC.out (i:Int) (by omega) (by omega)
   rw[yhk hlt,Int.toNat_natCast] at *
   replace hx0:=(HB.out.cell (World.block_lt_of_cell? w _ hx0)).trans hx0
   replace hx1:=(HB.out.cell (World.block_lt_of_cell? w _ hx1)).trans hx1
   replace hx2:=(HB.out.cell (World.block_lt_of_cell? w _ hx2)).trans hx2
   have hnl:(vs8.map fun u=>[u]).length≤4096:=by rw[List.length_map,H3.out.1.1];unfold yb2;rw[List.length_map];exact Nat.le_trans (yne cs i) hl
   by_cases h0:cs[i].f0=true
   ·have m1:=(yl6 (kind:=1) hlt h0).2.1
    rw[h0] at hx0
    have HM:=Lib.hid m1
    clear m1 h0 hC2
    obtain⟨x,hx⟩:∃ x,x=cs[i]:=⟨_,rfl⟩
    rw[← hx] at hx1 hx2 hl2
    have HLT:=Lib.hid hlt
    obtain⟨f0,f1,f2⟩:=x
    clear hx hlt hnl
    generalize yb2 (cs.take i)=T at *
    go_wp2
    go_roundw
    case rel=>exact⟨i+1,vs8,HLT.out,by go_num,Lib.hid (by rw[HM.out];exact⟨H3.out.1,Kd.R_alloc H3.out.2 _⟩),Lib.hid (yaj HB.out _)⟩
    case measure=>have:=HLT.out;simp [intOf];omega
   ·have m1:=(yo1 (kind:=1) hlt h0).2.1
    have h0f:cs[i].f0=false:=by simpa using h0
    rw[h0f] at hx0
    have hsh:=H3.out.1.snoc hl2 hC2
    rw[← m1] at hsh
    obtain⟨x,hx⟩:∃ x,x=cs[i]:=⟨_,rfl⟩
    rw[← hx] at hx1 hx2 hl2 hsh
    have HSH:=Lib.hid hsh;have HLT:=Lib.hid hlt;have HNL:=Lib.hid hnl
    clear m1 h0 hC2 hnl h0f hsh
    obtain⟨f0,f1,f2⟩:=x
    simp only at hx2 HSH
    generalize f2.length=sl at *
    clear hx hlt
    have HR3:=Lib.hid H3.out.2
    clear H3
    go_upto_region 6 with (fail)
    have hh:=heap_alloc_new wr (.cells #[.bool false,.int .i64 f1,.slice A2 sl c2] 53)
    have kk:(wr.alloc (.cells #[.bool false,.int .i64 f1,.slice A2 sl c2] 53)).cell? ⟨wr.heap.size,2,none⟩=some (.slice A2 sl c2):=by unfold World.cell?;simp only[hh];rfl
    have HW3:=Lib.hid (Kd.R_alloc HR3.out (.cells #[.bool false,.int .i64 f1,.slice A2 sl c2] 53))
    have HWB:=Lib.hid (yaj HB.out (.cells #[.bool false,.int .i64 f1,.slice A2 sl c2] 53))
    clear hh
    generalize wr.alloc (.cells #[.bool false,.int .i64 f1,.slice A2 sl c2] 53)=wa at *
    go_wp2_with (at_builtin;refine Kd.R_append (Kd.raw 1) (w0:=w) w.heap.size rfl (.tmp 15) (.tmp 18) 46 25 (.slice none 0 0) 24 rfl Tryz.underlying46 ygm rfl (by decide) (by decide) _ (vs8.map fun u=>[u]) [.slice A2 sl c2] [.slice A2 sl c2] (fun _=>True) (fun _=>False) rfl rfl ⟨rfl,rfl,ynh A2 sl c2⟩ (fun _ hk=>hk.elim) (fun _ _=>trivial) HW3.out HWB.out HWB.out.size (by have:=HNL.out;omega) ?_;intro v7 w7 hR7 hb7 hg7 hat7;have J7:=Lib.hid hR7;have JB:=Lib.hid hb7;clear hR7 hb7 hg7 hat7)
    go_roundw
    case rel=>exact⟨i+1,vs8++[.slice A2 sl c2],HLT.out,by go_num,Lib.hid ⟨HSH.out,by rw[List.map_append];exact J7.out⟩,JB⟩
    case measure=>have:=HLT.out;simp [intOf];omega
  ·obtain rfl:i=cs.length:=by omega
   have hta:cs.take cs.length=cs:=List.take_length
   rw[hta] at H3
   clear hta
   obtain⟨A3,c3,rfl,hc3,hC3⟩:=RShows.reads ⟨vs8,H3.out.1,H3.out.2⟩ HB.out
   have HC3:=Lib.hid hC3
   clear hC3 H3
   go_wp2
   go_ret
   exact⟨A3,c3,rfl,hc3,HC3.out,HB.out⟩
def ygn (w:World) (l:List Int) (n:Int) (e:Ending) (w':World):Prop:=∃ v,e=.returned (.tuple #[v,.int .i64 n])∧Kd.R (Kd.int .u8) 5 w' w.heap.size (fun _=>True) v l∧Below w.heap.size w w'
def ymi (kind:Int) (cs:List Cel) (A:Option Addr) (c:Nat) (w:World):Prop:=∀ codec,ycz kind codec→∀ w2,Below w.heap.size w w2→Calls Tryz.prog 54 #[.int .i64 kind,.int .i64 codec,.slice A cs.length c] w2 (ygn w2 (ydk kind codec cs).1 (ydk kind codec cs).2)
theorem yqt (kind:Int) (cs:List Cel) (A:Option Addr) (c:Nat) (w:World) (hf:Fine kind cs) (h:Kd.C k53 w A cs.length cs) (hc:cs.length≤c) :
  Calls Tryz.prog 54 #[.int .i64 kind,.int .i64 1,.slice A cs.length c] w (ygn w (ydv kind cs) 0):=by
 obtain⟨k,hk⟩:=(plain_law hf.good cs hf.len hf.plainly).ex
 have hp:=fun(w2:World) (hb:Below w.heap.size w w2)=>ya4.calls k kind A c cs _ w2 (Kd.C_below h hb) hc hk
 have HP:=Lib.hid hp
 clear hp hk h hf
 go_enter Tryz.func54,Tryz.ntmps54
 go_wp2_with (go_at_call 90;refine(HP.out _ (Below.refl _ _)).mono ?_;rintro e w1 ⟨v1,rfl,hR1,hb1⟩)
 go_ret2
 exact⟨_,rfl,hR1,hb1⟩
theorem body_runs (kind:Int) (cs:List Cel) (A:Option Addr) (c:Nat) (w:World) (hf:Fine kind cs) (h:Kd.C k53 w A cs.length cs) (hc:cs.length≤c) :
  Calls Tryz.prog 54 #[.int .i64 kind,.int .i64 2,.slice A cs.length c] w (ygn w (ye9 (ydc cs)).1 (ye9 (ydc cs)).2):=by
 obtain⟨k2,hk2⟩:=(pruns_ev (ydc cs) hf.nums.1 hf.nums.2).ex
 have hp:=fun(w2:World) (hb:Below w.heap.size w w2)=>ylb cs A c w2 hf.len (Kd.C_below h hb) hc
 have HP:=Lib.hid hp;have HK:=Lib.hid hk2
 clear hp h hf hk2
 generalize ye9 (ydc cs)=r at *
 generalize ydc cs=vs at *
 go_enter Tryz.func54,Tryz.ntmps54
 go_wp2_with (first
  | (go_at_call 85;refine(HP.out _ (Below.refl _ _)).mono ?_;rintro e w1 ⟨v1,rfl,hR1,hb1⟩;obtain⟨A1,c1,rfl,hc1,hC1⟩:=Kd.R_reads hR1)
  | (go_at_call 84;refine(yct.calls k2 A1 c1 vs r.1 r.2 _ hC1 hc1 HK.out).mono ?_;rintro e w2 ⟨v2,rfl,hR2,hb2⟩))
 go_ret2
 exact⟨_,rfl,Kd.R_lower hR2 hb1.size,yae hb1 hb1.size hb2⟩
theorem ypn (kind:Int) (cs:List Cel) (A:Option Addr) (c:Nat) (w:World) (hf:Fine kind cs) (h:Kd.C k53 w A cs.length cs) (hc:cs.length≤c) :
  Calls Tryz.prog 54 #[.int .i64 kind,.int .i64 3,.slice A cs.length c] w (ygn w (yf2 (ydc cs)).1 (yf2 (ydc cs)).2):=by
 have hp:=fun(w2:World) (hb:Below w.heap.size w w2)=>ylb cs A c w2 hf.len (Kd.C_below h hb) hc
 have hpk:=fun(A1:Option Addr) (c1:Nat) (w2:World) (hC:Kd.C (Kd.int .i64) w2 A1 (ydc cs).length (ydc cs)) (hc1:(ydc cs).length≤c1)=>pkEnc_any A1 c1 (ydc cs) w2 hC hc1 hf.nums.1 hf.nums.2
 have HP:=Lib.hid hp;have HK:=Lib.hid hpk
 clear hp h hf hpk
 generalize yf2 (ydc cs)=r at *
 generalize ydc cs=vs at *
 go_enter Tryz.func54,Tryz.ntmps54
 go_wp2_with (first
  | (go_at_call 85;refine(HP.out _ (Below.refl _ _)).mono ?_;rintro e w1 ⟨v1,rfl,hR1,hb1⟩;obtain⟨A1,c1,rfl,hc1,hC1⟩:=Kd.R_reads hR1)
  | (go_at_call 86;refine(HK.out A1 c1 _ hC1 hc1).mono ?_;rintro e w2 ⟨v2,rfl,hR2,hb2⟩))
 go_ret2
 exact⟨_,rfl,Kd.R_lower hR2 hb1.size,yae hb1 hb1.size hb2⟩
theorem Fine.below {kind:Int} {cs:List Cel} {A:Option Addr} {w w2:World} (h:Kd.C k53 w A cs.length cs) (hb:Below w.heap.size w w2):Kd.C k53 w2 A cs.length cs:=Kd.C_below h hb
theorem body_dict (kind:Int) (cs:List Cel) (A:Option Addr) (c:Nat) (w:World) (hf:Fine kind cs) (h:Kd.C k53 w A cs.length cs) (hc:cs.length≤c) :
  Calls Tryz.prog 54 #[.int .i64 kind,.int .i64 4,.slice A cs.length c] w (ygn w (encS (yb2 cs)).1 (encS (yb2 cs)).2):=by
 have hp:=fun(w2:World) (hb:Below w.heap.size w w2)=>ync cs A c w2 hf.len (Kd.C_below h hb) hc
 have hpk:=fun(A1:Option Addr) (c1:Nat) (w2:World) (hC:Kd.C (Kd.slice 5 (Kd.int .u8)) w2 A1 (yb2 cs).length (yb2 cs)) (hc1:(yb2 cs).length≤c1)=>ypl A1 c1 (yb2 cs) w2 hC hc1 hf.texts.2
 have HP:=Lib.hid hp;have HK:=Lib.hid hpk
 clear hp h hf hpk
 generalize encS (yb2 cs)=r at *
 generalize yb2 cs=vs at *
 go_enter Tryz.func54,Tryz.ntmps54
 go_wp2_with (first
  | (go_at_call 88;refine(HP.out _ (Below.refl _ _)).mono ?_;rintro e w1 ⟨A1,c1,rfl,hc1,hC1,hb1⟩)
  | (go_at_call 87;refine(HK.out A1 c1 _ hC1 hc1).mono ?_;rintro e w2 ⟨v2,rfl,hb2,hR2⟩))
 go_ret2
 exact⟨_,rfl,Kd.R_lower hR2 hb1.size,yae hb1 hb1.size hb2⟩
theorem ypd (kind:Int) (cs:List Cel) (A:Option Addr) (c:Nat) (w:World) (hf:Fine kind cs) (h:Kd.C k53 w A cs.length cs) (hc:cs.length≤c) (h6:6<kind) :
  Calls Tryz.prog 54 #[.int .i64 kind,.int .i64 5,.slice A cs.length c] w (ygn w (ye5 (yb2 cs)).1 (ye5 (yb2 cs)).2):=by
 have hp:=fun(w2:World) (hb:Below w.heap.size w w2)=>ync cs A c w2 hf.len (Kd.C_below h hb) hc
 have hpk:=fun(A1:Option Addr) (c1:Nat) (w2:World) (hC:Kd.C (Kd.slice 5 (Kd.int .u8)) w2 A1 (yb2 cs).length (yb2 cs)) (hc1:(yb2 cs).length≤c1)=>yqu A1 c1 (yb2 cs) w2 hC hc1 hf.texts.1 (hf.short h6)
 have HP:=Lib.hid hp;have HK:=Lib.hid hpk
 clear hp h hf hpk
 generalize ye5 (yb2 cs)=r at *
 generalize yb2 cs=vs at *
 go_enter Tryz.func54,Tryz.ntmps54
 go_wp2_with (first
  | (go_at_call 88;refine(HP.out _ (Below.refl _ _)).mono ?_;rintro e w1 ⟨A1,c1,rfl,hc1,hC1,hb1⟩)
  | (go_at_call 89;refine(HK.out A1 c1 _ hC1 hc1).mono ?_;rintro e w2 ⟨v2,rfl,hR2,hb2⟩))
 go_ret2
 exact⟨_,rfl,Kd.R_lower hR2 hb1.size,yae hb1 hb1.size hb2⟩
theorem ylh {kind:Int} {cs:List Cel} {A:Option Addr} {c:Nat} {w:World} (hf:Fine kind cs) (h:Kd.C k53 w A cs.length cs) (hc:cs.length≤c):ymi kind cs A c w:=by
 intro codec hfc w2 hb
 have h2:=Kd.C_below h hb
 rcases hfc with rfl|⟨_,rfl|rfl⟩|⟨h6,rfl|rfl⟩
 ·exact yqt kind cs A c w2 hf h2 hc
 ·exact body_runs kind cs A c w2 hf h2 hc
 ·exact ypn kind cs A c w2 hf h2 hc
 ·exact body_dict kind cs A c w2 hf h2 hc
 ·exact ypd kind cs A c w2 hf h2 hc h6
theorem ynn {kind codec:Int} {cs:List Cel} {A:Option Addr} {c:Nat} {w:World} (hf:Fine kind cs) (hfc:ycz kind codec) (h:Kd.C k53 w A cs.length cs) (hc:cs.length≤c) (hB:ymi kind cs A c w) :
  ∀ w2,Below w.heap.size w w2→Calls Tryz.prog 31 #[.int .i64 kind,.int .i64 codec,.slice A cs.length c] w2 (ygn w2 (yfh kind codec cs).1 (yfh kind codec cs).2):=by
 intro w0 hb0
 have hbody:=fun w2 (hb2:Below w0.heap.size w0 w2)=>hB codec hfc w2 (yae hb0 hb0.size hb2)
 obtain⟨hbb,hbl,hbe⟩:=body_fine hf hfc
 obtain⟨hhb,hhl⟩:=head_fine hf.len hfc
 obtain⟨k2,hk2⟩:=(nulls_law cs hf.len).ex
 have hnul:=fun w2 (hb2:Below w0.heap.size w0 w2)=>yb6.calls k2 A c cs _ w2 (Kd.C_below h (yae hb0 hb0.size hb2)) hc hk2
 have hput:=yg2 cs.length (by have:=hf.len;omega)
 have hl:=hf.len
 have hcd:=yls hfc
 have hw8:IntKind.u8.wrap codec=codec:=by
  have h5:codec=1∨codec=2∨codec=3∨codec=4∨codec=5:=by omega
  rcases h5 with rfl|rfl|rfl|rfl|rfl <;> decide
 have hhead:ye7 codec cs=([codec]++vput cs.length)++ye6 cs:=by simp [ye7]
 unfold yfh
 rw[hbe,if_neg (by decide)]
 have hbys:Bys (ye7 codec cs++(ydk kind codec cs).1):=fun x hx=>(List.mem_append.1 hx).elim (hhb x) (hbb x)
 simp only[hbe] at hbody
 have HB:=Lib.hid hbody;have HN:=Lib.hid hnul;have HP:=Lib.hid hput;have HH:=Lib.hid hhead;have HY:=Lib.hid hbys
 clear hbody hnul hput hhead h hB hk2 hf hfc hbb hhb hbe hb0 hbys
 generalize (ydk kind codec cs).1=bd at *
 generalize ye7 codec cs=hd at *
 have hw1:wrap64 ((hd.length:Int)+(bd.length:Int))=((hd.length+bd.length:Nat):Int):=by rw[w64 (by omega) (by omega)];omega
 have hw2:wrap64 (((hd.length+bd.length:Nat):Int)+4)=((hd.length+bd.length+4:Nat):Int):=by rw[w64 (by omega) (by omega)];omega
 have HW1:=Lib.hid hw1;have HW2:=Lib.hid hw2;clear hw1 hw2
 go_enter Tryz.func31,Tryz.ntmps31
 have hhl2:=hhl
 rw[HH.out] at hhl2
 have hh1:([codec]++vput cs.length).length≤60000:=by rw[List.length_append] at hhl2;omega
 have hh2:(([codec]++vput cs.length).length:Nat)+(ye6 cs).length≤60000:=by rw[List.length_append] at hhl2;exact hhl2
 have HL1:=Lib.hid hh1;have HL2:=Lib.hid hh2;have HL3:=Lib.hid (ybg cs.length)
 clear hhl2 hh1 hh2
 go_upto_region 2 with (first
  | ((with_reducible refine yb1 (N:=13) rfl ?_);refine Kd.R_lit (Kd.int .u8) _ 5 ?hg (N:=13) ?hd (xs:=([codec]:List Int)) (inner:=[.int .u8 codec]) (ok:=fun _=>True) (okp:=fun _=>True) ?hr ?hp (fun _ hk=>hk) trivial (Below.refl _ _) (Nat.le_refl _) (by simp) ?_;(case hd=>rfl);(case hg=>rfl);(case hr=>first|(go_simp;done)|(go_simp;rfl));(case hp=>exact(Reps.one (show Kd.M (Kd.int .u8) _ _ _ codec [.int .u8 codec] from rfl) (Reps.none _ _)));intro v1 w1 hR1 hb1 hg1 hn1)
  | (go_at_call 52;refine(ya0.calls 10 ((cs.length:Nat):Int) (vput cs.length) _ HP.out).mono ?_;rintro e w2 ⟨v2,rfl,hR2,hb2⟩;obtain⟨A2,c2,rfl,hc2,hC2⟩:=Kd.R_reads hR2;have hR1':=Kd.R_below hR1 hb2;have hb2':=yae hb1 hb1.size hb2)
  | (at_builtin;refine Kd.R_append_row (w0:=w0) (Value.int .u8) 0 w0.heap.size rfl _ _ 25 5 (.int .u8 0) 1 rfl Tryz.underlying25 ycj rfl (by decide) _ [codec] (vput cs.length) A2 _ c2 (fun _=>True) rfl rfl (fun _ _=>trivial) hR1' hC2 hb2' hb2'.size (by have:=HL3.out;simp only[List.length_singleton];omega) ?_;intro v3 w3 hR3 hb3 hg3 hat3))
 go_upto_region 3 with (first
  | (go_at_call 53;refine(HN.out _ hb3).mono ?_;rintro e w4 ⟨v4,rfl,hR4,hb4⟩;obtain⟨A4,c4,rfl,hc4,hC4⟩:=Kd.R_reads hR4;have hR3':=Kd.R_below hR3 hb4;have hb4':=yae hb3 hb3.size hb4)
  | (at_builtin;refine Kd.R_append_row (w0:=w0) (Value.int .u8) 0 w0.heap.size rfl _ _ 25 5 (.int .u8 0) 1 rfl Tryz.underlying25 ycj rfl (by decide) _ ([codec]++vput cs.length) (ye6 cs) A4 _ c4 (fun _=>True) rfl rfl (fun _ _=>trivial) hR3' hC4 hb4' hb4'.size (by have:=HL2.out;omega) ?_;intro v5 w5 hR5 hb5 hg5 hat5;rw[← HH.out] at hR5;obtain⟨A5,c5,rfl⟩:=Kd.R_slice hR5))
 go_upto_region 4 with (first
  | (go_at_call 54;refine(HB.out _ hb5).mono ?_;rintro e w6 ⟨v6,rfl,hR6,hb6⟩;obtain⟨A6,c6,rfl,hc6,hC6⟩:=Kd.R_reads hR6;have hR5':=Kd.R_below hR5 hb6;have hb6':=yae hb5 hb5.size hb6))
 by_cases hlong:65000<hd.length+bd.length+4
 ·rw[if_pos hlong]
  have hq:(65000:Int)<(hd.length:Int)+(bd.length:Int)+4:=by omega
  clear hlong
  go_wp2
  go_ret2
  exact⟨_,rfl,Kd.R_nil _ _ _ _ _,hb6'⟩
 ·rw[if_neg hlong]
  have hqq:decide ((65000:Int)<wrap64 (wrap64 ((hd.length:Int)+(bd.length:Int))+4))=false:=by rw[HW1.out,HW2.out];simp;omega
  obtain⟨L,hL⟩:∃ L,L=hd++bd:=⟨_,rfl⟩
  have hy:=HY.out
  rw[← hL] at hy ⊢
  have hll:L.length≤1000000000:=by rw[hL,List.length_append];omega
  have HQ:=Lib.hid hlong;have HL:=Lib.hid hL;have HLL:=Lib.hid hll;have HYL:=Lib.hid hy
  clear hlong hL hll hy hhl hbl
  go_wp2_with (first
   | (at_builtin;refine Kd.R_append_row (w0:=w0) (Value.int .u8) 0 w0.heap.size rfl _ _ 25 5 (.int .u8 0) 1 rfl Tryz.underlying25 ycj rfl (by decide) _ hd bd A6 _ c6 (fun _=>True) rfl rfl (fun _ _=>trivial) hR5' hC6 hb6' hb6'.size (by have:=HQ.out;omega) ?_;intro v7 w7 hR7 hb7 hg7 hat7;rw[← HL.out] at hR7;obtain⟨A7,c7,rfl,hc7,hC7⟩:=Kd.R_reads hR7)
   | (go_at_call 55;refine(cseal_any A7 c7 L _ hC7 hc7 HYL.out HLL.out).mono ?_;rintro e w8 ⟨v8,rfl,hR8,hb8⟩))
  go_ret2
  exact⟨_,rfl,by rw[← HL.out];exact Kd.R_lower hR8 hb7.size,yae hb7 hb7.size hb8⟩
theorem yik {kind:Int} (hg:yd6 kind) (codec:Int):∃ k,ybs.f k kind codec=some (decide (ycz kind codec)):=(fits_law hg codec).ex
theorem yly {kind codec:Int} {cs:List Cel} {A:Option Addr} {c:Nat} {w:World} (hok:∀ c∈cs,yf0 c) (h:Kd.C k53 w A cs.length cs) (hc:cs.length≤c) (hB:Fine kind cs→ymi kind cs A c w) :
  Calls Tryz.prog 11 #[.int .i64 kind,.int .i64 codec,.slice A cs.length c] w (ygn w (yf3 kind codec cs).1 (yf3 kind codec cs).2):=by
 have hbk:=ye4 kind
 unfold yf3
 by_cases h1:kind<1∨8<kind
 ·rw[if_pos h1]
  rw[decide_eq_true h1] at hbk
  have HK:=Lib.hid hbk
  clear hbk h1 h hok hB
  go_enter Tryz.func11,Tryz.ntmps11
  go_wp2_with (go_at_call 28;refine(yb3.calls kind true _ HK.out).mono ?_;rintro e w1 ⟨rfl,⟨m1,rfl⟩⟩)
  go_ret2
  exact⟨_,rfl,Kd.R_nil _ _ _ _ _,by repeat (first|exact Below.refl _ _|apply yab)⟩
 rw[if_neg h1]
 rw[decide_eq_false h1] at hbk
 obtain⟨kf,hfit⟩:=yik (kind:=kind) ⟨by omega,by omega⟩ codec
 by_cases h2:ycz kind codec
 ·rw[if_neg (by simpa using h2)]
  rw[decide_eq_true h2] at hfit
  have hch:=fun(w2:World) (hb:Below w.heap.size w w2)=>yjm kind cs A c w2 (Kd.C_below h hb) hc hok
  by_cases h3:yc0 kind cs=0
  ·have hf:=fine_of h1 h3 hok
   have hw:=ynn hf h2 h hc (hB hf)
   rw[if_neg (by simpa using h3)]
   simp only[h3] at hch
   have HK:=Lib.hid hbk;have HF:=Lib.hid hfit;have HC:=Lib.hid hch;have HW:=Lib.hid hw
   clear hbk hfit hch hw hf h3 h2 h1 hB h hok
   generalize yfh kind codec cs=r at *
   go_enter Tryz.func11,Tryz.ntmps11
   go_wp2_with (first
    | (go_at_call 28;refine(yb3.calls kind false _ HK.out).mono ?_;rintro e w1 ⟨rfl,⟨m1,rfl⟩⟩)
    | (go_at_call 29;refine(ybs.calls kf kind codec true _ HF.out).mono ?_;rintro e w2 ⟨rfl,⟨m2,rfl⟩⟩)
    | (go_at_call 30;refine(HC.out _ (by repeat (first|exact Below.refl _ _|apply yab))).mono ?_;rintro e w3 ⟨rfl,hb3⟩;have hb3':Below w.heap.size w w3:=(fun(hx:Below w.heap.size w _)=>yae hx hx.size hb3) (by repeat (first|exact Below.refl _ _|apply yab)))
    | (go_at_call 31;refine(HW.out _ hb3').mono ?_;rintro e w4 ⟨v4,rfl,hR4,hb4⟩))
   go_ret2
   exact⟨_,rfl,Kd.R_lower hR4 hb3'.size,yae hb3' hb3'.size hb4⟩
  ·rw[if_pos h3]
   have HK:=Lib.hid hbk;have HF:=Lib.hid hfit;have HC:=Lib.hid hch
   generalize yc0 kind cs=r at *
   have d3:decide (r=0)=false:=by simpa using h3
   clear hbk hfit hch h2 h1 hB h hok
   go_enter Tryz.func11,Tryz.ntmps11
   go_wp2_with (first
    | (go_at_call 28;refine(yb3.calls kind false _ HK.out).mono ?_;rintro e w1 ⟨rfl,⟨m1,rfl⟩⟩)
    | (go_at_call 29;refine(ybs.calls kf kind codec true _ HF.out).mono ?_;rintro e w2 ⟨rfl,⟨m2,rfl⟩⟩)
    | (go_at_call 30;refine(HC.out _ (by repeat (first|exact Below.refl _ _|apply yab))).mono ?_;rintro e w3 ⟨rfl,hb3⟩;have hb3':Below w.heap.size w w3:=(fun(hx:Below w.heap.size w _)=>yae hx hx.size hb3) (by repeat (first|exact Below.refl _ _|apply yab))))
   go_ret2
   exact⟨_,rfl,Kd.R_nil _ _ _ _ _,hb3'⟩
 ·rw[if_pos (by simpa using h2)]
  rw[decide_eq_false h2] at hfit
  have HK:=Lib.hid hbk;have HF:=Lib.hid hfit
  clear hbk hfit h2 h1 h hok hB
  go_enter Tryz.func11,Tryz.ntmps11
  go_wp2_with (first
   | (go_at_call 28;refine(yb3.calls kind false _ HK.out).mono ?_;rintro e w1 ⟨rfl,⟨m1,rfl⟩⟩)
   | (go_at_call 29;refine(ybs.calls kf kind codec false _ HF.out).mono ?_;rintro e w2 ⟨rfl,⟨m2,rfl⟩⟩))
  go_ret2
  exact⟨_,rfl,Kd.R_nil _ _ _ _ _,by repeat (first|exact Below.refl _ _|apply yab)⟩
def yot (w:World) (c:Int) (l:List Int) (n:Int) (e:Ending) (w':World):Prop:=∃ v,e=.returned (.tuple #[.int .i64 c,v,.int .i64 n])∧Kd.R (Kd.int .u8) 5 w' w.heap.size (fun _=>True) v l∧Below w.heap.size w w'
theorem bestL_fit {kind:Int} {cs:List Cel} {n:Nat} {c k:Int} {b:List Int} {X:Int×List Int} (hX:ygf kind cs (n+1) c k b=X) (hf:ycz kind c) :
  (if (yfh kind c cs).2=0∧(k=0∨(yfh kind c cs).1.length<b.length) then ygf kind cs n (c+1) c (yfh kind c cs).1 else ygf kind cs n (c+1) k b)=X:=by
 rw[ygf,if_pos hf] at hX;exact hX
theorem yq6 {kind:Int} {cs:List Cel} {n:Nat} {c k:Int} {b:List Int} {X:Int×List Int} (hX:ygf kind cs (n+1) c k b=X) (hf:¬ ycz kind c):ygf kind cs n (c+1) k b=X:=by
 rw[ygf,if_neg hf] at hX;exact hX
theorem best_any {kind:Int} {cs:List Cel} {A:Option Addr} {c:Nat} {w:World} (hok:∀ c∈cs,yf0 c) (h:Kd.C k53 w A cs.length cs) (hc:cs.length≤c) (hB:Fine kind cs→ymi kind cs A c w) :
  Calls Tryz.prog 15 #[.int .i64 kind,.slice A cs.length c] w (yot w (ygy kind cs).1 (ygy kind cs).2.1 (ygy kind cs).2.2):=by
 have hbk:=ye4 kind
 unfold ygy
 by_cases h1:kind<1∨8<kind
 ·rw[if_pos h1]
  rw[decide_eq_true h1] at hbk
  have HK:=Lib.hid hbk
  clear hbk h1 h hok hB
  go_enter Tryz.func15,Tryz.ntmps15
  go_wp2_with (go_at_call 28;refine(yb3.calls kind true _ HK.out).mono ?_;rintro e w1 ⟨rfl,⟨m1,rfl⟩⟩)
  go_ret3
  exact⟨_,rfl,Kd.R_nil _ _ _ _ _,by repeat (first|exact Below.refl _ _|apply yab)⟩
 rw[if_neg h1]
 rw[decide_eq_false h1] at hbk
 have hfit:=fun codec=>yik (kind:=kind) ⟨by omega,by omega⟩ codec
 have hch:=fun(w2:World) (hb:Below w.heap.size w w2)=>yjm kind cs A c w2 (Kd.C_below h hb) hc hok
 by_cases h3:yc0 kind cs=0
 ·have hf:=fine_of h1 h3 hok
  have hw:=fun codec (h2:ycz kind codec)=>ynn hf h2 h hc (hB hf)
  rw[if_neg (by simpa using h3)]
  simp only[h3] at hch
  obtain⟨X,hX⟩:∃ X,ygf kind cs 5 1 0 []=X:=⟨_,rfl⟩
  rw[hX]
  have HX:=Lib.hid hX
  have HK:=Lib.hid hbk;have HF:=Lib.hid hfit;have HC:=Lib.hid hch;have HW:=Lib.hid hw
  clear hbk hfit hch hw hf h3 h1 hB h hok hX
  go_enter Tryz.func15,Tryz.ntmps15
  go_upto_region 6 with (first
   | (go_at_call 28;refine(yb3.calls kind false _ HK.out).mono ?_;rintro e w1 ⟨rfl,⟨m1,rfl⟩⟩)
   | (go_at_call 30;refine(HC.out _ (by repeat (first|exact Below.refl _ _|apply yab))).mono ?_;rintro e w3 ⟨rfl,hb3⟩;have hb3':Below w.heap.size w w3:=(fun(hx:Below w.heap.size w _)=>yae hx hx.size hb3) (by repeat (first|exact Below.refl _ _|apply yab))))
  iterate 3 (first|go_values|go_skip|go_guarded|go_step|go_upon)
  rename_i hkont
  refine hkont _ _ ?_
  iterate 3 (first|go_values|go_skip|go_guarded|go_step|go_upon)
  go_step
  go_loopw [4,5,7,8,9] (fun v4 v5 v7 _ _ wq=>∃ (i:Nat) (k:Int) (b:List Int),1≤i∧i≤6∧v4=.int .i64 k∧v7=.int .i64 i∧RowKit.Hid (ygf kind cs (6-i) i k b=X)∧Kd.R (Kd.int .u8) 5 wq w.heap.size (fun _=>True) v5 b∧Below w.heap.size w wq) (fun _ _ v7 _ _ _=>6-(intOf v7).toNat)
  case atStart=>exact⟨1,0,[],by decide,by decide,rfl,rfl,HX,Kd.R_nil _ _ _ _ _,hb3'⟩
  case round =>
   obtain⟨i,k,b,hi1,hi6,rfl,rfl,hXi,hRb,hbr⟩:=hrel
   obtain⟨Ab,cb,rfl⟩:=Kd.R_slice hRb
   by_cases hlt:i<6
   ·obtain⟨n,hn⟩:∃ n,6-i=n+1:=⟨5-i,by omega⟩
    rw[hn] at hXi
    have hn2:6-(i+1)=n:=by omega
    obtain⟨kf,hkf⟩:=HF.out (i:Int)
    have hle:(i:Int)≤5:=by omega
    by_cases h2:ycz kind (i:Int)
    ·rw[decide_eq_true h2] at hkf
     have hX2:=bestL_fit hXi.out h2
     have hwr:=HW.out (i:Int) h2
     generalize yfh kind i cs=r at *
     obtain⟨p,er⟩:=r
     have HKF:=Lib.hid hkf;have HWR:=Lib.hid hwr;have HN:=Lib.hid hn2;have HR:=Lib.hid hRb;have HBR:=Lib.hid hbr;have HLT:=Lib.hid hlt;have HI1:=Lib.hid hi1
     clear hkf hwr hXi hn hn2 hRb hbr h2 hlt
     simp only at hX2
     by_cases he:er=0
     ·subst he
      by_cases hk0:k=0
      ·subst hk0
       rw[if_pos ⟨rfl,Or.inl rfl⟩] at hX2
       have HX2:=Lib.hid hX2
       clear hX2
       go_wp2_with (first
        | (go_at_call 29;refine(ybs.calls kf kind i true _ HKF.out).mono ?_;rintro e w4 ⟨rfl,⟨m4,rfl⟩⟩)
        | (go_at_call 31;refine(HWR.out _ (yab HBR.out _)).mono ?_;rintro e w5 ⟨v5,rfl,hR5,hb5⟩;have hbr5:=(fun(hx:Below w.heap.size w (wr.drewN m4))=>yae hx hx.size hb5) (yab HBR.out _);have hR5w:=Kd.R_lower hR5 (yab HBR.out m4).size;have hRb5:=Kd.R_below (Kd.R_drewN HR.out m4) hb5;obtain⟨A5,c5,rfl⟩:=Kd.R_slice hR5w))
       go_roundw
       case rel=>exact⟨i+1,i,p,by omega,by have:=HLT.out;omega,rfl,by go_num,Lib.hid (by rw[HN.out];exact HX2.out),hR5w,hbr5⟩
       case measure=>have:=HLT.out;simp [intOf];omega
      ·have dk:decide (k=0)=false:=by simpa using hk0
       have hkb:(k == 0)=false:=by simpa using hk0
       by_cases hlen:p.length<b.length
       ·rw[if_pos ⟨rfl,Or.inr hlen⟩] at hX2
        have HX2:=Lib.hid hX2
        have dl:decide (p.length<b.length)=true:=by simpa using hlen
        have di:(p.length:Int)<(b.length:Int):=by omega
        clear hX2
        go_wp2_with (first
         | (go_at_call 29;refine(ybs.calls kf kind i true _ HKF.out).mono ?_;rintro e w4 ⟨rfl,⟨m4,rfl⟩⟩)
         | (go_at_call 31;refine(HWR.out _ (yab HBR.out _)).mono ?_;rintro e w5 ⟨v5,rfl,hR5,hb5⟩;have hbr5:=(fun(hx:Below w.heap.size w (wr.drewN m4))=>yae hx hx.size hb5) (yab HBR.out _);have hR5w:=Kd.R_lower hR5 (yab HBR.out m4).size;have hRb5:=Kd.R_below (Kd.R_drewN HR.out m4) hb5;obtain⟨A5,c5,rfl⟩:=Kd.R_slice hR5w))
        go_roundw
        case rel=>exact⟨i+1,i,p,by omega,by have:=HLT.out;omega,rfl,by go_num,Lib.hid (by rw[HN.out];exact HX2.out),hR5w,hbr5⟩
        case measure=>have:=HLT.out;simp [intOf];omega
       ·rw[if_neg (fun h=>h.2.elim hk0 hlen)] at hX2
        have HX2:=Lib.hid hX2
        have dl:decide (p.length<b.length)=false:=by simpa using hlen
        have di:decide ((p.length:Int)<(b.length:Int))=false:=by simpa using hlen
        clear hX2
        go_wp2_with (first
         | (go_at_call 29;refine(ybs.calls kf kind i true _ HKF.out).mono ?_;rintro e w4 ⟨rfl,⟨m4,rfl⟩⟩)
         | (go_at_call 31;refine(HWR.out _ (yab HBR.out _)).mono ?_;rintro e w5 ⟨v5,rfl,hR5,hb5⟩;have hbr5:=(fun(hx:Below w.heap.size w (wr.drewN m4))=>yae hx hx.size hb5) (yab HBR.out _);have hR5w:=Kd.R_lower hR5 (yab HBR.out m4).size;have hRb5:=Kd.R_below (Kd.R_drewN HR.out m4) hb5;obtain⟨A5,c5,rfl⟩:=Kd.R_slice hR5w))
        go_roundw
        case rel=>exact⟨i+1,k,b,by omega,by have:=HLT.out;omega,rfl,by go_num,Lib.hid (by rw[HN.out];exact HX2.out),hRb5,hbr5⟩
        case measure=>have:=HLT.out;simp [intOf];omega
     ·rw[if_neg (fun h=>he h.1)] at hX2
      have HX2:=Lib.hid hX2
      have de:decide (er=0)=false:=by simpa using he
      clear hX2
      have heb:(er == 0)=false:=by simpa using he
      go_wp2_with (first
       | (go_at_call 29;refine(ybs.calls kf kind i true _ HKF.out).mono ?_;rintro e w4 ⟨rfl,⟨m4,rfl⟩⟩)
       | (go_at_call 31;refine(HWR.out _ (yab HBR.out _)).mono ?_;rintro e w5 ⟨v5,rfl,hR5,hb5⟩;have hbr5:=(fun(hx:Below w.heap.size w (wr.drewN m4))=>yae hx hx.size hb5) (yab HBR.out _);have hR5w:=Kd.R_lower hR5 (yab HBR.out m4).size;have hRb5:=Kd.R_below (Kd.R_drewN HR.out m4) hb5;obtain⟨A5,c5,rfl⟩:=Kd.R_slice hR5w))
      go_roundw
      case rel=>exact⟨i+1,k,b,by omega,by have:=HLT.out;omega,rfl,by go_num,Lib.hid (by rw[HN.out];exact HX2.out),hRb5,hbr5⟩
      case measure=>have:=HLT.out;simp [intOf];omega
    ·rw[decide_eq_false h2] at hkf
     have hX2:=yq6 hXi.out h2
     have HKF:=Lib.hid hkf;have HX2:=Lib.hid hX2;have HN:=Lib.hid hn2;have HR:=Lib.hid hRb;have HBR:=Lib.hid hbr;have HLT:=Lib.hid hlt;have HI1:=Lib.hid hi1
     clear hkf hX2 hXi hn hn2 hRb hbr h2 hlt
     go_wp2_with (go_at_call 29;refine(ybs.calls kf kind i false _ HKF.out).mono ?_;rintro e w4 ⟨rfl,⟨m4,rfl⟩⟩)
     go_roundw
     case rel=>exact⟨i+1,k,b,by omega,by have:=HLT.out;omega,rfl,by go_num,Lib.hid (by rw[HN.out];exact HX2.out),Kd.R_drewN HR.out _,yab HBR.out _⟩
     case measure=>have:=HLT.out;simp [intOf];omega
   ·obtain rfl:i=6:=by omega
    have hX6:X=(k,b):=hXi.out.symm
    subst hX6
    clear HX hXi
    have HR:=Lib.hid hRb;have HBR:=Lib.hid hbr
    clear hRb hbr
    by_cases hk0:k=0
    ·subst hk0
     go_wp2
     go_ret3
     exact⟨_,rfl,Kd.R_nil _ _ _ _ _,HBR.out⟩
    ·have dk:decide (k=0)=false:=by simpa using hk0
     have hkb:(k == 0)=false:=by simpa using hk0
     go_wp2
     go_ret3
     try rw[if_neg hk0]
     exact⟨_,rfl,HR.out,HBR.out⟩
 ·rw[if_pos h3]
  have HK:=Lib.hid hbk;have HC:=Lib.hid hch
  generalize yc0 kind cs=r at *
  have d3:decide (r=0)=false:=by simpa using h3
  clear hbk hfit hch h1 hB h hok
  go_enter Tryz.func15,Tryz.ntmps15
  go_wp2_with (first
   | (go_at_call 28;refine(yb3.calls kind false _ HK.out).mono ?_;rintro e w1 ⟨rfl,⟨m1,rfl⟩⟩)
   | (go_at_call 30;refine(HC.out _ (by repeat (first|exact Below.refl _ _|apply yab))).mono ?_;rintro e w3 ⟨rfl,hb3⟩;have hb3':Below w.heap.size w w3:=(fun(hx:Below w.heap.size w _)=>yae hx hx.size hb3) (by repeat (first|exact Below.refl _ _|apply yab))))
  go_ret3
  exact⟨_,rfl,Kd.R_nil _ _ _ _ _,hb3'⟩
theorem cells4 {w:World} {ad:Addr} {y0 y1 y2 y3:Int} (h:Kd.C (Kd.int .u8) w (some ad) 4 [y0,y1,y2,y3]) :
  w.cell? ad=some (.int .u8 y0)∧w.cell? { block:=ad.block,off:=ad.off+1 }=some (.int .u8 y1)∧w.cell? { block:=ad.block,off:=ad.off+2 }=some (.int .u8 y2)∧w.cell? { block:=ad.block,off:=ad.off+3 }=some (.int .u8 y3):=by
 obtain⟨b0,e,h0⟩:=Kd.at_int h 0 (by decide) (by decide)
 injection e with e;rw[← e] at h0
 obtain⟨b1,e,h1⟩:=Kd.at_int h 1 (by decide) (by decide)
 injection e with e;rw[← e] at h1
 obtain⟨b2,e,h2⟩:=Kd.at_int h 2 (by decide) (by decide)
 injection e with e;rw[← e] at h2
 obtain⟨b3,e,h3⟩:=Kd.at_int h 3 (by decide) (by decide)
 injection e with e;rw[← e] at h3
 exact⟨h0,h1,h2,h3⟩
theorem guard4:Tryz.prog.eqGuardType Tryz.prog.depth 85=false:=by kernel_rfl
theorem under5:Tryz.prog.underlying 5=some (.int .u8):=by kernel_rfl
theorem equalIn4 (d:Nat) (x0 x1 x2 x3 y0 y1 y2 y3:Int) (w:World) :
  (Op.equalIn (d+2) 85 (.agg #[.int .u8 x0,.int .u8 x1,.int .u8 x2,.int .u8 x3]) (.agg #[.int .u8 y0,.int .u8 y1,.int .u8 y2,.int .u8 y3])).run Tryz.prog w=.ok (decide ([x0,x1,x2,x3]=[y0,y1,y2,y3])) w:=by
 have hu:=Tryz.underlying85
 obtain⟨i5,hi5,hz0,hz1,hz2⟩:=info_parts ycj
 have hu5:=under5
 unfold Op.equalIn
 simp only[Sem.run_bind,run_underlying hu,Result.andThen_ok]
 by_cases h0:x0=y0 <;> by_cases h1:x1=y1 <;> by_cases h2:x2=y2 <;> by_cases h3:x3=y3 <;>
  simp [sizeOf,typeInfo,hi5,hz1,part,isAgg,run_underlying hu5,run_equalIn_int _ d 5 .u8 .u8 _ _ hu5,h0,h1,h2,h3,Std.Legacy.Range.forIn_eq_forIn_range',Std.Legacy.Range.size,List.range']
theorem array4 (A:Option Addr) (c:Nat) (w:World):(Instr.arrayAt 85 (.slice A 4 c)).run Tryz.prog w=.ok (.pointer A) w:=by
 have hu:=Tryz.underlying85
 unfold Instr.arrayAt
 rw[Sem.run_bind,run_underlying hu w]
 simp [Result.andThen]
theorem yg6 (A:Option Addr) (c:Nat) (b:List Int) (w:World) (h:Kd.C (Kd.int .u8) w A b.length b) (hc:b.length≤c) (hb:Bys b) (hl:b.length≤1000000000) :
  Calls Tryz.prog 38 #[.slice A b.length c] w fun e w'=>e=.returned (.bool (yc9 b))∧Below w.heap.size w w':=by
 by_cases h4:b.length<4
 ·have hs:yc9 b=false:=by unfold yc9;simp;omega
  have d:decide ((4:Int)≤(b.length:Int))=false:=by simp;omega
  have HS:=Lib.hid hs
  clear hs h hb
  go_enter Tryz.func38,Tryz.ntmps38
  go_upto_region 2 with (fail)
  go_quiet (fail)
  all_goals go_wp2
  all_goals go_ret
  all_goals exact⟨by rw[HS.out];rfl,by repeat (first|exact Below.refl _ _|apply yab)⟩
 ·obtain⟨n,hn⟩:∃ n,b.length=n+4:=⟨b.length-4,by omega⟩
  obtain⟨i5,hi5,hz0,hz1,hz2⟩:=info_parts ycj
  obtain⟨x,hx⟩:∃ x,x=b.take n:=⟨_,rfl⟩
  obtain⟨y,hy⟩:∃ y,y=b.drop n:=⟨_,rfl⟩
  have hxl:x.length=n:=by rw[hx,List.length_take];omega
  have hyl:y.length=4:=by rw[hy,List.length_drop];omega
  have hS:yc9 b=decide (yd8 4 (sumS x)=y):=by
   unfold yc9
   rw[hn,Nat.add_sub_cancel,← hx,← hy]
   simp [eq_comm]
  have hs:=ykz x
  have hbx:Bys x:=by rw[hx];exact hb.take _
  have hCx:Kd.C (Kd.int .u8) w A x.length x:=by rw[hx];exact Kd.C_take h (by omega)
  have hCy:=Kd.C_drop (m:=n) (c:=c) h (by omega) hc
  have hct:=ykd (P:=Tryz.prog) 25 5 .i64 Tryz.underlying25 hi5 A b.length c ((b.length:Int)-4) (by omega) (by omega) hc
  have hcf:=ylr (P:=Tryz.prog) 25 5 .i64 Tryz.underlying25 hi5 1 hz1 A b.length c ((b.length:Int)-4) (by omega) (by omega)
  rw[← hy,show(Kd.int IntKind.u8).sz=1 from rfl] at hCy
  have hnn:((b.length:Int)-4).toNat=n:=by omega
  have hn4:b.length-n=4:=by omega
  simp only[hnn,hn4] at hct hcf
  generalize (if c=n then A else A.map (·.add (n*1)))=A4 at *
  obtain⟨ad,rfl⟩:∃ ad,A4=some ad:=by obtain⟨ad,e,_⟩:=hCy.2.2 (by omega);exact⟨ad,e⟩
  have hsum:=fun(w2:World) (hb2:Below w.heap.size w w2) (A0:Addr) (h0:w2.cell? A0=some (.slice A x.length c))=>yo9 A0 c A x w2 h0 (Kd.C_below hCx hb2) hbx
  have htl:=fun w2=>yo3 (sumS x) hs w2
  have harr:=array4 (some ad) (c-n)
  obtain⟨d0,d1,d2,d3,hD⟩:∃ d0 d1 d2 d3,yd8 4 (sumS x)=[d0,d1,d2,d3]:=⟨_,_,_,_,rfl⟩
  have ha4:arr4 (sumS x)=.agg #[.int .u8 d0,.int .u8 d1,.int .u8 d2,.int .u8 d3]:=by unfold arr4;rw[hD];rfl
  rw[hD] at hS
  simp only[ha4] at htl
  obtain⟨y0,y1,y2,y3,rfl⟩:∃ y0 y1 y2 y3,y=[y0,y1,y2,y3]:=by
   match y,hyl with
   | [a,b,c,d],_=>exact⟨a,b,c,d,rfl⟩
  have hcs:=fun(w2:World) (hb2:Below w.heap.size w w2)=>cells4 (Kd.C_below hCy hb2)
  rw[hxl] at hsum
  have d4:decide ((4:Int)≤(b.length:Int))=true:=by simp;omega
  have HS:=Lib.hid hS;have HSUM:=Lib.hid hsum;have HT:=Lib.hid htl;have HCS:=Lib.hid hcs
  clear hcs hS hsum htl h hb hCx hCy hbx hs hx hy hD ha4 hxl hyl hn hnn hn4 hi5 hz0 hz1 hz2
  generalize sumS x=sx at *
  have heq:=fun(W:World)=>equalIn4 9998 d0 d1 d2 d3 y0 y1 y2 y3 W
  have hgd:=guard4
  generalize decide ([d0,d1,d2,d3]=[y0,y1,y2,y3])=ans at *
  go_enter Tryz.func38,Tryz.ntmps38
  go_upto_region 2 with (fail)
  go_region_held3 (fun w'=>w'.cell? ad=some (.int .u8 y0)∧w'.cell? { block:=ad.block,off:=ad.off+1 }=some (.int .u8 y1)∧w'.cell? { block:=ad.block,off:=ad.off+2 }=some (.int .u8 y2)∧w'.cell? { block:=ad.block,off:=ad.off+3 }=some (.int .u8 y3)) (exact HCS.out _ (by repeat (first|exact hbw|exact Below.refl _ _|apply yab|apply yam|apply yaj))) (first
   | (go_at_call 62;refine(HSUM.out _ (by repeat (first|exact Below.refl _ _|apply yab|apply yam|apply yaj)) _ (by first|rfl|(simp [World.cell?_alloc_at];done))).mono ?_;rintro e w1 ⟨rfl,⟨m1,rfl⟩⟩)
   | (go_at_call 61;refine(HT.out _).mono ?_;rintro e w2 ⟨rfl,hb2⟩;have hbw:Below w.heap.size w w2:=(fun(hx:Below w.heap.size w _)=>yae hx hx.size hb2) (by repeat (first|exact Below.refl _ _|apply yab|apply yam|apply yaj))))
  all_goals go_wp2
  all_goals go_ret
  all_goals exact⟨by rw[HS.out];rfl,by repeat (first|exact hbw|exact Below.refl _ _|apply yab|apply yam|apply yaj)⟩
def NullsRead (w:World) (l:List Int) (r:List Int×Nat×Int) (e:Ending) (w':World):Prop:=
 ∃ v v2,e=.returned (.tuple #[v,v2,.int .i64 r.2.2])∧Below w.heap.size w w' ∧
  (r.2.2=0→(∃ A1 c1,v=.slice A1 r.1.length c1∧r.1.length≤c1∧Kd.C (Kd.int .u64) w' A1 r.1.length r.1) ∧
    ∃ A2 c2,v2=.slice A2 (l.length-r.2.1) c2∧l.length-r.2.1≤c2∧Kd.C (Kd.int .u8) w' A2 (l.length-r.2.1) (l.drop r.2.1))
theorem yio (A:Option Addr) (c:Nat) (xs:List Int) (a b:Nat) (hab:a≤b) (hb:b≤xs.length) (hc:xs.length≤c) :
  ∃ A':Option Addr,(∀ W:World,(Instr.slice 25 (.slice A xs.length c) (some (.int .i64 (a:Int))) (some (.int .i64 (b:Int))) none).run Tryz.prog W=.ok (.slice A' (b-a) (c-a)) W) ∧
   (∀ w:World,Kd.C (Kd.int .u8) w A xs.length xs→Kd.C (Kd.int .u8) w A' (b-a) ((xs.take b).drop a)):=by
 obtain⟨i0,hi0,_,hsz,_⟩:=info_parts ycj
 have h1:=cut_mid (P:=Tryz.prog) 25 5 .i64 .i64 Tryz.underlying25 hi0 1 hsz A xs.length c (a:Int) (b:Int) (by omega) (by omega) (by omega) hc
 simp only[Int.toNat_natCast] at h1
 have hl:((xs.take b).drop a).length=b-a:=by rw[List.length_drop,List.length_take];omega
 refine⟨_,h1,fun w h=>?_⟩
 have h2:=Kd.C_mid (c:=c) h hab hb hc
 rw[hl] at h2
 exact h2
theorem made_C (W:World) (n:Nat) (hn:n≤4096):Kd.C (Kd.int .u64) (W.alloc (.cells (madeCells #[.int .u64 0] n) 63)) (some ⟨W.heap.size,0,none⟩) (List.replicate n (0:Int)).length (List.replicate n 0):=by
 have h1:=yil W W.heap.size 63 .u64 n (Nat.le_refl _) (by omega)
 have h2:Kd.R (Kd.int .u64) 63 (W.alloc (.cells (madeCells #[.int .u64 0] n) 63)) W.heap.size (fun _=>True) (.slice (some ⟨W.heap.size,0,none⟩) n n) (List.replicate n 0):=Kd.R_of_own (by rw[List.length_replicate];exact h1) (fun _ _=>trivial)
 obtain⟨A,c,e,hc,hC⟩:=Kd.R_reads h2
 injection e with e1 e2 e3
 subst e1
 exact hC
theorem yn2 (A:Option Addr) (c:Nat) (l:List Int) (n:Nat) (w:World) (h:Kd.C (Kd.int .u8) w A l.length l) (hc:l.length≤c) (hb:Bys l) (hl:l.length≤65000) (hn:n≤4096) :
  Calls Tryz.prog 40 #[.slice A l.length c,.int .i64 n] w (NullsRead w l (ybt l 0 n)):=by
 unfold ybt
 by_cases h0:l.length≤0
 ·rw[if_pos h0]
  have h00:l.length=0:=by omega
  have d:decide (l.length=0)=true:=by simpa using h00
  clear h hb
  go_enter Tryz.func40,Tryz.ntmps40
  go_wp2
  go_ret3
  exact⟨_,_,rfl,Below.refl _ _,fun h=>absurd h (by decide)⟩
 rw[if_neg h0]
 obtain⟨ad,rfl,hx0⟩:=Kd.at_int h (0:Int) (by omega) (by omega)
 have a0:ad.add 0=ad:=by simp [Addr.add]
 rw[show rd l (0:Int)=l.getD 0 0 from rfl,show(0:Int).toNat=0 from rfl,a0] at hx0
 have hpos:(0:Int)<(l.length:Int):=by omega
 have hxb:0≤l.getD 0 0∧l.getD 0 0<256:=by
  rw[List.getD_eq_getElem?_getD,List.getElem?_eq_getElem (show 0<l.length by omega)]
  exact hb _ (List.getElem_mem (by omega))
 have hne:l.length≠0:=by omega
 generalize hx:l.getD 0 0=x at *
 by_cases h1:1<x
 ·rw[if_pos h1]
  clear h hb hx
  go_enter Tryz.func40,Tryz.ntmps40
  go_wp2
  go_ret3
  exact⟨_,_,rfl,Below.refl _ _,fun h=>absurd h (by decide)⟩
 rw[if_neg h1]
 by_cases h2:x=0
 ·subst h2
  rw[if_pos rfl]
  obtain⟨B1,hcut1,hB1,hcc1⟩:=ygt (some ad) c l 1 (by omega) hc
  rw[show((1:Nat):Int)=1 from rfl] at hcut1
  have hmk:=yic (P:=Tryz.prog) 66 63 .u64 8 Tryz.underlying66 yim (by decide) n (by omega)
  have HC:=Lib.hid h;have HB1:=Lib.hid hB1;have HCC:=Lib.hid hcc1;have HN:=Lib.hid hn
  clear h hb hx hB1 hn hcc1
  go_enter Tryz.func40,Tryz.ntmps40
  go_upto_region 6 with (fail)
  go_region
  all_goals go_wp2
  all_goals go_ret3
  all_goals
   have hbn:=yam (yaj (Below.refl w.heap.size w) (.cells (madeCells #[.int .u64 0] n) 63))
   have hCM:=Kd.C_drew (made_C w n HN.out)
   have hlen:=List.length_replicate (n:=n) (a:=(0:Int))
   rw[hlen] at hCM
   refine⟨_,_,rfl,hbn,fun _=>⟨⟨_,_,congrArg (fun k=>Value.slice _ k n) hlen.symm,Nat.le_of_eq hlen,?_⟩,_,_,rfl,HCC.out,HB1.out _ (Kd.C_below HC.out hbn)⟩⟩
   rw[hlen]
   exact hCM
 ·obtain rfl:x=1:=by omega
  rw[if_neg (by decide)]
  simp only[Nat.zero_add,Nat.sub_zero]
  obtain⟨m,hm⟩:∃ m,m=(n+7) / 8:=⟨_,rfl⟩
  rw[← hm]
  have hq:Int.tdiv ((n:Int)+7) 8=(m:Int):=by rw[Int.tdiv_eq_ediv_of_nonneg (by omega)];omega
  have hm2:m≤512:=by omega
  by_cases h3:l.length-1<m
  ·rw[if_pos h3]
   have h3':(l.length:Int)-1<(m:Int):=by omega
   clear h hb hx hm
   go_enter Tryz.func40,Tryz.ntmps40
   go_wp2
   go_ret3
   exact⟨_,_,rfl,Below.refl _ _,fun h=>absurd h (by decide)⟩
  ·rw[if_neg h3]
   have h3':decide ((l.length:Int)-1<(m:Int))=false:=by simp;omega
   have h3n:(m:Int)≤(l.length:Int)-1:=by omega
   obtain⟨B1,hcut1,hB1⟩:=yio (some ad) c l 1 (1+m) (by omega) (by omega) hc
   obtain⟨B2,hcut2,hB2,hcc2⟩:=ygt (some ad) c l (1+m) (by omega) hc
   rw[show((1:Nat):Int)=1 from rfl,show((1+m:Nat):Int)=1+(m:Int) by omega,show 1+m-1=m by omega] at hcut1
   rw[show((1+m:Nat):Int)=1+(m:Int) by omega] at hcut2
   have hd:(l.take (1+m)).drop 1=(l.drop 1).take m:=by rw[List.drop_take];congr 1;omega
   rw[hd,show 1+m-1=m by omega] at hB1
   obtain⟨y,hy⟩:∃ y,y=(l.drop 1).take m:=⟨_,rfl⟩
   have hyl:y.length=m:=by rw[hy,List.length_take,List.length_drop];omega
   have hyb:Bys y:=by rw[hy];exact(hb.drop 1).take m
   rw[← hy] at hB1 ⊢
   obtain⟨ku,hku⟩:=(ymm hyb (by omega) (w:=1) (m:=n) (by decide) hn).ex
   have hpu:=@ygp y hyb 1 n
   generalize ybq y 1 n=ru at *
   obtain⟨us,er⟩:=ru
   simp only at hku hpu ⊢
   have hcall:=fun(w2:World) (hb2:Below w.heap.size w w2)=>yav.calls ku B1 (c-1) y ((1:Nat):Int) (n:Int) us er w2 (by rw[hyl];exact Kd.C_below (hB1 w h) hb2) (by omega) hku
   rw[hyl,show((1:Nat):Int)=1 from rfl] at hcall
   have hC2:=hB2 w h
   by_cases he:er=0
   ·subst he
    obtain⟨hul,huf,_⟩:=hpu rfl
    have hu64:U64s us:=fun u hu=>by have:=huf u hu;omega
    obtain⟨kw,hkw⟩:=(ykf hu64 (by omega)).ex
    rw[if_neg (by decide)]
    have hwu:=fun(A1:Option Addr) (c1:Nat) (w2:World) (hC:Kd.C (Kd.int .u64) w2 A1 us.length us) (hc1:us.length≤c1)=>ybb.calls kw A1 c1 us _ w2 hC hc1 hkw
    by_cases hw0:widS us=0
    ·rw[if_pos hw0]
     rw[hw0,show((0:Nat):Int)=0 from rfl] at hwu
     have HCA:=Lib.hid hcall;have HWU:=Lib.hid hwu
     clear h hb hx hm hcall hyl hyb hB1 hB2 hC2 hpu hku hd hy hwu hkw hu64 huf hw0 hul
     go_enter Tryz.func40,Tryz.ntmps40
     go_upto_region 13 with (first
      | (go_at_call 63;refine(HCA.out _ (Below.refl _ _)).mono ?_;rintro e w1 ⟨v1,rfl,hR1,hb1⟩;obtain⟨A1,c1,rfl,hc1,hC1⟩:=Kd.R_reads hR1)
      | (go_at_call 64;refine(HWU.out A1 c1 _ hC1 hc1).mono ?_;rintro e w2 ⟨rfl,⟨m2,rfl⟩⟩))
     go_quiet (fail)
     all_goals go_wp2
     all_goals go_ret3
     all_goals exact⟨_,_,rfl,by repeat (first|exact hb1|apply yab),fun h=>absurd h (by decide)⟩
    ·rw[if_neg hw0]
     have hwz:decide (((widS us:Nat):Int)=0)=false:=by simp;omega
     have hwb:((((widS us:Nat):Int)) == 0)=false:=by simp;omega
     generalize ((widS us:Nat):Int)=W0 at *
     have HCA:=Lib.hid hcall;have HWU:=Lib.hid hwu;have HC2:=Lib.hid hC2;have HUL:=Lib.hid hul;have HCC:=Lib.hid hcc2;have HCW:=Lib.hid hC2
     clear h hb hx hm hcall hyl hyb hB1 hB2 hC2 hpu hku hd hy hwu hkw hu64 huf hw0 hcc2 hul
     go_enter Tryz.func40,Tryz.ntmps40
     go_upto_region 13 with (first
      | (go_at_call 63;refine(HCA.out _ (Below.refl _ _)).mono ?_;rintro e w1 ⟨v1,rfl,hR1,hb1⟩;obtain⟨A1,c1,rfl,hc1,hC1⟩:=Kd.R_reads hR1)
      | (go_at_call 64;refine(HWU.out A1 c1 _ hC1 hc1).mono ?_;rintro e w2 ⟨rfl,⟨m2,rfl⟩⟩))
     go_quiet (fail)
     all_goals go_wp2
     all_goals go_ret3
     all_goals exact⟨_,_,rfl,by repeat (first|exact hb1|apply yab),fun _=>⟨⟨_,_,rfl,hc1,by repeat (first|exact hC1|apply Kd.C_drewN)⟩,_,_,rfl,HCC.out,Kd.C_below HC2.out (by repeat (first|exact hb1|apply yab))⟩⟩
   ·rw[if_pos he]
    have hd0:decide (er=0)=false:=by simpa using he
    have heb:(er == 0)=false:=by simpa using he
    have HCA:=Lib.hid hcall;have HE:=Lib.hid he
    clear h hb hx hm hcall hyl hyb hB1 hB2 hC2 hpu hku hd hy
    go_enter Tryz.func40,Tryz.ntmps40
    go_upto_region 13 with (go_at_call 63;refine(HCA.out _ (Below.refl _ _)).mono ?_;rintro e w1 ⟨v1,rfl,hR1,hb1⟩)
    go_quiet (fail)
    all_goals go_wp2
    all_goals go_ret3
    all_goals exact⟨_,_,rfl,by repeat (first|exact hb1|apply yab),fun h=>absurd h HE.out⟩
def JAt (w:World) (base g:Nat) (out:List Int):Prop:=∃ v,w.heap[g]?=some (.cells #[v] 128 (0,0))∧base≤g∧Kd.R (Kd.int .i64) 2 w base (fun _=>True) v out
theorem JAt.below {w w1:World} {base g:Nat} {out:List Int} (h:JAt w base g out) (hb:Below w.heap.size w w1):JAt w1 base g out:=by
 obtain⟨v,h1,h2,h3⟩:=h
 exact⟨v,(hb.block g (lt_of_block h1)).trans h1,h2,Kd.R_below h3 hb⟩
def addE (out:List Int) (v:Int) (n:Nat):Int:=if out.getLast?=some v then 5 else if 4096-out.length<n then 4 else 0
theorem yid {w:World} {g:Nat} {v:Value} (h:w.heap[g]?=some (.cells #[v] 128 (0,0))):w.cell? ⟨g,0,none⟩=some v:=by simp [World.cell?,h]
theorem ynd {w:World} {g:Nat} {v:Value} (h:w.heap[g]?=some (.cells #[v] 128 (0,0))):w.frozen? ⟨g,0,none⟩=false:=by simp [World.frozen?,h]
theorem put_of {w:World} {g:Nat} {v u:Value} (h:w.heap[g]?=some (.cells #[v] 128 (0,0))):(w.setCell ⟨g,0,none⟩ u).heap[g]?=some (.cells #[u] 128 (0,0)):=one_setCell h
theorem put_R {w:World} {g base:Nat} {v u x:Value} {out:List Int} (h:w.heap[g]?=some (.cells #[v] 128 (0,0))) (hR:Kd.R (Kd.int .i64) 2 w base (fun _=>True) u out):Kd.R (Kd.int .i64) 2 (w.setCell ⟨g,0,none⟩ x) base (fun _=>True) u out:=by
 have hne:=Kd.R_ne hR h (by decide)
 exact Kd.R_of_own (yey (Kd.own_of_R hR) (fun k hk=>Below.heap_setCell _ _ _ _ (fun e=>hne (by rw[hk,e])))) (fun _ _=>trivial)
theorem add_any (w0 w:World) (g:Nat) (out:List Int) (v:Int) (n:Nat) (h:JAt w w0.heap.size g out) (hb:Below w0.heap.size w0 w) (hl:out.length≤4096) (hn:n<18446744073709551616) :
  Calls Tryz.prog 107 #[.pointer (some ⟨g,0,none⟩),.int .i64 v,.int .u64 n] w fun e w'=>e=.returned (.int .i64 (addE out v n))∧Below w0.heap.size w0 w'∧(addE out v n=0→JAt w' w0.heap.size g (out++List.replicate n v)):=by
 obtain⟨u,h1,h2,h3⟩:=h
 have hx:=yid h1
 have hne:=Kd.R_ne h3 h1 (by decide)
 obtain⟨Ao,co,rfl,hco,hCo⟩:=Kd.R_reads h3
 unfold addE
 by_cases hd:out.getLast?=some v
 ·rw[if_pos hd]
  obtain⟨k,hk⟩:∃ k,out.length=k+1:=by
   cases out with
   | nil=>simp at hd
   | cons a t=>exact⟨t.length,rfl⟩
  obtain⟨ad,rfl,hy⟩:=Kd.at_int hCo (k:Int) (by omega) (by omega)
  rw[ybj (show k<out.length by omega),Int.toNat_natCast] at hy
  have hv:out[k]'(by omega)=v:=by
   rw[List.getLast?_eq_getElem?,hk,Nat.add_sub_cancel,List.getElem?_eq_getElem (by omega)] at hd
   injection hd
  rw[hv] at hy
  have hpos:(0:Int)<(out.length:Int):=by omega
  have hlast:(out.length:Int)-1=(k:Int):=by omega
  clear hd hv h1 h3 hCo hne
  go_enter Tryz.func107,Tryz.ntmps107
  go_wp2
  go_ret
  exact⟨rfl,hb,fun h=>absurd h (by decide)⟩
 ·rw[if_neg hd]
  have key:RowKit.Hid (out.length=0∨∃ (k:Nat) (y:Int) (ad:Addr),Ao=some ad∧out.length=k+1∧y≠v∧w.cell? (ad.add k)=some (.int .i64 y)):=by
   by_cases h0:out.length=0
   ·exact .inl h0
   ·obtain⟨k,hk⟩:∃ k,out.length=k+1:=⟨out.length-1,by omega⟩
    obtain⟨ad,rfl,hy⟩:=Kd.at_int hCo (k:Int) (by omega) (by omega)
    rw[ybj (show k<out.length by omega),Int.toNat_natCast] at hy
    refine .inr ⟨k,_,ad,rfl,hk,fun e=>hd ?_,hy⟩
    rw[List.getLast?_eq_getElem?,hk,Nat.add_sub_cancel,List.getElem?_eq_getElem (by omega),e]
  have hm:(4096:Int)-(out.length:Int)=((4096-out.length:Nat):Int):=by omega
  obtain⟨M,hM⟩:∃ M,M=4096-out.length:=⟨_,rfl⟩
  have hM2:(M:Int)=4096-(out.length:Int):=by omega
  rw[← hM]
  have hMl:M≤4096:=by omega
  have hwr:IntKind.u64.wrap ((4096:Int)-(out.length:Int))=(M:Int):=by rw[← hM2,IntKind.wrap_u64];omega
  have HH1:=Lib.hid h1;have HR:=Lib.hid h3;have HNE:=Lib.hid hne
  by_cases hlong:M<n
  ·rw[if_pos hlong]
   have hi:(M:Int)<(n:Int):=by omega
   have HB:=Lib.hid hb
   rcases key.out with h0|⟨k,y,ad,rfl,hk,hyv,hy⟩
   ·have hz:¬ 0<out.length:=by omega
    clear h0 hd h1 h3 hCo hne key hm hM hM2 hb
    go_enter Tryz.func107,Tryz.ntmps107
    go_wp2
    go_ret
    exact⟨rfl,HB.out,fun h=>absurd h (by decide)⟩
   ·have hpos:(0:Int)<(out.length:Int):=by omega
    have hlast:(out.length:Int)-1=(k:Int):=by omega
    have hkl:k<out.length:=by omega
    have hyb:(y == v)=false:=by simpa using hyv
    clear hd h1 h3 hCo hne key hm hM hM2 hb hk
    go_enter Tryz.func107,Tryz.ntmps107
    go_wp2
    go_ret
    exact⟨rfl,HB.out,fun h=>absurd h (by decide)⟩
  ·rw[if_neg hlong]
   have hi:¬ (M:Int)<(n:Int):=by omega
   have hnM:n≤M∧M=4096-out.length∧out.length≤4096:=⟨by omega,hM,hl⟩
   have HNM:=Lib.hid hnM
   have HB:=Lib.hid hb
   rcases key.out with h0|⟨k,y,ad,rfl,hk,hyv,hy⟩
   ·have hz:¬ 0<out.length:=by omega
    clear h0 hd h1 h3 hCo hne key hm hM hM2 hb hnM hlong
    go_enter Tryz.func107,Tryz.ntmps107
    go_wp2
    go_loopw [35] (fun vi wq=>∃ i:Nat,i≤n∧vi=.int .u64 i∧JAt wq w0.heap.size g (out++List.replicate i v)∧Below w0.heap.size w0 wq) (fun vi _=>n-(intOf vi).toNat)
    case atStart=>exact⟨0,Nat.zero_le _,rfl,⟨_,HH1.out,h2,by rw[List.replicate_zero,List.append_nil];exact HR.out⟩,HB.out⟩
    case round =>
     obtain⟨i,hi9,rfl,⟨u,k1,k2,k3⟩,hbr⟩:=hrel
     by_cases hlt:i<n
     ·have hxr:=yid k1
      have hne9:=Kd.R_ne k3 k1 (by decide)
      obtain⟨Ar,cr,rfl⟩:=Kd.R_slice k3
      have hol:(out++List.replicate i v).length≤4096:=by have:=HNM.out;rw[List.length_append,List.length_replicate];omega
      have hsn:out++List.replicate (i+1) v=(out++List.replicate i v)++[v]:=by rw[List.append_assoc,List.replicate_succ']
      generalize out++List.replicate i v=o at *
      have HSN:=Lib.hid hsn;have HLT:=Lib.hid hlt;have HK1:=Lib.hid k1;have HK3:=Lib.hid k3;have HBR:=Lib.hid hbr;have HNE:=Lib.hid hne9
      clear hsn k1 k3 hbr hne9 hlt
      go_wp2_with (at_builtin;refine Kd.R_append_row (w0:=w0) (Value.int .i64) (0:Int) w0.heap.size rfl (.tmp 41) (.tmp 43) 94 2 (.int .i64 0) 8 rfl Tryz.underlying94 yjs rfl (by decide) _ o [v] _ _ _ (fun _=>True) rfl rfl (fun _ _=>trivial) (Kd.R_alloc HK3.out _) (lit_C (ds:=[v]) (heap_alloc_new _ _) (by simp)) (yaj HBR.out _) (yaj HBR.out _).size (by first|omega|(simp only[List.length_singleton];omega)) ?_;intro v5 w5 hR5 hb5 hg5 hat5;have hba:=yaj (Below.refl wr.heap.size wr) (.cells #[.int .i64 v] 2);have hk5:=(hg5.block g (Nat.lt_of_lt_of_le (lt_of_block HK1.out) hba.size) (by first|exact HNE.out|exact fun e=>HNE.out e.symm)).trans ((hba.block g (lt_of_block HK1.out)).trans HK1.out);obtain⟨A5,c5,rfl⟩:=Kd.R_slice hR5;have hx5:=yid hk5;have hf5:=ynd hk5;have HR5:=Lib.hid hR5;have HB5:=Lib.hid hb5;have HK5:=Lib.hid hk5;clear hR5 hb5 hg5 hat5 hk5)
      go_roundw
      case rel =>
       have hle:o.length+1=(o++[v]).length:=by simp
       refine⟨i+1,by have:=HLT.out;omega,by go_num,⟨_,put_of HK5.out,h2,?_⟩,Below.setCell HB5.out h2 _⟩
       rw[HSN.out]
       have hp:=put_R (x:=.slice A5 (o++[v]).length c5) HK5.out HR5.out
       rw[← hle] at hp
       exact hp
      case measure=>have:=HLT.out;simp [intOf];omega
     ·obtain rfl:i=n:=by omega
      have HJ:=Lib.hid k1;have HJ3:=Lib.hid k3;have HBR:=Lib.hid hbr
      clear k1 k3 hbr
      go_wp2
      go_ret
      exact⟨rfl,HBR.out,fun _=>⟨_,HJ.out,k2,HJ3.out⟩⟩
   ·have hpos:(0:Int)<(out.length:Int):=by omega
    have hlast:(out.length:Int)-1=(k:Int):=by omega
    have hkl:k<out.length:=by omega
    have hyb:(y == v)=false:=by simpa using hyv
    clear hd h1 h3 hCo hne key hm hM hM2 hb hk hnM hlong
    go_enter Tryz.func107,Tryz.ntmps107
    go_wp2
    go_loopw [35] (fun vi wq=>∃ i:Nat,i≤n∧vi=.int .u64 i∧JAt wq w0.heap.size g (out++List.replicate i v)∧Below w0.heap.size w0 wq) (fun vi _=>n-(intOf vi).toNat)
    case atStart=>exact⟨0,Nat.zero_le _,rfl,⟨_,HH1.out,h2,by rw[List.replicate_zero,List.append_nil];exact HR.out⟩,HB.out⟩
    case round =>
     obtain⟨i,hi9,rfl,⟨u,k1,k2,k3⟩,hbr⟩:=hrel
     by_cases hlt:i<n
     ·have hxr:=yid k1
      have hne9:=Kd.R_ne k3 k1 (by decide)
      obtain⟨Ar,cr,rfl⟩:=Kd.R_slice k3
      have hol:(out++List.replicate i v).length≤4096:=by have:=HNM.out;rw[List.length_append,List.length_replicate];omega
      have hsn:out++List.replicate (i+1) v=(out++List.replicate i v)++[v]:=by rw[List.append_assoc,List.replicate_succ']
      generalize out++List.replicate i v=o at *
      have HSN:=Lib.hid hsn;have HLT:=Lib.hid hlt;have HK1:=Lib.hid k1;have HK3:=Lib.hid k3;have HBR:=Lib.hid hbr;have HNE:=Lib.hid hne9
      clear hsn k1 k3 hbr hne9 hlt
      go_wp2_with (at_builtin;refine Kd.R_append_row (w0:=w0) (Value.int .i64) (0:Int) w0.heap.size rfl (.tmp 41) (.tmp 43) 94 2 (.int .i64 0) 8 rfl Tryz.underlying94 yjs rfl (by decide) _ o [v] _ _ _ (fun _=>True) rfl rfl (fun _ _=>trivial) (Kd.R_alloc HK3.out _) (lit_C (ds:=[v]) (heap_alloc_new _ _) (by simp)) (yaj HBR.out _) (yaj HBR.out _).size (by first|omega|(simp only[List.length_singleton];omega)) ?_;intro v5 w5 hR5 hb5 hg5 hat5;have hba:=yaj (Below.refl wr.heap.size wr) (.cells #[.int .i64 v] 2);have hk5:=(hg5.block g (Nat.lt_of_lt_of_le (lt_of_block HK1.out) hba.size) (by first|exact HNE.out|exact fun e=>HNE.out e.symm)).trans ((hba.block g (lt_of_block HK1.out)).trans HK1.out);obtain⟨A5,c5,rfl⟩:=Kd.R_slice hR5;have hx5:=yid hk5;have hf5:=ynd hk5;have HR5:=Lib.hid hR5;have HB5:=Lib.hid hb5;have HK5:=Lib.hid hk5;clear hR5 hb5 hg5 hat5 hk5)
      go_roundw
      case rel =>
       have hle:o.length+1=(o++[v]).length:=by simp
       refine⟨i+1,by have:=HLT.out;omega,by go_num,⟨_,put_of HK5.out,h2,?_⟩,Below.setCell HB5.out h2 _⟩
       rw[HSN.out]
       have hp:=put_R (x:=.slice A5 (o++[v]).length c5) HK5.out HR5.out
       rw[← hle] at hp
       exact hp
      case measure=>have:=HLT.out;simp [intOf];omega
     ·obtain rfl:i=n:=by omega
      have HJ:=Lib.hid k1;have HJ3:=Lib.hid k3;have HBR:=Lib.hid hbr
      clear k1 k3 hbr
      go_wp2
      go_ret
      exact⟨rfl,HBR.out,fun _=>⟨_,HJ.out,k2,HJ3.out⟩⟩
theorem JAt.drewN {w:World} {base g:Nat} {out:List Int} (h:JAt w base g out) {m:Nat}:JAt (w.drewN m) base g out:=h.below (yab (Below.refl _ _) _)
def yll (w:World) (l:List Int) (n:Int) (e:Ending) (w':World):Prop:=∃ v,e=.returned (.tuple #[v,.int .i64 n])∧Kd.R (Kd.int .i64) 2 w' w.heap.size (fun _=>True) v l∧Below w.heap.size w w'
theorem getl_ex {l:List Int} (hb:Bys l) (hl:l.length≤1000000) {p:Nat} (hp:p≤l.length):∃ k,yaw.f k l (p:Int)=some (((vget l p).1:Int),((vget l p).2.1:Int),(vget l p).2.2):=⟨_,get_law l p hb (by omega) hp⟩
theorem yfn {l:List Int} {A:Option Addr} {c:Nat} {w:World} (hC:Kd.C (Kd.int .u8) w A l.length l) (hc:l.length≤c) (hb:Bys l) (hl:l.length≤1000000) {p:Nat} (hp:p≤l.length) (w2:World) (hb2:Below w.heap.size w w2) :
  Calls Tryz.prog 39 #[.slice A l.length c,.int .i64 p] w2 fun e w'=>e=.returned (.tuple #[.int .u64 ((vget l p).1:Int),.int .i64 ((vget l p).2.1:Int),.int .i64 (vget l p).2.2])∧yap w2 w':=by
 obtain⟨k,hk⟩:=getl_ex hb hl hp
 exact yaw.calls k A c l (p:Int) _ _ _ w2 (Kd.C_below hC hb2) hc hk
theorem ypi (A:Option Addr) (c:Nat) (b:List Int) (w:World) (h:Kd.C (Kd.int .u8) w A b.length b) (hc:b.length≤c) (hb:Bys b) (hl:b.length≤1000000) :
  Calls Tryz.prog 67 #[.slice A b.length c] w (yll w (ydj b).1 (ydj b).2):=by
 have hg0:=yfn h hc hb hl (Nat.zero_le _) w (Below.refl _ _)
 have hgp:=fun(p:Nat) (hp:p≤b.length)=>yfn h hc hb hl hp
 have hle0:=fun h=>ycp hb (p:=0) h
 unfold ydj
 rw[show(((0:Nat):Int))=0 from rfl] at hg0
 have hlt:=fun h=>ydz (p:=0) hb h
 generalize hv0:vget b 0=r0 at *
 obtain⟨n,p0,e0⟩:=r0
 simp only at hg0 hle0 hlt ⊢
 by_cases he:e0=0
 ·subst he
  rw[if_neg (by decide)]
  have hle:=hle0 rfl
  have hn64:=hlt rfl
  by_cases hn:4096<n
  ·rw[if_pos hn]
   have hi:(4096:Int)<(n:Int):=by omega
   have HG:=Lib.hid hg0
   clear h hb hgp hg0 hle0 hlt hv0
   go_enter Tryz.func67,Tryz.ntmps67
   go_wp2_with (go_at_call 39;refine(HG.out).mono ?_;rintro e w1 ⟨rfl,⟨m1,rfl⟩⟩)
   go_ret2
   exact⟨_,rfl,Kd.R_nil _ _ _ _ _,yab (Below.refl _ _) _⟩
  ·rw[if_neg hn]
   have hi:decide ((4096:Int)<(n:Int))=false:=by simp;omega
   have hi2:¬ 4096<n:=hn
   have hi3:n≤4096:=by omega
   obtain⟨X,hX⟩:∃ X,ycn b n p0 []=X:=⟨_,rfl⟩
   rw[hX]
   generalize hRR:(if X.2.2≠0 then (([]:List Int),X.2.2) else if X.2.1<b.length then ([],3) else (X.1,0))=RR
   have HRR:=Lib.hid hRR
   clear hRR
   have HX:=Lib.hid hX
   have HG:=Lib.hid hg0;have HGP:=Lib.hid hgp;have HBY:=Lib.hid hb
   clear h hgp hg0 hle0 hlt hv0 hb hX
   go_enter Tryz.func67,Tryz.ntmps67
   go_wp2_with (go_at_call 39;refine(HG.out).mono ?_;rintro e w1 ⟨rfl,⟨m1,rfl⟩⟩)
   have hb0:Below w.heap.size w ((w.drewN m1).alloc (.cells #[.slice none 0 0] 128)):=yaj (yab (Below.refl _ _) _) _
   have hJ0:JAt ((w.drewN m1).alloc (.cells #[.slice none 0 0] 128)) w.heap.size (w.drewN m1).heap.size []:=⟨_,heap_alloc_new _ _,by simp,Kd.R_nil _ _ _ _ _⟩
   go_loopw [5,6,8,9,24] (fun v5 _ _ _ vi wq=>∃ (i p:Nat) (out:List Int),i≤n∧vi=.int .u64 i∧v5=.int .i64 p∧p≤b.length∧out.length≤4096∧RowKit.Hid (ycn b (n-i) p out=X)∧RowKit.Hid (JAt wq w.heap.size w.heap.size out)∧RowKit.Hid (Below w.heap.size w wq)) (fun _ _ _ _ vi _=>n-(intOf vi).toNat)
   case atStart=>exact⟨0,p0,[],Nat.zero_le _,rfl,rfl,hle.1,by simp,HX,Lib.hid (by simpa using hJ0),Lib.hid hb0⟩
   case round =>
    obtain⟨i,p,out,hi9,rfl,rfl,hp,hol,hXi,HJ,HBR⟩:=hrel
    by_cases hlt:i<n
    ·obtain⟨m,hm⟩:∃ m,n-i=m+1:=⟨n-i-1,by omega⟩
     have hm2:n-(i+1)=m:=by omega
     have hX1:=hXi.out
     rw[hm] at hX1
     unfold ycn at hX1
     have hg1:=HGP.out p hp
     have hl1:=fun h=>ycp HBY.out (p:=p) h
     have hs1:=fun h=>ydz (p:=p) HBY.out h
     generalize vget b p=r1 at *
     obtain⟨v1,q1,e1⟩:=r1
     simp only at hg1 hl1 hs1 hX1
     have HG1:=Lib.hid hg1
     by_cases he1:e1=0
     ·subst he1
      rw[if_neg (by decide)] at hX1
      obtain⟨hq1,_⟩:=hl1 rfl
      have hv1:=hs1 rfl
      have hg2:=HGP.out q1 hq1
      have hl2:=fun h=>ycp HBY.out (p:=q1) h
      have hs2:=fun h=>ydz (p:=q1) HBY.out h
      generalize vget b q1=r2 at *
      obtain⟨v2,q2,e2⟩:=r2
      simp only at hg2 hl2 hs2 hX1
      have HG2:=Lib.hid hg2
      by_cases he2:e2=0
      ·subst he2
       rw[if_neg (by decide)] at hX1
       obtain⟨hq2,_⟩:=hl2 rfl
       have hv2:=hs2 rfl
       by_cases hz:v2=0
       ·subst hz
        rw[if_pos rfl] at hX1
        have HXI:=Lib.hid hX1
        clear hX1 hXi hg1 hl1 hs1 hg2 hl2 hs2 hm hm2
        go_upto_region 13 with (go_at_call 39;refine(HG1.out _ (by repeat (first|exact HBR.out|apply yab))).mono ?_;rintro e w4 ⟨rfl,⟨m4,rfl⟩⟩)
        go_wp2_with (first
         | (go_at_call 39;refine(HG2.out _ (by repeat (first|exact HBR.out|apply yab))).mono ?_;rintro e w5 ⟨rfl,⟨m5,rfl⟩⟩))
        go_ret2
        rw[← HRR.out,← HXI.out,if_pos (by decide)]
        exact⟨_,rfl,Kd.R_nil _ _ _ _ _,by repeat (first|exact HBR.out|apply yab)⟩
       ·rw[if_neg hz] at hX1
        have hzb:((v2:Int) == 0)=false:=by simp;omega
        have hzd:¬ (v2:Int)=0:=by omega
        have hun:=yjk hv1
        generalize ycy v1=y at *
        have HU:=Lib.hid hun
        have hadd:=fun(w2:World) (hb2:Below w.heap.size w w2) (hJ2:JAt w2 w.heap.size w.heap.size out)=>add_any w w2 w.heap.size out y v2 hJ2 hb2 hol hv2
        have hE:addE out y v2=if out.getLast?=some y then 5 else if 4096-out.length<v2 then 4 else 0:=rfl
        by_cases ha:addE out y v2=0
        ·have hX2:ycn b m q2 (out++List.replicate v2 y)=X:=by
          rw[hE] at ha
          by_cases h1:out.getLast?=some y
          ·rw[if_pos h1] at ha;exact absurd ha (by decide)
          ·rw[if_neg h1] at ha hX1
           by_cases h2:4096-out.length<v2
           ·rw[if_pos h2] at ha;exact absurd ha (by decide)
           ·rw[if_neg h2] at hX1;exact hX1
         have hol2:(out++List.replicate v2 y).length≤4096:=by
          rw[hE] at ha
          by_cases h1:out.getLast?=some y
          ·rw[if_pos h1] at ha;exact absurd ha (by decide)
          ·rw[if_neg h1] at ha
           by_cases h2:4096-out.length<v2
           ·rw[if_pos h2] at ha;exact absurd ha (by decide)
           ·rw[List.length_append,List.length_replicate];omega
         simp only[ha] at hadd
         have HADD:=Lib.hid hadd;have HX2:=Lib.hid hX2;have HM2:=Lib.hid hm2;have HLT:=Lib.hid hlt;have HO2:=Lib.hid hol2;have HQ2:=Lib.hid hq2
         clear hadd hX2 hX1 hXi hg1 hl1 hs1 hg2 hl2 hs2 hm hm2 hun hE ha hol2 hq2 hlt
         go_upto_region 13 with (go_at_call 39;refine(HG1.out _ (by repeat (first|exact HBR.out|apply yab))).mono ?_;rintro e w4 ⟨rfl,⟨m4,rfl⟩⟩)
         go_wp2_with (first
          | (go_at_call 39;refine(HG2.out _ (by repeat (first|exact HBR.out|apply yab))).mono ?_;rintro e w5 ⟨rfl,⟨m5,rfl⟩⟩)
          | (go_at_call 105;refine(yfd.calls _ _ _ HU.out).mono ?_;rintro e w6 ⟨rfl,⟨m6,rfl⟩⟩)
          | (go_at_call 107;refine(HADD.out _ (by repeat (first|exact HBR.out|apply yab)) (by repeat (first|exact HJ.out|apply JAt.drewN))).mono ?_;rintro e w7 ⟨rfl,hb7,hJ7⟩))
         go_roundw
         case rel=>exact⟨i+1,q2,out++List.replicate v2 y,by have:=HLT.out;omega,by go_num,rfl,HQ2.out,HO2.out,Lib.hid (by rw[HM2.out];exact HX2.out),Lib.hid (hJ7 trivial),Lib.hid hb7⟩
         case measure=>have:=HLT.out;simp [intOf];omega
        ·have hX2:X=([],0,addE out y v2):=by
          rw[← hX1,hE]
          by_cases h1:out.getLast?=some y
          ·rw[if_pos h1,if_pos h1]
          ·rw[if_neg h1,if_neg h1]
           by_cases h2:4096-out.length<v2
           ·rw[if_pos h2,if_pos h2]
           ·rw[hE,if_neg h1,if_neg h2] at ha;exact absurd rfl ha
         generalize addE out y v2=ea at *
         have hab:(ea == 0)=false:=by simpa using ha
         have HADD:=Lib.hid hadd;have HX2:=Lib.hid hX2
         clear hadd hX2 hX1 hXi hg1 hl1 hs1 hg2 hl2 hs2 hm hm2 hun hE
         go_upto_region 13 with (go_at_call 39;refine(HG1.out _ (by repeat (first|exact HBR.out|apply yab))).mono ?_;rintro e w4 ⟨rfl,⟨m4,rfl⟩⟩)
         go_wp2_with (first
          | (go_at_call 39;refine(HG2.out _ (by repeat (first|exact HBR.out|apply yab))).mono ?_;rintro e w5 ⟨rfl,⟨m5,rfl⟩⟩)
          | (go_at_call 105;refine(yfd.calls _ _ _ HU.out).mono ?_;rintro e w6 ⟨rfl,⟨m6,rfl⟩⟩)
          | (go_at_call 107;refine(HADD.out _ (by repeat (first|exact HBR.out|apply yab)) (by repeat (first|exact HJ.out|apply JAt.drewN))).mono ?_;rintro e w7 ⟨rfl,hb7,hJ7⟩))
         go_ret2
         rw[← HRR.out,HX2.out,if_pos ha]
         exact⟨_,rfl,Kd.R_nil _ _ _ _ _,hb7⟩
      ·rw[if_pos he2] at hX1
       have heb:(e2 == 0)=false:=by simpa using he2
       have HXI:=Lib.hid hX1
       clear hX1 hXi hg1 hl1 hs1 hg2 hl2 hs2 hm hm2
       go_upto_region 13 with (go_at_call 39;refine(HG1.out _ (by repeat (first|exact HBR.out|apply yab))).mono ?_;rintro e w4 ⟨rfl,⟨m4,rfl⟩⟩)
       go_wp2_with (first
        | (go_at_call 39;refine(HG2.out _ (by repeat (first|exact HBR.out|apply yab))).mono ?_;rintro e w5 ⟨rfl,⟨m5,rfl⟩⟩))
       go_ret2
       rw[← HRR.out,← HXI.out,if_pos he2]
       exact⟨_,rfl,Kd.R_nil _ _ _ _ _,by repeat (first|exact HBR.out|apply yab)⟩
     ·rw[if_pos he1] at hX1
      have heb:(e1 == 0)=false:=by simpa using he1
      have HXI:=Lib.hid hX1
      clear hX1 hXi hg1 hl1 hs1 hm hm2
      go_wp2_with (first
       | (go_at_call 39;refine(HG1.out _ (by repeat (first|exact HBR.out|apply yab))).mono ?_;rintro e w4 ⟨rfl,⟨m4,rfl⟩⟩))
      go_ret2
      rw[← HRR.out,← HXI.out,if_pos he1]
      exact⟨_,rfl,Kd.R_nil _ _ _ _ _,by repeat (first|exact HBR.out|apply yab)⟩
    ·obtain rfl:i=n:=by omega
     have hX1:=hXi.out
     rw[Nat.sub_self] at hX1
     unfold ycn at hX1
     obtain⟨u,k1,k2,k3⟩:=HJ.out
     have hx1:=yid k1
     have HXI:=Lib.hid hX1;have HK3:=Lib.hid k3
     clear hX1 hXi k1 k3
     by_cases htr:p<b.length
     ·have hti:(p:Int)<(b.length:Int):=by omega
      go_wp2
      go_ret2
      rw[← HRR.out,← HXI.out,if_neg (by simp),if_pos htr]
      exact⟨_,rfl,Kd.R_nil _ _ _ _ _,HBR.out⟩
     ·have htd:decide ((p:Int)<(b.length:Int))=false:=by simp;omega
      go_wp2
      go_ret2
      rw[← HRR.out,← HXI.out,if_neg (by simp),if_neg htr]
      exact⟨_,rfl,HK3.out,HBR.out⟩
 ·rw[if_pos he]
  have heb:(e0 == 0)=false:=by simpa using he
  have HG:=Lib.hid hg0
  clear h hb hgp hg0 hle0 hlt hv0
  go_enter Tryz.func67,Tryz.ntmps67
  go_wp2_with (go_at_call 39;refine(HG.out).mono ?_;rintro e w1 ⟨rfl,⟨m1,rfl⟩⟩)
  go_ret2
  exact⟨_,rfl,Kd.R_nil _ _ _ _ _,yab (Below.refl _ _) _⟩
end Go.Proofs.YteeikgjjgfdjgaaGreat.PK
end
