/-
  Parts of the proof: Wa, Wb, Wc, Wd, We, Wf, Wg, Wh.
-/
import Derived.Test.YteeikgjjgfdjgaaGreatV20
import Derived.Laws.Runes
set_option maxHeartbeats 4000000
set_option maxRecDepth 1000000
section
namespace Go.Proofs.YteeikgjjgfdjgaaGreat.PK
open Go.RowKit YteeikgjjgfdjgaaGreatW.PrintWords YteeikgjjgfdjgaaGreatW.PrintLast YteeikgjjgfdjgaaGreatW.PrintMore
set_option linter.unusedVariables false
set_option linter.unusedSimpArgs false
theorem ymt {P:Program} {w:World} {A:Option Addr} {n c:Nat} {xs:List Int} (h:Kd.C (Kd.int .u8) w A n xs) (cv:Int) :
  (Extern.BytealgIndexByte.indexByte #[.slice A n c,.int .u8 cv]).run P w=.ok (.int .i64 (firstIdx ⟨(keyL xs).toArray⟩ cv.toNat.toUInt8)) w:=by
 change Sem.run P (do
  let b ← Extern.Bytes.bytesOf (.slice A n c)
  let c' ← Extern.Bytes.asByte (.int .u8 cv)
  match (List.range b.size).find? fun i=>b[i]! == c' with
  | some i=>pure (goInt i)
  | none=>pure (goInt (-1))) w=_
 simp only[yi4 h,Extern.Bytes.asByte,Sem.run_bind,Sem.run_pure,Result.andThen]
 unfold firstIdx
 generalize List.find? (fun i=>(⟨(keyL xs).toArray⟩:ByteArray)[i]! == cv.toNat.toUInt8) (List.range (⟨(keyL xs).toArray⟩:ByteArray).size)=o
 cases o <;> rfl
theorem has_zero {xs:List Int} (h:Bys xs):decide (0≤firstIdx ⟨(keyL xs).toArray⟩ 0)=decide ((0:Int)∈xs):=by
 rw[firstIdx_nonneg,Bool.eq_iff_iff,List.any_eq_true,decide_eq_true_eq]
 constructor
 ·rintro⟨x,hx,e⟩
  obtain⟨n,hn,rfl⟩:=List.mem_map.1 (show x∈keyL xs by simpa using hx)
  have e1:UInt8.ofNat n.toNat=0:=by simpa using e
  have e2:=congrArg UInt8.toNat e1
  have:=h n hn
  rw[UInt8.toNat_ofNat'] at e2
  have e3:n.toNat%256=0:=by simpa using e2
  have:n=0:=by omega
  exact this▸hn
 ·intro h0
  have hm:(0:UInt8)∈keyL xs:=List.mem_map.2 ⟨0,h0,rfl⟩
  exact⟨0,by simpa using hm,by decide⟩
theorem yns (A:Option Addr) (n c:Nat) (xs:List Int) (w:World) (h:Kd.C (Kd.int .u8) w A n xs) :
  Calls Tryz.prog 122 #[.slice A n c,.int .u8 0] w fun e w'=>e=.returned (.int .i64 (firstIdx ⟨(keyL xs).toArray⟩ 0))∧w'=w:=by
 go_enter Tryz.func122,Tryz.ntmps122
 go_wp2
 rw[run_callFunc_extern Tryz.func139 (by kernel_rfl) (by kernel_rfl) (by kernel_rfl) (e:=Extern.BytealgIndexByte.indexByte) (by kernel_rfl),ymt h]
 simp only[Result.andThen]
 rw[Oper.upon_value]
 go_wp2
 go_ret
 exact⟨rfl,rfl⟩
def textE (kind:Int) (b:List Int):Int:=if 200<b.length then 4 else if kind=7∧(0:Int)∈b then 5 else 0
theorem ctext_any (kind:Int) (A:Option Addr) (c:Nat) (b:List Int) (w:World) (h:Kd.C (Kd.int .u8) w A b.length b) (hb:Bys b) :
  Calls Tryz.prog 81 #[.int .i64 kind,.slice A b.length c] w fun e w'=>e=.returned (.int .i64 (textE kind b))∧Below w.heap.size w w':=by
 have hz:=has_zero hb
 have hix:=yns A b.length c b w h
 generalize firstIdx ⟨(keyL b).toArray⟩ 0=q at hz hix
 unfold textE
 clear hb h
 by_cases h1:200<b.length
 ·rw[if_pos h1]
  have d1:decide ((200:Int)<(b.length:Int))=true:=by simp;omega
  go_enter Tryz.func81,Tryz.ntmps81
  go_wp2
  go_ret
  exact⟨rfl,Below.refl _ _⟩
 rw[if_neg h1]
 have d1:decide ((200:Int)<(b.length:Int))=false:=by simp;omega
 by_cases h7:kind=7
 ·subst h7
  by_cases h0:(0:Int)∈b
  ·rw[if_pos ⟨rfl,h0⟩]
   rw[decide_eq_true h0] at hz
   go_enter Tryz.func81,Tryz.ntmps81
   go_wp2_with (go_at_call 122;refine hix.mono ?_;rintro e w1 ⟨rfl,rfl⟩)
   go_ret
   exact⟨rfl,Below.refl _ _⟩
  ·rw[if_neg (fun h=>h0 h.2)]
   rw[decide_eq_false h0] at hz
   go_enter Tryz.func81,Tryz.ntmps81
   go_wp2_with (go_at_call 122;refine hix.mono ?_;rintro e w1 ⟨rfl,rfl⟩)
   go_ret
   exact⟨rfl,Below.refl _ _⟩
 ·rw[if_neg (fun h=>h7 h.1)]
  have d7:(kind == 7)=false:=by simpa using h7
  go_enter Tryz.func81,Tryz.ntmps81
  go_wp2
  go_ret
  exact⟨rfl,Below.refl _ _⟩
theorem yqj (kind:Int) (c:Cel) (A:Option Addr) (k:Nat) (w:World) (h:Kd.C (Kd.int .u8) w A c.f2.length c.f2) (hI:I64 c.f1) (hb:Bys c.f2) :
  Calls Tryz.prog 51 #[.int .i64 kind,.bool true,.agg #[.bool c.f0,.int .i64 c.f1,.slice A c.f2.length k]] w fun e w'=>e=.returned (.int .i64 (ydu kind c))∧Below w.heap.size w w':=by
 obtain⟨f0,f1,f2⟩:=c
 simp only at h hI hb ⊢
 have hkn:=known_law kind
 unfold ydu
 simp only
 by_cases hbad:kind<1∨8<kind
 ·rw[if_pos hbad]
  rw[decide_eq_false (by omega)] at hkn
  have HK:=Lib.hid hkn
  clear h hI hb hbad hkn
  go_enter Tryz.func51,Tryz.ntmps51
  go_wp2_with (go_at_call 80;refine(yea.calls kind _ _ HK.out).mono ?_;rintro e w1 ⟨rfl,⟨m1,rfl⟩⟩)
  go_ret
  exact⟨rfl,yab (yaj (Below.refl _ _) _) _⟩
 rw[if_neg hbad,decide_eq_true (by omega)] at *
 have hg:yd6 kind:=⟨by omega,by omega⟩
 have hn:=yhu hg
 cases f0 with
 | true =>
  rw[if_pos rfl]
  have HK:=Lib.hid hkn
  by_cases h1:f1=0
  ·subst h1
   by_cases h2:0<f2.length
   ·rw[if_pos (.inr h2)]
    have d2:decide (0<f2.length)=true:=decide_eq_true h2
    clear h hI hb hbad hkn hn hg
    go_enter Tryz.func51,Tryz.ntmps51
    go_wp2_with (go_at_call 80;refine(yea.calls kind _ _ HK.out).mono ?_;rintro e w1 ⟨rfl,⟨m1,rfl⟩⟩)
    go_ret
    exact⟨rfl,yab (yaj (Below.refl _ _) _) _⟩
   ·rw[if_neg (fun h=>h.elim (fun h=>h rfl) h2)]
    have d2:decide (0<f2.length)=false:=decide_eq_false h2
    clear h hI hb hbad hkn hn hg
    go_enter Tryz.func51,Tryz.ntmps51
    go_wp2_with (go_at_call 80;refine(yea.calls kind _ _ HK.out).mono ?_;rintro e w1 ⟨rfl,⟨m1,rfl⟩⟩)
    go_ret
    exact⟨rfl,yab (yaj (Below.refl _ _) _) _⟩
  ·rw[if_pos (.inl h1)]
   have d1:(f1 != 0)=true:=by simpa using h1
   clear h hI hb hbad hkn hn hg h1
   go_enter Tryz.func51,Tryz.ntmps51
   go_wp2_with (go_at_call 80;refine(yea.calls kind _ _ HK.out).mono ?_;rintro e w1 ⟨rfl,⟨m1,rfl⟩⟩)
   go_ret
   exact⟨rfl,yab (yaj (Below.refl _ _) _) _⟩
 | false =>
  rw[if_neg (by decide)]
  have HK:=Lib.hid hkn
  by_cases h6:kind≤6
  ·rw[if_pos h6]
   rw[decide_eq_true h6] at hn
   have HN:=Lib.hid hn
   by_cases h2:0<f2.length
   ·rw[if_pos h2]
    have d2:decide (0<f2.length)=true:=decide_eq_true h2
    clear h hI hb hbad hkn hn hg h6
    go_enter Tryz.func51,Tryz.ntmps51
    go_wp2_with (first
     | (go_at_call 80;refine(yea.calls kind _ _ HK.out).mono ?_;rintro e w1 ⟨rfl,⟨m1,rfl⟩⟩)
     | (go_at_call 50;refine(ybp.calls kind _ _ HN.out).mono ?_;rintro e w2 ⟨rfl,⟨m2,rfl⟩⟩))
    go_ret
    exact⟨rfl,by repeat (first|exact Below.refl _ _|apply yab|apply yaj)⟩
   ·rw[if_neg h2]
    have d2:decide (0<f2.length)=false:=decide_eq_false h2
    have hh:=holds_law hg.1 h6 hI
    by_cases hr:f1<ygl kind∨yg8 kind<f1
    ·rw[if_pos hr]
     rw[decide_eq_false (by omega)] at hh
     have HH:=Lib.hid hh
     clear h hI hb hbad hkn hn hg h6 hr hh
     go_enter Tryz.func51,Tryz.ntmps51
     go_wp2_with (first
      | (go_at_call 80;refine(yea.calls kind _ _ HK.out).mono ?_;rintro e w1 ⟨rfl,⟨m1,rfl⟩⟩)
      | (go_at_call 50;refine(ybp.calls kind _ _ HN.out).mono ?_;rintro e w2 ⟨rfl,⟨m2,rfl⟩⟩)
      | (go_at_call 82;refine(yg1.calls kind f1 _ _ HH.out).mono ?_;rintro e w3 ⟨rfl,⟨m3,rfl⟩⟩))
     go_ret
     exact⟨rfl,by repeat (first|exact Below.refl _ _|apply yab|apply yaj)⟩
    ·rw[if_neg hr]
     rw[decide_eq_true (by omega)] at hh
     have HH:=Lib.hid hh
     clear h hI hb hbad hkn hn hg h6 hr hh
     go_enter Tryz.func51,Tryz.ntmps51
     go_wp2_with (first
      | (go_at_call 80;refine(yea.calls kind _ _ HK.out).mono ?_;rintro e w1 ⟨rfl,⟨m1,rfl⟩⟩)
      | (go_at_call 50;refine(ybp.calls kind _ _ HN.out).mono ?_;rintro e w2 ⟨rfl,⟨m2,rfl⟩⟩)
      | (go_at_call 82;refine(yg1.calls kind f1 _ _ HH.out).mono ?_;rintro e w3 ⟨rfl,⟨m3,rfl⟩⟩))
     go_ret
     exact⟨rfl,by repeat (first|exact Below.refl _ _|apply yab|apply yaj)⟩
  ·rw[if_neg h6]
   rw[decide_eq_false h6] at hn
   have HN:=Lib.hid hn
   by_cases h1:f1=0
   ·subst h1
    rw[if_neg (by simp)]
    have htx:=fun(w2:World) (hb2:Below w.heap.size w w2)=>ctext_any kind A k f2 w2 (Kd.C_below h hb2) hb
    have HT:=Lib.hid htx
    have hval:(if 200<f2.length then (4:Int) else if kind=7∧(0:Int)∈f2 then 5 else 0)=textE kind f2:=rfl
    rw[hval]
    clear hval h hI hb hbad hkn hn hg h6 htx
    go_enter Tryz.func51,Tryz.ntmps51
    go_wp2_with (first
     | (go_at_call 80;refine(yea.calls kind _ _ HK.out).mono ?_;rintro e w1 ⟨rfl,⟨m1,rfl⟩⟩)
     | (go_at_call 50;refine(ybp.calls kind _ _ HN.out).mono ?_;rintro e w2 ⟨rfl,⟨m2,rfl⟩⟩)
     | (go_at_call 81;refine(HT.out _ (by repeat (first|exact Below.refl _ _|apply yab|apply yaj))).mono ?_;rintro e w3 ⟨rfl,hb3⟩))
    go_ret
    exact⟨rfl,by refine(fun(hx:Below w.heap.size w _)=>yae hx hx.size hb3) ?_;repeat (first|exact Below.refl _ _|apply yab|apply yaj)⟩
   ·rw[if_pos h1]
    have d1:(f1 != 0)=true:=by simpa using h1
    clear h hI hb hbad hkn hn hg h6 h1
    go_enter Tryz.func51,Tryz.ntmps51
    go_wp2_with (first
     | (go_at_call 80;refine(yea.calls kind _ _ HK.out).mono ?_;rintro e w1 ⟨rfl,⟨m1,rfl⟩⟩)
     | (go_at_call 50;refine(ybp.calls kind _ _ HN.out).mono ?_;rintro e w2 ⟨rfl,⟨m2,rfl⟩⟩))
    go_ret
    exact⟨rfl,by repeat (first|exact Below.refl _ _|apply yab|apply yaj)⟩
theorem ynt {kind:Int} {cs:List Cel} {i:Nat} (hi:i<cs.length):yfj kind (cs.drop i)=if ydu kind cs[i]≠0 then ydu kind cs[i] else yfj kind (cs.drop (i+1)):=by
 rw[List.drop_eq_getElem_cons hi];rfl
theorem yjm (kind:Int) (cs:List Cel) (A:Option Addr) (c:Nat) (w:World) (h:Kd.C k53 w A cs.length cs) (hc:cs.length≤c) (hok:∀ c∈cs,yf0 c) :
  Calls Tryz.prog 30 #[.int .i64 kind,.slice A cs.length c] w fun e w'=>e=.returned (.int .i64 (yc0 kind cs))∧Below w.heap.size w w':=by
 unfold yc0
 have hsz:cs.length≤9223372036854775807:=h.2.1
 by_cases h1:4096<cs.length
 ·rw[if_pos h1]
  have d1:decide ((4096:Int)<(cs.length:Int))=true:=by simp;omega
  clear h hok
  go_enter Tryz.func30,Tryz.ntmps30
  go_wp2
  go_ret
  exact⟨rfl,Below.refl _ _⟩
 rw[if_neg h1]
 have d1:decide ((4096:Int)<(cs.length:Int))=false:=by simp;omega
 have HC:=Lib.hid h;have HO:=Lib.hid hok
 clear h hok
 go_enter Tryz.func30,Tryz.ntmps30
 go_wp2
 go_loopw [13] (fun vi wq=>∃ i:Nat,i≤cs.length∧vi=.int .i64 i∧RowKit.Hid (yfj kind cs=yfj kind (cs.drop i))∧Below w.heap.size w wq) (fun vi _=>cs.length-(intOf vi).toNat)
 case atStart=>exact⟨0,Nat.zero_le _,rfl,Lib.hid rfl,Below.refl _ _⟩
 case round =>
  obtain⟨i,hi,rfl,he,hbr⟩:=hrel
  by_cases hlt:i<cs.length
  ·obtain⟨ad,A2,c2,rfl,hx0,hx1,hx2,hl2,hC2⟩:=yfv HC.out (i:Int) (by omega) (by omega)
   rw[yhk hlt,Int.toNat_natCast] at *
   replace hx0:=(hbr.cell (World.block_lt_of_cell? w _ hx0)).trans hx0
   replace hx1:=(hbr.cell (World.block_lt_of_cell? w _ hx1)).trans hx1
   replace hx2:=(hbr.cell (World.block_lt_of_cell? w _ hx2)).trans hx2
   obtain⟨x,hx⟩:∃ x,x=cs[i]:=⟨_,rfl⟩
   rw[← hx] at hx0 hx1 hx2 hl2 hC2
   have hxo:=HO.out x (by rw[hx];exact List.getElem_mem hlt)
   have hck:=fun(w2:World) (hb2:Below w.heap.size w w2)=>yqj kind x A2 c2 w2 (Kd.C_below hC2 hb2) hxo.1 hxo.2.1
   have hfe:=ynt (kind:=kind) hlt
   rw[← hx] at hfe
   have HK:=Lib.hid hck;have HB:=Lib.hid hbr;have HX:=Lib.hid hx;have HF:=Lib.hid hfe;have HE:=Lib.hid he;have HLT:=Lib.hid hlt
   clear hck hbr hx hfe he hxo hC2
   by_cases h0:ydu kind x=0
   ·have d0:(ydu kind x != 0)=false:=by simpa using h0
    have H0:=Lib.hid h0
    generalize ydu kind x=q at *
    go_wp2_with (go_at_call 51;refine(HK.out _ (by repeat (first|exact HB.out|apply yaj))).mono ?_;rintro e w3 ⟨rfl,hb3⟩)
    go_roundw
    case rel =>
     refine⟨i+1,by have:=HLT.out;omega,by go_num,Lib.hid ?_,?_⟩
     ·have:=HF.out;rw[H0.out] at this;rw[HE.out.out,this];simp
     ·refine(fun(hx:Below w.heap.size w _)=>yae hx hx.size hb3) ?_;repeat (first|exact HB.out|apply yaj)
    case measure=>have:=HLT.out;simp [intOf];omega
   ·have d0:(ydu kind x != 0)=true:=by simpa using h0
    have H0:=Lib.hid h0
    generalize ydu kind x=q at *
    go_wp2_with (go_at_call 51;refine(HK.out _ (by repeat (first|exact HB.out|apply yaj))).mono ?_;rintro e w3 ⟨rfl,hb3⟩)
    go_ret
    refine⟨?_,?_⟩
    ·have:=HF.out;rw[if_pos H0.out] at this;rw[HE.out.out,this];rfl
    ·refine(fun(hx:Below w.heap.size w _)=>yae hx hx.size hb3) ?_;repeat (first|exact HB.out|apply yaj)
  ·obtain rfl:i=cs.length:=by omega
   have hf:yfj kind cs=0:=by rw[he.out,List.drop_length];rfl
   have HF:=Lib.hid hf
   clear hf he
   go_wp2
   go_ret
   exact⟨by rw[HF.out];rfl,hbr⟩
theorem and1_u32 (a:Nat) (h:a<4294967296):Go.bits .and .u32 (a:Int) 1=((a%2:Nat):Int):=by
 have:=u32_and_nat a 1 h (by decide)
 rw[show((1:Nat):Int)=1 from rfl] at this
 rw[this,Nat.and_one_is_mod]
theorem step_law (S:BitVec 32):yhr.f (S.toNat:Int)=some ((stp S).toNat:Int):=by
 have hS:=ykl S
 unfold yhr.f
 rw[and1_u32 _ hS,ymx,show((S.toNat:Int) / 2)=((S.toNat / 2:Nat):Int) by omega]
 by_cases h:S.toNat%2=1
 ·rw[if_neg (by omega),if_pos h]
  have:=u32_xor_nat (S.toNat / 2) 2197175160 (by omega) (by decide)
  rw[show((2197175160:Nat):Int)=2197175160 from rfl] at this
  rw[this]
 ·rw[if_pos (by omega),if_neg h]
theorem feed_ev (S:BitVec 32) {c:Int} (hc:0≤c∧c<256):Ev (fun k=>yen.f k (S.toNat:Int) c) ((feedC S c).toNat:Int):=by
 have key:∀ (n:Nat) (j:Nat) (T:BitVec 32),j+n=8→Ev (fun k=>yen.l0 k (T.toNat:Int) (j:Int)) ((stpN n T).toNat:Int):=by
  intro n
  induction n with
  | zero =>
   intro j T h
   exact Ev.step (fun k=>by rw[yen.l0,if_neg (by omega)];rfl) (Ev.now _)
  | succ n ih =>
   intro j T h
   exact Ev.step (fun k=>by rw[yen.l0,if_pos (by omega),step_law,Option.bind_some,w64s j (by omega)]) (ih (j+1) (stp T) (by omega))
 have:=key 8 0 (S ^^^ BitVec.ofNat 32 c.toNat) (by omega)
 refine Ev.same (fun k=>?_) this
 unfold yen.f
 rw[ylu S hc]
 rfl
theorem not_u32 (s:BitVec 32):Go.bits .xor .u32 IntKind.u32.max (s.toNat:Int)=((s ^^^ ones).toNat:Int):=by
 have e:IntKind.u32.max=((4294967295:Nat):Int):=by decide
 rw[e,u32_xor_nat _ _ (by decide) (ykl s),BitVec.toNat_xor,Nat.xor_comm]
 rfl
theorem crcL_snoc (s:BitVec 32) (b:List Int) (c:Int):crcL s (b++[c])=feedC (crcL s b) c:=by unfold crcL;rw[List.foldl_append];rfl
theorem yrb (s:BitVec 32) (A:Option Addr) (c:Nat) (b:List Int) (w:World) (h:Kd.C (Kd.int .u8) w A b.length b) (hb:Bys b) :
  Calls Tryz.prog 100 #[.int .u32 s.toNat,.slice A b.length c] w fun e w'=>e=.returned (.int .u32 (crcL (s ^^^ ones) b ^^^ ones).toNat)∧yap w w':=by
 have hsz:b.length≤9223372036854775807:=h.2.1
 have hn1:=not_u32 s
 have hn2:=not_u32 (crcL (s ^^^ ones) b)
 have hsg:IntKind.u32.signed=false:=rfl
 have HC:=Lib.hid h;have HB:=Lib.hid hb
 clear h hb
 generalize hT:s ^^^ ones=T at *
 clear hT
 go_enter Tryz.func100,Tryz.ntmps100
 go_wp2
 go_loopw [5,12] (fun v5 vi wq=>∃ i:Nat,i≤b.length∧vi=.int .i64 i∧v5=.int .u32 ((crcL T (b.take i)).toNat:Int)∧yap w wq) (fun _ vi _=>b.length-(intOf vi).toNat)
 case atStart=>exact⟨0,Nat.zero_le _,rfl,rfl,yap.refl _⟩
 case round =>
  obtain⟨i,hi,rfl,rfl,⟨m,rfl⟩⟩:=hrel
  by_cases hlt:i<b.length
  ·obtain⟨ad,rfl,hx0⟩:=Kd.at_int HC.out (i:Int) (by omega) (by omega)
   rw[ybj hlt,Int.toNat_natCast] at *
   have hx:=HB.out b[i] (List.getElem_mem hlt)
   obtain⟨k,hk⟩:=(feed_ev (crcL T (b.take i)) hx).ex
   rw[← crcL_snoc,ybd b i hlt] at hk
   have HK:=Lib.hid hk
   have HLT:=Lib.hid hlt
   clear hk hx
   generalize crcL T (b.take i)=S0 at *
   generalize b[i]=x at *
   go_wp2_with (go_at_call 135;refine(yen.calls k _ _ _ _ HK.out).mono ?_;rintro e w3 ⟨rfl,⟨m3,rfl⟩⟩)
   go_roundw
   case rel=>exact⟨i+1,by have:=HLT.out;omega,by go_num,rfl,yap.step (yap.refl _) _⟩
   case measure=>have:=HLT.out;simp [intOf];omega
  ·obtain rfl:i=b.length:=by omega
   rw[List.take_length]
   go_wp2
   go_ret
   exact⟨rfl,yap.step (yap.refl _) _⟩
theorem yo9 (A0:Addr) (c:Nat) (A:Option Addr) (b:List Int) (w:World) (h0:w.cell? A0=some (.slice A b.length c)) (h:Kd.C (Kd.int .u8) w A b.length b) (hb:Bys b) :
  Calls Tryz.prog 62 #[.slice (some A0) 1 1] w fun e w'=>e=.returned (.int .u32 (sumS b:Nat))∧yap w w':=by
 have hex:=fun(w2:World) (hd:yap w w2)=>yrb 0#32 A c b w2 (Kd.C_below h hd.below) hb
 have HE:=Lib.hid hex
 have e1:((crcL (0#32 ^^^ ones) b ^^^ ones).toNat:Int)=((sumS b:Nat):Int):=by unfold sumS;rw[BitVec.zero_xor]
 rw[e1] at hex
 have HX:=Lib.hid hex
 clear hex h hb HE e1
 have a0:A0.add 0=A0:=by simp [Addr.add]
 go_enter Tryz.func62,Tryz.ntmps62
 go_wp2
 go_loopw [3,8] (fun v3 vi wq=>((vi=.int .i64 0∧v3=.int .u32 0)∨(vi=.int .i64 1∧v3=.int .u32 (sumS b:Nat)))∧yap w wq) (fun _ vi _=>1-(intOf vi).toNat)
 case atStart=>exact⟨.inl ⟨rfl,rfl⟩,yap.refl _⟩
 case round =>
  obtain⟨⟨rfl,rfl⟩|⟨rfl,rfl⟩,⟨m,rfl⟩⟩:=hrel
  ·go_wp2_with (go_at_call 100;refine(HX.out _ (by first|exact yap.refl _|exact yap.step (yap.refl _) _)).mono ?_;rintro e w3 ⟨rfl,⟨m3,rfl⟩⟩)
   go_roundw
   case rel=>exact⟨.inr ⟨by rfl,rfl⟩,yap.step (yap.refl _) _⟩
   case measure=>simp [intOf]
  ·go_wp2
   go_ret
   exact⟨rfl,yap.step (yap.refl _) _⟩
def arr4 (s:Nat):Value:=.agg ((yd8 4 s).map (Value.int .u8)).toArray
theorem yo3 (s:Nat) (hs:s<4294967296) (w:World) :
  Calls Tryz.prog 61 #[.int .u32 s] w fun e w'=>e=.returned (arr4 s)∧Below w.heap.size w w':=by
 go_enter Tryz.func61,Tryz.ntmps61
 go_wp2
 refine bodyPost_ret (results_cell_row rfl _ _ w.heap.size 85 _ (0,0) _ rfl (heap_alloc_new _ _) Tryz.underlying85 rfl (by kernel_rfl)) rfl ?_
 refine⟨?_,yaj (Below.refl _ _) _⟩
 unfold arr4
 simp only[yd8,List.map_cons,List.map_nil]
 rw[show((s%256:Nat):Int)=(s:Int)%256 by omega,show((s / 256%256:Nat):Int)=(s:Int) / 256%256 by omega,show((s / 256 / 256%256:Nat):Int)=(s:Int) / 65536%256 by omega,show((s / 256 / 256 / 256%256:Nat):Int)=(s:Int) / 16777216 by omega]
theorem make0_run (n:Nat) (hn:n≤2000000000):∀ W:World,(Instr.makeSlice 25 (.int .i64 0) (.int .i64 (n:Int))).run Tryz.prog W=.ok (.slice (some ⟨W.heap.size,0,none⟩) 0 n) (W.alloc (.cells (madeCells #[.int .u8 0] n) 5)):=by
 intro W
 obtain⟨i0,hi,hzz⟩:=Option.map_eq_some_iff.1 ycj
 simp only[Prod.mk.injEq] at hzz
 obtain⟨hz0,hz1,hz2⟩:=hzz
 have hr:=run_make (P:=Tryz.prog) W 25 5 i0 (.int .u8 0) Tryz.underlying25 hi hz0 .i64 .i64 0 (n:Int) (Int.le_refl _) (by omega) (by rw[hz2];omega) (by omega)
 simp only[Int.toNat_zero,Int.toNat_natCast] at hr
 rw[hz1,Nat.mul_one] at hr
 exact hr
theorem make0_R (W:World) (n base:Nat) {ok:Nat→Prop} (hn:n≤2000000000) (hbase:base≤W.heap.size) (hok:ok W.heap.size):(Kd.int .u8).R 5 (W.alloc (.cells (madeCells #[.int .u8 0] n) 5)) base ok (.slice (some ⟨W.heap.size,0,none⟩) 0 n) []:=by
 refine⟨fun k hk=>?_,[],?_,Reps.none _ _⟩
 ·have:W.heap.size=k:=by simpa [Value.ownBlock] using hk
  subst this
  exact hok
 ·exact World.ownsRow_made (base:=base) (e:=5) (size:=1) W (madeCells #[.int .u8 0] n) n hbase (by unfold maxLen;omega) (by rw[size_madeCells];simp)
theorem arr_C {w:World} {g:Nat} {t:TypeId} {ds:List Int} (h:w.heap[g]?=some (.cells (ds.map (Value.int .u8)).toArray t (0,0))) (hl:ds.length≤9223372036854775807):Kd.C (Kd.int .u8) w (some ⟨g,0,none⟩) ds.length ds:=by
 refine Kd.C_of_reads (d:=0) ⟨rfl,hl,fun _=>⟨_,rfl,fun j hj=>?_⟩⟩
 rw[ydl]
 simp only[World.cell?,h]
 simp [List.getD_eq_getElem?_getD,List.getElem?_eq_getElem hj]
theorem cseal_any (A:Option Addr) (c:Nat) (b:List Int) (w:World) (h:Kd.C (Kd.int .u8) w A b.length b) (hc:b.length≤c) (hb:Bys b) (hl:b.length≤1000000000) :
  Calls Tryz.prog 55 #[.slice A b.length c] w fun e w'=>∃ v,e=.returned v∧Kd.R (Kd.int .u8) 5 w' w.heap.size (fun _=>True) v (ye8 b)∧Below w.heap.size w w':=by
 have hs:=ykz b
 have hsum:=fun(w2:World) (hb2:Below w.heap.size w w2) (A0:Addr) (h0:w2.cell? A0=some (.slice A b.length c))=>yo9 A0 c A b w2 h0 (Kd.C_below h hb2) hb
 have htl:=fun w2=>yo3 (sumS b) hs w2
 have hss:ye8 b=([]++b)++yd8 4 (sumS b):=rfl
 rw[hss]
 obtain⟨d0,d1,d2,d3,hD⟩:∃ d0 d1 d2 d3,yd8 4 (sumS b)=[d0,d1,d2,d3]:=⟨_,_,_,_,rfl⟩
 have ha4:arr4 (sumS b)=.agg #[.int .u8 d0,.int .u8 d1,.int .u8 d2,.int .u8 d3]:=by unfold arr4;rw[hD];rfl
 rw[hD]
 simp only[ha4] at htl
 clear ha4 hD
 have HC:=Lib.hid h;have HS:=Lib.hid hsum;have HT:=Lib.hid htl;
 clear h hb hsum htl hss
 generalize sumS b=s at *
 go_enter Tryz.func55,Tryz.ntmps55
 go_upto_region 2 with (first
  | (go_at_call 62;refine(HS.out _ (by repeat (first|exact Below.refl _ _|apply yaj)) _ (by first|rfl|(simp [World.cell?_alloc_at];done))).mono ?_;rintro e w1 ⟨rfl,⟨m1,rfl⟩⟩)
  | (go_at_call 61;refine(HT.out _).mono ?_;rintro e w2 ⟨rfl,hb2⟩))
 have hbq:Below w.heap.size w (w2.alloc (.cells #[.int .u8 d0,.int .u8 d1,.int .u8 d2,.int .u8 d3] 85)):=by
  refine yaj ?_ _
  refine(fun(hx:Below w.heap.size w _)=>yae hx hx.size hb2) ?_
  repeat (first|exact Below.refl _ _|apply yab|apply yaj)
 have hA4:Kd.C (Kd.int .u8) (w2.alloc (.cells #[.int .u8 d0,.int .u8 d1,.int .u8 d2,.int .u8 d3] 85)) (some ⟨w2.heap.size,0,none⟩) 4 [d0,d1,d2,d3]:=arr_C (ds:=[d0,d1,d2,d3]) (heap_alloc_new _ _) (by simp)
 generalize (w2.alloc (.cells #[.int .u8 d0,.int .u8 d1,.int .u8 d2,.int .u8 d3] 85))=wq at *
 generalize w2.heap.size=g at *
 have hCb:=Kd.C_below HC.out hbq
 have hmk:=make0_run (b.length+4) (by omega)
 rw[show((b.length+4:Nat):Int)=IntKind.i64.wrap ((b.length:Int)+4) by rw[ydm _ (by omega) (by omega)];omega] at hmk
 have HCB:=Lib.hid hCb;have HA4:=Lib.hid hA4;have HBQ:=Lib.hid hbq
 clear hb2 hCb hA4 hbq HC HS HT
 go_region_law (first
  | (refine Kd.R_append_rows_step (Kd.int .u8) (w0:=wq) wq.heap.size (by rfl) (.tmp 11) (.tmp 12) 25 5 (.int .u8 0) 1 (by rfl) Tryz.underlying25 ycj rfl (by decide) (by decide) _ [] b A b.length c (fun _=>True) (fun _=>False) (by rfl) (by rfl)
      (by (with_reducible repeat (first|apply Kd.R_drewN|apply Kd.R_drew));exact make0_R _ (b.length+4) wq.heap.size (by omega) (Nat.le_refl _) trivial)
      (Kd.C_below HCB.out (by repeat (first|exact Below.refl _ _|apply yab|apply yam|apply yaj))) (fun x cs h=>h) (fun _ h=>h.elim) (fun _ _=>trivial) (by repeat (first|exact Below.refl _ _|apply yab|apply yam|apply yaj)) (by refine(fun(hx:Below wq.heap.size wq _)=>hx.size) ?_;repeat (first|exact Below.refl _ _|apply yab|apply yam|apply yaj)) (by simp;omega) ?_;intro v1 w1 hR1 hb1 hg1 hat1)
  | (refine Kd.R_append_rows_step (Kd.int .u8) (w0:=wq) wq.heap.size (by rfl) (.tmp 13) (.tmp 14) 25 5 (.int .u8 0) 1 (by rfl) Tryz.underlying25 ycj rfl (by decide) (by decide) _ ([]++b) [d0,d1,d2,d3] (some ⟨g,0,none⟩) 4 4 (fun _=>True) (fun _=>False) (by rfl) (by rfl)
      (by (with_reducible repeat (first|apply Kd.R_drewN|apply Kd.R_drew));exact hR1)
      (Kd.C_below HA4.out (by repeat (first|exact hb1|exact Below.refl _ _|apply yab|apply yam|apply yaj))) (fun x cs h=>h) (fun _ h=>h.elim) (fun _ _=>trivial) (by repeat (first|exact hb1|exact Below.refl _ _|apply yab|apply yam|apply yaj)) (by refine(fun(hx:Below wq.heap.size wq _)=>hx.size) ?_;repeat (first|exact hb1|exact Below.refl _ _|apply yab|apply yam|apply yaj)) (by simp;omega) ?_;intro v2 w3 hR2 hb3 hg2 hat2))
 go_wp2
 go_ret
 exact⟨_,rfl,Kd.R_lower hR2 HBQ.out.size,yae HBQ.out HBQ.out.size hb3⟩
end Go.Proofs.YteeikgjjgfdjgaaGreat.PK
end
section
namespace Go.Proofs.YteeikgjjgfdjgaaGreat.PK
open Go.RowKit YteeikgjjgfdjgaaGreatW.PrintWords YteeikgjjgfdjgaaGreatW.PrintLast YteeikgjjgfdjgaaGreatW.PrintMore
set_option linter.unusedVariables false
set_option linter.unusedSimpArgs false
attribute [local go_sem] yce ycf ycu ycv
theorem min_any (A:Option Addr) (c:Nat) (vs:List Int) (w:World) (h:Kd.C (Kd.int .i64) w A vs.length vs) (h0:0<vs.length) :
  Calls Tryz.prog 126 #[.slice A vs.length c] w fun e w'=>e=.returned (.int .i64 (yd7 vs))∧yap w w':=by
 have hsz:vs.length≤9223372036854775807:=h.2.1
 obtain⟨ad,rfl,hx0⟩:=Kd.at_int h (0:Int) (by omega) (by omega)
 have e0:rd vs 0=vs[0]:=ybj h0
 rw[e0] at hx0
 have hx0':w.cell? (ad.add 0)=some (.int .i64 vs[0]):=hx0
 obtain⟨x0,hx⟩:∃ x0,x0=vs[0]:=⟨_,rfl⟩
 rw[← hx] at hx0 hx0'
 have a0:ad.add 0=ad:=by simp [Addr.add]
 rw[a0] at hx0'
 have d1:decide ((vs.length:Int)<1)=false:=by simp;omega
 have HC:=Lib.hid h;have H0:=Lib.hid h0;have HX:=Lib.hid hx
 clear h hx hx0 e0
 go_enter Tryz.func126,Tryz.ntmps126
 go_wp2
 go_loopw [3,4] (fun v3 vi wq=>∃ (i:Nat) (m:Int),i≤vs.length∧vi=.int .i64 i∧v3=.int .i64 m∧RowKit.Hid (m∈vs∧∀ v∈vs.take i,m≤v)∧yap w wq) (fun _ vi _=>vs.length-(intOf vi).toNat)
 case atStart =>
  refine⟨1,x0,by have:=H0.out;omega,rfl,rfl,?_,yap.refl _⟩
  refine⟨by rw[HX.out];exact List.getElem_mem _,fun v hv=>?_⟩
  have:=H0.out
  rw[← ybd vs 0 this] at hv
  simp at hv
  rw[hv,HX.out]
  exact Int.le_refl _
 case round =>
  obtain⟨i,m,hi,rfl,rfl,hm,⟨m1,rfl⟩⟩:=hrel
  by_cases hlt:i<vs.length
  ·obtain⟨ad',e,hx1⟩:=Kd.at_int HC.out (i:Int) (by omega) (by omega)
   injection e with e
   subst e
   rw[ybj hlt,Int.toNat_natCast] at hx1
   obtain⟨x,hx⟩:∃ x,x=vs[i]:=⟨_,rfl⟩
   rw[← hx] at hx1
   have HX1:=Lib.hid hx;have HLT:=Lib.hid hlt;have HM:=Lib.hid hm
   clear hx hm
   go_wp2
   go_roundw
   case rel =>
    refine⟨i+1,if x<m then x else m,by have:=HLT.out;omega,by go_num,rfl,?_,yap.step (yap.refl _) _⟩
    have hlt:=HLT.out
    obtain⟨hm1,hm2⟩:=HM.out.out
    refine⟨?_,fun v hv=>?_⟩
    ·split
     ·rw[HX1.out];exact List.getElem_mem _
     ·exact hm1
    ·rw[← ybd vs i hlt] at hv
     rcases List.mem_append.1 hv with hv|hv
     ·have:=hm2 v hv
      split <;> omega
     ·rw[List.mem_singleton.1 hv,← HX1.out]
      split <;> omega
   case measure=>have:=HLT.out;simp [intOf];omega
  ·obtain rfl:i=vs.length:=by omega
   have hr:yd7 vs=m:=by
    obtain⟨hm1,hm2⟩:=hm.out
    rw[List.take_length] at hm2
    exact ym3 hm1 hm2
   have HR:=Lib.hid hr
   clear hr hm
   go_wp2
   go_ret
   exact⟨by rw[HR.out];rfl,yap.step (yap.refl _) _⟩
theorem pkEnc_any (A:Option Addr) (c:Nat) (vs:List Int) (w:World) (h:Kd.C (Kd.int .i64) w A vs.length vs) (hc:vs.length≤c) (hl:vs.length≤4096) (hi:∀ v∈vs,I64 v) :
  Calls Tryz.prog 86 #[.slice A vs.length c] w fun e w'=>∃ v,e=.returned (.tuple #[v,.int .i64 (yf2 vs).2])∧Kd.R (Kd.int .u8) 5 w' w.heap.size (fun _=>True) v (yf2 vs).1∧Below w.heap.size w w':=by
 have d1:decide ((4096:Int)<(vs.length:Int))=false:=by simp;omega
 unfold yf2
 rw[if_neg (by omega)]
 by_cases h0:vs.length=0
 ·rw[if_pos h0]
  have d0:((vs.length:Int) == 0)=true:=by simp [h0]
  have hput:=yg2 0 (by decide)
  have hz:(vs.length:Int)=0:=by omega
  clear h hc hi
  go_enter Tryz.func86,Tryz.ntmps86
  go_wp2_with (go_at_call 52;refine(ya0.calls 10 0 (vput 0) _ hput).mono ?_;rintro e w2 ⟨v3,rfl,hR3,hb3⟩)
  go_ret2
  exact⟨_,rfl,hR3,hb3⟩
 rw[if_neg h0]
 have hne:vs≠[]:=fun e=>h0 (by rw[e];rfl)
 have d0:((vs.length:Int) == 0)=false:=by simpa using h0
 have hI:=hi _ (ygh hne)
 have hu:=ylm hi
 have hw:=ykv hu
 have hfl:(farS vs).length=vs.length:=by simp [farS]
 have hv:=ybg vs.length
 have hv2:=ybg (ydh (yd7 vs))
 have hps:=ygo (widS (farS vs)) (farS vs) hw (by omega)
 have hput:=yg2 vs.length (by omega)
 have hput2:=yg2 (ydh (yd7 vs)) (ygc hI)
 have hfo:=ylf hI
 obtain⟨kw,hkw⟩:=(ykf hu (by omega)).ex
 obtain⟨kp,hkp⟩:=(ppack hw (ym7 hu) (by omega)).ex
 have hmin:=fun(w2:World) (hb2:Below w.heap.size w w2)=>min_any A c vs w2 (Kd.C_below h hb2) (by omega)
 have hfar:∀ (k:Nat) (hk:k<vs.length),(farS vs)[k]?=some (IntKind.u64.wrap (IntKind.u64.wrap vs[k] - IntKind.u64.wrap (yd7 vs))):=fun k hk=>by
  rw[u64_dist (hi _ (List.getElem_mem hk)) hI (yiz (List.getElem_mem hk))]
  simp [farS,hk]
 have HC:=Lib.hid h;have HM:=Lib.hid hmin;have HF:=Lib.hid hfar;have HW:=Lib.hid hkw;have HP:=Lib.hid hkp;have HFO:=Lib.hid hfo;have HP1:=Lib.hid hput;have HP2:=Lib.hid hput2
 clear h hmin hfar hi hI hu hkw hkp hfo hput hput2 hne
 generalize yd7 vs=m at *
 generalize hus:farS vs=us at *
 generalize hww:widS us=wd at *
 clear hus hww
 go_enter Tryz.func86,Tryz.ntmps86
 go_upto_region 7 with (first
  | (go_at_call 52;refine(ya0.calls 10 ((vs.length:Nat):Int) (vput vs.length) _ HP1.out).mono ?_;rintro e w1 ⟨v1,rfl,hR1,hb1⟩)
  | (go_at_call 126;refine(HM.out _ hb1).mono ?_;rintro e w2 ⟨rfl,⟨m2,rfl⟩⟩))
 have hb2:Below w.heap.size w (w1.drewN m2):=yab hb1 _
 have hR2:Kd.R (Kd.int .u8) 5 (w1.drewN m2) w.heap.size (fun _=>True) v1 (vput vs.length):=Kd.R_drewN hR1 _
 clear hR1 hb1
 generalize w1.drewN m2=wr at *
 have hmk:=yic (P:=Tryz.prog) 66 63 .u64 8 Tryz.underlying66 yim (by decide) vs.length (by omega)
 have hRM:=yil wr w.heap.size 63 .u64 vs.length hb2.size (by omega)
 have hBM:Below w.heap.size w (wr.alloc (.cells (madeCells #[.int .u64 0] vs.length) 63)):=hb2.alloc hb2.size _
 have hRo2:=Kd.own_of_R (Kd.R_alloc hR2 (.cells (madeCells #[.int .u64 0] vs.length) 63))
 rw[← hfl,← ylk,hfl] at hRM
 go_upto_region 8 with (fail)
 generalize (wr.alloc (.cells (madeCells #[.int .u64 0] vs.length) 63))=wy at *
 generalize wr.heap.size=g3 at *
 clear hR2 hb2 hmk
 go_wp2
 go_loopw [7,8,30] (fun _ _ vi wq=>∃ k:Nat,k≤vs.length∧vi=.int .i64 k∧wq.ownsRow w.heap.size 63 1 (.slice (some ⟨g3,0,none⟩) vs.length vs.length) vs.length (nums .u64 (usd us k))∧wq.ownsRow w.heap.size 5 1 v1 (vput vs.length).length (nums .u8 (vput vs.length))∧Below w.heap.size w wq) (fun _ _ vi _=>vs.length-(intOf vi).toNat)
 case atStart=>exact⟨0,by omega,rfl,hRM,hRo2,hBM⟩
 case round =>
  obtain⟨k,hk,rfl,hR9,hO9,hbr⟩:=hrel
  by_cases hlt:k<vs.length
  ·obtain⟨ad,rfl,hx0⟩:=Kd.at_int HC.out (k:Int) (by omega) (by omega)
   rw[ybj hlt,Int.toNat_natCast] at hx0
   have hx:=(hbr.cell (World.block_lt_of_cell? w _ hx0)).trans hx0
   have hfk:=HF.out k hlt
   obtain⟨x,hxx⟩:∃ x,x=vs[k]:=⟨_,rfl⟩
   rw[← hxx] at hx hfk
   obtain⟨hcc,hfr⟩:=ymh hR9 (k:Int) (by omega) (by omega)
   rw[Int.toNat_natCast] at hcc hfr
   have HU:=Lib.hid hfk;have HR:=Lib.hid hR9;have HO9:=Lib.hid hO9;have HB:=Lib.hid hbr;have HLT:=Lib.hid hlt
   clear hfk hR9 hO9 hx0 hbr hxx
   go_wp2
   go_roundw
   case rel =>
    have hlt:=HLT.out
    have hst:=yix HR.out (k:Int) (IntKind.u64.wrap (IntKind.u64.wrap x-IntKind.u64.wrap m))
    rw[Int.toNat_natCast] at hst
    obtain⟨hst1,hst2⟩:=hst
    have he:us[k]'(by omega)=IntKind.u64.wrap (IntKind.u64.wrap x-IntKind.u64.wrap m):=by
     have:=HU.out
     rw[List.getElem?_eq_getElem (by omega)] at this
     exact Option.some.inj this
    rw[← he,ymr us k (by omega),he] at hst1
    refine⟨k+1,by omega,by go_num,hst1,yip HO9.out hst2 (yhx HO9.out HR.out (by decide)),HB.out.grown hst2 HB.out.size (fun k' hk'=>?_)⟩
    injection hk' with hk'
    have:=ydp HR.out g3 rfl
    omega
   case measure=>have:=HLT.out;simp [intOf];omega
  ·obtain rfl:k=vs.length:=by omega
   rw[← hfl,ymj] at hR9
   have hRU:Kd.R (Kd.int .u64) 63 wr w.heap.size (fun _=>True) (.slice (some ⟨g3,0,none⟩) us.length us.length) us:=Kd.R_of_own hR9 (fun _ _=>trivial)
   have hRo:Kd.R (Kd.int .u8) 5 wr w.heap.size (fun _=>True) v1 (vput vs.length):=Kd.R_of_own hO9 (fun _ _=>trivial)
   obtain⟨_,_,hCU⟩:=Kd.R_reads' hRU
   rw[hfl] at hCU
   clear hR9 hO9 hRU
   have hw256:((wd:Nat):Int)%256=((wd:Nat):Int):=by omega
   have hCU':Kd.C (Kd.int .u64) wr (some ⟨g3,0,none⟩) us.length us:=by rw[hfl];exact hCU
   have HCU:=Lib.hid hCU'
   clear hCU hCU' HC HM HF
   have hwid:=fun(w2:World) (hb:Below wr.heap.size wr w2)=>ybb.calls kw (some ⟨g3,0,none⟩) vs.length us _ w2 (Kd.C_below HCU.out hb) (by omega) HW.out
   have hpk:=fun(w2:World) (hb:Below wr.heap.size wr w2)=>ya9.calls kp ((wd:Nat):Int) (some ⟨g3,0,none⟩) vs.length us _ _ w2 (Kd.C_below HCU.out hb) (by omega) HP.out
   rw[hfl] at hwid hpk
   have HWI:=Lib.hid hwid;have HPK:=Lib.hid hpk
   clear hwid hpk
   go_wp2_with (first
    | (go_at_call 64;refine(HWI.out _ (Below.refl _ _)).mono ?_;rintro e w3 ⟨rfl,hd3⟩;have hb3':=hd3.below;have hb4:=yae hbr hbr.size hb3';have hRo3:=Kd.R_below hRo hb3')
    | (go_at_call 83;refine(HPK.out _ hb3').mono ?_;rintro e w4 ⟨v13,rfl,hR13,hb5⟩;have hR13n:=Kd.R_newR hR13 hRo3;obtain⟨A13,c13,rfl,hc13,hC13⟩:=Kd.R_reads hR13;have hb6:=yae hb4 hb4.size hb5;have hRo4:=Kd.R_below hRo3 hb5)
    | (go_at_call 125;refine(ye0.calls m _ _ HFO.out).mono ?_;rintro e w45 ⟨rfl,hd45⟩;have hb45:=hd45.below;have hb46:=yae hb6 hb6.size hb45;have hRo45:=Kd.R_below hRo4 hb45;have hR13k:=Kd.R_below hR13n hb45)
    | (go_at_call 52;refine(ya0.calls 10 ((ydh m:Nat):Int) (vput (ydh m)) _ HP2.out).mono ?_;rintro e w5 ⟨v14,rfl,hR14,hb7⟩;obtain⟨A14,c14,rfl,hc14,hC14⟩:=Kd.R_reads hR14;have hb8:=yae hb46 hb46.size hb7;have hRo5:=Kd.R_below hRo45 hb7;have hR13m:=Kd.R_below hR13k hb7)
    | (at_builtin;refine Kd.R_append_row (w0:=w) (Value.int .u8) 0 w.heap.size rfl _ _ 25 5 (.int .u8 0) 1 rfl Tryz.underlying25 ycj rfl (by decide) _ (vput vs.length) (vput (ydh m)) A14 _ c14 (fun _=>True) rfl rfl (fun _ _=>trivial) hRo5 hC14 hb8 hb8.size (by omega) ?_;intro v15 w6 hR15 hb9 hg15 hat15;have hR13o:=Kd.R_after hR13m hg15 hat15)
    | (at_builtin;refine Kd.R_append (Kd.int .u8) (w0:=w) w.heap.size rfl (.tmp 57) (.tmp 60) 25 5 (.int .u8 0) 1 rfl Tryz.underlying25 ycj rfl (by decide) (by omega) v15 (vput vs.length++vput (ydh m)) ((wd:Nat):Int) [.int .u8 ((wd:Nat):Int)] (fun _=>True) (fun _=>False) rfl rfl rfl (fun _ hk=>hk.elim) (fun _ _=>trivial) hR15 hb9 hb9.size (by rw[List.length_append];omega) ?_;intro v16 w7 hR16 hb10 hg16 hat16;have hR13p:=Kd.R_after hR13o hg16 hat16)
    | (at_builtin;refine Kd.R_append_row (w0:=w) (Value.int .u8) 0 w.heap.size rfl _ _ 25 5 (.int .u8 0) 1 rfl Tryz.underlying25 ycj rfl (by decide) _ (vput vs.length++vput (ydh m)++[((wd:Nat):Int)]) (yed wd us) A13 _ c13 (fun _=>True) rfl rfl (fun _ _=>trivial) hR16 (Kd.R_reads' hR13p).2.2 hb10 hb10.size (by simp only[List.length_append,List.length_singleton];omega) ?_;intro v17 w8 hR17 hb11 hg17 hat17))
   go_ret2
   exact⟨_,rfl,hR17,hb11⟩
end Go.Proofs.YteeikgjjgfdjgaaGreat.PK
end
section
namespace Go.Proofs.YteeikgjjgfdjgaaGreat.PK
open Go.RowKit YteeikgjjgfdjgaaGreatW.PrintWords YteeikgjjgfdjgaaGreatW.PrintLast YteeikgjjgfdjgaaGreatW.PrintMore
set_option linter.unusedVariables false
set_option linter.unusedSimpArgs false
attribute [local go_sem] yce ycf ycu ycv
theorem yjn (A B:Option Addr) (c d:Nat) (xs ys:List Int) (w:World) (h:Kd.C (Kd.int .u8) w A xs.length xs) (h2:Kd.C (Kd.int .u8) w B ys.length ys) :
  Calls Tryz.prog 128 #[.slice A xs.length c,.slice B ys.length d] w fun e w'=>e=.returned (.int .i64 (yb4 xs ys:Nat))∧yap w w':=by
 have hsz:xs.length≤9223372036854775807:=h.2.1
 have hsz2:ys.length≤9223372036854775807:=h2.2.1
 have HC:=Lib.hid h;have HD:=Lib.hid h2
 clear h h2
 go_enter Tryz.func128,Tryz.ntmps128
 go_wp2
 go_loopw [5] (fun vi wq=>∃ i:Nat,i≤xs.length∧i≤ys.length∧vi=.int .i64 i∧RowKit.Hid (yb4 xs ys=i+yb4 (xs.drop i) (ys.drop i))∧yap w wq) (fun vi _=>xs.length-(intOf vi).toNat)
 case atStart=>exact⟨0,Nat.zero_le _,Nat.zero_le _,rfl,Lib.hid (by simp),yap.refl _⟩
 case round =>
  obtain⟨i,hi,hi2,rfl,hs,⟨m,rfl⟩⟩:=hrel
  by_cases hlt:i<xs.length∧i<ys.length
  ·obtain⟨ad,rfl,hx⟩:=Kd.at_int HC.out (i:Int) (by omega) (by omega)
   obtain⟨bd,rfl,hy⟩:=Kd.at_int HD.out (i:Int) (by omega) (by omega)
   rw[ybj hlt.1,Int.toNat_natCast] at hx
   rw[ybj hlt.2,Int.toNat_natCast] at hy
   have e1:yb4 (xs.drop i) (ys.drop i)=if xs[i]=ys[i] then yb4 (xs.drop (i+1)) (ys.drop (i+1))+1 else 0:=by
    rw[List.drop_eq_getElem_cons hlt.1,List.drop_eq_getElem_cons hlt.2];rfl
   have hlx:=hlt.1
   have hly:=hlt.2
   have dmin:decide ((i:Int)<(if ys.length<xs.length then (ys.length:Int) else (xs.length:Int)))=true:=by split <;> simp <;> omega
   obtain⟨x,hxx⟩:∃ x,x=xs[i]:=⟨_,rfl⟩
   obtain⟨y,hyy⟩:∃ y,y=ys[i]:=⟨_,rfl⟩
   rw[← hxx] at hx e1
   rw[← hyy] at hy e1
   have E1:=Lib.hid e1;have HS:=Lib.hid hs;have HLX:=Lib.hid hlx;have HLY:=Lib.hid hly
   clear e1 hs hxx hyy hlt
   by_cases he:x=y
   ·subst he
    have deq:(x == x)=true:=by simp
    go_upto_region 2 with (fail)
    go_region_held3 (fun w'=>w'.cell? (ad.add i)=some (.int .u8 x)∧w'.cell? (bd.add i)=some (.int .u8 x)) (go_keep) (fail)
    all_goals go_wp2
    all_goals go_roundw
    case rel =>
     refine⟨i+1,by have:=HLX.out;omega,by have:=HLY.out;omega,by go_num,Lib.hid ?_,by repeat (first|exact yap.refl _|apply yap.step)⟩
     have:=E1.out;rw[if_pos rfl] at this;rw[HS.out.out,this];omega
    case measure=>have:=HLX.out;simp [intOf];omega
   ·have dne:(x == y)=false:=by simpa using he
    have HE:=Lib.hid he
    clear he
    go_upto_region 2 with (fail)
    go_region_held3 (fun w'=>w'.cell? (ad.add i)=some (.int .u8 x)∧w'.cell? (bd.add i)=some (.int .u8 y)) (go_keep) (fail)
    all_goals go_wp2
    all_goals go_ret
    all_goals
     have e2:=E1.out
     rw[if_neg HE.out] at e2
     refine⟨by rw[HS.out.out,e2];rfl,by repeat (first|exact yap.refl _|apply yap.step)⟩
  ·have dmin:decide ((i:Int)<(if ys.length<xs.length then (ys.length:Int) else (xs.length:Int)))=false:=by split <;> simp <;> omega
   have e1:yb4 (xs.drop i) (ys.drop i)=0:=by
    by_cases hl:i<xs.length
    ·rw[List.drop_eq_nil_of_le (show ys.length≤i by omega)]
     cases xs.drop i <;> rfl
    ·rw[List.drop_eq_nil_of_le (show xs.length≤i by omega)]
     cases ys.drop i <;> rfl
   have e2:yb4 xs ys=i:=by rw[hs.out,e1];omega
   have E2:=Lib.hid e2
   clear e1 e2 hs hlt
   go_upto_region 2 with (fail)
   go_quiet (fail)
   all_goals go_wp2
   all_goals go_ret
   all_goals exact⟨by rw[E2.out];rfl,by repeat (first|exact yap.refl _|apply yap.step)⟩
end Go.Proofs.YteeikgjjgfdjgaaGreat.PK
end
section
namespace Go.Proofs.YteeikgjjgfdjgaaGreat.PK
open Go.RowKit YteeikgjjgfdjgaaGreatW.PrintWords YteeikgjjgfdjgaaGreatW.PrintLast YteeikgjjgfdjgaaGreatW.PrintMore
set_option linter.unusedVariables false
set_option linter.unusedSimpArgs false
theorem ygt (A:Option Addr) (c:Nat) (xs:List Int) (m:Nat) (hm:m≤xs.length) (hc:xs.length≤c) :
  ∃ A':Option Addr,(∀ W:World,(Instr.slice 25 (.slice A xs.length c) (some (.int .i64 (m:Int))) none none).run Tryz.prog W=.ok (.slice A' (xs.length-m) (c-m)) W) ∧
   (∀ w:World,Kd.C (Kd.int .u8) w A xs.length xs→Kd.C (Kd.int .u8) w A' (xs.length-m) (xs.drop m))∧xs.length-m≤c-m:=by
 obtain⟨i0,hi0,_,hsz,_⟩:=info_parts ycj
 obtain⟨A',h1,h2,h3⟩:=ynq (P:=Tryz.prog) (Value.int .u8) 0 25 5 .i64 Tryz.underlying25 hi0 hsz A c xs (m:Int) (by omega) (by omega) hc
 simp only[Int.toNat_natCast,List.length_drop] at h1 h2 h3
 exact⟨A',h1,fun w h=>Kd.C_of_reads (h1:=fun _=>rfl) (h2 w (Kd.reads_of_C h)),h3⟩
theorem lit_C {k:IntKind} {w:World} {g:Nat} {t:TypeId} {ds:List Int} (h:w.heap[g]?=some (.cells (ds.map (Value.int k)).toArray t (0,0))) (hl:ds.length≤9223372036854775807):Kd.C (Kd.int k) w (some ⟨g,0,none⟩) ds.length ds:=by
 refine Kd.C_of_reads (d:=0) ⟨rfl,hl,fun _=>⟨_,rfl,fun j hj=>?_⟩⟩
 rw[ydl]
 simp only[World.cell?,h]
 simp [List.getD_eq_getElem?_getD,List.getElem?_eq_getElem hj]
theorem put2_ev (a b:Nat) (ha:a<18446744073709551616) (hb:b<18446744073709551616):Ev (fun k=>yb5.f k [(a:Int),(b:Int)]) (vput 2++vput a++vput b):=by
 have h1:=ybg 2
 have h2:=ybg a
 have h3:=ybg b
 unfold yb5.f
 refine Ev.same (g:=fun k=>(ya0.f k ((2:Nat):Int)).bind fun t=>yb5.l0 k t [(a:Int),(b:Int)] 2 0) (fun k=>rfl) (Ev.bind (yh1 2 (by decide)) ?_)
 refine Ev.step (g:=fun k=>(ya0.f k (a:Int)).bind fun t=>if (vput 2).length+t.length<140737488355328 then yb5.l0 k (vput 2++t) [(a:Int),(b:Int)] 2 1 else none) (fun k=>?_) (Ev.bind (yh1 a ha) ?_)
 ·rw[yb5.l0,if_pos (by decide),if_pos (by decide),if_pos (by simp),show rd [(a:Int),(b:Int)] 0=(a:Int) from rfl,show wrap64 (0+1)=1 from by unfold wrap64;decide]
 refine Ev.same (g:=fun k=>yb5.l0 k (vput 2++vput a) [(a:Int),(b:Int)] 2 1) (fun k=>by rw[if_pos (by omega)]) ?_
 refine Ev.step (g:=fun k=>(ya0.f k (b:Int)).bind fun t=>if (vput 2++vput a).length+t.length<140737488355328 then yb5.l0 k (vput 2++vput a++t) [(a:Int),(b:Int)] 2 2 else none) (fun k=>?_) (Ev.bind (yh1 b hb) ?_)
 ·rw[yb5.l0,if_pos (by decide),if_pos (by decide),if_pos (by simp),show rd [(a:Int),(b:Int)] 1=(b:Int) from rfl,show wrap64 (1+1)=2 from by unfold wrap64;decide]
 refine Ev.same (g:=fun k=>yb5.l0 k (vput 2++vput a++vput b) [(a:Int),(b:Int)] 2 2) (fun k=>by rw[if_pos (by rw[List.length_append];omega)]) ?_
 exact Ev.step (fun k=>by rw[yb5.l0,if_neg (by decide)]) (Ev.now _)
theorem vput2:vput 2=[2]:=by decide
theorem yqu (A:Option Addr) (c:Nat) (ss:List (List Int)) (w:World) (h:Kd.C (Kd.slice 5 (Kd.int .u8)) w A ss.length ss) (hc:ss.length≤c) (hl:ss.length≤4096) (hs:∀ s∈ss,s.length≤200) :
  Calls Tryz.prog 89 #[.slice A ss.length c] w fun e w'=>∃ v,e=.returned (.tuple #[v,.int .i64 (ye5 ss).2])∧Kd.R (Kd.int .u8) 5 w' w.heap.size (fun _=>True) v (ye5 ss).1∧Below w.heap.size w w':=by
 have d1:decide ((4096:Int)<(ss.length:Int))=false:=by simp;omega
 have hv:=ybg ss.length
 have hput:=yg2 ss.length (by omega)
 unfold ye5
 rw[if_neg (by rintro(h|⟨s,h1,h2⟩);omega;have:=hs s h1;omega)]
 have HC:=Lib.hid h;have HS:=Lib.hid hs;have HP:=Lib.hid hput
 clear h hs hput
 go_enter Tryz.func89,Tryz.ntmps89
 go_wp2_with (go_at_call 52;refine(ya0.calls 10 ((ss.length:Nat):Int) (vput ss.length) _ HP.out).mono ?_;rintro e w1 ⟨v1,rfl,hR1,hb1⟩)
 go_loopw [4,5,6,7,17] (fun vo _ _ _ vi wq=>∃ i:Nat,i≤ss.length∧vi=.int .i64 i∧Kd.R (Kd.int .u8) 5 wq w.heap.size (fun _=>True) vo (vput ss.length++yc5 0 [] (ss.take i))∧Below w.heap.size w wq) (fun _ _ _ _ vi _=>ss.length-(intOf vi).toNat)
 case atStart=>exact⟨0,Nat.zero_le _,rfl,by simpa [yc5] using hR1,hb1⟩
 case round =>
  obtain⟨i,hi,rfl,hRo,hbr⟩:=hrel
  by_cases hlt:i<ss.length
  ·obtain⟨ad,A3,c3,rfl,hx0,hc3,hC3⟩:=yhl HC.out (i:Int) (by omega) (by omega)
   rw[ygi hlt,Int.toNat_natCast] at *
   have hx:=(hbr.cell (World.block_lt_of_cell? w _ hx0)).trans hx0
   have hsl:=HS.out ss[i] (List.getElem_mem hlt)
   obtain⟨s,hss⟩:∃ s,s=ss[i]:=⟨_,rfl⟩
   rw[← hss] at hx hC3 hc3 hsl
   obtain⟨K,hK⟩:∃ K,K=preK ((ss.take i).getLast?.getD []) s (decide (i%16=0)):=⟨_,rfl⟩
   have hKs:K≤s.length:=by
    rw[hK];unfold preK
    split
    ·omega
    ·exact(yhg _ s).2.1
   have hsn:=yn5 [] s (ss.take i) 0
   rw[hss,ybd ss i hlt,← hss,List.length_take,Nat.zero_add,Nat.min_eq_left (by omega)] at hsn
   have hpl:=yhq (ss.take i) 0 [] (fun x hx=>HS.out x (List.mem_of_mem_take hx))
   rw[List.length_take] at hpl
   have d200:decide ((200:Int)<(s.length:Int))=false:=by simp;omega
   unfold yfz at hsn
   rw[← hK] at hsn
   obtain⟨out,hout⟩:∃ out,out=vput ss.length++yc5 0 [] (ss.take i):=⟨_,rfl⟩
   have hl4:out.length≤1000000:=by rw[hout,List.length_append];omega
   rw[← hout] at hRo
   obtain⟨Ao,co,rfl⟩:=Kd.R_slice hRo
   have hmod:Int.tmod (i:Int) 16=((i%16:Nat):Int):=by rw[Int.tmod_eq_emod_of_nonneg (by omega)];omega
   have HSS:=Lib.hid hss;have HK:=Lib.hid hK;have HSN:=Lib.hid hsn;have HOUT:=Lib.hid hout;have HRO:=Lib.hid hRo;have HB:=Lib.hid hbr;have HLT:=Lib.hid hlt;have HC3:=Lib.hid hC3
   clear hss hK hsn hout hRo hbr hC3 hx0 hpl
   go_upto_if 27 with (fail)
   go_cut [7] (fun v7 wc=>v7=.int .i64 (K:Nat)∧yap wr wc)
   case first =>
    by_cases h16:i%16=0
    ·have dm:decide ((0:Int)<Int.tmod (i:Int) 16)=false:=by rw[hmod];simp;omega
     have hk0:K=0:=by rw[HK.out];unfold preK;rw[decide_eq_true h16];rfl
     subst hk0
     go_wp2
     go_meet
     exact⟨rfl,yap.refl _⟩
    ·obtain⟨j,rfl⟩:∃ j,i=j+1:=⟨i-1,by omega⟩
     have hj:j<ss.length:=by omega
     have dm:decide ((0:Int)<Int.tmod ((j+1:Nat):Int) 16)=true:=by rw[hmod];simp;omega
     obtain⟨ad',A4,c4,e,hx4,hc4,hC4⟩:=yhl HC.out (j:Int) (by omega) (by omega)
     injection e with e
     subst e
     rw[ygi hj,Int.toNat_natCast] at *
     have hx4':=(HB.out.cell (World.block_lt_of_cell? w _ hx4)).trans hx4
     have hlast:(ss.take (j+1)).getLast?.getD []=ss[j]:=by rw[← ybd ss j hj,List.getLast?_concat];rfl
     have hk0:yb4 ss[j] s=K:=by rw[HK.out];unfold preK;rw[hlast,decide_eq_false h16];rfl
     have hsh:=yjn A4 A3 c4 c3 ss[j] s wr (Kd.C_below hC4 HB.out) (Kd.C_below HC3.out HB.out)
     rw[hk0] at hsh
     have hwj:wrap64 (((j+1:Nat):Int)-1)=(j:Int):=wl j (by omega)
     have hwj2:IntKind.i64.wrap (((j+1:Nat):Int)-1)=(j:Int):=by rw[ydm _ (by omega) (by omega)];omega
     have HSH:=Lib.hid hsh
     clear hsh hk0 hlast hx4 hC4
     generalize ss[j]=last at *
     go_wp2_with (go_at_call 128;refine HSH.out.mono ?_;rintro e w3 ⟨rfl,hd3⟩)
     go_meet
     exact⟨rfl,hd3⟩
   case rest =>
    obtain⟨rfl,⟨m,rfl⟩⟩:=hcut
    have hbd:Below w.heap.size w (wr.drewN m):=yab HB.out _
    have hRd:Kd.R (Kd.int .u8) 5 (wr.drewN m) w.heap.size (fun _=>True) (.slice Ao out.length co) out:=Kd.R_drewN HRO.out _
    have hxd:(wr.drewN m).cell? (ad.add i)=some (.slice A3 s.length c3):=by simpa using hx
    generalize wr.drewN m=wd at *
    obtain⟨k2,hk2⟩:=(put2_ev K (s.length-K) (by omega) (by omega)).ex
    have hsub:((s.length-K:Nat):Int)=(s.length:Int)-(K:Int):=by omega
    rw[hsub] at hk2
    obtain⟨L,hL⟩:∃ L,L=vput 2++vput K++vput (s.length-K):=⟨_,rfl⟩
    have hLl:1≤L.length∧L.length≤30:=by
     have h1:=ybg 2
     have h2:=ybg K
     have h3:=ybg (s.length-K)
     have h4:=vput_pos 2
     rw[hL]
     simp only[List.length_append]
     omega
    have hLd:L.drop 1=vput K++vput (s.length-K):=by rw[hL,vput2];rfl
    rw[← hL] at hk2
    obtain⟨B3,hcut3,hB3,hcc3⟩:=ygt A3 c3 s K hKs hc3
    have hpl:=fun(w2:World) (g:Nat) (hg:w2.heap[g]?=some (.cells #[.int .u64 (K:Int),.int .u64 ((s.length:Int)-(K:Int))] 63 (0,0)))=>yb5.calls k2 (some ⟨g,0,none⟩) 2 [(K:Int),(s.length:Int)-(K:Int)] L w2 (lit_C (ds:=[(K:Int),(s.length:Int)-(K:Int)]) hg (by simp)) (by simp) hk2
    have HPL:=Lib.hid hpl;have HL:=Lib.hid hLd;have HB3:=Lib.hid hB3;have HBD:=Lib.hid hbd;have HRD:=Lib.hid hRd
    clear hpl hLd hL hB3 hbd hRd hk2 hx
    go_wp2_with (first
     | (go_at_call 129;refine(HPL.out _ _ (heap_alloc_new _ _)).mono ?_;rintro e w4 ⟨v4,rfl,hR4,hb4⟩;obtain⟨A4,c4,rfl,hc4,hC4⟩:=Kd.R_reads hR4;obtain⟨B5,hcut5,hB5,hcc5⟩:=ygt A4 c4 L 1 hLl.1 hc4;rw[show((1:Nat):Int)=1 from rfl] at hcut5;have hRo4:=Kd.R_below (Kd.R_alloc HRD.out _) hb4;have hba:=yaj HBD.out (.cells #[.int .u64 (K:Int),.int .u64 ((s.length:Int)-(K:Int))] 63);have hb5:=yae hba hba.size hb4;have hC5:=hB5 _ hC4)
     | (at_builtin;refine Kd.R_append_row (w0:=w) (Value.int .u8) 0 w.heap.size rfl _ _ 25 5 (.int .u8 0) 1 rfl Tryz.underlying25 ycj rfl (by decide) _ out (L.drop 1) B5 _ (c4-1) (fun _=>True) rfl rfl (fun _ _=>trivial) hRo4 hC5 hb5 hb5.size (by omega) ?_;intro v5 w5 hR5 hb6 hg6 hat6;have hC6:=HB3.out _ (Kd.C_below HC3.out hb6))
     | (at_builtin;refine Kd.R_append_row (w0:=w) (Value.int .u8) 0 w.heap.size rfl _ _ 25 5 (.int .u8 0) 1 rfl Tryz.underlying25 ycj rfl (by decide) _ (out++L.drop 1) (s.drop K) B3 _ (c3-K) (fun _=>True) rfl rfl (fun _ _=>trivial) hR5 hC6 hb6 hb6.size (by simp only[List.length_append,List.length_drop];omega) ?_;intro v7 w7 hR7 hb7 hg7 hat7))
    go_roundw
    case rel =>
     refine⟨i+1,by have:=HLT.out;omega,by go_num,?_,hb7⟩
     rw[HSN.out,← List.append_assoc,← HOUT.out,← List.append_assoc,← HL.out]
     exact hR7
    case measure=>have:=HLT.out;simp [intOf];omega
  ·obtain rfl:i=ss.length:=by omega
   rw[List.take_length] at hRo
   have HR:=Lib.hid hRo;have HB:=Lib.hid hbr
   clear hRo hbr
   go_wp2
   go_ret2
   exact⟨_,rfl,HR.out,HB.out⟩
end Go.Proofs.YteeikgjjgfdjgaaGreat.PK
end
