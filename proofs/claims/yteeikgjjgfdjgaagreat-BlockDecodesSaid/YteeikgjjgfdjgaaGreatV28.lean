/-
  Parts of the proof: Wx.
-/
import Derived.Test.YteeikgjjgfdjgaaGreatV25
import Derived.Test.YteeikgjjgfdjgaaGreatV27
set_option maxHeartbeats 1000000
set_option maxRecDepth 100000
section
namespace Go.Proofs.YteeikgjjgfdjgaaGreat.PK
open Go.RowKit YteeikgjjgfdjgaaGreatW.PrintWords YteeikgjjgfdjgaaGreatW.PrintLast YteeikgjjgfdjgaaGreatW.PrintMore
set_option linter.unusedVariables false
set_option linter.unusedSimpArgs false
def ycx:Cel:=⟨false,7,[]⟩
theorem yov:∀ c∈[ycx,yex,ycx],yf0 c:=by
 intro c hc
 simp only[List.mem_cons,List.not_mem_nil,or_false] at hc
 rcases hc with rfl|rfl|rfl <;> exact⟨by unfold I64;decide,(fun x hx=>by cases hx),by decide⟩
theorem ok_alive4:∀ c∈[ycx,ycx,ycx,ycx],yf0 c:=by
 intro c hc
 simp only[List.mem_cons,List.not_mem_nil,or_false] at hc
 rcases hc with rfl|rfl|rfl|rfl <;> exact⟨by unfold I64;decide,(fun x hx=>by cases hx),by decide⟩
theorem yj4:yf3 1 2 [ycx,yex,ycx]=(ye8 [2,3,1,2,1,14,2],0):=by decide +kernel
theorem enc_bad:yf3 7 2 []=([],120):=by decide +kernel
theorem dec_alive:ydx 1 (ye8 [2,3,1,2,1,14,2])=([ycx,yex,ycx],0):=by
 have h:=yqy (kind:=1) (codec:=2) (cs:=[ycx,yex,ycx]) yov (by rw[yj4])
 rw[yj4] at h
 exact h
theorem yrc:((ygy 1 [ycx,ycx,ycx,ycx]).1,(ygy 1 [ycx,ycx,ycx,ycx]).2.1.length,(ygy 1 [ycx,ycx,ycx,ycx]).2.2)=(2,10,0):=by decide +kernel
theorem yqs:(ye8 [2,3,1,2,1,14,2]).length=11∧(ye8 [2,3,1,2,1,14,2]).getD 0 0=2∧∀ x∈ye8 [2,3,1,2,1,14,2],0≤x∧x<256:=by decide +kernel
theorem ymy (W:World) (cs:List Cel) (h0:∀ c∈cs,c.f2=[]) (hl:cs.length≤1000) (arr:Array Value) (ha:arr.toList=(cs.map fun c=>celV c (.slice none 0 0)).flatten):Kd.C k53 (W.alloc (.cells arr 53)) (some ⟨W.heap.size,0,none⟩) cs.length cs:=by
 have hfl:∀ l:List Cel,((l.map fun c=>celV c (.slice none 0 0)).flatten).length=l.length*3:=by
  intro l
  induction l with
  | nil=>rfl
  | cons a t ih=>rw[List.map_cons,List.flatten_cons,List.length_append,ih];show 3+_=_;rw[List.length_cons];omega
 have hseg:∀ (l:List Cel) (j:Nat) (hj:j<l.length),((((l.map fun c=>celV c (.slice none 0 0)).flatten).drop (j*3)).take 3)=celV l[j] (.slice none 0 0):=by
  intro l
  induction l with
  | nil=>intro j hj;simp at hj
  | cons a t ih =>
   intro j hj
   cases j with
   | zero=>rw[List.map_cons,List.flatten_cons];rfl
   | succ j =>
    rw[List.map_cons,List.flatten_cons,show(j+1)*3=3+j*3 by omega,← List.drop_drop]
    have:(celV a (.slice none 0 0)++((t.map fun c=>celV c (.slice none 0 0)).flatten)).drop 3=(t.map fun c=>celV c (.slice none 0 0)).flatten:=rfl
    rw[this,ih j (by simpa using hj)]
    rfl
 have hsz:arr.size=cs.length*3:=by rw[← Array.length_toList,ha,hfl]
 have ho:=World.ownsRow_lit (base:=W.heap.size) (e:=53) (size:=3) W arr cs.length (Nat.le_refl _) (by unfold maxLen;omega) hsz
 rw[ha] at ho
 have hT:CelT (W.alloc (.cells arr 53)) W.heap.size (.slice (some ⟨W.heap.size,0,none⟩) cs.length cs.length) (cs.map fun c=>⟨c,.slice none 0 0,none⟩):=by
  refine⟨fun t ht=>?_,?_,fun _ _=>trivial,_,by rw[List.length_map,List.length_map];exact ho,by rw[List.length_map,List.length_map];exact hfl cs,fun j p hj=>?_⟩
  ·obtain⟨c,hc,rfl⟩:=List.mem_map.1 ht
   exact .inl ⟨rfl,rfl,h0 c hc⟩
  ·rw[List.pairwise_map]
   exact List.pairwise_iff_getElem.2 (fun i j hi hj hij g hg=>by cases hg)
  ·rw[List.map_map,List.getElem?_map,Option.map_eq_some_iff] at hj
   obtain⟨c,hc,rfl⟩:=hj
   obtain⟨hjl,rfl⟩:=List.getElem?_eq_some_iff.1 hc
   have h3:=hseg cs j hjl
   refine⟨h3,by rw[show(Kd.raw 3).sz=3 from rfl,h3];rfl,?_⟩
   rw[show(Kd.raw 3).sz=3 from rfl,h3]
   intro u hu
   simp only[celV,List.mem_cons,List.not_mem_nil,or_false] at hu
   rcases hu with rfl|rfl|rfl <;> rfl
 obtain⟨A,c,he,hc,hC⟩:=hT.reads
 injection he with e1 e2 e3
 subst e1
 rw[List.length_map,List.map_map] at hC
 have hid:cs.map ((·.c) ∘ fun c=>(⟨c,.slice none 0 0,none⟩:OwnT))=cs:=List.map_id cs
 rw[hid] at hC
 exact hC
theorem alive_any (w:World):Calls Tryz.prog 9 #[] w fun e w'=>e=.returned (.bool true)∧Below w.heap.size w w':=by
 obtain⟨p,hp⟩:∃ p,p=ye8 [2,3,1,2,1,14,2]:=⟨_,rfl⟩
 have henc:=yj4
 have hdec:=dec_alive
 obtain⟨hpl,hp0,hpb⟩:=yqs
 obtain⟨bl,hbest,hbl⟩:∃ bl,ygy 1 [ycx,ycx,ycx,ycx]=(2,bl,0)∧bl.length=10:=by
  have h:=yrc
  generalize ygy 1 [ycx,ycx,ycx,ycx]=rb at *
  obtain⟨bc,bl,be⟩:=rb
  simp only[Prod.mk.injEq] at h
  obtain⟨rfl,h2,rfl⟩:=h
  exact⟨bl,rfl,h2⟩
 obtain⟨kz,hkz⟩:=(rseal_ev (b:=[2,3,1,2,1,14,2]) (by intro x hx;simp at hx;omega) (by decide)).ex
 rw[← hp] at henc hdec hpl hp0 hpb hkz
 obtain⟨ks,hks⟩:=(same_ev p (by omega)).ex
 have HP:=Lib.hid hp;have HKZ:=Lib.hid hkz;have HKS:=Lib.hid hks;have HBL:=Lib.hid hbl
 have HENC:∀ W:World,Calls Tryz.prog 11 #[.int .i64 1,.int .i64 2,.slice (some ⟨W.heap.size,0,none⟩) 3 3] (W.alloc (.cells #[.bool false,.int .i64 7,.slice none 0 0,.bool true,.int .i64 0,.slice none 0 0,.bool false,.int .i64 7,.slice none 0 0] 53)) (ygn (W.alloc (.cells #[.bool false,.int .i64 7,.slice none 0 0,.bool true,.int .i64 0,.slice none 0 0,.bool false,.int .i64 7,.slice none 0 0] 53)) p 0):=fun W=>by
  have hC:=ymy W [ycx,yex,ycx] (by simp [ycx,yex]) (by decide) #[.bool false,.int .i64 7,.slice none 0 0,.bool true,.int .i64 0,.slice none 0 0,.bool false,.int .i64 7,.slice none 0 0] rfl
  have h:=yly (kind:=1) (codec:=2) (c:=3) yov hC (by decide) (fun hf=>ylh hf hC (by decide))
  rw[henc] at h
  exact h
 have HBAD:∀ W:World,Calls Tryz.prog 11 #[.int .i64 7,.int .i64 2,.slice none 0 0] W (ygn W [] 120):=fun W=>by
  have h:=yly (kind:=7) (codec:=2) (cs:=[]) (A:=none) (c:=0) (w:=W) (fun c hc=>by cases hc) (Kd.C_nil _ _) (by decide) (fun hf=>ylh hf (Kd.C_nil _ _) (by decide))
  rw[enc_bad] at h
  exact h
 have HBEST:∀ W:World,Calls Tryz.prog 15 #[.int .i64 1,.slice (some ⟨W.heap.size,0,none⟩) 4 4] (W.alloc (.cells #[.bool false,.int .i64 7,.slice none 0 0,.bool false,.int .i64 7,.slice none 0 0,.bool false,.int .i64 7,.slice none 0 0,.bool false,.int .i64 7,.slice none 0 0] 53)) (yot (W.alloc (.cells #[.bool false,.int .i64 7,.slice none 0 0,.bool false,.int .i64 7,.slice none 0 0,.bool false,.int .i64 7,.slice none 0 0,.bool false,.int .i64 7,.slice none 0 0] 53)) 2 bl 0):=fun W=>by
  have hC:=ymy W [ycx,ycx,ycx,ycx] (by simp [ycx]) (by decide) #[.bool false,.int .i64 7,.slice none 0 0,.bool false,.int .i64 7,.slice none 0 0,.bool false,.int .i64 7,.slice none 0 0,.bool false,.int .i64 7,.slice none 0 0] rfl
  have h:=best_any (kind:=1) (c:=4) ok_alive4 hC (by decide) (fun hf=>ylh hf hC (by decide))
  rw[hbest] at h
  exact h
 have HDEC:∀ (A:Option Addr) (c:Nat) (W:World),Kd.C (Kd.int .u8) W A p.length p→p.length≤c→Calls Tryz.prog 19 #[.int .i64 1,.slice A p.length c] W (yd4 W [ycx,yex,ycx] 0):=fun A c W h1 h2=>by
  have h:=ym0 1 A c p W h1 h2 hpb (fun _=>by rw[hp0];exact yl4 1) (fun _=>by rw[hp0];exact yjy)
  rw[hdec] at h
  exact h.mono fun _ _ h=>h.weak
 have HE:=Lib.hid HENC;have HB:=Lib.hid HBAD;have HT:=Lib.hid HBEST;have HD:=Lib.hid HDEC
 clear HENC HBAD HBEST HDEC henc hdec hbest hp0 hpb hp hkz hks hbl hpl
 go_enter Tryz.func9,Tryz.ntmps9
 go_upto_region 2 with (fail)
 have B0:=Lib.hid (yaj (Below.refl w.heap.size w) (.cells #[.bool false,.int .i64 7,.slice none 0 0] 53))
 have hh:=heap_alloc_new w (.cells #[.bool false,.int .i64 7,.slice none 0 0] 53)
 have s0:(w.alloc (.cells #[.bool false,.int .i64 7,.slice none 0 0] 53)).cell? ⟨w.heap.size,0,none⟩=some (.bool false):=by unfold World.cell?;simp only[hh];rfl
 have s1:(w.alloc (.cells #[.bool false,.int .i64 7,.slice none 0 0] 53)).cell? ⟨w.heap.size,1,none⟩=some (.int .i64 7):=by unfold World.cell?;simp only[hh];rfl
 have s2:(w.alloc (.cells #[.bool false,.int .i64 7,.slice none 0 0] 53)).cell? ⟨w.heap.size,2,none⟩=some (.slice none 0 0):=by unfold World.cell?;simp only[hh];rfl
 clear hh
 generalize w.alloc (.cells #[.bool false,.int .i64 7,.slice none 0 0] 53)=w0 at *
 go_upto_region 3 with (go_at_call 11;refine(HE.out _).mono ?_;rintro e w1 ⟨v1,rfl,hR1,hb1⟩)
 have hb01:=(fun(hx:Below w0.heap.size w0 _)=>yae hx hx.size hb1) (yaj (Below.refl w0.heap.size w0) _)
 obtain⟨A1,c1,rfl,hc1,hC1⟩:=Kd.R_reads hR1
 clear hR1 hb1
 go_upto_region 4 with (go_at_call 11;refine(HB.out _).mono ?_;rintro e w2 ⟨v2,rfl,hR2,hb2⟩;obtain⟨A2,c2,rfl,hc2,hC2⟩:=Kd.R_reads hR2;clear hR2 hC2)
 go_upto_region 5 with (go_at_call 19;refine(HD.out A1 c1 _ (Kd.C_below hC1 hb2) hc1).mono ?_;rintro e w3 ⟨v3,rfl,hb3,hCB⟩;obtain⟨A3,c3,rfl,hc3,hC3⟩:=(hCB rfl).reads;clear hCB)
 have hb03:=yae hb01 hb01.size (yae hb2 hb2.size hb3)
 have hC13:=Lib.hid (Kd.C_below (Kd.C_below hC1 hb2) hb3)
 replace s0:=(hb03.cell (World.block_lt_of_cell? w0 _ s0)).trans s0
 replace s1:=(hb03.cell (World.block_lt_of_cell? w0 _ s1)).trans s1
 replace s2:=(hb03.cell (World.block_lt_of_cell? w0 _ s2)).trans s2
 clear hC1 hb01 hb2 hb3
 go_upto_region 6 with (go_at_call 15;refine(HT.out _).mono ?_;rintro e w4 ⟨v4,rfl,hR4,hb4⟩;obtain⟨A4,c4,rfl,hc4,hC4⟩:=Kd.R_reads hR4;clear hR4 hC4)
 have hb34:=(fun(hx:Below w3.heap.size w3 _)=>yae hx hx.size hb4) (yaj (Below.refl w3.heap.size w3) _)
 have hC34:=Kd.C_below hC3 hb34
 have hC14:=Lib.hid (Kd.C_below hC13.out hb34)
 have hB4:=Lib.hid (yae (yae B0.out B0.out.size hb03) (yae B0.out B0.out.size hb03).size hb34)
 clear s0 s1 s2 hC3 hC13 hb34 hb4 hb03 HE HB HT HD B0
 obtain⟨ad,_,_,rfl,x0,x1,x2,_,_⟩:=yfv hC34 (1:Int) (by decide) (by decide)
 obtain⟨ad',_,_,e',y0,y1,y2,_,_⟩:=yfv hC34 (2:Int) (by decide) (by decide)
 injection e' with e'
 subst e'
 have x0':w4.cell? (ad.add 3)=some (.bool true):=x0
 have y1':w4.cell? ⟨(ad.add 6).block,(ad.add 6).off+1,none⟩=some (.int .i64 7):=y1
 have p3:ad.add 3=⟨ad.block,ad.off+3,none⟩:=by unfold Addr.add;simp
 have p6:(⟨(ad.add 6).block,(ad.add 6).off+1,none⟩:Addr)=⟨ad.block,ad.off+7,none⟩:=by unfold Addr.add;simp
 rw[p3] at x0'
 rw[p6] at y1'
 clear x0 x1 x2 y0 y1 y2 hC34 p3 p6
 have hb10:=HBL.out
 rw[hb10]
 clear hb10
 have HS:∀ W:World,Calls Tryz.prog 26 #[.slice (some ⟨W.heap.size,0,none⟩) 7 7] (W.alloc (.cells #[.int .u8 2,.int .u8 3,.int .u8 1,.int .u8 2,.int .u8 1,.int .u8 14,.int .u8 2] 5)) fun e w'=>∃ v,e=.returned v∧Kd.R (Kd.int .u8) 5 w' W.heap.size (fun _=>True) v p∧Below W.heap.size W w':=fun W=>by
  have hba:=yaj (Below.refl W.heap.size W) (.cells #[.int .u8 2,.int .u8 3,.int .u8 1,.int .u8 2,.int .u8 1,.int .u8 14,.int .u8 2] 5)
  refine(yff.calls kz (some ⟨W.heap.size,0,none⟩) 7 [2,3,1,2,1,14,2] p _ (lit_C (ds:=[2,3,1,2,1,14,2]) (heap_alloc_new W _) (by decide)) (by decide) HKZ.out).mono ?_
  rintro e w' ⟨v,rfl,hR,hb⟩
  exact⟨v,rfl,Kd.R_lower hR hba.size,yae hba hba.size hb⟩
 have HSL:=Lib.hid HS
 clear HS
 go_wp2_with (first
  | (go_at_call 26;refine(HSL.out _).mono ?_;rintro e w5 ⟨v5,rfl,hR5,hb5⟩;obtain⟨A5,c5,rfl,hc5,hC5⟩:=Kd.R_reads hR5;clear hR5;have HC5:=Lib.hid hC5;have HB5:=Lib.hid (yae hB4.out hB4.out.size hb5);have HC15:=Lib.hid (Kd.C_below hC14.out hb5);clear hC5 hb5)
  | (go_at_call 17;refine(ya3.calls ks A1 c1 p A5 c5 p true _ HC15.out hc1 HC5.out hc5 HKS.out).mono ?_;rintro e w6 ⟨rfl,hD6⟩))
 go_ret
 exact⟨rfl,yae HB5.out HB5.out.size hD6.below⟩
end Go.Proofs.YteeikgjjgfdjgaaGreat.PK
end
