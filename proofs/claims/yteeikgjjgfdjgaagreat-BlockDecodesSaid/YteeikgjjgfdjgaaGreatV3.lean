/-
  Parts of the proof: E0.
-/
import Derived.Test.YteeikgjjgfdjgaaGreatProg
import Derived.Test.YteeikgjjgfdjgaaGreatV2
section
namespace Go.Proofs.YteeikgjjgfdjgaaGreat.PK
open Go.RowKit YteeikgjjgfdjgaaGreatW.PrintWords YteeikgjjgfdjgaaGreatW.PrintLast YteeikgjjgfdjgaaGreatW.PrintMore
attribute [local go_sem] yce ycf ycu ycv yb8 yb7 ycm yco
set_option linter.unusedVariables false
set_option linter.unusedSimpArgs false
def errW:Option Int→Value
 | none=>.nilIface
 | some c=>.iface 0 (.int .i64 c)
theorem yf6:errW none=.nilIface:=rfl
theorem ygb (c:Int):errW (some c)=.iface 0 (.int .i64 c):=rfl
theorem yjs:(Tryz.prog.info? 2).map (fun i=>(i.zero,i.size,i.bytes))=some (some (.int .i64 0),1,8):=by kernel_rfl
theorem info3:(Tryz.prog.info? 3).map (fun i=>(i.zero,i.size,i.bytes))=some (some (.int .i64 0),1,8):=by kernel_rfl
theorem info4:(Tryz.prog.info? 4).map (fun i=>(i.zero,i.size,i.bytes))=some (some (.bool false),1,1):=by kernel_rfl
theorem ycj:(Tryz.prog.info? 5).map (fun i=>(i.zero,i.size,i.bytes))=some (some (.int .u8 0),1,1):=by kernel_rfl
theorem ygm:(Tryz.prog.info? 25).map (fun i=>(i.zero,i.size,i.bytes))=some (some (.slice none 0 0),1,24):=by kernel_rfl
theorem ygj:(Tryz.prog.info? 53).map (fun i=>(i.zero,i.size,i.bytes))=some (some (.agg #[(.bool false),(.int .i64 0),(.slice none 0 0)]),3,40):=by kernel_rfl
theorem yim:(Tryz.prog.info? 63).map (fun i=>(i.zero,i.size,i.bytes))=some (some (.int .u64 0),1,8):=by kernel_rfl
theorem info150:(Tryz.prog.info? 150).map (fun i=>(i.zero,i.size,i.bytes))=some (some (.agg #[(.int .i64 0),(.int .i64 0)]),2,16):=by kernel_rfl
def ydn (xs:List (List Int)) (i:Int):(List Int):=xs.getD i.toNat ([]:List Int)
theorem yhl {w:World} {A:Option Addr} {n:Nat} {xs:List (List Int)} (h:Kd.C (Kd.slice 5 (Kd.int .u8)) w A n xs) (i:Int) (h0:0≤i) (h1:i<n):∃ ad A0 c0,A=some ad∧w.cell? (ad.add i.toNat)=some (.slice A0 (ydn xs i).length c0)∧(ydn xs i).length≤c0∧(Kd.int .u8).C w A0 (ydn xs i).length (ydn xs i):=by
 obtain⟨ad,c,e,_,hK,hc0⟩:=Kd.C_get h ([]:List Int) i h0 h1
 have hc:∀ j u,c[j]?=some u→w.cell? (ad.add (i.toNat*1+j))=some u:=hc0
 obtain⟨A0,c0,rfl,l0,g0⟩:=hK
 exact⟨ad,A0,c0,e,by have hq:=hc 0 _ rfl;rwa [Nat.mul_one,Nat.add_zero] at hq,l0,g0⟩
structure S53 where
 f0:Bool
 f1:Int
 f2:(List Int)
def z53:S53:=⟨false,(0:Int),([]:List Int)⟩
def k53:Kd S53:=Kd.iso (Kd.pair Kd.bool (Kd.pair (Kd.int .i64) (Kd.slice 5 (Kd.int .u8)))) (fun x:S53=>(x.f0,x.f1,x.f2))
theorem k53_open {w:World} {x:S53} {cs:List Value} (h:k53.K w x cs):∃ A2 c2,cs=[.bool x.f0,.int .i64 x.f1,.slice A2 x.f2.length c2]∧x.f2.length≤c2∧(Kd.int .u8).C w A2 x.f2.length x.f2:=by
 obtain⟨_,_,rfl,rfl,⟨_,_,rfl,rfl,⟨A2,c2,rfl,l2,g2⟩⟩⟩:=h
 exact⟨A2,c2,rfl,l2,g2⟩
theorem yml (w:World) (base:Nat) (ok:Nat→Prop) (x:S53) {v2:Value} (g2:(Kd.int .u8).R 5 w base ok v2 x.f2):k53.M w base ok x [.bool x.f0,.int .i64 x.f1,v2]:=⟨[.bool x.f0],[.int .i64 x.f1,v2],rfl,rfl,⟨[.int .i64 x.f1],[v2],rfl,rfl,⟨v2,rfl,g2⟩⟩⟩
def yar (xs:List S53) (i:Int):S53:=xs.getD i.toNat z53
theorem yfv {w:World} {A:Option Addr} {n:Nat} {xs:List S53} (h:Kd.C k53 w A n xs) (i:Int) (h0:0≤i) (h1:i<n):∃ ad A2 c2,A=some ad∧w.cell? (ad.add (i.toNat*3))=some (.bool (yar xs i).f0)∧w.cell? ⟨(ad.add (i.toNat*3)).block,(ad.add (i.toNat*3)).off+1,none⟩=some (.int .i64 (yar xs i).f1)∧w.cell? ⟨(ad.add (i.toNat*3)).block,(ad.add (i.toNat*3)).off+2,none⟩=some (.slice A2 (yar xs i).f2.length c2)∧(yar xs i).f2.length≤c2∧(Kd.int .u8).C w A2 (yar xs i).f2.length (yar xs i).f2:=by
 obtain⟨ad,c,e,_,hK,hc0⟩:=Kd.C_get h z53 i h0 h1
 have hc:∀ j u,c[j]?=some u→w.cell? (ad.add (i.toNat*3+j))=some u:=hc0
 obtain⟨A2,c2,rfl,l2,g2⟩:=k53_open hK
 exact⟨ad,A2,c2,e,hc 0 _ rfl,by rw[← yh2 _ _ 1 (by omega)];exact hc 1 _ rfl,by rw[← yh2 _ _ 2 (by omega)];exact hc 2 _ rfl,l2,g2⟩
structure S150 where
 f0:Int
 f1:Int
def z150:S150:=⟨(0:Int),(0:Int)⟩
def k150:Kd S150:=Kd.iso (Kd.pair (Kd.int .i64) (Kd.int .i64)) (fun x:S150=>(x.f0,x.f1))
theorem k150_open {w:World} {x:S150} {cs:List Value} (h:k150.K w x cs):cs=[.int .i64 x.f0,.int .i64 x.f1]:=by
 obtain⟨_,_,rfl,rfl,rfl⟩:=h
 exact rfl
theorem ygx {w:World} {base:Nat} {ok:Nat→Prop} {x:S150} {cs:List Value} (h:k150.M w base ok x cs):cs=[.int .i64 x.f0,.int .i64 x.f1]:=by
 obtain⟨_,_,rfl,rfl,rfl⟩:=h
 exact rfl
theorem yig (w:World) (base:Nat) (ok:Nat→Prop) (x:S150)  : k150.M w base ok x [.int .i64 x.f0,.int .i64 x.f1]:=⟨[.int .i64 x.f0],[.int .i64 x.f1],rfl,rfl,rfl⟩
def yat (xs:List S150) (i:Int):S150:=xs.getD i.toNat z150
theorem ykr {w:World} {A:Option Addr} {n:Nat} {xs:List S150} (h:Kd.C k150 w A n xs) (i:Int) (h0:0≤i) (h1:i<n):∃ ad ,A=some ad∧w.cell? (ad.add (i.toNat*2))=some (.int .i64 (yat xs i).f0)∧w.cell? ⟨(ad.add (i.toNat*2)).block,(ad.add (i.toNat*2)).off+1,none⟩=some (.int .i64 (yat xs i).f1):=by
 obtain⟨ad,c,e,_,hK,hc0⟩:=Kd.C_get h z150 i h0 h1
 have hc:∀ j u,c[j]?=some u→w.cell? (ad.add (i.toNat*2+j))=some u:=hc0
 obtain rfl:=k150_open hK
 exact⟨ad,e,hc 0 _ rfl,by rw[← yh2 _ _ 1 (by omega)];exact hc 1 _ rfl⟩
section
theorem zT {P:Prop} (h:P:=by repeat (first|(with_reducible first|exact HB.out|apply yaj|apply yab|apply ygq|refine yga ?_ GE_.out)|exact HB.out)):P:=h
theorem zQ {P:Prop} (h:P:=by first|exact⟨rfl,_,World.drewN_drewN _ _ _⟩|exact⟨rfl,_,Eq.trans (World.drewN_drewN _ _ _) (congrArg (World.drewN _) (Nat.add_assoc _ _ _))⟩):P:=h
theorem zB {P:Prop} (h:P:=by repeat (first|(with_reducible first|exact HB.out|apply yaj|apply yab|apply ygq)|exact HB.out)):P:=h
theorem zE {P:Prop} (h:P:=by (try simp only[List.map_toArray,List.map_cons,List.map_nil]);first|done|rfl|(simp only[List.length_drop,List.length_take];rfl)):P:=h
theorem zA {P:Prop} (h:P:=by first|(with_reducible assumption)|assumption):P:=h
theorem zF {P:Prop} (h:P:=by first|rfl|(simp;done)|(simp [*];done)):P:=h
theorem zG {P:Prop} (h:P:=by first|rfl|(simp [yf6,ygb] <;> rfl)|(simp [*,yf6,ygb] <;> rfl)):P:=h
theorem zD {P:Prop} (h:P:=by repeat (first|exact yap.refl _|apply yap.step)):P:=h
theorem zN {P:Prop} (h:P:=by first|exact Kd.R_nil _ _ _ _ _|exact Kd.N_nil _ _ _ _ _|exact Kd.V_nil _ _ _ _ _|exact Kd.Q_nil _ _ _ _ _|exact Kd.S_nil _ _ _ _ _):P:=h
theorem zR {α:Type} {d:Kd α} {e:Nat} {w w1:World} {base:Nat} {ok:Nat→Prop} {v:Value} {xs:List α} (h:Kd.R d e w base ok v xs) (hb:Below w.heap.size w w1:=by repeat (first|(with_reducible first|exact Below.refl _ _|apply yaj|apply yab|apply ygq))):Kd.R d e w1 base ok v xs:=Kd.R_below h hb
theorem zS {α:Type} {d:Kd α} {e:Nat} {w w1:World} {base:Nat} {ok:Nat→Prop} {v:Value} {xs:List α} (h:Kd.S d e w base ok v xs) (hb:Below w.heap.size w w1:=by repeat (first|(with_reducible first|exact Below.refl _ _|apply yaj|apply yab|apply ygq))):Kd.S d e w1 base ok v xs:=Kd.S_below h hb
theorem zC {α:Type} {d:Kd α} {w w1:World} {A:Option Addr} {n:Nat} {xs:List α} (h:Kd.C d w A n xs) (hb:Below w.heap.size w w1:=by repeat (first|(with_reducible first|exact Below.refl _ _|apply yaj|apply yab|apply ygq))):Kd.C d w1 A n xs:=Kd.C_below h hb
end
end Go.Proofs.YteeikgjjgfdjgaaGreat.PK
end
