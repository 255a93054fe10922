/-
  BlockTells: for all arguments the law returns true, and the arguments read as they did. No condition.
-/
import Derived.Test.YteeikgjjgfdjgaaGreatRows
import Derived.Test.YteeikgjjgfdjgaaGreatU33
namespace Go.Proofs.YteeikgjjgfdjgaaGreat
open Go.ChangeShapes Go.WideShapes Go.ChangeAt Go.RowKit Go.Proofs.YteeikgjjgfdjgaaGreatW.PrintWords PK
namespace Tells
theorem own:ownKnob Tryz.prog.godebug=none:=by kernel_rfl
theorem lo:laidOutB Tryz.prog=true:=by kernel_rfl
theorem t5 {H:Type} {enc:TypeId×Value→H} {P:Program} {w:World} {base:Nat} {spare:Nat→Bool} {held:Bool} {t0 t1 t2 t3 t4:TypeId} {args:Array Value} {ds:List (DataW H)} {ps:List MemPlace} (h:DataW.TrodAll enc P w base spare held [t0,t1,t2,t3,t4] args.toList ds ps) :
  ∃ v0 v1 v2 v3 v4 d0 d1 d2 d3 d4 p0 p1 p2 p3 p4,args=#[v0,v1,v2,v3,v4]∧ds=[d0,d1,d2,d3,d4]∧ps=p0++(p1++(p2++(p3++p4)))∧DataW.Trod enc P w base spare held t0 v0 d0 p0∧DataW.Trod enc P w base spare held t1 v1 d1 p1∧DataW.Trod enc P w base spare held t2 v2 d2 p2∧DataW.Trod enc P w base spare held t3 v3 d3 p3∧DataW.Trod enc P w base spare held t4 v4 d4 p4:=by
 obtain⟨v0,r0,d0,e0,p0,q0,hv0,rfl,rfl,h0,h⟩:=trodAll_cons h
 obtain⟨v1,r1,d1,e1,p1,q1,rfl,rfl,rfl,h1,h⟩:=trodAll_cons h
 obtain⟨v2,r2,d2,e2,p2,q2,rfl,rfl,rfl,h2,h⟩:=trodAll_cons h
 obtain⟨v3,r3,d3,e3,p3,q3,rfl,rfl,rfl,h3,h⟩:=trodAll_cons h
 obtain⟨v4,r4,d4,e4,p4,q4,rfl,rfl,rfl,h4,h⟩:=trodAll_cons h
 obtain⟨rfl,rfl,rfl⟩:=trodAll_nil h
 refine⟨v0,v1,v2,v3,v4,d0,d1,d2,d3,d4,p0,p1,p2,p3,p4,?_,rfl,by simp,h0,h1,h2,h3,h4⟩
 exact Array.ext' hv0
set_option maxRecDepth 100000 in
theorem lifted (os:Os) (started:os.Started) (H:Type) (enc:TypeId×Value→H) :
  ReturnsInHanded {} Tryz.checked os 8 .any (Rows.blockTellsSpec.pre6 enc Tryz.prog Tryz.f8 Rows.blockTellsRow.domain false) (Rows.blockTellsSpec.post enc Tryz.prog Tryz.f8 false true false false):=by
 refine returnsInHanded_of_change_sized (C:=Tryz.checked) own started (by kernel_rfl) Tryz.func8
  (ChangeSpec.witness6 (enc:=enc) (C:=Tryz.checked) false ⟨#[],#[.int .i64 0,.int .i64 0,.slice none 0 0,.int .i64 0,.int .u32 0],[]⟩ 8 (by kernel_rfl) (by kernel_rfl) (by kernel_rfl) (by kernel_rfl)) ?_
 intro W base args ds gs before hval0 hW hcnd hsz0 _
 have hsz:(DataW.weightsEach Tryz.prog (Tryz.f8.params.toList++Rows.blockTellsSpec.plain.varTypes Tryz.prog) (ds++gs)).all (·≤reachBytes)=true:=hsz0
 have hval:∀ (j:Nat) t v,Tryz.f8.params[j]?=some t→args[j]?=some v→Value.okWide Tryz.prog W .any base t v:=hval0
 have hW':=hW
 obtain⟨p,q,hA0,hV,rfl,hfz,hnd⟩:=hW
 have hA:DataW.TrodAll enc Tryz.prog W 0 (fun _=>true) true Tryz.f8.params.toList args.toList ds p:=hA0
 rw[Tryz.params8] at hA hval hsz
 obtain⟨v0,v1,v2,v3,v4,d0,d1,d2,d3,d4,p0,p1,p2,p3,p4,rfl,rfl,rfl,h0,h1,h2,h3,h4⟩:=t5 hA
 obtain⟨rfl,rfl⟩:=trodVars_none hV
 obtain⟨n0,rfl⟩:=okWide_int Tryz.underlying3 (hval 0 3 v0 rfl rfl)
 obtain⟨n1,rfl⟩:=okWide_int Tryz.underlying3 (hval 1 3 v1 rfl rfl)
 obtain⟨a2,len2,cap2,rfl⟩:=okWide_slice Tryz.underlying22 (hval 2 22 v2 rfl rfl)
 obtain⟨n3,rfl⟩:=okWide_int Tryz.underlying3 (hval 3 3 v3 rfl rfl)
 obtain⟨n4,rfl⟩:=okWide_int Tryz.underlying49 (hval 4 49 v4 rfl rfl)
 have k0:=h0
 have lt0:∀ x∈p0,x.block<W.heap.size:=by obtain⟨m,hm⟩:=k0;exact DataW.trod_lt m _ _ _ hm
 have k1:=h1
 have lt1:∀ x∈p1,x.block<W.heap.size:=by obtain⟨m,hm⟩:=k1;exact DataW.trod_lt m _ _ _ hm
 have k2:=h2
 have lt2:∀ x∈p2,x.block<W.heap.size:=by obtain⟨m,hm⟩:=k2;exact DataW.trod_lt m _ _ _ hm
 have k3:=h3
 have lt3:∀ x∈p3,x.block<W.heap.size:=by obtain⟨m,hm⟩:=k3;exact DataW.trod_lt m _ _ _ hm
 have k4:=h4
 have lt4:∀ x∈p4,x.block<W.heap.size:=by obtain⟨m,hm⟩:=k4;exact DataW.trod_lt m _ _ _ hm
 obtain⟨m0,hK0,I0⟩:=open_var (opens_int Tryz.underlying3) hsz (j:=0) rfl rfl h0
 obtain rfl:n0=m0:=by have e:[Value.int .i64 n0]=[Value.int .i64 m0]:=hK0;injection e with e _;injection e
 obtain⟨m1,hK1,I1⟩:=open_var (opens_int Tryz.underlying3) hsz (j:=1) rfl rfl h1
 obtain rfl:n1=m1:=by have e:[Value.int .i64 n1]=[Value.int .i64 m1]:=hK1;injection e with e _;injection e
 obtain⟨cs2,hK2,O2,L2⟩:=open_var opens_cells hsz (j:=2) rfl rfl h2
 obtain⟨rfl,c2,C2⟩:=slice_cells hK2
 obtain⟨m3,hK3,I3⟩:=open_var (opens_int Tryz.underlying3) hsz (j:=3) rfl rfl h3
 obtain rfl:n3=m3:=by have e:[Value.int .i64 n3]=[Value.int .i64 m3]:=hK3;injection e with e _;injection e
 obtain⟨m4,hK4,I4⟩:=open_var (opens_int Tryz.underlying49) hsz (j:=4) rfl rfl h4
 obtain rfl:n4=m4:=by have e:[Value.int .u32 n4]=[Value.int .u32 m4]:=hK4;injection e with e _;injection e
 clear hA0 hval0 hsz0 hsz
 refine(blocktells_any n0 n1 a2 cap2 cs2 n3 n4 W C2 c2 O2 L2 I3 I4).mono fun e W' ⟨he,bel⟩=>?_
 subst he
 exact⟨_,rfl,_,_,_,[],_,[],hW',trodAll_mk1 (shut_bool Tryz.underlying4 _),trodAll_cons_mk (Hold.trod lo (by kernel_rfl) (of_decide_eq_true (by kernel_rfl)) k0 bel lt0) (trodAll_mk4 (Hold.trod lo (by kernel_rfl) (of_decide_eq_true (by kernel_rfl)) k1 bel lt1) (Hold.trod lo (by kernel_rfl) (of_decide_eq_true (by kernel_rfl)) k2 bel lt2) (Hold.trod lo (by kernel_rfl) (of_decide_eq_true (by kernel_rfl)) k3 bel lt3) (Hold.trod lo (by kernel_rfl) (of_decide_eq_true (by kernel_rfl)) k4 bel lt4)),rfl,bel.frame _,fun h=>by cases h⟩
end Tells
theorem blockTells_holds:Rows.BlockTellsSaid:=
 OpenClaim.holds_of_wide 8 Tryz.f8 rfl rfl rfl rfl rfl rfl rfl ⟨rfl,rfl,rfl,rfl,rfl⟩ rfl rfl rfl rfl rfl (by kernel_rfl) Tryz.func8 (by kernel_rfl)
  (of_decide_eq_true (by kernel_rfl)) (by unfold Func.isWrapper;first|(rw[if_pos (by decide +kernel)];kernel_rfl)|(rw[if_neg (by decide +kernel)];exact⟨rfl,rfl⟩))
  (fun os started H enc _=>Tells.lifted os started H enc)
#print axioms blockTells_holds
end Go.Proofs.YteeikgjjgfdjgaaGreat
