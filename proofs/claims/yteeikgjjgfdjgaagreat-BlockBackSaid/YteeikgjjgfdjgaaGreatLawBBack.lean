/-
  BlockBack: for all arguments the law returns true, and the arguments read as they did. No condition.
-/
import Derived.Test.YteeikgjjgfdjgaaGreatRows
import Derived.Test.YteeikgjjgfdjgaaGreatT33
import Derived.Test.YteeikgjjgfdjgaaGreatT32
namespace Go.Proofs.YteeikgjjgfdjgaaGreat
open Go.ChangeShapes Go.WideShapes Go.ChangeAt Go.RowKit Go.Proofs.YteeikgjjgfdjgaaGreatW.PrintWords PK
namespace Back
theorem own:ownKnob Tryz.prog.godebug=none:=by kernel_rfl
theorem laidOut:laidOutB Tryz.prog=true:=by kernel_rfl
set_option maxRecDepth 100000 in
theorem lifted (os:Os) (started:os.Started) (H:Type) (enc:TypeId×Value→H) :
  ReturnsInHanded {} Tryz.checked os 6 .any (Rows.blockBackSpec.pre6 enc Tryz.prog Tryz.f6 Rows.blockBackRow.domain false) (Rows.blockBackSpec.post enc Tryz.prog Tryz.f6 false true false false):=by
 refine returnsInHanded_of_change_sized (C:=Tryz.checked) own started (by kernel_rfl) Tryz.func6
  (ChangeSpec.witness6 (enc:=enc) (C:=Tryz.checked) false ⟨#[],#[.int .i64 0,.int .i64 0,.slice none 0 0],[]⟩ 8 (by kernel_rfl) (by kernel_rfl) (by kernel_rfl) (by kernel_rfl)) ?_
 intro W base args ds gs before hval0 hW hcnd hsz0 _
 have hsz:(DataW.weightsEach Tryz.prog (Tryz.f6.params.toList++Rows.blockBackSpec.plain.varTypes Tryz.prog) (ds++gs)).all (·≤reachBytes)=true:=hsz0
 have hval:∀ (j:Nat) t v,Tryz.f6.params[j]?=some t→args[j]?=some v→Value.okWide Tryz.prog W .any base t v:=hval0
 have hW':=hW
 obtain⟨p,q,hA0,hV,rfl,hfz,hnd⟩:=hW
 have hA:DataW.TrodAll enc Tryz.prog W 0 (fun _=>true) true Tryz.f6.params.toList args.toList ds p:=hA0
 rw[Tryz.params6] at hA hval hsz
 obtain⟨v0,v1,v2,d0,d1,d2,p0,p1,p2,rfl,rfl,rfl,h0,h1,h2⟩:=trodAll_three hA
 obtain⟨rfl,rfl⟩:=trodVars_none hV
 obtain⟨n0,rfl⟩:=okWide_int Tryz.underlying3 (hval 0 3 v0 rfl rfl)
 obtain⟨n1,rfl⟩:=okWide_int Tryz.underlying3 (hval 1 3 v1 rfl rfl)
 obtain⟨a2,len2,cap2,rfl⟩:=okWide_slice Tryz.underlying22 (hval 2 22 v2 rfl rfl)
 have k0:=h0
 have lt0:∀ x∈p0,x.block<W.heap.size:=by obtain⟨m,hm⟩:=k0;exact DataW.trod_lt m _ _ _ hm
 have k1:=h1
 have lt1:∀ x∈p1,x.block<W.heap.size:=by obtain⟨m,hm⟩:=k1;exact DataW.trod_lt m _ _ _ hm
 have k2:=h2
 have lt2:∀ x∈p2,x.block<W.heap.size:=by obtain⟨m,hm⟩:=k2;exact DataW.trod_lt m _ _ _ hm
 obtain⟨m0,hK0,I0⟩:=open_var (opens_int Tryz.underlying3) hsz (j:=0) rfl rfl h0
 obtain rfl:n0=m0:=by have e:[Value.int .i64 n0]=[Value.int .i64 m0]:=hK0;injection e with e _;injection e
 obtain⟨m1,hK1,I1⟩:=open_var (opens_int Tryz.underlying3) hsz (j:=1) rfl rfl h1
 obtain rfl:n1=m1:=by have e:[Value.int .i64 n1]=[Value.int .i64 m1]:=hK1;injection e with e _;injection e
 obtain⟨cs2,hK2,O2,L2⟩:=open_var opens_cells hsz (j:=2) rfl rfl h2
 obtain⟨rfl,c2,C2⟩:=slice_cells hK2
 clear hA0 hval0 hsz0 hsz
 refine(blockback_any n0 n1 a2 cap2 cs2 W C2 c2 O2 L2).mono fun e W' ⟨he,bel⟩=>?_
 subst he
 exact⟨_,rfl,_,_,_,[],_,[],hW',trodAll_mk1 (shut_bool Tryz.underlying4 _),trodAll_mk3 (Hold.trod laidOut (by kernel_rfl) (of_decide_eq_true (by kernel_rfl)) k0 bel lt0) (Hold.trod laidOut (by kernel_rfl) (of_decide_eq_true (by kernel_rfl)) k1 bel lt1) (Hold.trod laidOut (by kernel_rfl) (of_decide_eq_true (by kernel_rfl)) k2 bel lt2),rfl,bel.frame _,fun h=>by cases h⟩
end Back
theorem blockBack_holds:Rows.BlockBackSaid:=
 OpenClaim.holds_of_wide 6 Tryz.f6 rfl rfl rfl rfl rfl rfl rfl ⟨rfl,rfl,rfl,rfl,rfl⟩ rfl rfl rfl rfl rfl (by kernel_rfl) Tryz.func6 (by kernel_rfl)
  (of_decide_eq_true (by kernel_rfl)) (by unfold Func.isWrapper;first|(rw[if_pos (by decide +kernel)];kernel_rfl)|(rw[if_neg (by decide +kernel)];exact⟨rfl,rfl⟩))
  (fun os started H enc _=>Back.lifted os started H enc)
#print axioms blockBack_holds
end Go.Proofs.YteeikgjjgfdjgaaGreat
