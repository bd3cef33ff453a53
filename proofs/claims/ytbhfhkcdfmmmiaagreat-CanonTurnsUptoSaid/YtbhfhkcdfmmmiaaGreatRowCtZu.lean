/- CanonTurns returns true for every input of bulk at most 1048576 (any problem,any turn,times and twice),and the input reads as it did. Conditions: none beyond the statement's own bound. -/
import Derived.Test.YtbhfhkcdfmmmiaaGreatRowLZu
import Derived.Test.YtbhfhkcdfmmmiaaGreatTn21Zu
set_option linter.all false
set_option maxHeartbeats 4000000
set_option maxRecDepth 100000
namespace Go.Proofs.YtbhfhkcdfmmmiaaGreat
open Go.ChangeShapes Go.WideShapes Go.ChangeAt Go.RowKit Go.Deep
theorem yx4(os:Os)(ag:os.Started)(H:Type)(enc:TypeId × Value→H)(F:Stop.Interp) :
  ReturnsInHanded {} Tryz.checked os 3 .any ((Rows.OpenSpec.upto Rows.canonTurnsSpec).pre6 enc Tryz.prog Tryz.f3 Rows.canonTurnsUptoRow.domain false) (((Rows.OpenSpec.upto Rows.canonTurnsSpec).at F).post enc Tryz.prog Tryz.f3 false true false false):=by
 refine returnsInHanded_of_cond (C:=Tryz.checked) (s:=Rows.OpenSpec.upto Rows.canonTurnsSpec) (k:=Rows.uptoSmall) rfl own ag (by kernel_rfl) Tryz.func3
  (OpenSpec.witness (enc:=enc) (C:=Tryz.checked) (s:=Rows.OpenSpec.upto Rows.canonTurnsSpec) (k:=Rows.uptoSmall) rfl false ⟨#[],#[.agg #[.slice none 0 0,.slice none 0 0],.int .u8 0,.int .u8 0,.int .u8 0],[]⟩ 8 (by kernel_rfl) (by kernel_rfl) (by kernel_rfl)
   (x:=([.agg [.nil,.nil],.lit (.int .u8 0),.lit (.int .u8 0),.lit (.int .u8 0)],[],[])) (by kernel_rfl) rfl (by kernel_rfl)) ?_
 intro W base args J gs ai a m _ hk _;have n:=m;obtain⟨p,q,N,O,rfl,ar,au⟩:=m;have l:DataW.TrodAll enc Tryz.prog W 0 (fun _=>true) true Tryz.f3.params.toList args.toList J p:=N;rw[Tryz.params3]at l a;obtain⟨v0,aC,f,aj,y,q0,ap,rfl,rfl,h0,r0⟩:=trodAll_cons l;obtain⟨v1,aD,E,ak,p1,q1,rfl,rfl,rfl,h1,r1⟩:=trodAll_cons r0;obtain⟨z,aE,G,al,p2,q2,rfl,rfl,rfl,K,r2⟩:=trodAll_cons r1;obtain⟨B,aF,I,am,p3,q3,rfl,rfl,rfl,M,r3⟩:=trodAll_cons r2;obtain⟨rfl,rfl,rfl⟩:=trodAll_nil r3
 obtain rfl:args=#[v0,v1,z,B]:=by cases args;simp_all
 obtain⟨rfl,rfl⟩:=trodVars_none O;have aq:Rows.uptoBulk f+(Rows.uptoBulk E+(Rows.uptoBulk G+(Rows.uptoBulk I+0)))≤1048576:=by
  have h:=of_decide_eq_true hk;simpa only[List.append_nil,Rows.uptoBulkAll]using h
 obtain⟨D,rfl,_⟩:=okWide_struct Tryz.underlying25 (a 0 25 v0 rfl rfl);obtain⟨b,rfl,rfl,rfl,o⟩:=open_int Tryz.underlying5 (a 1 5 v1 rfl rfl) h1;obtain⟨c,rfl,rfl,rfl,r⟩:=open_int Tryz.underlying5 (a 2 5 z rfl rfl) K;obtain⟨d,rfl,rfl,rfl,t⟩:=open_int Tryz.underlying5 (a 3 5 B rfl rfl) M;have Y:=h0;obtain⟨f0,h0⟩:=h0;obtain⟨A,u,cA,L,v,j,qs,ls,g,R,S,U,hm,V,X,P,Q⟩:=zMj h0 (by show Rows.uptoBulk f≤1048576;omega);obtain⟨l0⟩:=D;have g:l0=[.slice A u cA,.slice L v j]:=g;subst g
 have T:∀x∈y,x.block<W.heap.size:=fun x hx=>n.lt x (by simp[hx])
 have Z:0≤b∧b<256:=by
  simp[Lit.wf,IntKind.min,IntKind.max,IntKind.signed,IntKind.bits]at o;omega
 have aa:0≤c∧c<256:=by
  simp[Lit.wf,IntKind.min,IntKind.max,IntKind.signed,IntKind.bits]at r;omega
 have ab:0≤d∧d<256:=by
  simp[Lit.wf,IntKind.min,IntKind.max,IntKind.signed,IntKind.bits]at t;omega
 have i:((Rows.OpenSpec.upto Rows.canonTurnsSpec).at F).fn H ([f,.lit (.int .u8 b),.lit (.int .u8 c),.lit (.int .u8 d)]++[])={ results:=[.lit (.bool true)],args:=[f,.lit (.int .u8 b),.lit (.int .u8 c),.lit (.int .u8 d)] }:=rfl;refine(Lw.turns21i A u cA L v j qs ls b c d W R S U hm V X P Q Z aa ab).mono fun e W' ⟨he,hb⟩=>?_
 subst he;refine⟨_,rfl,_,_,_,[],(y++([]++([]++([]++[])))),[],n,?_,?_,?_,hb.frame _,fun h=>by cases h⟩
 ·rw[i];exact trodAll_mk1 (shut_bool Tryz.underlying4 true)
 ·rw[i];exact trodAll_cons_mk (Below.trod zqj (by kernel_rfl) (of_decide_eq_true (by kernel_rfl)) Y hb T) (trodAll_cons_mk (shut_int Tryz.underlying5 o) (trodAll_cons_mk (shut_int Tryz.underlying5 r) (trodAll_cons_mk (shut_int Tryz.underlying5 t) trodAll_mk0)))
 ·rw[i];rfl
theorem canonTurns_upto:Rows.CanonTurnsUptoSaid :=
 OpenClaim.holds_of_cond 3 Tryz.f3 rfl rfl rfl rfl rfl rfl rfl ⟨rfl,rfl,rfl,rfl,rfl⟩ rfl rfl rfl rfl rfl (by kernel_rfl) Tryz.func3 (by kernel_rfl)
  (of_decide_eq_true (by kernel_rfl)) (by unfold Func.isWrapper;first | (rw[if_pos (by decide +kernel)];kernel_rfl) | (rw[if_neg (by decide +kernel)];exact⟨rfl,rfl⟩))
  (fun os a H enc _ F=>yx4 os a H enc F)
