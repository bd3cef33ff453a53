/- RangingRefuses returns true for every input of bulk at most 1048576 (any problem,any numbers,any place,any budget),and the input reads as it did. Conditions: none beyond the statement's own bound. -/
import Derived.Test.YtbhfhkcdfmmmiaaGreatRowLZj
import Derived.Test.YtbhfhkcdfmmmiaaGreatRgNZj
set_option linter.all false
set_option maxHeartbeats 4000000
set_option maxRecDepth 100000
namespace Go.Proofs.YtbhfhkcdfmmmiaaGreat
open Go.ChangeShapes Go.WideShapes Go.ChangeAt Go.RowKit Go.Deep
theorem y0o(os:Os)(am:os.Started)(H:Type)(enc:TypeId × Value→H)(F:Stop.Interp) :
  ReturnsInHanded {} Tryz.checked os 5 .any ((Rows.OpenSpec.upto Rows.rangingRefusesSpec).pre6 enc Tryz.prog Tryz.f5 Rows.rangingRefusesUptoRow.domain false) (((Rows.OpenSpec.upto Rows.rangingRefusesSpec).at F).post enc Tryz.prog Tryz.f5 false true false false):=by
 refine returnsInHanded_of_cond (C:=Tryz.checked) (s:=Rows.OpenSpec.upto Rows.rangingRefusesSpec) (k:=Rows.uptoSmall) rfl own am (by kernel_rfl) Tryz.func5
  (OpenSpec.witness (enc:=enc) (C:=Tryz.checked) (s:=Rows.OpenSpec.upto Rows.rangingRefusesSpec) (k:=Rows.uptoSmall) rfl false ⟨#[],#[.agg #[.slice none 0 0,.slice none 0 0],.slice none 0 0,.int .i64 0,.int .u8 0],[]⟩ 8 (by kernel_rfl) (by kernel_rfl) (by kernel_rfl)
   (x:=([.agg [.nil,.nil],.nil,.lit (.int .i64 0),.lit (.int .u8 0)],[],[])) (by kernel_rfl) rfl (by kernel_rfl)) ?_
 intro W base args M gs aq a r _ hk _;have i:=r;obtain⟨p,q,P,Q,rfl,aD,aE⟩:=r;have o:DataW.TrodAll enc Tryz.prog W 0 (fun _=>true) true Tryz.f5.params.toList args.toList M p:=P;rw[Tryz.params5]at o a;obtain⟨v0,aM,c,au,y,q0,aB,rfl,rfl,h0,r0⟩:=trodAll_cons o;obtain⟨v1,aN,d,av,z,q1,rfl,rfl,rfl,h1,r1⟩:=trodAll_cons r0;obtain⟨B,aO,J,aw,p2,q2,rfl,rfl,rfl,N,r2⟩:=trodAll_cons r1;obtain⟨D,aP,K,ax,p3,q3,rfl,rfl,rfl,O,r3⟩:=trodAll_cons r2;obtain⟨rfl,rfl,rfl⟩:=trodAll_nil r3
 obtain rfl:args=#[v0,v1,B,D]:=by cases args;simp_all
 obtain⟨rfl,rfl⟩:=trodVars_none Q;have aC:Rows.uptoBulk c+(Rows.uptoBulk d+(Rows.uptoBulk J+(Rows.uptoBulk K+0)))≤1048576:=by
  have h:=of_decide_eq_true hk;simpa only[List.append_nil,Rows.uptoBulkAll]using h
 obtain⟨I,rfl,_⟩:=okWide_struct Tryz.underlying25 (a 0 25 v0 rfl rfl);obtain⟨E,aj,G,rfl⟩:=okWide_slice Tryz.underlying22 (a 1 22 v1 rfl rfl);obtain⟨l,rfl,rfl,rfl,ag⟩:=open_int Tryz.underlying3 (a 2 3 B rfl rfl) N;obtain⟨b,rfl,rfl,rfl,t⟩:=open_int Tryz.underlying5 (a 3 5 D rfl rfl) O;have ad:=h0;obtain⟨f0,h0⟩:=h0;obtain⟨A,u,cA,L,v,m,qs,ls,f,U,V,Z,hm,aa,ab,S,T⟩:=zMj h0 (by show Rows.uptoBulk c≤1048576;omega);obtain⟨l0⟩:=I;have f:l0=[.slice A u cA,.slice L v m]:=f;subst f;have ae:=h1
 obtain⟨f1,h1⟩:=h1;obtain⟨ap,aF,ar,an,n,ac,ah,_,_,R⟩:=zrv h1
 dsimp only at R
 simp[Value.cells]at n;obtain⟨rfl,rfl,rfl⟩:=n;have X:∀x∈y,x.block<W.heap.size:=fun x j=>i.lt x (by simp[j])
 have Y:∀x∈z,x.block<W.heap.size:=fun x j=>i.lt x (by simp[j])
 have af:0≤b∧b<256:=by
  simp[Lit.wf,IntKind.min,IntKind.max,IntKind.signed,IntKind.bits]at t;omega
 have g:((Rows.OpenSpec.upto Rows.rangingRefusesSpec).at F).fn H ([c,d,.lit (.int .i64 l),.lit (.int .u8 b)]++[])={ results:=[.lit (.bool true)],args:=[c,d,.lit (.int .i64 l),.lit (.int .u8 b)] }:=rfl;refine(Lw.refuses22i A u cA L v m qs ls E aj G an l b W U V ah Z hm aa ab S T ac (by omega) af).mono fun e W' ⟨he,hb⟩=>?_
 subst he;refine⟨_,rfl,_,_,_,[],(y++(z++([]++([]++[])))),[],i,?_,?_,?_,hb.frame _,fun h=>by cases h⟩
 ·rw[g];exact trodAll_mk1 (shut_bool Tryz.underlying4 true)
 ·rw[g];exact trodAll_cons_mk (Below.trod zqj (by kernel_rfl) (of_decide_eq_true (by kernel_rfl)) ad hb X) (trodAll_cons_mk (Below.trod zqj (by kernel_rfl) (of_decide_eq_true (by kernel_rfl)) ae hb Y) (trodAll_cons_mk (shut_int Tryz.underlying3 ag) (trodAll_cons_mk (shut_int Tryz.underlying5 t) trodAll_mk0)))
 ·rw[g];rfl
theorem rangingRefuses_upto:Rows.RangingRefusesUptoSaid :=
 OpenClaim.holds_of_cond 5 Tryz.f5 rfl rfl rfl rfl rfl rfl rfl ⟨rfl,rfl,rfl,rfl,rfl⟩ rfl rfl rfl rfl rfl (by kernel_rfl) Tryz.func5 (by kernel_rfl)
  (of_decide_eq_true (by kernel_rfl)) (by unfold Func.isWrapper;first | (rw[if_pos (by decide +kernel)];kernel_rfl) | (rw[if_neg (by decide +kernel)];exact⟨rfl,rfl⟩))
  (fun os a H enc _ F=>y0o os a H enc F)
