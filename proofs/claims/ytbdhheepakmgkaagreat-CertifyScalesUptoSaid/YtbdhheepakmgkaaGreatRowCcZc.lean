/- CertifyScales returns true for every input of bulk at most 1048576,and the input reads as it did. Conditions: none beyond the statement's own bound. -/
import Derived.Test.YtbdhheepakmgkaaGreatRowLZc
import Derived.Test.YtbdhheepakmgkaaGreatCscZc
set_option linter.all false
set_option maxHeartbeats 4000000
set_option maxRecDepth 100000
namespace Go.Proofs.YtbdhheepakmgkaaGreat
open Go.ChangeShapes Go.WideShapes Go.ChangeAt Go.RowKit Go.Deep
theorem yh2(os:Os)(al:os.Started)(H:Type)(enc:TypeId × Value→H)(F:Stop.Interp) :
  ReturnsInHanded {} Tryz.checked os 3 .any ((Rows.OpenSpec.upto Rows.certifyScalesSpec).pre6 enc Tryz.prog Tryz.f3 Rows.certifyScalesUptoRow.domain false) (((Rows.OpenSpec.upto Rows.certifyScalesSpec).at F).post enc Tryz.prog Tryz.f3 false true false false):=by
 refine returnsInHanded_of_cond (C:=Tryz.checked) (s:=Rows.OpenSpec.upto Rows.certifyScalesSpec) (k:=Rows.uptoSmall) rfl own al (by kernel_rfl) Tryz.func3
  (OpenSpec.witness (enc:=enc) (C:=Tryz.checked) (s:=Rows.OpenSpec.upto Rows.certifyScalesSpec) (k:=Rows.uptoSmall) rfl false ⟨#[],#[.agg #[.slice none 0 0,.slice none 0 0],.slice none 0 0,.int .u8 0,.bool false],[]⟩ 8 (by kernel_rfl) (by kernel_rfl) (by kernel_rfl)
   (x:=([.agg [.nil,.nil],.nil,.lit (.int .u8 0),.lit (.bool false)],[],[])) (by kernel_rfl) rfl (by kernel_rfl)) ?_
 intro W base args N gs ap a r _ hk _;have j:=r;obtain⟨p,q,Q,R,rfl,aC,aD⟩:=r;have o:DataW.TrodAll enc Tryz.prog W 0 (fun _=>true) true Tryz.f3.params.toList args.toList N p:=Q;rw[Tryz.params3]at o a;obtain⟨v0,aL,c,ar,z,q0,aA,rfl,rfl,h0,r0⟩:=trodAll_cons o;obtain⟨v1,aM,f,au,B,q1,rfl,rfl,rfl,h1,r1⟩:=trodAll_cons r0;obtain⟨D,aN,K,av,p2,q2,rfl,rfl,rfl,O,r2⟩:=trodAll_cons r1;obtain⟨E,aO,M,aw,p3,q3,rfl,rfl,rfl,P,r3⟩:=trodAll_cons r2;obtain⟨rfl,rfl,rfl⟩:=trodAll_nil r3
 obtain rfl:args=#[v0,v1,D,E]:=by cases args;simp_all
 obtain⟨rfl,rfl⟩:=trodVars_none R;have aB:Rows.uptoBulk c+(Rows.uptoBulk f+(Rows.uptoBulk K+(Rows.uptoBulk M+0)))≤1048576:=by
  have h:=of_decide_eq_true hk;simpa only[List.append_nil,Rows.uptoBulkAll]using h
 obtain⟨J,rfl,_⟩:=okWide_struct Tryz.underlying25 (a 0 25 v0 rfl rfl);obtain⟨G,ai,I,rfl⟩:=okWide_slice Tryz.underlying22 (a 1 22 v1 rfl rfl);obtain⟨b,rfl,rfl,rfl,u⟩:=open_int Tryz.underlying5 (a 2 5 D rfl rfl) O;obtain⟨d,rfl,rfl,rfl⟩:=open_bool Tryz.underlying4 (a 3 4 E rfl rfl) P;have ae:=h0;obtain⟨f0,h0⟩:=h0;obtain⟨A,v,cA,L,y,m,qs,ls,g,V,X,hn,hm,ab,ac,T,U⟩:=zMj h0 (by show Rows.uptoBulk c≤1048576;omega);obtain⟨l0⟩:=J;have g:l0=[.slice A v cA,.slice L y m]:=g;subst g;have af:=h1
 obtain⟨f1,h1⟩:=h1;obtain⟨ao,aE,aq,am,n,ad,ag,_,_,S⟩:=zrv h1
 dsimp only at S
 simp[Value.cells]at n;obtain⟨rfl,rfl,rfl⟩:=n;have Y:∀x∈z,x.block<W.heap.size:=fun x l=>j.lt x (by simp[l])
 have Z:∀x∈B,x.block<W.heap.size:=fun x l=>j.lt x (by simp[l])
 have t:0≤b∧b<256:=by
  simp[Lit.wf,IntKind.min,IntKind.max,IntKind.signed,IntKind.bits]at u;omega
 have i:((Rows.OpenSpec.upto Rows.certifyScalesSpec).at F).fn H ([c,f,.lit (.int .u8 b),.lit (.bool d)]++[])={ results:=[.lit (.bool true)],args:=[c,f,.lit (.int .u8 b),.lit (.bool d)] }:=rfl;refine(Lw.scales20 A v cA L y m qs ls G ai I am b d W V X ag ad (by omega) hn hm ab ac T U t.1 t.2).mono fun e W' ⟨he,hb⟩=>?_
 subst he;refine⟨_,rfl,_,_,_,[],(z++(B++([]++([]++[])))),[],j,?_,?_,?_,hb.frame _,fun h=>by cases h⟩
 ·rw[i];exact trodAll_mk1 (shut_bool Tryz.underlying4 true)
 ·rw[i];exact trodAll_cons_mk (Below.trod zqj (by kernel_rfl) (of_decide_eq_true (by kernel_rfl)) ae hb Y) (trodAll_cons_mk (Below.trod zqj (by kernel_rfl) (of_decide_eq_true (by kernel_rfl)) af hb Z) (trodAll_cons_mk (shut_int Tryz.underlying5 u) (trodAll_cons_mk (shut_bool Tryz.underlying4 d) trodAll_mk0)))
 ·rw[i];rfl
theorem certifyScales_upto:Rows.CertifyScalesUptoSaid :=
 OpenClaim.holds_of_cond 3 Tryz.f3 rfl rfl rfl rfl rfl rfl rfl ⟨rfl,rfl,rfl,rfl,rfl⟩ rfl rfl rfl rfl rfl (by kernel_rfl) Tryz.func3 (by kernel_rfl)
  (of_decide_eq_true (by kernel_rfl)) (by unfold Func.isWrapper;first | (rw[if_pos (by decide +kernel)];kernel_rfl) | (rw[if_neg (by decide +kernel)];exact⟨rfl,rfl⟩))
  (fun os a H enc _ F=>yh2 os a H enc F)
