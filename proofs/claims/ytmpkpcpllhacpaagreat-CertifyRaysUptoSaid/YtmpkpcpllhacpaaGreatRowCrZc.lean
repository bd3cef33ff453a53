/- CertifyRays returns true for every input of bulk at most 1048576 (any problem, numbers, way and distance, its own or not), and the input reads as it did. Conditions: none beyond the statement's own bound. -/
import Derived.Test.YtmpkpcpllhacpaaGreatRowLZc
import Derived.Test.YtmpkpcpllhacpaaGreatCraZc
set_option linter.all false
set_option maxHeartbeats 4000000
set_option maxRecDepth 100000
namespace Go.Proofs.YtmpkpcpllhacpaaGreat
open Go.ChangeShapes Go.WideShapes Go.ChangeAt Go.RowKit Go.Deep
theorem yfx(os:Os)(aB:os.Started)(H:Type)(enc:TypeId × Value→H)(F:Stop.Interp) :
  ReturnsInHanded {} Tryz.checked os 6 .any ((Rows.OpenSpec.upto Rows.certifyRaysSpec).pre6 enc Tryz.prog Tryz.f6 Rows.certifyRaysUptoRow.domain false) (((Rows.OpenSpec.upto Rows.certifyRaysSpec).at F).post enc Tryz.prog Tryz.f6 false true false false):=by
 refine returnsInHanded_of_cond (C:=Tryz.checked) (s:=Rows.OpenSpec.upto Rows.certifyRaysSpec) (k:=Rows.uptoSmall) rfl own aB (by kernel_rfl) Tryz.func6
  (OpenSpec.witness (enc:=enc) (C:=Tryz.checked) (s:=Rows.OpenSpec.upto Rows.certifyRaysSpec) (k:=Rows.uptoSmall) rfl false ⟨#[],#[.agg #[.slice none 0 0,.slice none 0 0],.slice none 0 0,.slice none 0 0,.int .u16 0,.bool false],[]⟩ 8 (by kernel_rfl) (by kernel_rfl) (by kernel_rfl)
   (x:=([.agg [.nil,.nil],.nil,.nil,.lit (.int .u16 0),.lit (.bool false)],[],[])) (by kernel_rfl) rfl (by kernel_rfl)) ?_
 intro W base args U gs aH a v _ hk _;have g:=v;obtain⟨p,q,Y,Z,rfl,aV,aW⟩:=v;have u:DataW.TrodAll enc Tryz.prog W 0 (fun _=>true) true Tryz.f6.params.toList args.toList U p:=Y;rw[Tryz.params6]at u a;obtain⟨v0,a6,d,aK,E,q0,aT,rfl,rfl,h0,r0⟩:=trodAll_cons u;obtain⟨v1,a7,j,aL,G,q1,rfl,rfl,rfl,h1,r1⟩:=trodAll_cons r0;obtain⟨J,a8,l,aM,I,q2,rfl,rfl,rfl,f,r2⟩:=trodAll_cons r1;obtain⟨K,a9,S,aN,p3,q3,rfl,rfl,rfl,V,r3⟩:=trodAll_cons r2;obtain⟨M,ba,T,aO,p4,q4,rfl,rfl,rfl,X,r4⟩:=trodAll_cons r3
 obtain⟨rfl,rfl,rfl⟩:=trodAll_nil r4;obtain rfl:args=#[v0,v1,J,K,M]:=by cases args;simp_all
 obtain⟨rfl,rfl⟩:=trodVars_none Z;have aU:Rows.uptoBulk d+(Rows.uptoBulk j+(Rows.uptoBulk l+(Rows.uptoBulk S+(Rows.uptoBulk T+0))))≤1048576:=by
  have h:=of_decide_eq_true hk;simpa only[List.append_nil,Rows.uptoBulkAll]using h
 obtain⟨R,rfl,_⟩:=okWide_struct Tryz.underlying25 (a 0 25 v0 rfl rfl);obtain⟨N,aw,P,rfl⟩:=okWide_slice Tryz.underlying22 (a 1 22 v1 rfl rfl);obtain⟨O,ax,Q,rfl⟩:=okWide_slice Tryz.underlying22 (a 2 22 J rfl rfl);obtain⟨c,rfl,rfl,rfl,z⟩:=open_int Tryz.underlying60 (a 3 60 K rfl rfl) V;obtain⟨i,rfl,rfl,rfl⟩:=open_bool Tryz.underlying4 (a 4 4 M rfl rfl) X;have ao:=h0;obtain⟨f0,h0⟩:=h0;obtain⟨A,B,cA,L,D,o,qs,ls,m,hf,af,hn,hm,ak,al,ac,ad⟩:=zMj h0 (by show Rows.uptoBulk d≤1048576;omega);obtain⟨l0⟩:=R
 have m:l0=[.slice A B cA,.slice L D o]:=m;subst m;have ap:=h1;obtain⟨f1,h1⟩:=h1;obtain⟨aF,aX,aI,aC,r,am,ar,_,_,aa⟩:=zrv h1
 dsimp only at aa
 simp[Value.cells]at r;obtain⟨rfl,rfl,rfl⟩:=r;have aq:=f;obtain⟨f2,f⟩:=f;obtain⟨aG,aY,aJ,aD,t,an,au,_,_,ab⟩:=zrv f
 dsimp only at ab
 simp[Value.cells]at t;obtain⟨rfl,rfl,rfl⟩:=t;have ag:∀x∈E,x.block<W.heap.size:=fun x b=>g.lt x (by simp[b])
 have ah:∀x∈G,x.block<W.heap.size:=fun x b=>g.lt x (by simp[b])
 have ai:∀x∈I,x.block<W.heap.size:=fun x b=>g.lt x (by simp[b])
 have y:0≤c∧c<65536:=by
  simp[Lit.wf,IntKind.min,IntKind.max,IntKind.signed,IntKind.bits]at z;omega
 have n:((Rows.OpenSpec.upto Rows.certifyRaysSpec).at F).fn H ([d,j,l,.lit (.int .u16 c),.lit (.bool i)]++[])={ results:=[.lit (.bool true)],args:=[d,j,l,.lit (.int .u16 c),.lit (.bool i)] }:=rfl;refine(Lw.rays20 A B cA L D o qs ls N aw P aC O ax Q aD c i W hf af ar au am (by omega) an (by omega) hn hm ak al ac ad y.1 y.2).mono fun e W' ⟨he,hb⟩=>?_
 subst he;refine⟨_,rfl,_,_,_,[],(E++(G++(I++([]++([]++[]))))),[],g,?_,?_,?_,hb.frame _,fun h=>by cases h⟩
 ·rw[n];exact trodAll_mk1 (shut_bool Tryz.underlying4 true)
 ·rw[n];exact trodAll_cons_mk (Below.trod zqj (by kernel_rfl) (of_decide_eq_true (by kernel_rfl)) ao hb ag) (trodAll_cons_mk (Below.trod zqj (by kernel_rfl) (of_decide_eq_true (by kernel_rfl)) ap hb ah) (trodAll_cons_mk (Below.trod zqj (by kernel_rfl) (of_decide_eq_true (by kernel_rfl)) aq hb ai) (trodAll_cons_mk (shut_int Tryz.underlying60 z) (trodAll_cons_mk (shut_bool Tryz.underlying4 i) trodAll_mk0))))
 ·rw[n];rfl
theorem certifyRays_upto:Rows.CertifyRaysUptoSaid :=
 OpenClaim.holds_of_cond 6 Tryz.f6 rfl rfl rfl rfl rfl rfl rfl ⟨rfl,rfl,rfl,rfl,rfl⟩ rfl rfl rfl rfl rfl (by kernel_rfl) Tryz.func6 (by kernel_rfl)
  (of_decide_eq_true (by kernel_rfl)) (by unfold Func.isWrapper;first | (rw[if_pos (by decide +kernel)];kernel_rfl) | (rw[if_neg (by decide +kernel)];exact⟨rfl,rfl⟩))
  (fun os a H enc _ F=>yfx os a H enc F)
