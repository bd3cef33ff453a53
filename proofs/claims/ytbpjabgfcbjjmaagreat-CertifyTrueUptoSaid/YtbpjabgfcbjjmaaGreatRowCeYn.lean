/- CertifyTrue returns true for every input of bulk at most 1048576 (any small problem,numbers,worths,way,its own or not),and the input reads as it did. Conditions: none beyond the statement's own bound. -/
import Derived.Test.YtbpjabgfcbjjmaaGreatDslYn
set_option linter.all false
set_option maxHeartbeats 4000000
set_option maxRecDepth 100000
namespace Go.Proofs.YtbpjabgfcbjjmaaGreat
open Go.ChangeShapes Go.WideShapes Go.ChangeAt Go.RowKit Go.Deep
theorem y3S(os:Os)(aG:os.Started)(H:Type)(enc:TypeId × Value→H)(F:Stop.Interp) :
  ReturnsInHanded {} Tryz.checked os 3 .any ((Rows.OpenSpec.upto Rows.certifyTrueSpec).pre6 enc Tryz.prog Tryz.f3 Rows.certifyTrueUptoRow.domain false) (((Rows.OpenSpec.upto Rows.certifyTrueSpec).at F).post enc Tryz.prog Tryz.f3 false true false false):=by
 refine returnsInHanded_of_cond (C:=Tryz.checked) (s:=Rows.OpenSpec.upto Rows.certifyTrueSpec) (k:=Rows.uptoSmall) rfl own aG (by kernel_rfl) Tryz.func3
  (OpenSpec.witness (enc:=enc) (C:=Tryz.checked) (s:=Rows.OpenSpec.upto Rows.certifyTrueSpec) (k:=Rows.uptoSmall) rfl false ⟨#[],#[.agg #[.int .u8 0,.int .i8 0,.int .i8 0,.int .i8 0,.slice none 0 0],.slice none 0 0,.slice none 0 0,.slice none 0 0,.bool false],[]⟩ 8 (by kernel_rfl) (by kernel_rfl) (by kernel_rfl)
   (x:=([.agg [.lit (.int .u8 0),.agg [.lit (.int .i8 0),.lit (.int .i8 0),.lit (.int .i8 0)],.nil],.nil,.nil,.nil,.lit (.bool false)],[],[])) (by kernel_rfl) rfl (by kernel_rfl)) ?_
 intro W base args Z gs aO b G _ hk _;have c:=G;obtain⟨p,q,ab,hV,rfl,a4,a5⟩:=G;have E:DataW.TrodAll enc Tryz.prog W 0 (fun _=>true) true Tryz.f3.params.toList args.toList Z p:=ab;rw[Tryz.params3]at E b;obtain⟨v0,bf,i,aS,J,q0,a2,rfl,rfl,h0,r0⟩:=trodAll_cons E;obtain⟨v1,bg,j,aT,K,q1,rfl,rfl,rfl,h1,r1⟩:=trodAll_cons r0;obtain⟨N,bh,l,aU,L,q2,rfl,rfl,rfl,d,r2⟩:=trodAll_cons r1;obtain⟨O,bi,m,aV,M,q3,rfl,rfl,rfl,f,r3⟩:=trodAll_cons r2;obtain⟨P,bj,Y,aW,p4,q4,rfl,rfl,rfl,h4,r4⟩:=trodAll_cons r3
 obtain⟨rfl,rfl,rfl⟩:=trodAll_nil r4;obtain rfl:args=#[v0,v1,N,O,P]:=by cases args;simp_all
 obtain⟨rfl,rfl⟩:=trodVars_none hV;have a3:Rows.uptoBulk i+(Rows.uptoBulk j+(Rows.uptoBulk l+(Rows.uptoBulk m+(Rows.uptoBulk Y+0))))≤1048576:=by
  have h:=of_decide_eq_true hk;simpa only[List.append_nil,Rows.uptoBulkAll]using h
 obtain⟨X,rfl,_⟩:=okWide_struct Tryz.underlying26 (b 0 26 v0 rfl rfl);obtain⟨Q,aA,T,rfl⟩:=okWide_slice Tryz.underlying27 (b 1 27 v1 rfl rfl);obtain⟨R,aB,U,rfl⟩:=okWide_slice Tryz.underlying27 (b 2 27 N rfl rfl);obtain⟨S,aC,V,rfl⟩:=okWide_slice Tryz.underlying27 (b 3 27 O rfl rfl);obtain⟨g,rfl,rfl,rfl⟩:=open_bool Tryz.underlying4 (b 4 4 P rfl rfl) h4;have aq:=h0;obtain⟨f0,h0⟩:=h0;obtain⟨y,r,t,u,A,I,v,ls,n,aw,hn,ag,am⟩:=y4Z h0;obtain⟨l0⟩:=X
 have n:l0=[.int .u8 y,.int .i8 r,.int .i8 t,.int .i8 u,.slice A I v]:=n;subst n;have ar:=h1;obtain⟨f1,h1⟩:=h1;obtain⟨aL,a6,aP,aH,z,an,ax,_,_,ad⟩:=zrv h1
 dsimp only at ad
 simp[Value.cells]at z;obtain⟨rfl,rfl,rfl⟩:=z;have au:=d;obtain⟨f2,d⟩:=d;obtain⟨aM,a7,aQ,aI,B,ao,ay,_,_,ae⟩:=zrv d
 dsimp only at ae
 simp[Value.cells]at B;obtain⟨rfl,rfl,rfl⟩:=B;have av:=f;obtain⟨f3,f⟩:=f;obtain⟨aN,a8,aR,aJ,D,ap,az,_,_,af⟩:=zrv f
 dsimp only at af
 simp[Value.cells]at D;obtain⟨rfl,rfl,rfl⟩:=D;have ah:∀x∈J,x.block<W.heap.size:=fun x a=>c.lt x (by simp[a])
 have ai:∀x∈K,x.block<W.heap.size:=fun x a=>c.lt x (by simp[a])
 have aj:∀x∈L,x.block<W.heap.size:=fun x a=>c.lt x (by simp[a])
 have ak:∀x∈M,x.block<W.heap.size:=fun x a=>c.lt x (by simp[a])
 have o:((Rows.OpenSpec.upto Rows.certifyTrueSpec).at F).fn H ([i,j,l,m,.lit (.bool g)]++[])={ results:=[.lit (.bool true)],args:=[i,j,l,m,.lit (.bool g)] }:=rfl;refine(Lw.true20 y r t u A I v ls Q aA T aH R aB U aI S aC V aJ g W aw ax ay az hn ag am an (by omega) ao (by omega) ap (by omega)).mono fun e W' ⟨he,hb⟩=>?_
 subst he;refine⟨_,rfl,_,_,_,[],(J++(K++(L++(M++([]++[]))))),[],c,?_,?_,?_,hb.frame _,fun h=>by cases h⟩
 ·rw[o];exact trodAll_mk1 (shut_bool Tryz.underlying4 true)
 ·rw[o];exact trodAll_cons_mk (Below.trod zqj (by kernel_rfl) (of_decide_eq_true (by kernel_rfl)) aq hb ah) (trodAll_cons_mk (Below.trod zqj (by kernel_rfl) (of_decide_eq_true (by kernel_rfl)) ar hb ai) (trodAll_cons_mk (Below.trod zqj (by kernel_rfl) (of_decide_eq_true (by kernel_rfl)) au hb aj) (trodAll_cons_mk (Below.trod zqj (by kernel_rfl) (of_decide_eq_true (by kernel_rfl)) av hb ak) (trodAll_cons_mk (shut_bool Tryz.underlying4 g) trodAll_mk0))))
 ·rw[o];rfl
theorem certifyTrue_upto:Rows.CertifyTrueUptoSaid :=
 OpenClaim.holds_of_cond 3 Tryz.f3 rfl rfl rfl rfl rfl rfl rfl ⟨rfl,rfl,rfl,rfl,rfl⟩ rfl rfl rfl rfl rfl (by kernel_rfl) Tryz.func3 (by kernel_rfl)
  (of_decide_eq_true (by kernel_rfl)) (by unfold Func.isWrapper;first | (rw[if_pos (by decide +kernel)];kernel_rfl) | (rw[if_neg (by decide +kernel)];exact⟨rfl,rfl⟩))
  (fun os a H enc _ F=>y3S os a H enc F)
