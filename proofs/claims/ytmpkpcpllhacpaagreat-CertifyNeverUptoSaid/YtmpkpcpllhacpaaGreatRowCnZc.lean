/- CertifyNever returns true for every input of bulk at most 1048576 (any problem, any numbers and worths), and the input reads as it did. Conditions: none beyond the statement's own bound. -/
import Derived.Test.YtmpkpcpllhacpaaGreatRowLZc
import Derived.Test.YtmpkpcpllhacpaaGreatCneZc
set_option linter.all false
set_option maxHeartbeats 4000000
set_option maxRecDepth 100000
namespace Go.Proofs.YtmpkpcpllhacpaaGreat
open Go.ChangeShapes Go.WideShapes Go.ChangeAt Go.RowKit Go.Deep
theorem yfw(os:Os)(aD:os.Started)(H:Type)(enc:TypeId × Value→H)(F:Stop.Interp) :
  ReturnsInHanded {} Tryz.checked os 5 .any ((Rows.OpenSpec.upto Rows.certifyNeverSpec).pre6 enc Tryz.prog Tryz.f5 Rows.certifyNeverUptoRow.domain false) (((Rows.OpenSpec.upto Rows.certifyNeverSpec).at F).post enc Tryz.prog Tryz.f5 false true false false):=by
 refine returnsInHanded_of_cond (C:=Tryz.checked) (s:=Rows.OpenSpec.upto Rows.certifyNeverSpec) (k:=Rows.uptoSmall) rfl own aD (by kernel_rfl) Tryz.func5
  (OpenSpec.witness (enc:=enc) (C:=Tryz.checked) (s:=Rows.OpenSpec.upto Rows.certifyNeverSpec) (k:=Rows.uptoSmall) rfl false ⟨#[],#[.agg #[.slice none 0 0,.slice none 0 0],.slice none 0 0,.slice none 0 0,.slice none 0 0],[]⟩ 8 (by kernel_rfl) (by kernel_rfl) (by kernel_rfl)
   (x:=([.agg [.nil,.nil],.nil,.nil,.nil],[],[])) (by kernel_rfl) rfl (by kernel_rfl)) ?_
 intro W base args T gs aL c y _ hk _;have b:=y;obtain⟨p,q,U,V,rfl,a0,a1⟩:=y;have v:DataW.TrodAll enc Tryz.prog W 0 (fun _=>true) true Tryz.f5.params.toList args.toList T p:=U;rw[Tryz.params5]at v c;obtain⟨v0,a9,d,aP,D,q0,aY,rfl,rfl,h0,r0⟩:=trodAll_cons v;obtain⟨v1,ba,i,aQ,E,q1,rfl,rfl,rfl,h1,r1⟩:=trodAll_cons r0;obtain⟨J,bb,j,aR,G,q2,rfl,rfl,rfl,f,r2⟩:=trodAll_cons r1;obtain⟨K,bc,l,aS,I,q3,rfl,rfl,rfl,g,r3⟩:=trodAll_cons r2;obtain⟨rfl,rfl,rfl⟩:=trodAll_nil r3
 obtain rfl:args=#[v0,v1,J,K]:=by cases args;simp_all
 obtain⟨rfl,rfl⟩:=trodVars_none V;have aZ:Rows.uptoBulk d+(Rows.uptoBulk i+(Rows.uptoBulk j+(Rows.uptoBulk l+0)))≤1048576:=by
  have h:=of_decide_eq_true hk;simpa only[List.append_nil,Rows.uptoBulkAll]using h
 obtain⟨S,rfl,_⟩:=okWide_struct Tryz.underlying25 (c 0 25 v0 rfl rfl);obtain⟨M,ay,P,rfl⟩:=okWide_slice Tryz.underlying22 (c 1 22 v1 rfl rfl);obtain⟨N,az,Q,rfl⟩:=okWide_slice Tryz.underlying22 (c 2 22 J rfl rfl);obtain⟨O,aA,R,rfl⟩:=okWide_slice Tryz.underlying22 (c 3 22 K rfl rfl);have ao:=h0;obtain⟨f0,h0⟩:=h0;obtain⟨A,z,cA,L,B,o,qs,ls,m,hf,ad,hn,hm,aj,ak,aa,ab⟩:=zMj h0 (by show Rows.uptoBulk d≤1048576;omega);obtain⟨l0⟩:=S;have m:l0=[.slice A z cA,.slice L B o]:=m;subst m;have ap:=h1
 obtain⟨f1,h1⟩:=h1;obtain⟨aI,a2,aM,aE,r,al,au,_,_,X⟩:=zrv h1
 dsimp only at X
 simp[Value.cells]at r;obtain⟨rfl,rfl,rfl⟩:=r;have aq:=f;obtain⟨f2,f⟩:=f;obtain⟨aJ,a3,aN,aF,t,am,av,_,_,Y⟩:=zrv f
 dsimp only at Y
 simp[Value.cells]at t;obtain⟨rfl,rfl,rfl⟩:=t;have ar:=g;obtain⟨f3,g⟩:=g;obtain⟨aK,a4,aO,aG,u,an,aw,_,_,Z⟩:=zrv g
 dsimp only at Z
 simp[Value.cells]at u;obtain⟨rfl,rfl,rfl⟩:=u;have ae:∀x∈D,x.block<W.heap.size:=fun x a=>b.lt x (by simp[a])
 have af:∀x∈E,x.block<W.heap.size:=fun x a=>b.lt x (by simp[a])
 have ag:∀x∈G,x.block<W.heap.size:=fun x a=>b.lt x (by simp[a])
 have ah:∀x∈I,x.block<W.heap.size:=fun x a=>b.lt x (by simp[a])
 have n:((Rows.OpenSpec.upto Rows.certifyNeverSpec).at F).fn H ([d,i,j,l]++[])={ results:=[.lit (.bool true)],args:=[d,i,j,l] }:=rfl;refine(Lw.never20 A z cA L B o qs ls M ay P aE N az Q aF O aA R aG W hf ad au av aw al (by omega) am (by omega) an (by omega) hn hm aj ak aa ab).mono fun e W' ⟨he,hb⟩=>?_
 subst he;refine⟨_,rfl,_,_,_,[],(D++(E++(G++(I++[])))),[],b,?_,?_,?_,hb.frame _,fun h=>by cases h⟩
 ·rw[n];exact trodAll_mk1 (shut_bool Tryz.underlying4 true)
 ·rw[n];exact trodAll_cons_mk (Below.trod zqj (by kernel_rfl) (of_decide_eq_true (by kernel_rfl)) ao hb ae) (trodAll_cons_mk (Below.trod zqj (by kernel_rfl) (of_decide_eq_true (by kernel_rfl)) ap hb af) (trodAll_cons_mk (Below.trod zqj (by kernel_rfl) (of_decide_eq_true (by kernel_rfl)) aq hb ag) (trodAll_cons_mk (Below.trod zqj (by kernel_rfl) (of_decide_eq_true (by kernel_rfl)) ar hb ah) trodAll_mk0)))
 ·rw[n];rfl
theorem certifyNever_upto:Rows.CertifyNeverUptoSaid :=
 OpenClaim.holds_of_cond 5 Tryz.f5 rfl rfl rfl rfl rfl rfl rfl ⟨rfl,rfl,rfl,rfl,rfl⟩ rfl rfl rfl rfl rfl (by kernel_rfl) Tryz.func5 (by kernel_rfl)
  (of_decide_eq_true (by kernel_rfl)) (by unfold Func.isWrapper;first | (rw[if_pos (by decide +kernel)];kernel_rfl) | (rw[if_neg (by decide +kernel)];exact⟨rfl,rfl⟩))
  (fun os a H enc _ F=>yfw os a H enc F)
