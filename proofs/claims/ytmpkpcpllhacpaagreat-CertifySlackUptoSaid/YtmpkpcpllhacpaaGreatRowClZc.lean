/- CertifySlack returns true for every input of bulk at most 1048576 (any problem, numbers and worths, its own or not), and the input reads as it did. Conditions: none beyond the statement's own bound. -/
import Derived.Test.YtmpkpcpllhacpaaGreatRowLZc
import Derived.Test.YtmpkpcpllhacpaaGreatCslZc
set_option linter.all false
set_option maxHeartbeats 4000000
set_option maxRecDepth 100000
namespace Go.Proofs.YtmpkpcpllhacpaaGreat
open Go.ChangeShapes Go.WideShapes Go.ChangeAt Go.RowKit Go.Deep
theorem yfv(os:Os)(au:os.Started)(H:Type)(enc:TypeId × Value→H)(F:Stop.Interp) :
  ReturnsInHanded {} Tryz.checked os 3 .any ((Rows.OpenSpec.upto Rows.certifySlackSpec).pre6 enc Tryz.prog Tryz.f3 Rows.certifySlackUptoRow.domain false) (((Rows.OpenSpec.upto Rows.certifySlackSpec).at F).post enc Tryz.prog Tryz.f3 false true false false):=by
 refine returnsInHanded_of_cond (C:=Tryz.checked) (s:=Rows.OpenSpec.upto Rows.certifySlackSpec) (k:=Rows.uptoSmall) rfl own au (by kernel_rfl) Tryz.func3
  (OpenSpec.witness (enc:=enc) (C:=Tryz.checked) (s:=Rows.OpenSpec.upto Rows.certifySlackSpec) (k:=Rows.uptoSmall) rfl false ⟨#[],#[.agg #[.slice none 0 0,.slice none 0 0],.slice none 0 0,.slice none 0 0,.bool false],[]⟩ 8 (by kernel_rfl) (by kernel_rfl) (by kernel_rfl)
   (x:=([.agg [.nil,.nil],.nil,.nil,.lit (.bool false)],[],[])) (by kernel_rfl) rfl (by kernel_rfl)) ?_
 intro W base args P gs aA a u _ hk _;have f:=u;obtain⟨p,q,R,S,rfl,aN,aO⟩:=u;have t:DataW.TrodAll enc Tryz.prog W 0 (fun _=>true) true Tryz.f3.params.toList args.toList P p:=R;rw[Tryz.params3]at t a;obtain⟨v0,aW,c,aD,z,q0,aL,rfl,rfl,h0,r0⟩:=trodAll_cons t;obtain⟨v1,aX,i,aE,B,q1,rfl,rfl,rfl,h1,r1⟩:=trodAll_cons r0;obtain⟨E,aY,j,aF,D,q2,rfl,rfl,rfl,d,r2⟩:=trodAll_cons r1;obtain⟨G,aZ,O,aG,p3,q3,rfl,rfl,rfl,Q,r3⟩:=trodAll_cons r2;obtain⟨rfl,rfl,rfl⟩:=trodAll_nil r3
 obtain rfl:args=#[v0,v1,E,G]:=by cases args;simp_all
 obtain⟨rfl,rfl⟩:=trodVars_none S;have aM:Rows.uptoBulk c+(Rows.uptoBulk i+(Rows.uptoBulk j+(Rows.uptoBulk O+0)))≤1048576:=by
  have h:=of_decide_eq_true hk;simpa only[List.append_nil,Rows.uptoBulkAll]using h
 obtain⟨N,rfl,_⟩:=okWide_struct Tryz.underlying25 (a 0 25 v0 rfl rfl);obtain⟨I,ao,K,rfl⟩:=okWide_slice Tryz.underlying22 (a 1 22 v1 rfl rfl);obtain⟨J,ap,M,rfl⟩:=okWide_slice Tryz.underlying22 (a 2 22 E rfl rfl);obtain⟨g,rfl,rfl,rfl⟩:=open_bool Tryz.underlying4 (a 3 4 G rfl rfl) Q;have ai:=h0;obtain⟨f0,h0⟩:=h0;obtain⟨A,v,cA,L,y,n,qs,ls,l,Y,Z,hn,hm,ae,af,V,X⟩:=zMj h0 (by show Rows.uptoBulk c≤1048576;omega);obtain⟨l0⟩:=N;have l:l0=[.slice A v cA,.slice L y n]:=l;subst l;have aj:=h1
 obtain⟨f1,h1⟩:=h1;obtain⟨ay,aP,aB,av,o,ag,al,_,_,T⟩:=zrv h1
 dsimp only at T
 simp[Value.cells]at o;obtain⟨rfl,rfl,rfl⟩:=o;have ak:=d;obtain⟨f2,d⟩:=d;obtain⟨az,aQ,aC,aw,r,ah,am,_,_,U⟩:=zrv d
 dsimp only at U
 simp[Value.cells]at r;obtain⟨rfl,rfl,rfl⟩:=r;have aa:∀x∈z,x.block<W.heap.size:=fun x b=>f.lt x (by simp[b])
 have ab:∀x∈B,x.block<W.heap.size:=fun x b=>f.lt x (by simp[b])
 have ac:∀x∈D,x.block<W.heap.size:=fun x b=>f.lt x (by simp[b])
 have m:((Rows.OpenSpec.upto Rows.certifySlackSpec).at F).fn H ([c,i,j,.lit (.bool g)]++[])={ results:=[.lit (.bool true)],args:=[c,i,j,.lit (.bool g)] }:=rfl;refine(Lw.slack20 A v cA L y n qs ls I ao K av J ap M aw g W Y Z al am ag (by omega) ah (by omega) hn hm ae af V X).mono fun e W' ⟨he,hb⟩=>?_
 subst he;refine⟨_,rfl,_,_,_,[],(z++(B++(D++([]++[])))),[],f,?_,?_,?_,hb.frame _,fun h=>by cases h⟩
 ·rw[m];exact trodAll_mk1 (shut_bool Tryz.underlying4 true)
 ·rw[m];exact trodAll_cons_mk (Below.trod zqj (by kernel_rfl) (of_decide_eq_true (by kernel_rfl)) ai hb aa) (trodAll_cons_mk (Below.trod zqj (by kernel_rfl) (of_decide_eq_true (by kernel_rfl)) aj hb ab) (trodAll_cons_mk (Below.trod zqj (by kernel_rfl) (of_decide_eq_true (by kernel_rfl)) ak hb ac) (trodAll_cons_mk (shut_bool Tryz.underlying4 g) trodAll_mk0)))
 ·rw[m];rfl
theorem certifySlack_upto:Rows.CertifySlackUptoSaid :=
 OpenClaim.holds_of_cond 3 Tryz.f3 rfl rfl rfl rfl rfl rfl rfl ⟨rfl,rfl,rfl,rfl,rfl⟩ rfl rfl rfl rfl rfl (by kernel_rfl) Tryz.func3 (by kernel_rfl)
  (of_decide_eq_true (by kernel_rfl)) (by unfold Func.isWrapper;first | (rw[if_pos (by decide +kernel)];kernel_rfl) | (rw[if_neg (by decide +kernel)];exact⟨rfl,rfl⟩))
  (fun os a H enc _ F=>yfv os a H enc F)
