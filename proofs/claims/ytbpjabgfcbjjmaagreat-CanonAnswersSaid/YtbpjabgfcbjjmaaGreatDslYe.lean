/- Contracts and lemmas: Dsl Zu Smp Dcn Dis. Conditions: as each says. -/
import Derived.Test.YtbpjabgfcbjjmaaGreatZwYe
set_option linter.all false
set_option maxHeartbeats 4000000
set_option maxRecDepth 100000
namespace Go.Proofs.YtbpjabgfcbjjmaaGreat
open Go.Proofs.Tryz
open Go.RowKit Am Dz
variable {B cost:List Int}{qs:List Rat}{H N b m nC:Nat}{X:Nat->Rat}{w:World}
def y5e (A:List (List Int)) (B:List Int) (c:Nat->Rat) (N own:Nat):List Rat:=y1s (λz=>y1j N c (el z)) own (y1k A B N) ((y1k A B N).length-1)
open Go.RowKit Am
open Dz (y1U y14 y1E y1k y1j y1w y2x y1s y2f)
attribute [local go_sem ↓] Go.wp_at_zero Go.wp_at_succ
structure SmallP (nC:Nat) (cost:List Int) (rows:List ZRow):Prop where
  lc:cost.length=nC
  nc:nC<=3
  nr:rows.length<=3
  co:∀p∈rows,p.coef.length=nC
  kd:∀p∈rows,p.kind=1\/p.kind=2\/p.kind=3
  ec:∀x∈cost,x.natAbs<=9
  er:∀p∈rows,(∀x∈p.coef,x.natAbs<=9)/\p.rhs.natAbs<=9
theorem y3A{rows:List ZRow}(hk:∀p∈rows,p.kind=1\/p.kind=2\/p.kind=3)(r:Nat):∀k,k<=rows.length->∀x∈y1P rows r k,x.natAbs<=9
 | 0,_,x,hx=>by cases hx
 | k+1,hl,x,hx=>by
  unfold y1P at hx;rcases ZU.1 hx with q | q;exact y3A hk r k ω x q;split at q
  cases q;rw[XE.1 q];have:=hk _ (Zz (zaO (d:=default) (show k<rows.length by omega)));split<;>omega
theorem SmallP.tabs{rows:List ZRow}(h:SmallP nC cost rows):SmallZ rows.length (nC+cnt (toP rows) rows.length) (y2C rows) (y29 rows) (y3a cost rows):=by
 have hg:∀i,i<rows.length->rows.getD i default∈rows:=λi hi=>Zz (zaO hi)
 have e:=y3U (rows:=rows) (k:=rows.length);have h1:=h.nc;have d:=h.nr;refine⟨λx a=>?_,λr hr x a=>?_,λx a=>?_,λx a=>?_,ω,ω⟩;obtain⟨i,hi,rfl⟩:=ZH.1 a;have hi:=Xu.1 hi;rw[ZD,y1R rows i _ (Za _),h.co _ (hg i hi)];obtain⟨i,hi,rfl⟩:=ZH.1 hr;have hi:=Xu.1 hi;rcases ZU.1 a with q | q;exact(h.er _ (hg i hi)).1 x q;exact y3A h.kd i _ (Za _) x q;obtain⟨p,b,rfl⟩:=ZH.1 a;exact(h.er p b).2;unfold y3a at a;rcases ZU.1 a with q | q;exact h.ec x q;rw[(YC.1 q).2];decide
theorem y2o:∀(l:List Rat) (k:Nat),fcells (l.take k)=(fcells l).take (k*2)
 | [],k=>by simp[fcells]
 | q::l,0=>by simp[fcells]
 | q::l,k+1=>by
  rw[show(k+1)*2=k*2+2 by omega];show _::_::fcells (l.take k)=_::_::(fcells l).take (k*2)
  rw[y2o l k]
theorem y31{n c:Nat}(h:FracsZ w H (b,n,c) qs){k:Nat}(hk:k<=n):FracsZ w H (b,k,c) (qs.take k):=by
 have i:=h.len;subst i;have d:(qs.take k).length=k:=by rw[ZG];omega
 refine⟨?_⟩;rw[d];refine⟨by rw[y2E,d],?_⟩;rcases h.own.2 with ⟨a,_⟩ | ⟨g',l,cur,a,e,hg,o,f,g,j⟩
 simp at a;simp only[Value.slice.injEq,Option.some.injEq,Addr.mk.injEq,and_true,true_and]at a;obtain⟨rfl,rfl⟩:=a;refine .inr ⟨b,c,cur,rfl,e,hg,ω,f,g,?_⟩;rw[y2o,<-j,YX,Xx (ZV 2 hk)]
theorem y45{w0:World}{j:Nat}{b:OA}{a:Nat}{n:List Rat}(h0:FracsZ w0 j (b,N,a) n)(k:Nat)(hk:k<=N):∃(Z:OA) (c:Nat),(∀W:World,(Instr.slice 37 (b,N,a) none (some (.int .i64 (k:Int))) none).run prog W=.ok (Z,k,c) W)/\∀(w:World) (H:Nat) (z:List Rat),FracsZ w H (b,N,a) z->FracsZ w H (Z,k,c) (z.take k):=by
 have i:prog.underlying 37=some (.slice (prog.elem 37)):=by rfl
 have d:prog.elem 37=36:=by rfl
 have f:∀W:World,(Go.sizeOf 36).run prog W=.ok 2 W:=λW=>by simp[go_sem]
 have hc:=h0.form.2.1;have l:((k:Int)).toNat=k:=ω;rcases h0.form.2.2.2 with ⟨rfl,rfl,_⟩ | ⟨g,rfl,_,_⟩
 obtain rfl:N=0:=ω;obtain rfl:k=0:=ω;refine⟨none,0,λW=>?_,λw H z h=>?_⟩;rw[run_slice_h W 37 _ _ _ i .i64 _ ω ω,d,f];simp[Result.andThen,sliced];rw[Vf];exact FracsZ.nil _ _;refine⟨some ⟨g,0,none⟩,a,λW=>?_,λw H z h=>y31 h hk⟩;rw[run_slice_h W 37 _ _ _ i .i64 _ ω ω,d,f,l];by_cases e:a=0;simp[Result.andThen,sliced,e];simp[Result.andThen,sliced,Addr.add,e]
theorem y3M{w':World}{v:Value}(h:FracsZ w H v qs){cs:Array Value}{t:TypeId}(i:θ w b cs t)(j:36≠t)(a d f g:Value)(hw:((((w.setCell ⟨b,0,none⟩ a).setCell ⟨b,1,none⟩ d).setCell ⟨b,2,none⟩ f).setCell ⟨b,3,none⟩ g)=w'):FracsZ w' H v qs:=h.keep λk hk=>by
 have e:k≠b:=by rintro rfl;exact za6 h.own i j hk
 rw[<-hw,ZE _ _ _ _ (by exact e),ZE _ _ _ _ (by exact e),ZE _ _ _ _ (by exact e),ZE _ _ _ _ (by exact e)]
def y5b (w:World) (o:Int) (q:Rat) (z:List Rat) (k:Nat) (e:Ending) (w':World):Prop:=∃(P D:Int) (Z:OA) (n c:Nat),e=.returned (.agg #[.int .i64 o,.int .i64 P,.int .i64 D,(Z,n,c)])/\((o=1/\P=q.num/\D=(q.den:Int)/\n=k/\FracsZ w' 0 (Z,k,c) z)\/(o≠1/\n=0))/\Below w w w'
namespace Zr
theorem y6E(aC:OA)(nC cC:Nat)(cost:List Int)(g:OA)(m j:Nat)(L:List Value)(rows:List ZRow)(w:World)(d:IntsZ w 0 (aC,nC,cC) cost)(E:ZRows w 0 (g,m,j) L rows)(y:SmallP nC cost rows)(N:Nat)(hN:N=nC+cnt (toP rows) rows.length) :
  Calls prog 10 #[.agg #[(aC,nC,cC),(g,m,j)]] w (y5b w (y3f (y2C rows) (y29 rows) (cf (y3a cost rows)) N) (y1j N (cf (y3a cost rows)) (el (y5e (y2C rows) (y29 rows) (cf (y3a cost rows)) N nC))) ((y5e (y2C rows) (y29 rows) (cf (y3a cost rows)) N nC).take nC) nC):=by
 obtain rfl:m=rows.length:=E.nlen;have b:=un y.tabs;rw[<-hN]at b;have bC:=y.nr;have dG:=y.nc;have dC:=b.o.n7;have au:nC<=N:=ω;have V:=un (fun(w:World) (d:IntsZ w 0 (aC,nC,cC) cost) (E:ZRows w 0 (g,rows.length,j) L rows)=>y6u aC nC cC cost g rows.length j L rows w d E ω ω (λp h=>by rw[y.co p h];omega) y.kd);unfold y3c at V;rw[<-hN]at V;have bb:=un (show(y2C rows).length<=4 by rw[y2L];omega);clear y hN;generalize hmm:rows.length=m at *
 have dB:=un hmm;clear hmm;generalize y2C rows=A at *
 generalize y29 rows=B at *
 generalize y3a cost rows=cs at *
 refine μ8 (λz (n:z∈y1k A B N)=>y1w b.o.ent b.o.bnd bb.o n) (λz (n:z∈y1k A B N)=>(show z.length=N from(Dz.points_fit b.o.rows n).1)) (fun(w:World) (aA:OA) (cA:Nat) (lA:List Value) (aB:OA) (cB:Nat) (aC:OA) (cC:Nat) (x:TabZ w 0 (aA,m,cA) lA A) (a:IntsZ w 0 (aB,m,cB) B)=>y4k aA m cA lA A aB cB B aC N cC cs (nC:Int) w x a b.o) (fun(w:World) (aA:OA) (cA:Nat) (lA:List Value) (aB:OA) (cB:Nat) (aC:OA) (cC:Nat) (x:TabZ w 0 (aA,m,cA) lA A) (d:IntsZ w 0 (aC,N,cC) cs)=>y5S aA m cA lA A aB cB B aC N cC cs (nC:Int) w x d b.o bC) (show y3f A B (cf cs) N=if y1k A B N=[]then 2 else if y1E A (cf cs) N=true then 3 else 1 from rfl) (show y5e A B (cf cs) N nC=y1s (λz=>y1j N (cf cs) (el z)) nC (y1k A B N) ((y1k A B N).length-1)from rfl) (λi (h:i<(y1k A B N).length)=>y2f (λz=>y1j N (cf cs) (el z)) nC h) b.o.cost λQ am bo bj R HV ai ak=>?_;generalize y1E A (cf cs) N=fb at *
 generalize y3f A B (cf cs) N=o at *
 generalize y5e A B (cf cs) N nC=dv at *
 generalize y1k A B N=pz at *
 clear b;obtain⟨W,t⟩:∃W,((w.alloc (.cells #[(aC,nC,cC),(g,m,j)] 44)).alloc (.cells #[.int .i64 0,.int .i64 0,.int .i64 0,()] 39))=W:=⟨_,rfl⟩
 refine μ6 (show θ W w.heap.size #[(aC,nC,cC),(g,m,j)] 44by rw[<-t];exact zak (zam σ)) (show θ W (w.heap.size+1) #[.int .i64 0,.int .i64 0,.int .i64 0,()] 39by rw[<-t];exact zam σ) (show Below w w W by rw[<-t];exact(zae w _).alloc σ _) (show w.heap.size+2<=W.heap.size by rw[<-t];simp) (show IntsZ W 0 (aC,nC,cC) cost by rw[<-t];exact((d).alloc _).alloc _) (show ZRows W 0 (g,m,j) L rows by rw[<-t];exact((E).alloc _).alloc _) λaq ar G D HC HR=>?_;obtain⟨bR,bY,bS,bL⟩:=bc2 aq.o;obtain⟨cb,b9,cv,b6,b7,ce,ci,b2,cj,cp,cQ,cD,ds,dj,dg,c5⟩:=bf4 ar.o;clear d E;go_enter func10,ntmps10;go_wp2_with fail
 clear t;with_reducible refine(V.o _ HC.o HR.o).mono ?_
 rintro e w1 ⟨sA,kA,lA,sB,kB,sC,kC,rfl,x,a,d,hb⟩;refine μ7 (show θ (w1.alloc (.cells #[(sA,m,kA),(sB,m,kB),(sC,N,kC),(nC:Int)] 73)) w.heap.size #[(aC,nC,cC),(g,m,j)] 44from zak (zad hb aq.o)) (show θ (w1.alloc (.cells #[(sA,m,kA),(sB,m,kB),(sC,N,kC),(nC:Int)] 73)) (w.heap.size+1) #[.int .i64 0,.int .i64 0,.int .i64 0,()] 39from zak (zad hb ar.o)) (show TabZ (w1.alloc (.cells #[(sA,m,kA),(sB,m,kB),(sC,N,kC),(nC:Int)] 73)) 0 (sA,m,kA) lA A from((x.base (Zb _))).alloc _) (show IntsZ (w1.alloc (.cells #[(sA,m,kA),(sB,m,kB),(sC,N,kC),(nC:Int)] 73)) 0 (sB,m,kB) B from((a.base (Zb _))).alloc _) (show IntsZ (w1.alloc (.cells #[(sA,m,kA),(sB,m,kB),(sC,N,kC),(nC:Int)] 73)) 0 (sC,N,kC) cs from((d.base (Zb _))).alloc _) (show Below w w (w1.alloc (.cells #[(sA,m,kA),(sB,m,kB),(sC,N,kC),(nC:Int)] 73))from((G.o.trans ((hb).mono G.o.size))).alloc ((G.o.trans ((hb).mono G.o.size))).size _) (show θ (w1.alloc (.cells #[(sA,m,kA),(sB,m,kB),(sC,N,kC),(nC:Int)] 73)) w1.heap.size #[(sA,m,kA),(sB,m,kB),(sC,N,kC),(nC:Int)] 73from zam σ) λaH az HA HB bf aF aQ=>?_;obtain⟨bP,bW,bQ,bX⟩:=bc2 aH.o;obtain⟨ca,bV,cr,b4,cc,bK,cm,b8,b3,cg,cx,cn,dt,dk,dh,c6⟩:=bf4 az.o;obtain⟨cy,ck,cz,cl,cT,ch,bG,bH⟩:=bc4 aQ.o;clear x a d hb;go_wp2_with fail
 with_reducible refine(bo.o _ sA kA lA sB kB sC kC HA.o HB.o).mono ?_
 rintro e w2 ⟨O,cO,l,rfl,hO,hb⟩;refine μ7 (zad hb aH.o) (zad hb az.o) (zad hb aQ.o) (HA.o.below hb) (bf.o.below hb) (show PtsZ w2 0 (O,pz.length,cO) l pz from(hO.base (Zb _))) (aF.o.trans ((hb).mono aF.o.size)) λaE aJ a7 bI ax T ad=>?_;obtain⟨bT,bM,bU,bN⟩:=bc2 aE.o;obtain⟨aK,aG,b1,cd,aN,aD,ct,b5,aO,aI,cS,cE,a8,a2,c3,cP⟩:=bf4 aJ.o;obtain⟨cK,cH,cL,cI,c1,cw,dm,du⟩:=bc4 a7.o;clear hO hb;generalize hq:pz.length=q at *
 have H:=un hq;have dK:q<=9223372036854775807:=by have h1:=T.o.form.2.1;have h2:=T.o.form.2.2.1;unfold maxLen at h2;omega
 clear hq;clear bR bY bS bL cb b9 cv b6 b7 ce ci b2 cj cp cQ cD ds dj dg c5 bP bW bQ bX ca bV cr b4 cc bK cm b8 b3 cg cx cn dt dk dh c6 cy ck cz cl cT ch bG bH;by_cases F:q=0
 ·have f:=un (show o=2 by rw[R.o,if_pos (Xk.1 (H.o.trans F))]);subst F;go_wp2;refine Zh (v:=.agg #[.int .i64 2,.int .i64 0,.int .i64 0,()]) (by simp[results,results10,go_sem,aK,aG,aN,aD,aO,aI,a8,a2]) rfl ?_;exact⟨0,0,none,0,0,by rw[f.o],.inr ⟨by rw[f.o];decide,rfl⟩,bsc (bsc (bsc (bsc ad.o)))⟩
 have U:=un F;have an:=un (show ¬pz=[]from λe=>F (by rw[<-H.o,e];rfl));have dH:((q:Int) == 0)=false:=by simp;omega
 clear F;go_wp2_with fail
 with_reducible refine(bj.o _ sA kA lA sB kB sC kC bI.o ax.o).mono ?_
 rintro e w3 ⟨rfl,hb⟩;refine μ6 (zad hb aE.o) (zad hb aJ.o) (zad hb a7.o) (ax.o.below hb) (T.o.below hb) (ad.o.trans ((hb).mono ad.o.size)) λaL aW ba bF ac ae=>?_;obtain⟨cF,bZ,cG,b0⟩:=bc2 aL.o;obtain⟨a4,aU,df,cU,a5,aV,db,cV,a6,aY,dc,cW,a9,a3,di,c7⟩:=bf4 aW.o;obtain⟨dx,dp,dy,dq,dz,dr,dA,dw⟩:=bc4 ba.o;clear hb;clear bT bM bU bN aK aG b1 cd aN aD ct b5 aO aI cS cE a8 a2 c3 cP cK cH cL cI c1 cw dm du;cases fb
 ·have f:=un (show o=1 by rw[R.o,if_neg an.o,if_neg δ]);obtain⟨M,J⟩:∃M,pz[0]? = some M:=⟨pz[0]'(by rw[H.o];have:=U.o;omega),Ze _⟩
  have br:=un (show y1s (λz=>y1j N (cf cs) (el z)) nC pz 0=M by unfold y1s;rw[Zg,J];rfl);have bm:=un (am.o M (Zz J));obtain⟨bO,rfl,_,_⟩:=ac.o.has (by have:=U.o;omega);obtain⟨a0,c0,_,C,aa⟩:=ac.o.at_ J;rw[bm.o]at C aa;have bk:=un aa;have dI:(0:Int)<(q:Int):=by have:=U.o;omega
  have dJ:0<q:=ω;clear aa J;go_wp2_with fail
  go_loopw [5,6] (λbv iv wr=>∃(i:Nat) (r:OA) (s:Nat),iv=.int .i64 ((i:Int)+1)/\bv=(r,N,s)/\i+1<=q/\FracsZ wr 0 (r,N,s) (y1s (λz=>y1j N (cf cs) (el z)) nC pz i)/\Below w3 w3 wr)
   (λ_ iv _=>q-(intOf iv).toNat)
  case atStart=>exact⟨0,a0,c0,rfl,rfl,ω,by rw[br.o];exact bk.o,Zj _ _⟩
  rename World=>wr
  obtain⟨i,r,s,rfl,rfl,hi,hZ,a⟩:=hrel;refine μ8 hZ a (zad a aL.o) (zad a aW.o) (zad a ba.o) (bF.o.below a) (ac.o.below a) (ae.o.trans ((a).mono ae.o.size)) λD ag aM aP a1 ay bJ aT=>?_;obtain⟨dW,dO,dX,dP⟩:=bc2 aM.o;obtain⟨d2,dS,dY,dU,d3,dT,dZ,dV,ep,d6,eb,d5,et,ef,ee,d4⟩:=bf4 aP.o;obtain⟨eq,d7,er,d8,de,eg,dn,ek⟩:=bc4 a1.o;clear hZ a;clear cF bZ cG b0 a4 aU df cU a5 aV db cV a6 aY dc cW a9 a3 di c7 dx dp dy dq dz dr dA dw;clear C;by_cases bB:i+1<q
  ·obtain⟨z,n⟩:∃z,pz[i+1]? = some z:=⟨pz[i+1]'(by rw[H.o];exact bB),Ze _⟩
   have ap:=un (Zz n);have bd:=un (ai.o i ω);have aj:=un (show y1s (λz=>y1j N (cf cs) (el z)) nC pz (i+1)=if y2x (λz=>y1j N (cf cs) (el z)) nC z (y1s (λz=>y1j N (cf cs) (el z)) nC pz i)=true then z else y1s (λz=>y1j N (cf cs) (el z)) nC pz i by
    conv=>lhs;unfold y1s
    rw[show pz.getD (i+1) []=z by rw[Zg,n];rfl])
   obtain⟨X,cX,_,C,I⟩:=bJ.o.at_ n;rw[am.o z ap.o]at C I;have bn:=un (y6h sC N kC cs nC X cX z r s (y1s (λz=>y1j N (cf cs) (el z)) nC pz i) wr.drew ay.o.drew I.drew D.o.drew ak.o (Q.o z ap.o) (Q.o _ bd.o) au ω);have bl:=un I;generalize y2x (λz=>y1j N (cf cs) (el z)) nC z (y1s (λz=>y1j N (cf cs) (el z)) nC pz i)=lb at *
   have dE:(i:Int)+1<(q:Int):=ω;have dD:(0:Int)<=(i:Int)+1:=ω;clear I n;go_upto_region 11 with fail
   have dN:=zaa C;refine wp_region_noPanic ?_;refine wp_region_held_drew (S:=λw'=>χ w' w1 2 (sC,N,kC)/\χ w' w1 3 (.int .i64 (nC:Int))/\χ w' bO (i+1) (X,N,cX)) ξ kp λhHeld=>?_;refine zaw [0,1,2,3,4,5,6,7,8] ?_;repeat refine tkH (hS:=hHeld) (h:=?_)
   refine zao ?_;refine wpAnyH_ready (rs:=[9]) ξ σ ?_;refine AllReadyH.cons rfl (λK k=>?_) AllReadyH.nil;go_simp;(go_at_call 42;(with_reducible refine bn.o.mono ?_);rintro e w5 ⟨rfl,hb⟩;have u:=un (It.bdrew0' hb);have u0:=zab u.o de;have u1:=zab u.o dn;have u2:=zab u.o C;clear hb);(try go_wp2_with fail);refine k.o _ _ kp λhHeld=>?_;clear k K;try simp only[Act.put,pu1,pu2,pu3,pu4,pu5,pu6]
   refine wpAnyH_done ξ ?_ _;refine NoPanic.normal ?_;have ah:=un (ag.o.trans (u.o.mono ag.o.size));cases lb
   ·have P:=un (show y1s (λz=>y1j N (cf cs) (el z)) nC pz (i+1)=y1s (λz=>y1j N (cf cs) (el z)) nC pz i from aj.o);go_wp2_with fail
    go_roundw
    case rel=>exact⟨i+1,r,s,by go_num,rfl,ω,by rw[P.o];exact D.o.below u.o,ah.o⟩
    case measure=>simp[intOf];omega
   have P:=un (show y1s (λz=>y1j N (cf cs) (el z)) nC pz (i+1)=z from aj.o);go_wp2_with fail
   go_roundw
   case rel=>exact⟨i+1,X,cX,by go_num,rfl,ω,by rw[P.o];exact bl.o.below u.o,ah.o⟩
   case measure=>simp[intOf];omega
  obtain rfl:q=i+1:=ω;have al:=un (show dv=y1s (λz=>y1j N (cf cs) (el z)) nC pz i from HV.o);have ao:=un (show FracsZ wr 0 (r,N,s) dv by rw[al.o];exact D.o);have bi:=un (show y14 dv by rw[al.o];exact Q.o _ (ai.o i ω));obtain⟨Z,Y,dL,hcut⟩:=y45 D.o nC au;have bh:=un hcut;clear hcut;have bg:=un (y4F sC N kC cs r s dv wr.drew ay.o.drew ao.o.drew ak.o bi.o ω);generalize y1j N (cf cs) (el dv)=cq at *
  have dF:¬((i:Int)+1<((i+1:Nat):Int)):=ω;go_upto_region 13 with fail
  refine zaS (S:=λw'=>χ w' w1 2 (sC,N,kC)/\χ w' w1 3 (.int .i64 (nC:Int))) [9] (h:=λhHeld=>?_);refine zaw [0,1,2,4,5,6,7] ?_;repeat refine tkL (hS:=hHeld) (h:=?_)
  refine zao ?_;refine zaB 3 (h:=λK k=>?_);go_simp;(go_at_call 43;(with_reducible refine(bg.o).mono ?_);rintro e w6 ⟨rfl,hb⟩;refine μ5 (zad hb aM.o) (zad hb aP.o) (zad hb a1.o) (show FracsZ w6 0 (Z,nC,Y) (dv.take nC)from((bh.o _ _ _ ao.o).drew.below hb)) (aT.o.trans ((It.bdrew0' hb).mono aT.o.size)) λcu aS c4 bs cJ=>?_;obtain⟨d0,dQ,d1,dR⟩:=bc2 cu.o;obtain⟨c8,cM,em,d9,da,cN,en,ea,dd,cY,eo,ec,dl,c2,es,ed⟩:=bf4 aS.o;obtain⟨ev,eh,ew,ei,ex,ej,ey,eu⟩:=bc4 c4.o;clear hb);(try go_wp2_with fail);refine shutOn k λhHeld=>?_;clear k K;refine zaw [8] ?_;repeat refine tkL (hS:=hHeld) (h:=?_)
  refine zao ?_;refine zay 9 (h:=λK k=>?_);go_simp;refine shutOff k ?_;clear k K;refine zaM (h:=?_);go_wp2;refine Zh (v:=.agg #[.int .i64 1,.int .i64 cq.num,(cq.den:Int),(Z,nC,Y)]) (by simp[results,results10,go_sem,c8,cM,da,cN,dd,cY,dl,c2]) rfl ?_;have bt:=aS;exact⟨cq.num,(cq.den:Int),Z,nC,Y,by rw[f.o],.inl ⟨f.o,rfl,rfl,rfl,y3M bs.o bt.o δ _ _ _ _ rfl⟩,bsc (bsc (bsc (bsc cJ.o)))⟩
 have f:=un (show o=3 by rw[R.o,if_neg an.o,if_pos rfl]);go_wp2;refine Zh (v:=.agg #[.int .i64 3,.int .i64 0,.int .i64 0,()]) (by simp[results,results10,go_sem,a4,aU,a5,aV,a6,aY,a9,a3]) rfl ?_;exact⟨0,0,none,0,0,by rw[f.o],.inr ⟨by rw[f.o];decide,rfl⟩,bsc (bsc (bsc (bsc ae.o)))⟩
end Zr
open Dz (Fz y1j y1k y1s y2f y1w)
theorem y6i{q:Rat}(h:Fz q):mw q<=1:=by
 have e:q=fr q.num (q.den:Int):=by rw[zDB (by have:=q.den_nz;omega)];exact(Rat.num_divInt_den q).symm
 rw[e];exact zH7 ⟨by have:=h.1;omega,by have:=h.1;omega⟩ ⟨by have:=h.2;omega,by have:=h.2;omega⟩
theorem y5Q{own:Nat}{A:List (List Int)}{cs:List Int}(h:SmallZ m N A B cs)(b:A.length<=4)(a:y3f A B (cf cs) N=1):y5e A B (cf cs) N own∈y1k A B N/\Fz (y1j N (cf cs) (el (y5e A B (cf cs) N own))):=by
 have d:y1k A B N≠[]:=λe=>by unfold y3f at a;rw[if_pos e]at a;exact absurd a δ
 have hi:=y2f (λz=>y1j N (cf cs) (el z)) own (i:=(y1k A B N).length-1) (ps:=y1k A B N) (by have:=List.length_pos_iff.2 d;omega);exact⟨hi,(y1w h.ent h.bnd b hi).sum (c:=λj=>cs.getD j 0) (λj=>Dz.getD_abs h.cost j) (n:=N) (by have:=h.n7;omega)⟩
theorem SmallP.good1{rows:List ZRow}(h:SmallP nC cost rows):Good1 nC rows.length (y6C cost) (toP rows):=by
 have a:∀xs:List Int,(∀x∈xs,x.natAbs<=9)->∀q∈y6C xs,mw q<=1:=λxs d q a=>by obtain⟨x,e,rfl⟩:=ZH.1 a;exact zu9 x (by have:=d x e;constructor<;>omega)
 refine⟨by have:=h.nc;omega,by have:=h.nr;omega,a _ h.ec,λp b=>?_,λp b=>?_⟩;obtain⟨r,hr,rfl⟩:=ZH.1 b;refine⟨?_,a _ (h.er r hr).1,zu9 r.rhs (by have:=(h.er r hr).2;constructor<;>omega)⟩;show(y6C r.coef).length=nC
 rw[y6x,h.co r hr];obtain⟨r,hr,rfl⟩:=ZH.1 b;have:=h.kd r hr;show 1<=r.kind/\r.kind<=3
 omega
theorem y64(rows:List PRow):∀m {t:Nat},t<cnt rows m->∃i,i<m/\(rows.getD i default).kind≠3/\cnt rows i=t
 | 0,t,h=>absurd h (ZM _)
 | m+1,t,h=>by rw[cnt]at h;rcases ZI t (cnt rows m)with q | q;obtain⟨i,h1,a,b⟩:=y64 rows m q;exact⟨i,ω,a,b⟩;by_cases e:(rows.getD m default).kind=3;rw[if_pos e]at h;omega;rw[if_neg e]at h;exact⟨m,ω,e,ω⟩
theorem y65{A:List (List Int)}{z d:Nat->Rat}(a:FitZ A B N z)(h0:∀j,j<N->z j=0->d j=0)(l:∀i,i<A.length->zai N (λj=>(ez A i j:Rat)*d j)=0) :
  ∃t:Rat,0<t/\FitZ A B N λj=>z j+t*d j:=by
 have rows:∀t:Rat,∀i,i<A.length->zai N (λj=>(ez A i j:Rat)*(z j+t*d j))=(B.getD i 0:Int):=λt i hi=>by rw[y2j,l i hi,a.row i hi];grind
 by_cases e:∃j,j<N/\d j<0;obtain⟨k,hk,b,hm⟩:=y3y (λj=>d j<0) (λj=>z j / -d j) N e;have s : -d k≠0:=ψ;have n:0<(-d k)⁻¹:=Yp.2 ψ;have p:0<z k:=Vg.1 λq=>by have:=h0 k hk (Rat.le_antisymm q (a.nn k hk));rw[this]at b;exact absurd b δ
 have f:0<z k / -d k:=by rw[Z5];exact Rat.mul_pos p n
 refine⟨z k / -d k,f,rows _,λj hj=>?_⟩;by_cases q:d j<0;have h1:=hm j hj q;have o : -d j≠0:=ψ;have r:=Rat.mul_inv_cancel _ o;have g:z k / -d k * -d j<=z j / -d j * -d j:=Vx h1 ψ;rw[show z j / -d j * -d j=z j by rw[Z5];grind]at g;grind;have:=Xg (XU f) (XF.1 q);have:=a.nn j hj;grind;refine⟨1,δ,rows _,λj hj=>?_⟩;have:=a.nn j hj;have:0<=d j:=XF.1 λq=>e ⟨j,hj,q⟩
 grind
section
variable {nC m:Nat} {cost:List Rat} {rows:List PRow} {A:List (List Int)} {B:List Int} {c:Nat->Rat} (h:DocP nC m cost rows A B c)
include h
theorem y63(I:ywM nC rows X)(J:∀x,ywM nC rows x->ywA nC cost X<=ywA nC cost x/\(ywA nC cost X=ywA nC cost x->ywU nC X x)) :
  y2X A.length (nC+cnt rows m) (λi j=>(ez A i j:Rat)) λj=>decide (ywz nC rows X j≠0):=by
 obtain⟨hf,hc⟩:=y2M h I;intro d K n;have h0:∀j,j<nC+cnt rows m->ywz nC rows X j=0->d j=0:=λj hj e=>K j hj (by simp[e])
 have own:∀j,j<nC->ywz nC rows X j=X j:=λj hj=>by unfold ywz;rw[if_pos hj]
 -- along d nothing is gained
 have u:∀e:Nat->Rat,(∀j,j<nC+cnt rows m->ywz nC rows X j=0->e j=0)->(∀i,i<A.length->zai (nC+cnt rows m) (λj=>(ez A i j:Rat)*e j)=0)->0<=y1j (nC+cnt rows m) c e/\(y1j (nC+cnt rows m) c e=0->∀i,i<nC->(∀l,l<i->e l=0)->0<=e i):=λe h1 H=>by
  obtain⟨t,p,M⟩:=y65 hf h1 H;obtain⟨F,G⟩:=y3g h M;obtain⟨C,r⟩:=J _ F;have E:y1j (nC+cnt rows m) c (λj=>ywz nC rows X j+t*e j)=y1j (nC+cnt rows m) c (ywz nC rows X)+t*y1j (nC+cnt rows m) c e:=by unfold y1j;exact y2j _ _ _ _
  rw[G,E,hc]at C r;have y:=Yp.2 p;have R:=Rat.mul_inv_cancel _ (show t≠0 by grind);refine⟨?_,λL i hi f=>?_⟩;have:=Xg (XU y) (show 0<=t*y1j (nC+cnt rows m) c e by grind);rw[<-YG,Rat.inv_mul_cancel _ (show t≠0 by grind),Rat.one_mul]at this;exact this
  have:=r (by rw[L];grind) i hi λl N=>by
   show X l=ywz nC rows X l+t*e l
   rw[own l ω,f l N];grind
  change X i<=ywz nC rows X i+t*e i at this;rw[own i hi]at this;have:=Xg (XU y) (show 0<=t*e i by grind);rw[<-YG,Rat.inv_mul_cancel _ (show t≠0 by grind),Rat.one_mul]at this;exact this
 have P:∀i,i<A.length->zai (nC+cnt rows m) (λj=>(ez A i j:Rat) * -d j)=0:=λi hi=>by rw[zaj (g:=λj => -1*((ez A i j:Rat)*d j)) λj _=>ψ,za7,n i hi];grind
 obtain⟨S,Q⟩:=u d h0 n;obtain⟨O,z⟩:=u (λj => -d j) (λj hj e=>by show -d j=0;rw[h0 j hj e];grind) P;have D:y1j (nC+cnt rows m) c (λj => -d j) = -y1j (nC+cnt rows m) c d:=by unfold y1j;rw[zaj (g:=λj => -1*(c j*d j)) λj _=>ψ,za7];grind
 rw[D]at O z;have s:y1j (nC+cnt rows m) c d=0:=ψ
 have first:∀i,i<nC->d i=0:=λi=>by
  induction i using Nat.strongRecOn with
  | _ i ih =>
   intro hi;have a:=Q s i hi λl f=>ih l f ω
   have b:=z (by rw[s];grind) i hi λl f=>by show -d l=0;rw[ih l f ω];grind
   grind
 intro j hj;rcases ZI j nC with q | q;exact first j q
 -- what a row leaves hangs on its own numbers
 obtain⟨t,rfl⟩:∃t,j=nC+t:=⟨j-nC,ω⟩
 obtain⟨i,hi,v,p⟩:=y64 rows m (show t<cnt rows m by omega);have f:=h.hf.len;have hr:=zUC h.hf.co d (i:=i) ω;rw[f]at hr;have o:zai (nC+cnt rows m) (λj=>(ez A i j:Rat)*d j)=0:=n i (by have:=h.la;omega);rw[zaj λj hj=>by rw[h.ea i hi j hj],hr,if_neg v,zcn λj hj=>by rw[first j hj];grind,p]at o;rcases h.hf.kd i (ω)with k | k | k;rw[zYn k]at o;grind;rw[zYo ω]at o;grind;exact absurd k v
theorem y67(o:ywM nC rows X)(p:∀x,ywM nC rows x->ywA nC cost X<=ywA nC cost x/\(ywA nC cost X=ywA nC cost x->ywU nC X x)) :
  ∀j,j<nC->el (y5e A B c (nC+cnt rows m) nC) j=X j:=by
 obtain⟨hf,hc⟩:=y2M h o;obtain⟨z,d,s⟩:=y30 h.ra hf (y63 h o p);have v:y1k A B (nC+cnt rows m)≠[]:=λe=>by rw[e]at d;cases d
 have I:=List.length_pos_iff.2 v;have own:∀j,j<nC->el z j=X j:=λj hj=>by rw[s j ω];unfold ywz;rw[if_pos hj]
 have r:y1j (nC+cnt rows m) c (el z)=ywA nC cost X:=by rw[<-hc];unfold y1j;exact zaj λj hj=>by rw[s j hj]
 have F:=y2f (λz=>y1j (nC+cnt rows m) c (el z)) nC (ps:=y1k A B (nC+cnt rows m)) (i:=(y1k A B (nC+cnt rows m)).length-1) ω;obtain⟨t,G,y⟩:=List.mem_iff_getElem.1 d;have a:=y2y (λz=>y1j (nC+cnt rows m) c (el z)) nC (y1k A B (nC+cnt rows m)) ((y1k A B (nC+cnt rows m)).length-1) t ω;rw[Zg,Ze G]at a;change ¬y4z _ nC (y1k A B (nC+cnt rows m))[t] _ at a;rw[y]at a;have E:=y3R (k:=λz=>y1j (nC+cnt rows m) c (el z)) (own:=nC) v d;obtain⟨C,D⟩:=y3g h (points_fit h.ra F).2;obtain⟨f,g⟩:=p _ C;unfold y5e;generalize y1s (λz=>y1j (nC+cnt rows m) c (el z)) nC (y1k A B (nC+cnt rows m)) ((y1k A B (nC+cnt rows m)).length-1)=b at *
 rw[D]at f g;have n:ywA nC cost X=y1j (nC+cnt rows m) c (el b):=Rat.le_antisymm f (by rw[<-r];exact E);have H:=g n;intro j
 induction j using Nat.strongRecOn with
 | _ j ih =>
  intro hj;refine Rat.le_antisymm (XF.1 λq=>a ⟨j+1,ω,λl u=>?_,?_⟩) (H j hj λl u=>(ih l u ω).symm);cases l with
  | zero=>show y1j _ c (el z)=y1j _ c (el b);rw[r];exact n
  | succ l=>show el z l=el b l;rw[own l ω,ih l ω ω]
  show el z j<el b j
  rw[own j hj];exact q
end
theorem y66{cost:List Rat}{rows:List PRow}{A:List (List Int)}{c:Nat->Rat}(D:DocP nC m cost rows A B c){cols:List Nat}(h:Basis m (nC+cnt rows m) (zc3 rows) cols):y1C m (y1p A (List.range m) cols)≠0:=λe=>by
 have d:cols.length=(List.range m).length:=by rw[h.len,Yf]
 have a:=y1W (A:=A) (rs:=List.range m) (cols:=cols) d;rw[Yf,e]at a;have hr:Reg m λi t=>(ez A ((List.range m).getD i 0) (cols.getD t 0):Rat):=λx f=>h.reg x λi hi=>by
  rw[<-f i hi];refine zaj λt b=>?_
  dsimp only
  rw[zcA hi,D.ea i hi _ (h.lt t b),ztZ (by rw[h.len];exact b) (by rw[h.rect.len];exact hi)]
 exact y4l hr a.symm
