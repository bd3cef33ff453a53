/- Contracts and lemmas: Dsl Zu Smp Dct C20 Ctp Zo Ops Zq Tru. Conditions: as each says. -/
import Derived.Test.YtbpjabgfcbjjmaaGreatZtYn
import Derived.Test.YtbpjabgfcbjjmaaGreatCert5Yn
set_option linter.all false
set_option maxHeartbeats 4000000
set_option maxRecDepth 100000
namespace Go.Proofs.YtbpjabgfcbjjmaaGreat
open Go.Proofs.Tryz
open Go.RowKit Am Dz
variable {o:Int}{rows:List PRow}{X Y Z cost qs:List Rat}{H N b m nC:Nat}{w:World}
def y5e (A:List (List Int)) (B:List Int) (c:Nat->Rat) (N own:Nat):List Rat:=y1s (λz=>y1j N c (el z)) own (y1k A B N) ((y1k A B N).length-1)
open Go.RowKit Am
open Dz (y1U y14 y1E y1k y1j y1w y2x y1s y2f)
attribute [local go_sem ↓] Go.wp_at_zero Go.wp_at_succ
structure SmallP (nC:Nat) (cost:List Int) (rows:List ZRow):Prop where
  lc:cost.length=nC
  nc:nC<=3
  nr:rows.length<=3
  co:∀p∈rows,p.coef.length=nC
  kd:∀p∈rows,p.kind=1\/p.kind=2\/p.kind=3
  ec:∀x∈cost,x.natAbs<=9
  er:∀p∈rows,(∀x∈p.coef,x.natAbs<=9)/\p.rhs.natAbs<=9
def y3A{rows:List ZRow}(hk:∀p∈rows,p.kind=1\/p.kind=2\/p.kind=3)(r:Nat):∀k,k<=rows.length->∀x∈y1P rows r k,x.natAbs<=9
 | 0,_,x,hx=>by cases hx
 | k+1,hl,x,hx=>by
  unfold y1P at hx;rcases ZT.1 hx with q | q;exact y3A hk r k ω x q;split at q
  cases q;rw[XF.1 q];have:=hk _ (Zj (zaO (d:=default) (show k<rows.length by omega)));split<;>omega
def SmallP.tabs{cost:List Int}{rows:List ZRow}(h:SmallP nC cost rows):SmallZ rows.length (nC+cnt (toP rows) rows.length) (y2C rows) (y29 rows) (y3a cost rows):=by
 have hg:∀i,i<rows.length->rows.getD i default∈rows:=λi hi=>Zj (zaO hi)
 have f:=y3U (rows:=rows) (k:=rows.length);have h1:=h.nc;have e:=h.nr;refine⟨λx a=>?_,λr hr x a=>?_,λx a=>?_,λx a=>?_,ω,ω⟩;obtain⟨i,hi,rfl⟩:=ZH.1 a;have hi:=Xb.1 hi;rw[Zz,y1R rows i _ (Za _),h.co _ (hg i hi)];obtain⟨i,hi,rfl⟩:=ZH.1 hr;have hi:=Xb.1 hi;rcases ZT.1 a with q | q;exact(h.er _ (hg i hi)).1 x q;exact y3A h.kd i _ (Za _) x q;obtain⟨p,b,rfl⟩:=ZH.1 a;exact(h.er p b).2;unfold y3a at a;rcases ZT.1 a with q | q;exact h.ec x q;rw[(Yv.1 q).2];decide
def y2o:∀(l:List Rat) (k:Nat),fcells (l.take k)=(fcells l).take (k*2)
 | [],k=>by simp[fcells]
 | q::l,0=>by simp[fcells]
 | q::l,k+1=>by
  rw[show(k+1)*2=k*2+2 by omega];show _::_::fcells (l.take k)=_::_::(fcells l).take (k*2)
  rw[y2o l k]
def y31{n c:Nat}(h:FracsZ w H (b,n,c) qs){k:Nat}(hk:k<=n):FracsZ w H (b,k,c) (qs.take k):=by
 have j:=h.len;subst j;have e:(qs.take k).length=k:=by rw[ZI];omega
 refine⟨?_⟩;rw[e];refine⟨by rw[y2E,e],?_⟩;rcases h.own.2 with ⟨a,_⟩ | ⟨g',o,cur,a,f,hg,p,g,i,l⟩
 simp at a;simp only[Value.slice.injEq,Option.some.injEq,Addr.mk.injEq,and_true,true_and]at a;obtain⟨rfl,rfl⟩:=a;refine .inr ⟨b,c,cur,rfl,f,hg,ω,g,i,?_⟩;rw[y2o,<-l,YX,XD (ZV 2 hk)]
def y45{w0:World}{j:Nat}{b:OA}{a:Nat}{n:List Rat}(h0:FracsZ w0 j (b,N,a) n)(k:Nat)(hk:k<=N):∃(Z:OA) (c:Nat),(∀W:World,(Instr.slice 37 (b,N,a) none (some (.int .i64 (k:Int))) none).run prog W=.ok (Z,k,c) W)/\∀(w:World) (H:Nat) (z:List Rat),FracsZ w H (b,N,a) z->FracsZ w H (Z,k,c) (z.take k):=by
 have i:prog.underlying 37=some (.slice (prog.elem 37)):=by rfl
 have f:prog.elem 37=36:=by rfl
 have hs:∀W:World,(Go.sizeOf 36).run prog W=.ok 2 W:=λW=>by simp[go_sem]
 have hc:=h0.form.2.1;have l:((k:Int)).toNat=k:=ω;rcases h0.form.2.2.2 with ⟨rfl,rfl,_⟩ | ⟨g,rfl,_,_⟩
 obtain rfl:N=0:=ω;obtain rfl:k=0:=ω;refine⟨none,0,λW=>?_,λw H z h=>?_⟩;rw[run_slice_h W 37 _ _ _ i .i64 _ ω ω,f,hs];simp[Result.andThen,sliced];rw[Vl];exact FracsZ.nil _ _;refine⟨some ⟨g,0,none⟩,a,λW=>?_,λw H z h=>y31 h hk⟩;rw[run_slice_h W 37 _ _ _ i .i64 _ ω ω,f,hs,l];by_cases e:a=0;simp[Result.andThen,sliced,e];simp[Result.andThen,sliced,Addr.add,e]
def y3M{w':World}{v:Value}(h:FracsZ w H v qs){cs:Array Value}{t:TypeId}(f:θ w b cs t)(g:36≠t)(a a1 a2 a3:Value)(hw:((((w.setCell ⟨b,0,none⟩ a).setCell ⟨b,1,none⟩ a1).setCell ⟨b,2,none⟩ a2).setCell ⟨b,3,none⟩ a3)=w'):FracsZ w' H v qs:=h.keep λk hk=>by
 have e:k≠b:=by rintro rfl;exact za6 h.own f g hk
 rw[<-hw,ZE _ _ _ _ (by exact e),ZE _ _ _ _ (by exact e),ZE _ _ _ _ (by exact e),ZE _ _ _ _ (by exact e)]
def y5b (w:World) (o:Int) (q:Rat) (z:List Rat) (k:Nat) (e:Ending) (w':World):Prop:=∃(P D:Int) (Z:OA) (n c:Nat),e=.returned (.agg #[.int .i64 o,.int .i64 P,.int .i64 D,(Z,n,c)])/\((o=1/\P=q.num/\D=(q.den:Int)/\n=k/\FracsZ w' 0 (Z,k,c) z)\/(o≠1/\n=0))/\Below w w w'
namespace Zr
def y6E(aC:OA)(nC cC:Nat)(cost:List Int)(j:OA)(m k:Nat)(R:List Value)(rows:List ZRow)(w:World)(f:IntsZ w 0 (aC,nC,cC) cost)(I:ZRows w 0 (j,m,k) R rows)(F:SmallP nC cost rows)(N:Nat)(hN:N=nC+cnt (toP rows) rows.length) :
  Calls prog 10 #[.agg #[(aC,nC,cC),(j,m,k)]] w (y5b w (y3f (y2C rows) (y29 rows) (cf (y3a cost rows)) N) (y1j N (cf (y3a cost rows)) (el (y5e (y2C rows) (y29 rows) (cf (y3a cost rows)) N nC))) ((y5e (y2C rows) (y29 rows) (cf (y3a cost rows)) N nC).take nC) nC):=by
 obtain rfl:m=rows.length:=I.nlen;have b:=un F.tabs;rw[<-hN]at b;have bG:=F.nr;have dK:=F.nc;have dG:=b.o.n7;have ay:nC<=N:=ω;have ab:=un (fun(w:World) (f:IntsZ w 0 (aC,nC,cC) cost) (I:ZRows w 0 (j,rows.length,k) R rows)=>y6u aC nC cC cost j rows.length k R rows w f I ω ω (λp h=>by rw[F.co p h];omega) F.kd);unfold y3c at ab;rw[<-hN]at ab;have bf:=un (show(y2C rows).length<=4 by rw[y2L];omega);clear F hN;generalize hmm:rows.length=m at *
 have dF:=un hmm;clear hmm;generalize y2C rows=A at *
 generalize y29 rows=B at *
 generalize y3a cost rows=cs at *
 refine μ8 (λz (r:z∈y1k A B N)=>y1w b.o.ent b.o.bnd bf.o r) (λz (r:z∈y1k A B N)=>(show z.length=N from(Dz.points_fit b.o.rows r).1)) (fun(w:World) (aA:OA) (cA:Nat) (lA:List Value) (aB:OA) (cB:Nat) (aC:OA) (cC:Nat) (E:TabZ w 0 (aA,m,cA) lA A) (a:IntsZ w 0 (aB,m,cB) B)=>y4k aA m cA lA A aB cB B aC N cC cs (nC:Int) w E a b.o) (fun(w:World) (aA:OA) (cA:Nat) (lA:List Value) (aB:OA) (cB:Nat) (aC:OA) (cC:Nat) (E:TabZ w 0 (aA,m,cA) lA A) (f:IntsZ w 0 (aC,N,cC) cs)=>y5S aA m cA lA A aB cB B aC N cC cs (nC:Int) w E f b.o bG) (show y3f A B (cf cs) N=if y1k A B N=[]then 2 else if y1E A (cf cs) N=true then 3 else 1 from rfl) (show y5e A B (cf cs) N nC=y1s (λz=>y1j N (cf cs) (el z)) nC (y1k A B N) ((y1k A B N).length-1)from rfl) (λi (h:i<(y1k A B N).length)=>y2f (λz=>y1j N (cf cs) (el z)) nC h) b.o.cost λV aq bs bn X HV am ao=>?_;generalize y1E A (cf cs) N=fb at *
 generalize y3f A B (cf cs) N=o at *
 generalize y5e A B (cf cs) N nC=dv at *
 generalize y1k A B N=pz at *
 clear b;obtain⟨W,u⟩:∃W,((w.alloc (.cells #[(aC,nC,cC),(j,m,k)] 44)).alloc (.cells #[.int .i64 0,.int .i64 0,.int .i64 0,()] 39))=W:=⟨_,rfl⟩
 refine μ6 (show θ W w.heap.size #[(aC,nC,cC),(j,m,k)] 44by rw[<-u];exact zak (zam σ)) (show θ W (w.heap.size+1) #[.int .i64 0,.int .i64 0,.int .i64 0,()] 39by rw[<-u];exact zam σ) (show Below w w W by rw[<-u];exact(zae w _).alloc σ _) (show w.heap.size+2<=W.heap.size by rw[<-u];simp) (show IntsZ W 0 (aC,nC,cC) cost by rw[<-u];exact((f).alloc _).alloc _) (show ZRows W 0 (j,m,k) R rows by rw[<-u];exact((I).alloc _).alloc _) λaw ax L H HC HR=>?_;obtain⟨bV,b2,bW,bQ⟩:=bc2 aw.o;obtain⟨cg,cd,cz,ca,cb,cj,cm,b6,cn,cv,cV,cH,dx,dn,dk,da⟩:=bf4 ax.o;clear f I;go_enter func10,ntmps10;go_wp2_with fail
 clear u;with_reducible refine(ab.o _ HC.o HR.o).mono ?_
 rintro e w1 ⟨sA,kA,lA,sB,kB,sC,kC,rfl,E,a,f,hb⟩;refine μ7 (show θ (w1.alloc (.cells #[(sA,m,kA),(sB,m,kB),(sC,N,kC),(nC:Int)] 73)) w.heap.size #[(aC,nC,cC),(j,m,k)] 44from zak (zad hb aw.o)) (show θ (w1.alloc (.cells #[(sA,m,kA),(sB,m,kB),(sC,N,kC),(nC:Int)] 73)) (w.heap.size+1) #[.int .i64 0,.int .i64 0,.int .i64 0,()] 39from zak (zad hb ax.o)) (show TabZ (w1.alloc (.cells #[(sA,m,kA),(sB,m,kB),(sC,N,kC),(nC:Int)] 73)) 0 (sA,m,kA) lA A from((E.base (Zb _))).alloc _) (show IntsZ (w1.alloc (.cells #[(sA,m,kA),(sB,m,kB),(sC,N,kC),(nC:Int)] 73)) 0 (sB,m,kB) B from((a.base (Zb _))).alloc _) (show IntsZ (w1.alloc (.cells #[(sA,m,kA),(sB,m,kB),(sC,N,kC),(nC:Int)] 73)) 0 (sC,N,kC) cs from((f.base (Zb _))).alloc _) (show Below w w (w1.alloc (.cells #[(sA,m,kA),(sB,m,kB),(sC,N,kC),(nC:Int)] 73))from((L.o.trans ((hb).mono L.o.size))).alloc ((L.o.trans ((hb).mono L.o.size))).size _) (show θ (w1.alloc (.cells #[(sA,m,kA),(sB,m,kB),(sC,N,kC),(nC:Int)] 73)) w1.heap.size #[(sA,m,kA),(sB,m,kB),(sC,N,kC),(nC:Int)] 73from zam σ) λaL aG HA HB bj aJ aV=>?_;obtain⟨bT,b0,bU,b1⟩:=bc2 aL.o;obtain⟨ce,bZ,cw,b8,ch,bP,ct,cc,b7,ck,cE,cu,dy,dp,dl,db⟩:=bf4 aG.o;obtain⟨cF,cp,cG,cr,cY,cl,bK,bL⟩:=bc4 aV.o;clear E a f hb;go_wp2_with fail
 with_reducible refine(bs.o _ sA kA lA sB kB sC kC HA.o HB.o).mono ?_
 rintro e w2 ⟨O,cO,l,rfl,hO,hb⟩;refine μ7 (zad hb aL.o) (zad hb aG.o) (zad hb aV.o) (HA.o.below hb) (bj.o.below hb) (show PtsZ w2 0 (O,pz.length,cO) l pz from(hO.base (Zb _))) (aJ.o.trans ((hb).mono aJ.o.size)) λaI aN bb bM aE Y ah=>?_;obtain⟨bX,bR,bY,bS⟩:=bc2 aI.o;obtain⟨aO,aK,b5,ci,aS,aH,cx,b9,aT,aM,cW,cI,bc,a6,c7,cU⟩:=bf4 aN.o;obtain⟨cP,cL,cQ,cM,c5,cD,dr,dz⟩:=bc4 bb.o;clear hO hb;generalize hq:pz.length=q at *
 have M:=un hq;have dO:q<=9223372036854775807:=by have h1:=Y.o.form.2.1;have h2:=Y.o.form.2.2.1;unfold maxLen at h2;omega
 clear hq;clear bV b2 bW bQ cg cd cz ca cb cj cm b6 cn cv cV cH dx dn dk da bT b0 bU b1 ce bZ cw b8 ch bP ct cc b7 ck cE cu dy dp dl db cF cp cG cr cY cl bK bL;by_cases J:q=0
 ·have g:=un (show o=2 by rw[X.o,if_pos (Xo.1 (M.o.trans J))]);subst J;go_wp2;refine Zi (v:=.agg #[.int .i64 2,.int .i64 0,.int .i64 0,()]) (by simp[results,results10,go_sem,aO,aK,aS,aH,aT,aM,bc,a6]) rfl ?_;exact⟨0,0,none,0,0,by rw[g.o],.inr ⟨by rw[g.o];decide,rfl⟩,bsc (bsc (bsc (bsc ah.o)))⟩
 have aa:=un J;have ar:=un (show ¬pz=[]from λe=>J (by rw[<-M.o,e];rfl));have dL:((q:Int) == 0)=false:=by simp;omega
 clear J;go_wp2_with fail
 with_reducible refine(bn.o _ sA kA lA sB kB sC kC bM.o aE.o).mono ?_
 rintro e w3 ⟨rfl,hb⟩;refine μ6 (zad hb aI.o) (zad hb aN.o) (zad hb bb.o) (aE.o.below hb) (Y.o.below hb) (ah.o.trans ((hb).mono ah.o.size)) λaP a3 be bJ ag ai=>?_;obtain⟨cJ,b3,cK,b4⟩:=bc2 aP.o;obtain⟨a8,a1,dj,c1,a9,a2,df,c2,ba,a4,dg,c3,bd,a7,dm,dc⟩:=bf4 a3.o;obtain⟨dB,dt,dC,du,dD,dw,dE,dA⟩:=bc4 be.o;clear hb;clear bX bR bY bS aO aK b5 ci aS aH cx b9 aT aM cW cI bc a6 c7 cU cP cL cQ cM c5 cD dr dz;cases fb
 ·have g:=un (show o=1 by rw[X.o,if_neg ar.o,if_neg δ]);obtain⟨T,Q⟩:∃T,pz[0]? = some T:=⟨pz[0]'(by rw[M.o];have:=aa.o;omega),Ze _⟩
  have bw:=un (show y1s (λz=>y1j N (cf cs) (el z)) nC pz 0=T by unfold y1s;rw[Zh,Q];rfl);have bq:=un (aq.o T (Zj Q));obtain⟨bO,rfl,_,_⟩:=ag.o.has (by have:=aa.o;omega);obtain⟨a0,c0,_,G,ae⟩:=ag.o.at_ Q;rw[bq.o]at G ae;have bo:=un ae;have dM:(0:Int)<(q:Int):=by have:=aa.o;omega
  have dN:0<q:=ω;clear ae Q;go_wp2_with fail
  go_loopw [5,6] (λbv iv wr=>∃(i:Nat) (s:OA) (t:Nat),iv=.int .i64 ((i:Int)+1)/\bv=(s,N,t)/\i+1<=q/\FracsZ wr 0 (s,N,t) (y1s (λz=>y1j N (cf cs) (el z)) nC pz i)/\Below w3 w3 wr)
   (λ_ iv _=>q-(intOf iv).toNat)
  case atStart=>exact⟨0,a0,c0,rfl,rfl,ω,by rw[bw.o];exact bo.o,Zl _ _⟩
  rename World=>wr
  obtain⟨i,s,t,rfl,rfl,hi,hZ,a⟩:=hrel;refine μ8 hZ a (zad a aP.o) (zad a a3.o) (zad a be.o) (bJ.o.below a) (ag.o.below a) (ai.o.trans ((a).mono ai.o.size)) λH ak aQ aU a5 aF bN aY=>?_;obtain⟨d0,dS,d1,dT⟩:=bc2 aQ.o;obtain⟨d6,dW,d2,dY,d7,dX,d3,dZ,et,ea,ef,d9,ex,ej,ei,d8⟩:=bf4 aU.o;obtain⟨eu,eb,ev,ec,di,ek,ds,ep⟩:=bc4 a5.o;clear hZ a;clear cJ b3 cK b4 a8 a1 dj c1 a9 a2 df c2 ba a4 dg c3 bd a7 dm dc dB dt dC du dD dw dE dA;clear G;by_cases bF:i+1<q
  ·obtain⟨z,r⟩:∃z,pz[i+1]? = some z:=⟨pz[i+1]'(by rw[M.o];exact bF),Ze _⟩
   have av:=un (Zj r);have bh:=un (am.o i ω);have an:=un (show y1s (λz=>y1j N (cf cs) (el z)) nC pz (i+1)=if y2x (λz=>y1j N (cf cs) (el z)) nC z (y1s (λz=>y1j N (cf cs) (el z)) nC pz i)=true then z else y1s (λz=>y1j N (cf cs) (el z)) nC pz i by
    conv=>lhs;unfold y1s
    rw[show pz.getD (i+1) []=z by rw[Zh,r];rfl])
   obtain⟨aX,cX,_,G,P⟩:=bN.o.at_ r;rw[aq.o z av.o]at G P;have br:=un (y6h sC N kC cs nC aX cX z s t (y1s (λz=>y1j N (cf cs) (el z)) nC pz i) wr.drew aF.o.drew P.drew H.o.drew ao.o (V.o z av.o) (V.o _ bh.o) ay ω);have bp:=un P;generalize y2x (λz=>y1j N (cf cs) (el z)) nC z (y1s (λz=>y1j N (cf cs) (el z)) nC pz i)=lb at *
   have dI:(i:Int)+1<(q:Int):=ω;have dH:(0:Int)<=(i:Int)+1:=ω;clear P r;go_upto_region 11 with fail
   have dR:=zaa G;refine wp_region_noPanic ?_;refine wp_region_held_drew (S:=λw'=>χ w' w1 2 (sC,N,kC)/\χ w' w1 3 (.int .i64 (nC:Int))/\χ w' bO (i+1) (aX,N,cX)) ξ kp λhHeld=>?_;refine zaw [0,1,2,3,4,5,6,7,8] ?_;repeat refine tkH hHeld ?_
   refine zao ?_;refine wpAnyH_ready (rs:=[9]) ξ σ ?_;refine AllReadyH.cons rfl (λK n=>?_) AllReadyH.nil;go_simp;(go_at_call 42;(with_reducible refine br.o.mono ?_);rintro e w5 ⟨rfl,hb⟩;have C:=un (It.bdrew0' hb);have u0:=zab C.o di;have u1:=zab C.o ds;have u2:=zab C.o G;clear hb);(try go_wp2_with fail);refine n.o _ _ kp λhHeld=>?_;clear n K;try simp only[Act.put,pu1,pu2,pu3,pu4,pu5,pu6]
   refine wpAnyH_done ξ ?_ _;refine NoPanic.normal ?_;have al:=un (ak.o.trans (C.o.mono ak.o.size));cases lb
   ·have U:=un (show y1s (λz=>y1j N (cf cs) (el z)) nC pz (i+1)=y1s (λz=>y1j N (cf cs) (el z)) nC pz i from an.o);go_wp2_with fail
    go_roundw
    case rel=>exact⟨i+1,s,t,by go_num,rfl,ω,by rw[U.o];exact H.o.below C.o,al.o⟩
    case measure=>simp[intOf];omega
   have U:=un (show y1s (λz=>y1j N (cf cs) (el z)) nC pz (i+1)=z from an.o);go_wp2_with fail
   go_roundw
   case rel=>exact⟨i+1,aX,cX,by go_num,rfl,ω,by rw[U.o];exact bp.o.below C.o,al.o⟩
   case measure=>simp[intOf];omega
  obtain rfl:q=i+1:=ω;have ap:=un (show dv=y1s (λz=>y1j N (cf cs) (el z)) nC pz i from HV.o);have au:=un (show FracsZ wr 0 (s,N,t) dv by rw[ap.o];exact H.o);have bm:=un (show y14 dv by rw[ap.o];exact V.o _ (am.o i ω));obtain⟨Z,c9,dP,hcut⟩:=y45 H.o nC ay;have bl:=un hcut;clear hcut;have bk:=un (y4F sC N kC cs s t dv wr.drew aF.o.drew au.o.drew ao.o bm.o ω);generalize y1j N (cf cs) (el dv)=cq at *
  have dJ:¬((i:Int)+1<((i+1:Nat):Int)):=ω;go_upto_region 13 with fail
  refine zaS (S:=λw'=>χ w' w1 2 (sC,N,kC)/\χ w' w1 3 (.int .i64 (nC:Int))) [9] (h:=λhHeld=>?_);refine zaw [0,1,2,4,5,6,7] ?_;repeat refine tkL hHeld ?_
  refine zao ?_;refine zaB 3 (h:=λK n=>?_);go_simp;(go_at_call 43;(with_reducible refine(bk.o).mono ?_);rintro e w6 ⟨rfl,hb⟩;refine μ5 (zad hb aQ.o) (zad hb aU.o) (zad hb a5.o) (show FracsZ w6 0 (Z,nC,c9) (dv.take nC)from((bl.o _ _ _ au.o).drew.below hb)) (aY.o.trans ((It.bdrew0' hb).mono aY.o.size)) λcy aW c8 bx cN=>?_;obtain⟨d4,dU,d5,dV⟩:=bc2 cy.o;obtain⟨dd,cS,eq,ed,de,cT,er,ee,dh,c4,es,eg,dq,c6,ew,eh⟩:=bf4 aW.o;obtain⟨ez,em,eA,en,eB,eo,eC,ey⟩:=bc4 c8.o;clear hb);(try go_wp2_with fail);refine shutOn n λhHeld=>?_;clear n K;refine zaw [8] ?_;repeat refine tkL hHeld ?_
  refine zao ?_;refine zay 9 (h:=λK n=>?_);go_simp;refine shutOff n ?_;clear n K;refine zaM (h:=?_);go_wp2;refine Zi (v:=.agg #[.int .i64 1,.int .i64 cq.num,(cq.den:Int),(Z,nC,c9)]) (by simp[results,results10,go_sem,dd,cS,de,cT,dh,c4,dq,c6]) rfl ?_;have bz:=aW;exact⟨cq.num,(cq.den:Int),Z,nC,c9,by rw[g.o],.inl ⟨g.o,rfl,rfl,rfl,y3M bx.o bz.o δ _ _ _ _ rfl⟩,bsc (bsc (bsc (bsc cN.o)))⟩
 have g:=un (show o=3 by rw[X.o,if_neg ar.o,if_pos rfl]);go_wp2;refine Zi (v:=.agg #[.int .i64 3,.int .i64 0,.int .i64 0,()]) (by simp[results,results10,go_sem,a8,a1,a9,a2,ba,a4,bd,a7]) rfl ?_;exact⟨0,0,none,0,0,by rw[g.o],.inr ⟨by rw[g.o];decide,rfl⟩,bsc (bsc (bsc (bsc ai.o)))⟩
end Zr
open Dz (Fz y1j y1k y1s y2f y1w)
def y6i{q:Rat}(h:Fz q):mw q<=1:=by
 have e:q=fr q.num (q.den:Int):=by rw[zDB (by have:=q.den_nz;omega)];exact(Rat.num_divInt_den q).symm
 rw[e];exact zH7 ⟨by have:=h.1;omega,by have:=h.1;omega⟩ ⟨by have:=h.2;omega,by have:=h.2;omega⟩
def y5Q{own:Nat}{A:List (List Int)}{B cs:List Int}(h:SmallZ m N A B cs)(b:A.length<=4)(a:y3f A B (cf cs) N=1):y5e A B (cf cs) N own∈y1k A B N/\Fz (y1j N (cf cs) (el (y5e A B (cf cs) N own))):=by
 have f:y1k A B N≠[]:=λe=>by unfold y3f at a;rw[if_pos e]at a;exact absurd a δ
 have hi:=y2f (λz=>y1j N (cf cs) (el z)) own (i:=(y1k A B N).length-1) (ps:=y1k A B N) (by have:=List.length_pos_iff.2 f;omega);exact⟨hi,(y1w h.ent h.bnd b hi).sum (c:=λj=>cs.getD j 0) (λj=>Dz.getD_abs h.cost j) (n:=N) (by have:=h.n7;omega)⟩
def SmallP.good1{cost:List Int}{rows:List ZRow}(h:SmallP nC cost rows):Good1 nC rows.length (y6C cost) (toP rows):=by
 have a:∀xs:List Int,(∀x∈xs,x.natAbs<=9)->∀q∈y6C xs,mw q<=1:=λxs e q a=>by obtain⟨x,f,rfl⟩:=ZH.1 a;exact zu9 x (by have:=e x f;constructor<;>omega)
 refine⟨by have:=h.nc;omega,by have:=h.nr;omega,a _ h.ec,λp b=>?_,λp b=>?_⟩;obtain⟨r,hr,rfl⟩:=ZH.1 b;refine⟨?_,a _ (h.er r hr).1,zu9 r.rhs (by have:=(h.er r hr).2;constructor<;>omega)⟩;show(y6C r.coef).length=nC
 rw[y6x,h.co r hr];obtain⟨r,hr,rfl⟩:=ZH.1 b;have:=h.kd r hr;show 1<=r.kind/\r.kind<=3
 omega
section
variable {nC m own:Nat} {cost x y d:List Rat} {rows:List PRow} {A:List (List Int)} {B:List Int} {c:Nat->Rat} (h:Rows nC rows) (hs:Shape nC rows) (D:DocP nC m cost rows A B c)
include h hs D
theorem y5r(f:yeG nC cost rows x y=true):y3f A B c (nC+cnt rows m)=1/\y1j (nC+cnt rows m) c (el (y5e A B c (nC+cnt rows m) own))=dot cost x:=by
 have a:=D.lc;unfold yeG at f;rw[Z5,Z5,decide_eq_true_iff]at f;obtain⟨o,hf,r⟩:=f;have t:x.length=nC:=by rw[(ydT.1 hf).1,a]
 have n:=(ywY hs a t).1 hf;have p:=(yei o).2;have q:∀z,ywM nC rows z->ywA nC cost (el x)<=ywA nC cost z:=λz b=>by have s:znD cost rows (asL nC z)=true:=(ywY hs a (yxw _ _)).2 (yxf (λj hj=>(yxv z hj).symm) b);have:=weak h hs.kd a p s;rw[r,ywX a,ywX a,yw9 (x:=el (asL nC z)) λj hj=>yxv z hj]at this;exact this
 obtain⟨h1,i,z,b,l⟩:=y4J D n q;refine⟨h1,?_⟩;have g:y1k A B (nC+cnt rows m)≠[]:=λe=>by rw[e]at b;cases b
 rw[ywX a];refine Rat.le_antisymm ?_ (i _ (y2f _ _ ?_));rw[<-l];exact y3R (k:=λz=>y1j (nC+cnt rows m) c (el z)) g b;have:=List.length_pos_iff.2 g;omega
theorem y5q(a:yeD nC rows y=true):y3f A B c (nC+cnt rows m)=2:=y4K D λz f=>by have e:=D.lc;unfold yeD at a;rw[Z5]at a;have b:znD cost rows (asL nC z)=true:=(ywY hs e (yxw _ _)).2 (yxf (λj hj=>(yxv z hj).symm) f);rw[yeq h hs.kd e a.2]at b;cases b
theorem y5s(b:yey cost rows x d=true):y3f A B c (nC+cnt rows m)=3:=y3Y D λM=>by
 have a:=D.lc;have r:dot cost d<0:=(yec.1 b).2.2;have l:x.length=cost.length:=(ydT.1 (yec.1 b).1).1;have o:d.length=cost.length:=by have:=(ydT.1 (yec.1 b).2.1).1;simpa using this
 -- so far that it costs less than M
 have hi:=YL.2 (show(0:Rat) < -dot cost d by grind);have f:=Rat.mul_inv_cancel _ (show -dot cost d≠0 by grind);have abs:∃k:Rat,0<k/\dot cost x-M<k:=by by_cases q:dot cost x-M<1;exact⟨1,δ,q⟩;exact⟨dot cost x-M+1,ψ,ψ⟩
 obtain⟨k,hk,p⟩:=abs;have i:=Rat.mul_pos hk hi;have hf:=(yeU h a hs.kd b i).1;have n:(zly x (k*(-dot cost d)⁻¹) d).length=nC:=by rw[zdt ω,l,a]
 refine⟨_,(ywY hs a n).1 hf,?_⟩;have e:∀t:Rat,ywA nC cost (el (zly x t d))=dot cost x+t*dot cost d:=λt=>by rw[ywX a,ywX a];unfold ywA;rw[zaj (g:=λj=>el cost j*(el x j+t*el d j)) λj hj=>by rw[zuD _ ω ω]];rw[<-za7,<-zcm];exact zaj λj _=>ψ
 rw[e,show k*(-dot cost d)⁻¹*dot cost d = -(k*(-dot cost d*(-dot cost d)⁻¹))by grind,f];grind
end
def Good1.good{nc nr:Nat}(h:Good1 nc nr cost rows):Good nc nr cost rows :=
 ⟨Zf h.hc δ,h.hr,λq b=>Zf (h.sc q b) δ,λp a=>⟨(h.rw_ p a).1,λq b=>Zf ((h.rw_ p a).2.1 q b) δ,Zf (h.rw_ p a).2.2 δ⟩,h.kd⟩
def Sol.sx(h:Sol nC m cost rows 1 o X Y Z)(hm:m<=4):∀q∈X,mw q<=1000000:=λq a=>Zf (h.zx q a) (zVF m hm)
def Sol.sy(h:Sol nC m cost rows 1 o X Y Z)(hm:m<=4):∀q∈Y,mw q<=1000000:=λq a=>Zf (h.zy q a) (zVF m hm)
def Sol.sz(h:Sol nC m cost rows 1 o X Y Z)(hm:m<=4):∀q∈Z,mw q<=1000002:=λq a=>Zf (h.zz q a) (by have:=zVF m hm;omega)
def yfg{xs:List Rat}(h:∀q∈xs,mw q<=1000002):Sm xs:=λq a=>Zf (h q a) δ
open Dz (Fz y1j)
section
variable {nC m:Nat} {cost x y d:List Rat} {rows:List PRow} (h:Rows nC rows) (hs:Shape nC rows) (hc:cost.length=nC)
include h hs hc
theorem y3t:(yeG nC cost rows x y=true/\yeD nC rows y=false/\yey cost rows x d=false)\/(yeG nC cost rows x y=false/\yeD nC rows y=true/\yey cost rows x d=false)\/(yeG nC cost rows x y=false/\yeD nC rows y=false/\yey cost rows x d=true)\/(yeG nC cost rows x y=false/\yeD nC rows y=false/\yey cost rows x d=false):=by cases hi:yeD nC rows y;cases hu:yey cost rows x d;cases yeG nC cost rows x y;exact .inr (.inr (.inr ⟨rfl,rfl,rfl⟩));exact .inl ⟨rfl,rfl,rfl⟩;exact .inr (.inr (.inl ⟨yeH (.inl (yeE h hc hs.kd hu)),rfl,rfl⟩));obtain⟨_,a,_⟩:=yeF (x:=x) (z:=y) h hc hs.kd hi;obtain⟨_,_,b⟩:=yeF (x:=x) (z:=d) h hc hs.kd hi;exact .inr (.inl ⟨a,rfl,b⟩)
theorem y40{S:Nat}(g:rows.length=m)(hS:Sol nC m cost rows S o X Y Z):(o=1/\yeG nC cost rows X Y=true/\yeD nC rows Y=false/\yey cost rows X Z=false)\/(o=2/\yeG nC cost rows X Y=false/\yeD nC rows Y=true/\yey cost rows X Z=false)\/(o=3/\yeG nC cost rows X Y=false/\yeD nC rows Y=false/\yey cost rows X Z=true):=by
 have one:=y3t (x:=X) (y:=Y) (d:=Z) h hs hc;rcases hS.shows with ⟨f,⟨a,v,hf,b,s⟩,_⟩ | ⟨f,_,⟨a,b,n⟩,_⟩ | ⟨f,_,v,hf,u,t,hw,b⟩
 have e:yeG nC cost rows X Y=true:=by unfold yeG yep;rw[yw3 h hc g a b,hf,ZG (show Y.length=rows.length by rw[a.ly,g]),ZG (show sb Y rows=dot cost X from s.symm)];rfl
 rw[e]at one ⊢;simp at one;exact .inl ⟨f,rfl,one⟩;have e:yeD nC rows Y=true:=by unfold yeD;rw[ZG (show Y.length=rows.length by rw[a.ly,g]),(yem h).2 ⟨λj hj=>by have:=b j hj;rw[<-g]at this;exact this,λk hk=>?_,n⟩];rfl;have s1:=a.s1 k ω;have s2:=a.s2 k ω;unfold zIc;by_cases i:(rows.getD k default).kind=1;rw[ZG i,ZJ (XP.2 (s1 i)),ZJ (show ¬(rows.getD k default).kind=2 by rw[i];decide)];rfl;rw[ZJ i];by_cases k2:(rows.getD k default).kind=2;rw[ZG k2,ZJ (XP.2 (s2 k2))];rfl;rw[ZJ k2];rfl
 rw[e]at one ⊢;simp at one;exact .inr (.inl ⟨f,one.1,rfl,one.2⟩)
 have e:yey cost rows X Z=true:=by
  refine yec.2 ⟨hf,ydT.2 ⟨by rw[u,hc],t,λp n=>?_⟩,b⟩;obtain⟨q,r,rfl⟩:=ZH.1 n;have k:=hs.kd q r;obtain⟨w1,z,C⟩:=hw q r;have l:zdp ⟨q.coef,q.kind,0⟩ Z=dot q.coef Z:=by unfold zdp;show dot q.coef Z-0=_;grind
  refine(yel (p:=⟨q.coef,q.kind,0⟩) k).2 ⟨λe=>?_,λe=>?_,λe=>?_⟩;rw[l];exact w1 e;rw[l];exact z e;rw[l];exact C e
 rw[e]at one ⊢;simp at one;exact .inr (.inr ⟨f,one.1,one.2,rfl⟩)
end
end Go.Proofs.YtbpjabgfcbjjmaaGreat
namespace Go.Proofs.YtbpjabgfcbjjmaaGreat
open Go.RowKit Am Go.Proofs.Tryz
attribute [local go_sem ↓] Go.wp_at_zero Go.wp_at_succ
variable {y:Int}{cs:List Value}{fuel:Nat}
structure SmallAt (w:World) (A:OA) (ls:List (List Int)):Prop where
  at_:∀(k:Nat) (r:List Int),ls[k]? = some r->r.length=5/\∃b o:Nat,A=some ⟨b,o,none⟩/\∀(j:Nat) (x:Int),r[j]? = some x->χ w b (o+k*5+j) (.int .i8 x)
def SmallAt.below{w w':World}{A:OA}{ls:List (List Int)}(h:SmallAt w A ls)(c:Below w w w'):SmallAt w' A ls:=⟨λk r hk=>by obtain⟨h1,b,o,e,a⟩:=h.at_ k r hk;grind[zab]⟩
def SmallAt.alloc{w:World}{A:OA}{ls:List (List Int)}(h:SmallAt w A ls)(o:Obj):SmallAt (w.alloc o) A ls:=h.below (zae w o)
def SmallAt.drew{w:World}{A:OA}{ls:List (List Int)}(h:SmallAt w A ls):SmallAt w.drew A ls:=h.below (zap w 1)
def y2W (x:Int):Int:=x.tmod 10
def smN (x:Int):Nat:=(x.tmod 4).toNat
def y13 (x:Int):Int:=1+(IntKind.u8.wrap x).tmod 3
def y12 (n:Nat) (cs:List Int):List Int:=(cs.take n).map y2W
def y4s (n:Nat) (r:List Int):ZRow:=⟨(r.take n).map y2W,y13 (r.getD 3 0),y2W (r.getD 4 0)⟩
def y2a (n:Nat) (ls:List (List Int)):List ZRow:=(ls.take 3).map (y4s n)
def y1X(x:Int):(y2W x).natAbs<=9:=by unfold y2W;rw[Int.natAbs_tmod];grind
def y4r{x:Int}(h:0<=x):smN x<=3/\x.tmod 4=(smN x:Int):=by unfold smN;grind
def y25(x:Int):y13 x=1\/y13 x=2\/y13 x=3:=by
 unfold y13;have h0:0<=IntKind.u8.wrap x:=by unfold IntKind.wrap IntKind.signed IntKind.bits;simp;omega
 grind
def y4q(x:Int):1+x%256%3=y13 x:=by
 unfold y13;have h:IntKind.u8.wrap x=x%256:=by rfl
 rw[h,Int.tmod_eq_emod_of_nonneg ω]
def y4t{b:Int}(hc:0<=b)(d e f:Int){ls:List (List Int)}(g:∀r∈ls,r.length=5):SmallP (smN b) (y12 (smN b) [d,e,f]) (y2a (smN b) ls):=by
 have i:=(y4r hc).1;have hm:∀p∈y2a (smN b) ls,∃r∈ls,p=y4s (smN b) r:=λp a=>by obtain⟨r,hr,rfl⟩:=ZH.1 a;exact⟨r,Yj hr,rfl⟩
 refine⟨?_,i,?_,λp a=>?_,λp a=>?_,λx c=>?_,λp a=>?_⟩;unfold y12;rw[ZK,ZI];show min _ 3=_;omega
 unfold y2a;rw[ZK,ZI];omega;obtain⟨r,hr,rfl⟩:=hm p a;show((r.take _).map y2W).length=_
 rw[ZK,ZI,g r hr];omega;obtain⟨r,_,rfl⟩:=hm p a;exact y25 _;obtain⟨y,_,rfl⟩:=ZH.1 c;exact y1X y;obtain⟨r,_,rfl⟩:=hm p a;exact⟨λx c=>by obtain⟨y,_,rfl⟩:=ZH.1 c;exact y1X y,y1X _⟩
def y3Q (w:World) (nC:Nat) (cost:List Int) (rows:List ZRow) (e:Ending) (w':World):Prop:=∃(aC:OA) (cC:Nat) (aR:OA) (cR:Nat) (lR:List Value),e=.returned (.agg #[(aC,nC,cC),(aR,rows.length,cR)])/\IntsZ w' w (aC,nC,cC) cost/\ZRows w' w.heap.size (aR,rows.length,cR) lR rows/\Below w w w'
def y5x(h:y.natAbs<=9):IntKind.i8.wrap y=y:=by unfold IntKind.wrap IntKind.signed IntKind.bits;simp;omega
def y50(h:0<=y)(a:y<=9):IntKind.u8.wrap y=y:=by unfold IntKind.wrap IntKind.signed IntKind.bits;simp;omega
def i64_in(h:y.natAbs<=1000):IntKind.i64.wrap y=y:=y1v ω
namespace Lw
def y6q(z q s u:Int)(A:OA)(e P:Nat)(ls:List (List Int))(w:World)(hl:SmallAt w A ls)(hn:e=ls.length)(h0:0<=z)(hb:e<=9223372036854775807) :
  Calls prog 11 #[.agg #[.int .u8 z,.int .i8 q,.int .i8 s,.int .i8 u,(A,e,P)]] w (y3Q w (smN z) (y12 (smN z) [q,s,u]) (y2a (smN z) ls)):=by
 refine μ3 hl hn (show ∀j,j<3->∃x,[q,s,u][j]? = some x from λj hj=>⟨_,Ze (by simpa using hj)⟩) λHL bp bk=>?_;obtain⟨ce,bX⟩:=y4r h0;generalize smN z=n at *
 have ci:IntKind.u8.wrap (n:Int)=(n:Int):=y50 ω ω;have cj:IntKind.i64.wrap (n:Int)=(n:Int):=i64_in ω;clear hl hn;obtain⟨W,hW⟩:∃W,((w.alloc (.cells #[.int .u8 z,.int .i8 q,.int .i8 s,.int .i8 u,(A,e,P)] 26)).alloc (.cells #[(),()] 44))=W:=⟨_,rfl⟩
 refine μ3 (show θ W w.heap.size #[.int .u8 z,.int .i8 q,.int .i8 s,.int .i8 u,(A,e,P)] 26by rw[<-hW];exact zak (zam σ)) (show θ W (w.heap.size+1) #[(),()] 44by rw[<-hW];exact zam σ) (show Below w w W by rw[<-hW];exact(zae w _).alloc σ _) λaa aS X=>?_;obtain⟨cv,cz,cw,cs,cE,cK,cY,cT,c3,cV⟩:=bc5 aa.o;obtain⟨cJ,cH,cS,cD,cF,cM,cN,cA⟩:=bf2 aS.o;go_enter func11,ntmps11;go_wp2_with fail
 clear hW
 go_loopw [5] (λjv wr=>∃(j:Nat) (c:OA) (d:Nat),jv=.int .i64 j/\j<=n/\θ wr W.heap.size #[.slice c j d,()] 44/\IntsZ wr W.heap.size (.slice c j d) (y12 j [q,s,u])/\Below W.heap.size W wr)
  (λjv _=>n-(intOf jv).toNat)
 case atStart=>exact⟨0,none,0,rfl,Zb _,zal _ _ _,IntsZ.nil _ _,zae W _⟩
 rename World=>wr
 obtain⟨j,c,d,rfl,hj,hk,F,E⟩:=hrel;refine μ4 hk F F.len E λKP HI bn I=>?_;have ca:W.heap.size<wr.heap.size:=(ZU.1 hk).1;clear hk F E;by_cases b9:j<n
 ·obtain⟨x,B⟩:=bk.o j ω;have HT:=un (show y12 (j+1) [q,s,u]=y12 j [q,s,u]++[y2W x]from y1D B);have G:χ W w (1+j) (.int .i8 x):=by rw[zac aa.o];rcases(show j=0\/j=1\/j=2 by omega)with rfl | rfl | rfl<;>(simp at B;subst B;rfl)
  have U:=y1X x;have a1:x.tmod 10=y2W x:=rfl;generalize y2W x=y at *
  have a2:=y5x U;have a3:IntKind.i64.wrap y=y:=i64_in ω;have y1:=zab I.o G;obtain⟨k0,aD,aG,aH,k1,aF,aI,aJ⟩:=bf2 KP.o;have cr:=zaa y1;have b3:(j:Int)<(n:Int):=ω;have b2:(j:Int)<3:=ω;have b1:(0:Int)<=(j:Int):=Zg _;clear B;go_upto_region 6 with fail
  refine zaS (S:=λw'=>χ w' W.heap.size 0 (.slice c j d)/\χ w' w (1+j) (.int .i8 x)) [11] (h:=λhHeld=>?_);refine zaw [0,1,2,3,4,5,6,7] ?_;repeat refine tkL hHeld ?_
  refine zao ?_;refine zaB 8 (h:=λK b=>?_);go_simp;refine shutOn b λhHeld=>?_;clear b K;refine zaB 9 (h:=λK b=>?_);(refine wps rfl (λK T=>y1n (N:=j+1) _ _ rfl rfl (HI.o.drew.alloc _) rfl (ys:=[y]) (y19 (zal _ _ _) rfl) (by rw[<-bn.o]) ω (by simp;omega) K T) ?_;rintro _ w7 ⟨A7,c7,rfl,hI7,hk7,hb7,hf7,ho7⟩;refine μ3 hI7 ((bdrew (Xn I.o I.o.size _)).trans hb7) (hk7.blk (zak KP.o) δ) λam D ap=>?_;obtain⟨v0,a7,a9,ba,v1,a8,bb,bc⟩:=bf2 ap.o;have u1:=zab D.o G;clear hI7 hk7 hb7 hf7 ho7);refine shutOn b λhHeld=>?_;clear b K;refine zaw [10] ?_;repeat refine tkL hHeld ?_
  refine zao ?_;refine zay 11 (h:=λK b=>?_);go_simp;refine shutOff b ?_;clear b K;refine zaM (h:=?_);go_wp2_with fail
  go_roundw
  case rel=>exact⟨j+1,A7,c7,by go_num,ω,zar _ ap.o,by rw[HT.o];exact am.o.tk (TKeep.set ap.o (o:=0) _) δ,bsc (p:=⟨W.heap.size,0,none⟩) D.o (Za _)⟩
  case measure=>simp[intOf];omega
 obtain rfl:j=n:=ω;obtain⟨M,hM⟩:∃M,(ls.take 3).length=M:=⟨_,rfl⟩
 have HM:=un hM;have bV:M<=3/\M<=e/\(M=3\/M=e):=by rw[<-hM,ZI,<-bp.o];omega
 clear hM;go_wp2_with fail
 go_loopw [6] (λkv a=>∃(k:Nat) (g:OA) (l:Nat) (V:List Value),kv=.int .i64 k/\k<=M/\θ a W.heap.size #[.slice c j d,(g,k,l)] 44/\IntsZ a W.heap.size (.slice c j d) (y12 j [q,s,u])/\ZRows a W.heap.size (g,k,l) V (((ls.take 3).take k).map (y4s j))/\Below W.heap.size W a)
  (λkv _=>M-(intOf kv).toNat)
 case atStart=>exact⟨0,none,0,[],rfl,Zb _,KP.o,HI.o,ZRows.nil _ _,I.o⟩
 rename World=>a
 obtain⟨k,g,l,V,rfl,hk,ax,F,hR,E⟩:=hrel;refine μ5 ax F hR hR.nlen E λKQ al aO bt m=>?_;have cd:W.heap.size<a.heap.size:=(ZU.1 ax).1;have q4:χ W w 4 (A,e,P):=zac aa.o 4;have y4:=zab E q4;clear ax F hR E KP HI I;have b4:(0:Int)<=(k:Int):=Zg _;by_cases bE:k<M
 ·obtain⟨r,hr⟩:∃r,(ls.take 3)[k]? = some r:=⟨(ls.take 3)[k]'(by rw[HM.o];exact bE),Ze _⟩
  have HT:=un (y1D (f:=y4s j) hr);have a0:ls[k]? = some r:=by rw[Ys]at hr;split at hr;exact hr;cases hr
  obtain⟨az,bL,oL,rfl,aW⟩:=HL.o.at_ k r a0;have bq:=un az;have aj:=un (λj (hj:j<5)=>show χ W bL (oL+k*5+j) (.int .i8 (r.getD j 0))from zab X.o (aW j _ (zaO (by rw[az];exact hj))));have b7:(k:Int)<(e:Int):=ω;have bC:(k:Int)<3:=ω;clear hr a0 az aW;go_wp2_with fail
  go_loopw [8] (λiv C=>∃(i:Nat) (O:OA) (cX:Nat),iv=.int .i64 i/\i<=j/\θ C a.heap.size #[(O,i,cX),.int .i64 0,.int .i64 0] 85/\IntsZ C a.heap.size (O,i,cX) ((r.take i).map y2W)/\Below a.heap.size a C)
   (λiv _=>j-(intOf iv).toNat)
  case atStart=>exact⟨0,none,0,rfl,Zb _,zal _ _ _,IntsZ.nil _ _,zae a _⟩
  rename World=>C
  obtain⟨i,O,cX,rfl,hi,ay,hX,ad⟩:=hrel;refine μ4 ay hX hX.len ad λL HX bx ag=>?_;have cc:a.heap.size<C.heap.size:=(ZU.1 ay).1;have ai:=un (m.o.trans (ad.mono m.o.size));have e4:=zab ad y4;have bB:=zaa e4;obtain⟨k0,aD,aG,aH,k1,aF,aI,aJ,k2,a4,a5,a6⟩:=bf3 L.o;clear ay hX ad;by_cases cb:i<j
  ·obtain⟨x,B⟩:∃x,r[i]? = some x:=⟨r[i]'(by rw[bq.o];omega),Ze _⟩
   have bv:=un (y1D (f:=y2W) B);have G:=aj.o i ω;rw[show r.getD i 0=x by rw[Zh,B];rfl]at G;have U:=y1X x;have a1:x.tmod 10=y2W x:=rfl;generalize y2W x=y at *
   have a2:=y5x U;have a3:IntKind.i64.wrap y=y:=i64_in ω;have e1:=zab ai.o G;have bU:=zaa e1;have b0:(i:Int)<(j:Int):=ω;have bZ:(i:Int)<5:=ω;have bY:(0:Int)<=(i:Int):=Zg _;clear B;go_upto_region 14 with fail
   refine zaS (S:=λw'=>χ w' a.heap.size 0 (O,i,cX)/\χ w' w 4 (.slice (some ⟨bL,oL,none⟩) e P)/\χ w' bL (oL+k*5+i) (.int .i8 x)) [14] (h:=λhHeld=>?_);refine zaw [0,1,2,3,4,5,6,7,8,9,10] ?_;repeat refine tkL hHeld ?_
   refine zao ?_;refine zaB 11 (h:=λK b=>?_);go_simp;refine shutOn b λhHeld=>?_;clear b K;refine zaB 12 (h:=λK b=>?_);(refine wps rfl (λK T=>y1n (N:=i+1) _ _ rfl rfl (HX.o.drew.alloc _) rfl (ys:=[y]) (y19 (zal _ _ _) rfl) (by rw[<-bx.o]) ω (by simp;omega) K T) ?_;rintro _ w7 ⟨A7,c7,rfl,hI7,hk7,hb7,hf7,ho7⟩;refine μ3 hI7 ((bdrew (Xn ag.o ag.o.size _)).trans hb7) (hk7.blk (zak L.o) δ) λam D aq=>?_;obtain⟨v0,a7,a9,ba,v1,a8,bb,bc,v2,cn,co,cp⟩:=bf3 aq.o;have u4:=zab D.o y4;have u1:=zab (m.o.trans (D.o.mono m.o.size)) G;clear hI7 hk7 hb7 hf7 ho7);refine shutOn b λhHeld=>?_;clear b K;refine zaw [13] ?_;repeat refine tkL hHeld ?_
   refine zao ?_;refine zay 14 (h:=λK b=>?_);go_simp;refine shutOff b ?_;clear b K;refine zaM (h:=?_);go_wp2_with fail
   go_roundw
   case rel=>exact⟨i+1,A7,c7,by go_num,ω,zar _ aq.o,by rw[bv.o];exact am.o.tk (TKeep.set aq.o (o:=0) _) δ,bsc (p:=⟨a.heap.size,0,none⟩) D.o (Za _)⟩
   case measure=>simp[intOf];omega
  obtain rfl:i=j:=ω;have z3:=zab ai.o (aj.o 3 ω);have z4:=zab ai.o (aj.o 4 ω);have b5:=y25 (r.getD 3 0);have U:=y1X (r.getD 4 0);have a1:(r.getD 4 0).tmod 10=y2W (r.getD 4 0):=rfl;have bu:=un (show y4s i r=⟨(r.take i).map y2W,y13 (r.getD 3 0),y2W (r.getD 4 0)⟩from rfl);have bD:1+(IntKind.u8.wrap (r.getD 3 0)).tmod 3=y13 (r.getD 3 0):=rfl;have b6:=y4q (r.getD 3 0);generalize r.getD 4 0=x4 at *
  generalize r.getD 3 0=x3 at *
  generalize y2W x4=y at *
  generalize y13 x3=kd at *
  obtain⟨t,ht⟩:∃t,(IntKind.u8.wrap x3).tmod 3=t:=⟨_,rfl⟩
  rw[ht]at bD;have a2:=y5x U;have a3:IntKind.i64.wrap y=y:=i64_in ω;have cf:IntKind.u8.wrap t=t:=y50 ω ω;have cg:IntKind.i64.wrap t=t:=i64_in ω;have ch:IntKind.i64.wrap kd=kd:=i64_in ω;go_upto_region 17 with fail
  refine μ3 (show θ ((C.setCell ⟨a.heap.size,1,none⟩ (.int .i64 kd)).setCell ⟨a.heap.size,2,none⟩ (.int .i64 y)) a.heap.size #[(O,i,cX),.int .i64 kd,.int .i64 y] 85from zar _ (zar _ L.o)) ((HX.o.tk (TKeep.set L.o (o:=1) (.int .i64 kd)) δ).tk (TKeep.set (zar _ L.o) (o:=2) (.int .i64 y)) δ) (show Below a.heap.size a ((C.setCell ⟨a.heap.size,1,none⟩ (.int .i64 kd)).setCell ⟨a.heap.size,2,none⟩ (.int .i64 y))from bsc (p:=⟨a.heap.size,2,none⟩) (bsc (p:=⟨a.heap.size,1,none⟩) ag.o (Za _)) (Za _)) λbz bw Y=>?_;clear e4 bB z3 z4 k0 aD aG aH k1 aF aI aJ k2 a4 a5 a6;generalize ((C.setCell ⟨a.heap.size,1,none⟩ (.int .i64 kd)).setCell ⟨a.heap.size,2,none⟩ (.int .i64 y))=w8 at *
  obtain⟨k0,aD,aG,aH,k1,aF,aI,aJ,k2,a4,a5,a6⟩:=bf3 bz.o;have aU:=un (zad Y.o KQ.o);obtain⟨p0,bH,bK,bM,p1,bJ,bN,bO⟩:=bf2 aU.o;refine μ3 (m.o.trans (Y.o.mono m.o.size)) (aO.o.below Y.o) (al.o.below Y.o) λah br bl=>?_;go_wp2_with (at_builtin;go_loud (refine wpl rfl (λK T=>y4C (N:=k+1) _ _ rfl rfl (br.o.alloc _) rfl (r:=⟨(r.take i).map y2W,kd,y⟩) (zal _ _ _) ((bw.o.base (Zb _)).alloc _) (by rw[<-bt.o]) ω (by have:=ah.o.size;simp;omega) K T) ?_;rintro _ w9 ⟨R9,e9,rfl,hR9,hk9,hb9⟩;refine μ4 hR9 (hk9.blk (zak aU.o) δ) ((bl.o.alloc _).tk hk9 δ) ((Xn ah.o ah.o.size _).trans hb9) λbs ac bm bj=>?_;obtain⟨v0,a7,a9,ba,v1,a8,bb,bc⟩:=bf2 ac.o;clear hR9 hk9 hb9))
  go_roundw
  case rel=>exact⟨k+1,R9,e9,_,by go_num,ω,zar _ ac.o,bm.o.tk (TKeep.set ac.o (o:=1) _) δ,by rw[HT.o,bu.o];exact bs.o.tk (TKeep.set ac.o (o:=1) _) δ δ,bsc (p:=⟨W.heap.size,1,none⟩) bj.o (Za _)⟩
  case measure=>simp[intOf];omega
 obtain rfl:k=M:=ω;have an:=un (show ZRows a W.heap.size (g,k,l) V (y2a j ls)by have h:=aO.o;rw[Z2 (Nat.le_of_eq HM.o)]at h;exact h);have Z:=un (show k=(y2a j ls).length from an.o.nlen);obtain⟨p0,bH,bK,bM,p1,bJ,bN,bO⟩:=bf2 KQ.o;refine μ3 (zad m.o aa.o) (zad m.o aS.o) (X.o.trans ((m.o).mono X.o.size)) λbT aM bf=>?_;obtain⟨ct,cx,cu,cy,cC,cI,cZ,cU,c4,cW⟩:=bc5 bT.o;obtain⟨bh,bg,cQ,cB,bi,be,cO,cG⟩:=bf2 aM.o;have af:=X.o.size;by_cases b8:k<e
 ·have bC:¬(k:Int)<3:=ω
  go_wp2;refine Zi (v:=.agg #[.slice c j d,(g,k,l)]) (by simp[results,results11,go_sem,bh,bg,bi,be]) rfl ?_;have J:=aM;have Q:=TKeep.set J.o (o:=0) (.slice c j d);have R:=TKeep.set (zar (o:=0) (.slice c j d) J.o) (o:=1) (g,k,l);exact⟨c,d,g,l,V,by rw[<-Z.o],((al.o.base af).tk Q δ).tk R δ,by rw[<-Z.o];exact((an.o.base af).tk Q δ δ).tk R δ δ,bsc (bsc bf.o)⟩
 skip
 go_wp2;refine Zi (v:=.agg #[.slice c j d,(g,k,l)]) (by simp[results,results11,go_sem,bh,bg,bi,be]) rfl ?_;have J:=aM;have Q:=TKeep.set J.o (o:=0) (.slice c j d);have R:=TKeep.set (zar (o:=0) (.slice c j d) J.o) (o:=1) (g,k,l);exact⟨c,d,g,l,V,by rw[<-Z.o],((al.o.base af).tk Q δ).tk R δ,by rw[<-Z.o];exact((an.o.base af).tk Q δ δ).tk R δ δ,bsc (bsc bf.o)⟩
end Lw
open Go.ChangeShapes Go.WideShapes Go.ChangeAt Go.RowKit Go.Deep
def y42:prog.underlying 23=some (.array 3 22):=ξ
def y5u:prog.underlying 107=some (.array 5 22):=ξ
def y5D:prog.underlying 24=some (.slice 107):=ξ
def y21:prog.underlying 22=some (.int .i8):=ξ
def y6o:prog.underlying 5=some (.int .u8):=ξ
def y3T:prog.cellsOf 22=1:=ξ
def y5n:prog.cellsOf 5=1:=ξ
def y2z:prog.cellsOf 23=3:=ξ
def y2m:prog.cellsOf 107=5:=ξ
def y3K:prog.cellsOf 24=1:=ξ
def y3L:prog.cellsOf 26=5:=ξ
section
variable {H:Type} {enc:TypeId × Value->H} {W:World} {base:Nat} {sp:Nat->Bool} {held:Bool}
def y43{x:DataW H × List MemPlace}(h:DataW.trod enc prog W base sp held fuel 23 cs=some x):∃a b c:Int,cs=[.int .i8 a,.int .i8 b,.int .i8 c]:=by
 obtain⟨ys,l,_,_,j,k,hg⟩:=DataW.trod_array y42 h;rw[y2z]at j
 match cs,j with
 | [c0,c1,c2],_ =>
  have d:=hg 0 ω;have e:=hg 1 ω;have f:=hg 2 ω;rw[y3T]at d e f;rw[Ze (show 0<ys.length by omega)]at d;rw[Ze (show 1<ys.length by omega)]at e;rw[Ze (show 2<ys.length by omega)]at f;obtain⟨a,g,_,_⟩:=XW y21 d;obtain⟨b,i,_,_⟩:=XW y21 e;obtain⟨c,hc,_,_⟩:=XW y21 f;simp at g i hc;exact⟨a,b,c,by rw[g,i,hc]⟩
def y5v{x:DataW H × List MemPlace}(h:DataW.trod enc prog W base sp held fuel 107 cs=some x):∃r:List Int,r.length=5/\cs=r.map λx=>.int .i8 x:=by
 obtain⟨ys,m,_,_,j,l,hg⟩:=DataW.trod_array y5u h;rw[y2m]at j
 match cs,j with
 | [c0,c1,c2,c3,c4],_ =>
  have a:=hg 0 ω;have b:=hg 1 ω;have c:=hg 2 ω;have d:=hg 3 ω;have e:=hg 4 ω;rw[y3T]at a b c d e;rw[Ze (show 0<ys.length by omega)]at a;rw[Ze (show 1<ys.length by omega)]at b;rw[Ze (show 2<ys.length by omega)]at c;rw[Ze (show 3<ys.length by omega)]at d;rw[Ze (show 4<ys.length by omega)]at e;obtain⟨k,h0,_,_⟩:=XW y21 a;obtain⟨a1,h1,_,_⟩:=XW y21 b;obtain⟨a2,f,_,_⟩:=XW y21 c;obtain⟨a3,g,_,_⟩:=XW y21 d;obtain⟨a4,i,_,_⟩:=XW y21 e;simp at h0 h1 f g i;exact⟨[k,a1,a2,a3,a4],rfl,by rw[h0,h1,f,g,i];rfl⟩
def y4U{x:DataW H × List MemPlace}(h:DataW.trod enc prog W base sp held fuel 24 cs=some x):∃(A:OA) (n cp:Nat) (ls:List (List Int)),cs=[.slice A n cp]/\n=ls.length/\SmallAt W A ls/\n<=cp/\cp<=9223372036854775807:=by
 rcases open_slice y5D h with ⟨c,I⟩ | ⟨a,len,cap,m,q,D,M,c,_,z,hm,l,I,g⟩
 exact⟨none,0,0,[],c,rfl,⟨λk y J=>by simp at J⟩,Za _,δ⟩;have L:0<len->a.spot=none:=by intro h0;obtain⟨p,f,_⟩:=g 0 (by rw[l];split<;>omega);rw[y2m]at f;obtain⟨_,P,u⟩:=Vn f;have d:=u 0 ω;rw[Ze (show 0<p.length by omega)]at d;have:=World.cell?_spot d;simpa[Addr.add]using this
 have K:∀i,i<len->∃r:List Int,r.length=5/\∃b o:Nat,some a=some ⟨b,o,none⟩/\∀(j:Nat) (x:Int),r[j]? = some x->χ W b (o+i*5+j) (.int .i8 x):=by
  intro i hi;have v:i<m:=by rw[l];split<;>omega
  obtain⟨N,hc,G⟩:=g i v;rw[y2m]at hc;obtain⟨_,O,t⟩:=Vn hc;obtain⟨r,E,rfl⟩:=y5v G;have F:=L ω;obtain⟨b,o,s⟩:=a;obtain rfl:s=none:=F;refine⟨r,E,b,o,rfl,λj x hj=>?_⟩;have Q:=(ZF.1 hj).1;have e:=t j ω;rw[zmS,zmS,Z1,hj]at e;exact e
 obtain⟨ls,B,C⟩:=zuZ len K;exact⟨some a,len,cap,ls,c,B.symm,⟨C⟩,z,by unfold maxLen at hm;omega⟩
def y4Z{x:DataW H × List MemPlace}(h:DataW.trod enc prog W base sp held fuel 26 cs=some x) :
  ∃(g i e f:Int) (A:OA) (d j:Nat) (ls:List (List Int)),cs=[.int .u8 g,.int .i8 i,.int .i8 e,.int .i8 f,.slice A d j]/\SmallAt W A ls/\d=ls.length/\0<=g/\d<=9223372036854775807:=by
 obtain⟨zs,n,_,v,p,s,hg⟩:=DataW.trod_struct underlying26 h;rw[y3L]at p
 match cs,p with
 | [i,e,f,c3,c4],_ =>
  have k:DataW.trod enc prog W base sp held n 5 ([i,e,f,c3,c4].take (prog.cellsOf 5))=zs[0]?:=hg 0 _ rfl;have l:DataW.trod enc prog W base sp held n 23 ([e,f,c3,c4].take (prog.cellsOf 23))=zs[1]?:=hg 1 _ rfl;have m:DataW.trod enc prog W base sp held n 24 ([c4].take (prog.cellsOf 24))=zs[2]?:=hg 2 _ rfl;rw[y5n]at k;rw[y2z]at l;rw[y3K]at m;have y:zs.length=3:=s;rw[Ze (show 0<zs.length by omega)]at k;rw[Ze (show 1<zs.length by omega)]at l;rw[Ze (show 2<zs.length by omega)]at m;obtain⟨g,h0,_,w0⟩:=XW y6o k;obtain⟨a,b,c,h1⟩:=y43 l;obtain⟨A,d,j,ls,o,q,r,t,u⟩:=y4U m;simp at h0 h1 o;obtain⟨rfl,rfl,rfl⟩:=h1;subst h0 o;exact⟨g,a,b,c,A,d,j,ls,rfl,r,q,by simp[Lit.wf,IntKind.min,IntKind.max,IntKind.signed,IntKind.bits]at w0;omega,ω⟩
end
def y44{rows:List ZRow}{k:Nat}{p:ZRow}(h:rows[k]? = some p):toP (rows.take (k+1))=toP (rows.take k)++[toR p]:=y1D h
namespace Vc
theorem y5T(w:World):Calls prog 37 #[()] w (zq5 w (rats [])):=by
 go_enter func37,ntmps37;go_wp2
 go_loopw [3,8] (λa i wr=>a=()/\i=.int .i64 0/\wr=w)
  (λ_ _ _=>0)
 case atStart=>exact⟨rfl,rfl,rfl⟩
 rename World=>wr
 obtain⟨rfl,rfl,rfl⟩:=hrel;go_wp2;go_ret;exact⟨none,0,0,rfl,VecS.nil _ _,Zl _ _⟩
def ofZ(A:OA)(n c:Nat)(xs:List Int)(w:World)(h:IntsZ w 0 (A,n,c) xs)(hr:∀x∈xs,x.natAbs<=1000)(d:n<=1000):Calls prog 37 #[(A,n,c)] w (zq5 w (rats xs)):=by obtain⟨h1,b,_,⟨rfl,rfl,rfl⟩ | ⟨g,rfl,_,_⟩⟩:=h.form;grind[y5T];exact of g n c xs w h1 (λj x a=>h.at_ a) (λx a=>by have:=hr x a;omega) ω b
end Vc
def y3b (w:World) (nC:Nat) (cost:List Int) (rows:List ZRow) (e:Ending) (w':World):Prop:=∃(C:OA) (cC:Nat) (R:OA) (cR:Nat) (l:List RR),e=.returned (.agg #[(C,nC,cC),(R,rows.length,cR)]) /\
  VecS w' w (C,nC,cC) (y6C cost)/\RowsL w' w (R,rows.length,cR) l (toP rows)/\Apart (C,nC,cC) l/\From w.heap.size l/\Below w w w'
namespace Lw
def y6n(g q s t:Int)(A:OA)(z I:Nat)(ls:List (List Int))(w:World)(L:SmallAt w A ls)(hn:z=ls.length)(h0:0<=g)(c:z<=9223372036854775807) :
  Calls prog 9 #[.agg #[.int .u8 g,.int .i8 q,.int .i8 s,.int .i8 t,(A,z,I)]] w (y3b w (smN g) (y12 (smN g) [q,s,t]) (y2a (smN g) ls)):=by
 have G:=un (y4t h0 q s t (ls:=ls) (λr hr=>by obtain⟨k,hk⟩:=Xh.1 hr;exact(L.at_ k r hk).1));have O:=un (fun(w:World) (L:SmallAt w A ls)=>y6q g q s t A z I ls w L hn h0 c);have cN:=(y4r h0).1;generalize y2a (smN g) ls=rows at *
 generalize y12 (smN g) [q,s,t]=cost at *
 generalize smN g=n at *
 obtain⟨m,hm⟩:∃m,rows.length=m:=⟨_,rfl⟩
 have N:=un hm;have cM:m<=3:=by rw[<-hm];exact G.o.nr
 unfold y3Q at O;unfold y3b;rw[hm]at O ⊢;clear hm hn;obtain⟨W,J⟩:∃W,((w.alloc (.cells #[.int .u8 g,.int .i8 q,.int .i8 s,.int .i8 t,(A,z,I)] 26)).alloc (.cells #[(),()] 33))=W:=⟨_,rfl⟩
 refine μ4 (show θ W w.heap.size #[.int .u8 g,.int .i8 q,.int .i8 s,.int .i8 t,(A,z,I)] 26by rw[<-J];exact zak (zam σ)) (show θ W (w.heap.size+1) #[(),()] 33by rw[<-J];exact zam σ) (show Below w w W by rw[<-J];exact(zae w _).alloc σ _) (show SmallAt W A ls by rw[<-J];exact((L).alloc _).alloc _) λag ah E HL=>?_;obtain⟨bv,bE,bw,bq,bL,bX,cB,cw,cE,cz⟩:=bc5 ag.o;obtain⟨bU,bO,b8,bK,bM,bY,bZ,bG⟩:=bf2 ah.o;clear L;go_enter func9,ntmps9;go_wp2_with fail
 clear J;with_reducible refine(O.o _ HL.o).mono ?_
 rintro e w1 ⟨aC,cC0,aR,cR0,lR,rfl,hC,hR,c⟩;refine μ6 (show θ (w1.alloc (.cells #[(aC,n,cC0),.slice aR m cR0] 44)) w.heap.size #[.int .u8 g,.int .i8 q,.int .i8 s,.int .i8 t,(A,z,I)] 26from zak (zad c ag.o)) (show θ (w1.alloc (.cells #[(aC,n,cC0),.slice aR m cR0] 44)) (w.heap.size+1) #[(),()] 33from zak (zad c ah.o)) (show IntsZ (w1.alloc (.cells #[(aC,n,cC0),.slice aR m cR0] 44)) 0 (aC,n,cC0) cost from((hC.base (Zb _))).alloc _) (show ZRows (w1.alloc (.cells #[(aC,n,cC0),.slice aR m cR0] 44)) 0 (.slice aR m cR0) lR rows from((hR.base (Zb _))).alloc _) (show Below w w (w1.alloc (.cells #[(aC,n,cC0),.slice aR m cR0] 44))from((E.o.trans ((c).mono E.o.size))).alloc ((E.o.trans ((c).mono E.o.size))).size _) (show θ (w1.alloc (.cells #[(aC,n,cC0),.slice aR m cR0] 44)) w1.heap.size #[(aC,n,cC0),.slice aR m cR0] 44from zam σ) λaB ay aT a3 aA aH=>?_;obtain⟨bt,bC,bu,bD,bJ,bQ,cD,cy,cF,cA⟩:=bc5 aB.o;obtain⟨bP,bA,b4,bH,bV,bp,b2,bN⟩:=bf2 ay.o;obtain⟨ca,b0,cb,b1⟩:=bc2 aH.o;clear hC hR;have aS:=un c;clear c;go_wp2_with fail
 with_reducible refine(Vc.ofZ aC n cC0 cost _ aT.o (λx Z=>by have:=G.o.ec x Z;omega) ω).mono ?_
 rintro e d ⟨C,nC,cC,rfl,hv,c⟩;refine μ6 (zad c aB.o) (zad c ay.o) (zad c aH.o) (a3.o.below c) (show VecS d w (C,nC,cC) (rats cost)from(hv.base (Zf E.o.size (Zf aS.o.size σ)))) (aA.o.trans ((c).mono aA.o.size)) λaz aD ac av F ab=>?_;obtain⟨bx,br,bz,bs,ce,b7,cu,ct,cv,cs⟩:=bc5 az.o;obtain⟨bS,bB,bF,bW,bT,bo,b5,bI⟩:=bf2 aD.o;obtain⟨cf,cc,cg,cd⟩:=bc2 ac.o;clear hv c;obtain rfl:nC=n:=by rw[F.o.len];show(cost.map _).length=_;rw[ZK];exact G.o.lc
 replace F:=un (show VecS d w (C,nC,cC) (y6C cost)from F.o)
 go_wp2_with fail
 have cJ:=(ZU.1 ac.o).1;have aU:=F;have V:=un (show w.heap.size<=d.heap.size from ab.o.size)
 go_loopw [5] (λiv wr=>∃(k:Nat) (R:OA) (j:Nat) (l:List RR),iv=.int .i64 k/\k<=m/\θ wr d.heap.size #[(C,nC,cC),(R,k,j)] 33/\RowsL wr d (R,k,j) l (toP (rows.take k))/\Apart (C,nC,cC) l/\From d.heap.size l/\Below d d wr)
  (λiv _=>m-(intOf iv).toNat)
 case atStart=>exact⟨0,none,0,[],rfl,Zb _,zal _ _ _,RowsL.nil _ _,zLa _,zLw _,zae d _⟩
 rename World=>wr
 obtain⟨k,R,j,l,rfl,hk,Y,hL,hA,am,o⟩:=hrel;refine μ4 hA am Y o λHA af ai ae=>?_;have cK:d.heap.size<wr.heap.size:=(ZU.1 Y).1;refine μ8 (zad o az.o) (zad o aD.o) (zad o ac.o) (av.o.below o) (F.o.below o) (show RowsL wr d (R,k,j) l (toP (rows.take k))from hL) (show Bel d wr from Bel.mk o) (ab.o.trans ((o).mono ab.o.size)) λaE D aP bj bl U HW b3=>?_;obtain⟨dS,dA,dT,dB,ef,eb,dr,ew,dq,ex⟩:=bc5 aE.o;obtain⟨cm,ch,ed,d0,cn,ci,ea,d1⟩:=bf2 D.o;obtain⟨ep,eg,eq,eh⟩:=bc2 aP.o;clear hA am Y hL o;clear bv bE bw bq bL bX cB cw cE cz bU bO b8 bK bM bY bZ bG bt bC bu bD bJ bQ cD cy cF cA bP bA b4 bH bV bp b2 bN ca b0 cb b1 bx br bz bs ce b7 cu ct cv cs bS bB bF bW bT bo b5 bI cf cc cg cd;obtain⟨dh,dn,de,dj,di,dp,df,dl⟩:=bf2 ai.o;by_cases bb:k<m
 ·obtain⟨p,M⟩:∃p,rows[k]? = some p:=⟨rows[k]'(by rw[N.o];exact bb),Ze _⟩
  refine μ3 (y44 M) (G.o.er p (Zj M)) (G.o.co p (Zj M)) λHT P a0=>?_;obtain⟨u,rfl,_,cG⟩:=av.o.has ω;obtain⟨aX,cx,_,k0,k1,k2,X⟩:=bj.o.at_ M;rw[a0.o]at k0 X;have aV:=un X;have bc:=zaa k0;have be:=zaa k1;have bf:=zaa k2;have aZ:=un (show(toP (rows.take k)).length=k by rw[y1N,ZI,N.o];omega);have cH:(0:Int)<=(k:Int):=Zg _;have cI:(k:Int)<(m:Int):=ω;have cO:=V.o;clear X M;go_upto_region 6 with fail
  refine za2 (S:=λw'=>χ w' w1 0 (aC,nC,cC0)/\χ w' w1 1 (.slice (some ⟨u,0,none⟩) m cR0)/\χ w' d 0 (C,nC,cC)/\χ w' d 1 (R,k,j)/\χ w' u (k*3) (aX,nC,cx)/\χ w' u (k*3+1) (.int .i64 p.kind)/\χ w' u (k*3+2) (.int .i64 p.rhs)) 26 (h:=λhHeld=>?_);refine zaw [0,1,2,3,4,5,6,7,9,10,11,12,13,14,15,16,17,18,19,20] ?_;repeat refine tkE hHeld ?_
  refine zao ?_;refine zaN 8 (h:=λK f=>?_);go_simp;(go_at_call 37;(with_reducible refine(Vc.ofZ aX nC cx p.coef _ aV.o.drew (λx Z=>by have:=P.o.1 x Z;omega) ω).mono ?_);rintro e u1 ⟨Q,nq,cq,rfl,hv,c⟩;refine μ7 (zad c aE.o) (zad c D.o) (zad c aP.o) (zad c ai.o) (U.o.drew.below c) (HW.o.drew.below c) (show VecS u1 wr.heap.size (Q,nq,cq) (rats p.coef)from hv) λaF aG aK aw bm ck T=>?_;obtain⟨dK,dC,dL,dD,ej,ee,es,el,eu,en⟩:=bc5 aF.o;obtain⟨dQ,dG,dM,dI,dR,dH,dN,dJ⟩:=bf2 aG.o;obtain⟨d8,dW,d9,dX⟩:=bc2 aK.o;obtain⟨du,ds,dd,dk,dv,dt,dg,dm⟩:=bf2 aw.o;have aI:=zab c bc;have cY:=zaa aI;have aJ:=zab c be;have c4:=zaa aJ;have aL:=zab c bf;have c7:=zaa aL;clear hv c);(try go_wp2_with fail);refine shutOn f λhHeld=>?_;clear f K;refine zaN 21 (h:=λK f=>?_);go_simp;(go_at_call 30;(with_reducible refine(Rt.int p.rhs (by have:=P.o.2;omega) (by have:=P.o.2;omega) _).mono ?_);rintro e u2 ⟨g5,A5,m5,c5,D5,md5,cd5,rfl,hv,c⟩;refine μ8 (zad c aF.o) (zad c aG.o) (zad c aK.o) (zad c aw.o) (bm.o.below c) (ck.o.below c) (T.o.below c) (show RatS u2 g5 (A5,m5,c5) (D5,md5,cd5) (p.rhs:Rat)from hv) λb6 b9 cj ax bn aQ bk a2=>?_;obtain⟨dO,dE,dP,dF,ek,ei,et,em,ev,eo⟩:=bc5 b6.o;obtain⟨d6,dU,d4,dY,d7,dV,d5,dZ⟩:=bf2 b9.o;obtain⟨cp,d2,cr,d3⟩:=bc2 cj.o;obtain⟨dy,dw,db,c9,dz,dx,dc,da⟩:=bf2 ax.o;have aM:=zab c aI;have cZ:=zaa aM;have aN:=zab c aJ;have c6:=zaa aN;have aO:=zab c aL;have c8:=zaa aO;have cP:d.heap.size<=u2.heap.size:=aQ.o.b.size;clear hv c);(try go_wp2_with fail);refine shutOn f λhHeld=>?_;clear f K;refine zaw [22] ?_;repeat refine tkE hHeld ?_
  refine zao ?_;refine zaN 23 (h:=λK f=>?_);go_simp;refine shutOn f λhHeld=>?_;clear f K;refine zaN 24 (h:=λK f=>?_);((refine zKn (by rfl) _ _ (by rfl) (by rfl) (bn.o.alloc _) (by rfl) (zal _ _ _) (p:=toR p) ⟨(bk.o.alloc _).base (Zb _),rfl,a2.o.alloc _⟩ aZ.o ω (by simp;omega) ?_);intro R3 c3 w3 ao ap y;have aY:=un ao;have B:=un (ap.blk (zak ax.o) δ);have p0:χ w3 d 0 (C,nC,cC):=zac B.o 0;have p1:χ w3 d 1 (R,k,j):=zac B.o 1;have cT:=zag B.o 0;have cU:=zag B.o 1;have a6:=un ((aQ.o.alloc _).b.trans y);have s0:=zKh y (show w1.heap.size<d.heap.size by omega) (cell_al (ob:=.cells #[(Q,nq,cq),.int .i64 p.kind,g5,(A5,m5,c5),(D5,md5,cd5)] 101) cp);have s1:=zKh y (show w1.heap.size<d.heap.size by omega) (cell_al (ob:=.cells #[(Q,nq,cq),.int .i64 p.kind,g5,(A5,m5,c5),(D5,md5,cd5)] 101) cr);have s2:=zKh y (show u<d.heap.size by omega) (cell_al (ob:=.cells #[(Q,nq,cq),.int .i64 p.kind,g5,(A5,m5,c5),(D5,md5,cd5)] 101) aM);have s3:=zKh y (show u<d.heap.size by omega) (cell_al (ob:=.cells #[(Q,nq,cq),.int .i64 p.kind,g5,(A5,m5,c5),(D5,md5,cd5)] 101) aN);have s4:=zKh y (show u<d.heap.size by omega) (cell_al (ob:=.cells #[(Q,nq,cq),.int .i64 p.kind,g5,(A5,m5,c5),(D5,md5,cd5)] 101) aO);clear ao ap y);refine shutOn f λhHeld=>?_;clear f K;refine zaw [25] ?_;repeat refine tkE hHeld ?_
  refine zao ?_;refine zba (h:=λK f=>?_);go_simp;refine shutOff f ?_;clear f K;refine za1 (h:=?_);go_wp2_with fail
  go_roundw
  case rel=>exact⟨k+1,R3,c3,_,by go_num,ω,zar _ B.o,by rw[HT.o];exact aY.o.setT B.o δ δ δ _,zKz HA.o U.o.coefLt (λb c=>Yc (aU.o.lt c).2 ae.o.size) (λb c=>(T.o.lt c).1),zKP af.o (λb c=>Zf ae.o.size (T.o.lt c).1),Xj a6.o (by show d.heap.size<=d.heap.size;exact Za _) _⟩
  case measure=>simp[intOf];omega
 obtain rfl:k=m:=ω;have a1:=un (show RowsL wr d (R,k,j) l (toP rows)by have h:=U.o;rw[Z2 (Nat.le_of_eq N.o)]at h;exact h);go_wp2;refine Zi (v:=.agg #[(C,nC,cC),(R,k,j)]) (by simp[results,results9,go_sem,cm,ch,cn,ci]) rfl ?_;have h2:=(a1.o.base' V.o).setT (a:=⟨w.heap.size+1,0,none⟩) D.o δ δ δ (C,nC,cC);have h3:=h2.setT (a:=⟨w.heap.size+1,1,none⟩) (zar _ D.o) δ δ δ (R,k,j);have v2:=bl.o.setT (p:=⟨w.heap.size+1,0,none⟩) D.o δ δ (C,nC,cC);have v3:=v2.setT (p:=⟨w.heap.size+1,1,none⟩) (zar _ D.o) δ δ (R,k,j);exact⟨C,cC,R,j,l,rfl,v3,h3,HA.o,λi ri b hi c=>Zf V.o (af.o i ri b hi c),bsc (bsc b3.o)⟩
end Lw
end Go.Proofs.YtbpjabgfcbjjmaaGreat
namespace Go.Proofs.YtbpjabgfcbjjmaaGreat
open Go.RowKit Am Go.Proofs.Tryz
open Pr (z6X)
open Ct (yi7 y0f y0O)
open Pb (zPu ys1)
open Zr (y6E)
open Dz (Fz y1j)
attribute [local go_sem ↓] Go.wp_at_zero Go.wp_at_succ
def y4c(C:OA)(nc cc:Nat)(R:OA)(nr a:Nat)(cost:List Rat)(rows:List PRow)(X:OA)(d c:Nat)(x:List Rat)(w:World)(hc:VecS w 0 (C,nc,cc) cost)(hr:RowsS w 0 (R,nr,a) rows)(g:VecS w 0 (X,d,c) x)(i:nc<=1000)(zc:Sm cost)(zx:Sm x) :
  Calls prog 17 #[.agg #[(C,nc,cc),(R,nr,a)],(X,d,c)] w λe w'=>∃(q:Rat) (b:Bool),zii w q b e w'/\(cost.length=x.length->q=dot cost x):=by
 by_cases f:cost.length=x.length;exact(zPu C nc cc R nr a cost rows X d c x w hc hr g f i zc zx).mono λe w' h=>⟨_,_,h,λ_=>rfl⟩
 exact(ys1 C nc cc R nr a cost rows X d c x w hc hr g f).mono λe w' h=>⟨_,_,h,λh=>absurd h f⟩
def y5A{n:Nat}{cost x y:List Rat}{rows:List PRow}(h:yeG n cost rows x y=true):cost.length=x.length:=by unfold yeG at h;rw[Z5,Z5]at h;exact(ydT.1 h.2.1).1.symm
namespace Lw
def true20(cl c0 c1 c2:Int)(A:OA)(nL cL:Nat)(ls:List (List Int))(X1:OA)(dT eQ:Nat)(xs:List (Int × Int))(Y1:OA)(dU eR:Nat)(ys:List (Int × Int))(D1:OA)(dS eP:Nat)(ds:List (Int × Int))(own:Bool)(w:World)(hl:SmallAt w A ls)(hx:zcs w X1 xs)(hy:zcs w Y1 ys)(hd:zcs w D1 ds)
  (hn:nL=ls.length) (h0:0<=cl) (a:nL<=9223372036854775807) (eT:dT=xs.length) (gm:dT<=1048576) (eU:dU=ys.length) (gn:dU<=1048576) (eS:dS=ds.length) (gl:dS<=1048576) :
  Calls prog 3 #[.agg #[.int .u8 cl,.int .i8 c0,.int .i8 c1,.int .i8 c2,(A,nL,cL)],(X1,dT,eQ),(Y1,dU,eR),(D1,dS,eP),own] w λe w'=>e=.returned true/\Below w w w':=by
 refine μ3 (y4t h0 c0 c1 c2 (ls:=ls) (λr hr=>by obtain⟨k,hk⟩:=Xh.1 hr;exact(hl.at_ k r hk).1)) (fun(w:World) (hl:SmallAt w A ls)=>y6n cl c0 c1 c2 A nL cL ls w hl hn h0 a) (fun(w:World) (hl:SmallAt w A ls)=>y6q cl c0 c1 c2 A nL cL ls w hl hn h0 a) λbI dN eK=>?_;unfold y3b at dN;unfold y3Q at eK;generalize y2a (smN cl) ls=zr at *
 generalize y12 (smN cl) [c0,c1,c2]=zc at *
 generalize smN cl=n at *
 refine μ5 bI.o.good1 bI.o.tabs (show DocP n zr.length (y6C zc) (toP zr) (y2C zr) (y29 zr) (cf (y3a zc zr))from y6e bI.o.lc bI.o.co bI.o.kd) (fun(aC:OA) (cC:Nat) (aR:OA) (b:Nat) (lR:List Value) (w:World) (hC:IntsZ w 0 (aC,n,cC) zc) (hR:ZRows w 0 (aR,zr.length,b) lR zr)=>y6E aC n cC zc aR zr.length b lR zr w hC hR bI.o _ rfl) (show(y2C zr).length<=4 by rw[y2L];have:=bI.o.nr;omega) λV eL dm d2 fO=>?_;refine μ3 (λho=>y5Q (own:=n) eL.o fO.o ho) (show(y6C zc).length=n by rw[y6x];exact bI.o.lc) (y1N zr) λeI O d1=>?_;obtain⟨cost,gp⟩:∃cost,y6C zc=cost:=⟨_,rfl⟩
 obtain⟨rows,gq⟩:∃rows,toP zr=rows:=⟨_,rfl⟩
 rw[gp]at V dm O dN;rw[gq]at V dm dN eL d2 eI d1;generalize hmm:zr.length=m at *
 have hR:Rows n rows:=λp hp=>⟨(V.o.rw_ p hp).1,λq l=>Zf ((V.o.rw_ p hp).2.1 q l) δ,Zf (V.o.rw_ p hp).2.2 δ⟩
 have dg:Shape n rows:=V.o.toS.sh;refine μ5 (λx y h=>y5r (own:=n) (x:=x) (y:=y) hR dg dm.o h) (λy h=>y5q (y:=y) hR dg dm.o h) (λx d h=>y5s (x:=x) (d:=d) hR dg dm.o h) (λx y d=>y3t (x:=x) (y:=y) (d:=d) hR dg O.o) (z6W V.o.toS V.o.few O.o d1.o) λf3 fX ga fS dp=>?_;refine μ3 (y40 hR dg O.o d1.o dp.o) (fun(C:OA) (cC:Nat) (R:OA) (b:Nat) (w:World) (h1:VecS w 0 (C,n,cC) cost) (h2:RowsS w 0 (R,m,b) rows)=>z6X 1 C n cC R m b cost rows w h1 h2 V.o.toS V.o.few) (show(∀q∈oX n m rows (sol n m cost rows),mw q<=1000002)/\(∀q∈oY n m cost rows (sol n m cost rows),mw q<=1000002)/\∀q∈oZ n m rows (sol n m cost rows),mw q<=1000002 from by have hs:=zVF m V.o.hr;exact⟨λq l=>Zf (dp.o.zx q l) ω,λq l=>Zf (dp.o.zy q l) ω,λq l=>Zf (dp.o.zz q l) ω⟩) λf9 f5 c=>?_;unfold y5b at d2;generalize y3f (y2C zr) (y29 zr) (cf (y3a zc zr)) (n+cnt rows m)=o at *
 generalize y1j (n+cnt rows m) (cf (y3a zc zr)) (el (y5e (y2C zr) (y29 zr) (cf (y3a zc zr)) (n+cnt rows m) n))=dq at *
 refine μ7 eT eU eS (show ∀q∈frs xs,mw q<=1000002 from λq l=>Zf (zyq hx q l) δ) (show ∀q∈frs ys,mw q<=1000002 from λq l=>Zf (zyq hy q l) δ) (show ∀q∈frs ds,mw q<=1000002 from λq l=>Zf (zyq hd q l) δ) hmm λf1 f2 f0 ge gg fT jk=>?_;have jl:n<=5:=V.o.hc;generalize oO (sol n m cost rows)=so,oX n m rows (sol n m cost rows)=sx,oY n m cost rows (sol n m cost rows)=sy,oZ n m rows (sol n m cost rows)=sz,(sol n m cost rows).pivots=sn at *
 clear eT eU eS hmm dp hn hR dg;obtain⟨W,hW⟩:∃W,(w.alloc (.cells #[.int .u8 cl,.int .i8 c0,.int .i8 c1,.int .i8 c2,(A,nL,cL)] 26))=W:=⟨_,rfl⟩
 refine μ6 (show θ W w.heap.size #[.int .u8 cl,.int .i8 c0,.int .i8 c1,.int .i8 c2,(A,nL,cL)] 26by rw[<-hW];exact zam σ) (show Below w w W by rw[<-hW];exact zae w _) (show SmallAt W A ls by rw[<-hW];exact(hl).alloc _) (show zcs W X1 xs by rw[<-hW];exact(hx).alloc _) (show zcs W Y1 ys by rw[<-hW];exact(hy).alloc _) (show zcs W D1 ds by rw[<-hW];exact(hd).alloc _) λeO BB HL fV fW fU=>?_;obtain⟨g8,hj,ha,g3,hw,hI,jb,i0,jd,i4⟩:=bc5 eO.o;clear hl hx hy hd;go_enter func3,ntmps3;go_wp2_with fail
 clear hW;refine(awake _).mono ?_
 rintro e w1 ⟨rfl,a⟩;refine μ6 (zad a eO.o) (HL.o.below a) (fV.o.below a) (fW.o.below a) (fU.o.below a) (BB.o.trans ((a).mono BB.o.size)) λfj fh gD gA gH dY=>?_;obtain⟨g6,hh,g7,hi,hu,hA,jc,i1,je,i5⟩:=bc5 fj.o;clear a;go_wp2_with fail
 refine(dN.o _ fh.o).mono ?_
 rintro e w2 ⟨C,cC,R,b,lP,rfl,hv,hr,_,_,a⟩;refine μ9 (show θ (w2.alloc (.cells #[(C,n,cC),(R,m,b)] 33)) w.heap.size #[.int .u8 cl,.int .i8 c0,.int .i8 c1,.int .i8 c2,(A,nL,cL)] 26from zak (zad a fj.o)) (show SmallAt (w2.alloc (.cells #[(C,n,cC),(R,m,b)] 33)) A ls from(fh.o.below a).alloc _) (show zcs (w2.alloc (.cells #[(C,n,cC),(R,m,b)] 33)) X1 xs from(gD.o.below a).alloc _) (show zcs (w2.alloc (.cells #[(C,n,cC),(R,m,b)] 33)) Y1 ys from(gA.o.below a).alloc _) (show zcs (w2.alloc (.cells #[(C,n,cC),(R,m,b)] 33)) D1 ds from(gH.o.below a).alloc _) (show VecS (w2.alloc (.cells #[(C,n,cC),(R,m,b)] 33)) 0 (C,n,cC) cost from((hv.base (Zb _))).alloc _) (show RowsS (w2.alloc (.cells #[(C,n,cC),(R,m,b)] 33)) 0 (R,m,b) rows from((hr.base' (Zb _)).toS).alloc _) (show Below w w (w2.alloc (.cells #[(C,n,cC),(R,m,b)] 33))from((dY.o.trans ((a).mono dY.o.size))).alloc ((dY.o.trans ((a).mono dY.o.size))).size _) (show θ (w2.alloc (.cells #[(C,n,cC),(R,m,b)] 33)) w2.heap.size #[(C,n,cC),(R,m,b)] 33from zam σ) λfi gU gE gB gI HC HR fl fk=>?_;obtain⟨he,g4,hf,g5,hZ,hP,iX,iQ,iY,iN⟩:=bc5 fi.o;obtain⟨hD,hg,hE,g2⟩:=bc2 fk.o;clear hv hr a;go_wp2_with fail
 refine(eK.o _ gU.o).mono ?_
 rintro e w3 ⟨aC,cC2,aR,cR2,lR,rfl,hC,hR2,a⟩;refine μ10 (zad a fi.o) (zad a fk.o) (gE.o.below a) (gB.o.below a) (gI.o.below a) (HC.o.below a) (HR.o.below a) (show IntsZ w3 0 (aC,n,cC2) zc from(hC.base (Zb _))) (show ZRows w3 0 (aR,m,cR2) lR zr from(hR2.base (Zb _))) (fl.o.trans ((a).mono fl.o.size)) λfm fu gw gC gJ gR gK gh gi dZ=>?_;obtain⟨hX,hm,hY,ht,iG,iu,gQ,jg,gN,ji⟩:=bc5 fm.o;obtain⟨ik,h4,im,h6⟩:=bc2 fu.o;clear hC hR2 a;go_wp2_with fail
 refine(d2.o aC cC2 aR cR2 lR _ gh.o gi.o).mono ?_
 rintro e w4 ⟨qP,qD,aZ,nZ,cZ,rfl,hz,a⟩;refine μ9 (show θ (w4.alloc (.cells #[.int .i64 o,.int .i64 qP,.int .i64 qD,(aZ,nZ,cZ)] 39)) w.heap.size #[.int .u8 cl,.int .i8 c0,.int .i8 c1,.int .i8 c2,(A,nL,cL)] 26from zak (zad a fm.o)) (show θ (w4.alloc (.cells #[.int .i64 o,.int .i64 qP,.int .i64 qD,(aZ,nZ,cZ)] 39)) w2.heap.size #[(C,n,cC),(R,m,b)] 33from zak (zad a fu.o)) (show zcs (w4.alloc (.cells #[.int .i64 o,.int .i64 qP,.int .i64 qD,(aZ,nZ,cZ)] 39)) X1 xs from(gw.o.below a).alloc _) (show zcs (w4.alloc (.cells #[.int .i64 o,.int .i64 qP,.int .i64 qD,(aZ,nZ,cZ)] 39)) Y1 ys from(gC.o.below a).alloc _) (show zcs (w4.alloc (.cells #[.int .i64 o,.int .i64 qP,.int .i64 qD,(aZ,nZ,cZ)] 39)) D1 ds from(gJ.o.below a).alloc _) (show VecS (w4.alloc (.cells #[.int .i64 o,.int .i64 qP,.int .i64 qD,(aZ,nZ,cZ)] 39)) 0 (C,n,cC) cost from(gR.o.below a).alloc _) (show RowsS (w4.alloc (.cells #[.int .i64 o,.int .i64 qP,.int .i64 qD,(aZ,nZ,cZ)] 39)) 0 (R,m,b) rows from(gK.o.below a).alloc _) (show Below w w (w4.alloc (.cells #[.int .i64 o,.int .i64 qP,.int .i64 qD,(aZ,nZ,cZ)] 39))from((dZ.o.trans ((a).mono dZ.o.size))).alloc ((dZ.o.trans ((a).mono dZ.o.size))).size _) (show θ (w4.alloc (.cells #[.int .i64 o,.int .i64 qP,.int .i64 qD,(aZ,nZ,cZ)] 39)) w4.heap.size #[.int .i64 o,.int .i64 qP,.int .i64 qD,(aZ,nZ,cZ)] 39from zam σ) λfn fo gx gy gt gT i9 fs fv=>?_;obtain⟨hN,hG,hO,hH,iR,iB,i2,iT,i6,iV⟩:=bc5 fn.o;obtain⟨hU,hL,hV,hM⟩:=bc2 fo.o;obtain⟨ip,h8,iq,h9,ir,ib,iF,ih⟩:=bc4 fv.o;have fP:=un (show o=1->qP=dq.num/\qD=(dq.den:Int)from λe=>hz.elim (λh=>⟨h.2.1,h.2.2.1⟩) λh=>absurd e h.1);clear hz a;go_wp2_with fail
 refine(make X1 dT eQ xs _ f1.o gx.o gm).mono ?_
 rintro e w5 ⟨V0,m0,k0,rfl,hv,a⟩;refine μ9 (zad a fn.o) (zad a fo.o) (zad a fv.o) (gy.o.below a) (gt.o.below a) (gT.o.below a) (i9.o.below a) (show VecS w5 0 (V0,m0,k0) (frs xs)from(hv.base (Zb _))) (fs.o.trans ((a).mono fs.o.size)) λfp fr fw gz gu gY gL gb ft=>?_;obtain⟨hQ,hJ,hT,hK,iS,iP,i3,iU,i7,iW⟩:=bc5 fp.o;obtain⟨il,h5,io,h7⟩:=bc2 fr.o;obtain⟨iC,ic,iD,ie,iE,ig,iM,iA⟩:=bc4 fw.o;clear hv a;go_wp2_with fail
 refine(make Y1 dU eR ys _ f2.o gz.o gn).mono ?_
 rintro e w6 ⟨V1,m1,k1,rfl,hv,a⟩;refine μ9 (zad a fp.o) (zad a fr.o) (zad a fw.o) (gu.o.below a) (gY.o.below a) (gL.o.below a) (gb.o.below a) (show VecS w6 0 (V1,m1,k1) (frs ys)from(hv.base (Zb _))) (ft.o.trans ((a).mono ft.o.size)) λfq fA fx gv gZ gS gF gc fD=>?_;obtain⟨ii,ia,ij,h3,gP,jf,gM,jh,gO,jj⟩:=bc5 fq.o;obtain⟨iH,iv,iI,iw⟩:=bc2 fA.o;obtain⟨iJ,ix,iK,iy,iL,iz,iZ,iO⟩:=bc4 fx.o;clear hv a;go_wp2_with fail
 refine(make D1 dS eP ds _ f0.o gv.o gl).mono ?_
 rintro e w7 ⟨V2,m2,k2,rfl,hv,a⟩;refine μ9 (zad a fq.o) (zad a fA.o) (zad a fx.o) (gZ.o.below a) (gS.o.below a) (gF.o.below a) (gc.o.below a) (show VecS w7 0 (V2,m2,k2) (frs ds)from(hv.base (Zb _))) (fD.o.trans ((a).mono fD.o.size)) λer ew ex eq eg gG ja gd fE=>?_;obtain⟨fB,fy,fC,fz,fg,fM,e8,fN,e9,fI⟩:=bc5 er.o;obtain⟨fa,fJ,fb,fK⟩:=bc2 ew.o;obtain⟨fc,fL,fd,fF,fe,fG,ff,fH⟩:=bc4 ex.o;clear hv a;clear g8 hj ha g3 hw hI jb i0 jd i4 g6 hh g7 hi hu hA jc i1 je i5 he g4 hf g5 hZ hP iX iQ iY iN hD hg hE g2 hX hm hY ht iG iu gQ jg gN ji ik h4 im h6 hN hG hO hH iR iB i2 iT i6 iV hU hL hV hM ip h8 iq h9 ir ib iF ih hQ hJ hT hK iS iP i3 iU i7 iW il h5 io h7 iC ic iD ie iE ig iM iA ii ia ij h3 gP jf gM jh gO jj iH iv iI iw iJ ix iK iy iL iz iZ iO;go_upto_if 33 with fail
 skip
 go_cut[13,14,15] (λa1 a2 a3 wy=>∃(X:OA) (nX cX:Nat) (x:List Rat) (Y:OA) (nY cY:Nat) (y:List Rat) (E:OA) (U T:Nat) (z:List Rat),a1=(X,nX,cX)/\a2=(Y,nY,cY)/\a3=(E,U,T)/\VecS wy 0 (X,nX,cX) x/\VecS wy 0 (Y,nY,cY) y/\VecS wy 0 (E,U,T) z/\(∀q∈x,mw q<=1000002)/\(∀q∈y,mw q<=1000002)/\(∀q∈z,mw q<=1000002)/\Below w7 w7 wy)
 case first =>
  cases own with
  | false =>
   go_wp2;go_meet;exact⟨_,_,_,_,_,_,_,_,_,_,_,_,rfl,rfl,rfl,gG.o,ja.o,gd.o,ge.o,gg.o,fT.o,Zl _ _⟩
  | true =>
   have eH:=un (Zl w7.heap.size w7);go_wp2_with fail
   refine(f5.o C cC R b _ eq.o eg.o).mono ?_
   rintro e v1 ⟨P,nP,cP,Q,nQ,cQ,E,U,T,rfl,hp,l,hd,a⟩;refine μ9 (zad a er.o) (zad a ew.o) (zad a ex.o) (eq.o.below a) (eg.o.below a) (show VecS v1 0 (P,nP,cP) sx from hp) (show VecS v1 0 (Q,nQ,cQ) sy from l) (show VecS v1 0 (E,U,T) sz from hd) (eH.o.trans ((a).mono eH.o.size)) λdM dD dE dW dX HP HQ HE cB=>?_;obtain⟨es,et,eu,ev,ey,eE,ez,eF,eA,eB⟩:=bc5 dM.o;obtain⟨ea,eC,eb,eD⟩:=bc2 dD.o;obtain⟨eh,ec,ei,ed,ej,ee,ek,ef⟩:=bc4 dE.o;clear hp l hd a;have bH:=zae v1 (.cells #[.int .i64 so,(P,nP,cP),(Q,nQ,cQ),(E,U,T),(sn:Int)] 49);refine μ9 (zad bH dM.o) (zad bH dD.o) (zad bH dE.o) (dW.o.below bH) (dX.o.below bH) (HP.o.below bH) (HQ.o.below bH) (HE.o.below bH) (cB.o.trans ((bH).mono cB.o.size)) λbD bE bF aa ab dl dk bP Z=>?_;obtain⟨b7,b1,b8,b2,cp,bU,bX,bV,bY,bW⟩:=bc5 bD.o;obtain⟨b9,b3,ca,b4⟩:=bc2 bE.o;obtain⟨cb,bZ,cc,b0,cd,b5,ce,b6⟩:=bc4 bF.o;have KR:=un (zal v1 #[.int .i64 so,(P,nP,cP),(Q,nQ,cQ),(E,U,T),(sn:Int)] 49);obtain⟨cj,cg,ck,ch,cm,ci,eo,em,ep,en⟩:=bc5 KR.o;clear fB fy fC fz fg fM e8 fN e9 fI fa fJ fb fK fc fL fd fF fe fG ff fH es et eu ev ey eE ez eF eA eB ea eC eb eD eh ec ei ed ej ee ek ef;go_upto_region 10 with fail
   refine zaS (S:=λw'=>χ w' v1 1 (P,nP,cP)/\χ w' v1 2 (Q,nQ,cQ)/\χ w' v1 3 (E,U,T)) [] (h:=λhHeld=>?_);refine zaw [0,1,2,3,4,5,6,7,8] ?_;repeat refine tkL hHeld ?_
   refine zao ?_;refine zaM (h:=?_);have f:=un V.o.good;rcases f9.o with ⟨e0,g,i,j⟩ | ⟨e0,g,i,j⟩ | ⟨e0,g,i,j⟩
   ·obtain rfl:=e0;refine μ3 g i j λaj ak al=>?_;clear g i j;go_wp2_with fail
    refine(yi7 C n cC R m b cost rows P nP cP sx Q nQ cQ sy _ aa.o.drew ab.o.drew dl.o.drew dk.o.drew f.o (yfg c.o.2.1) (yfg c.o.1) O.o).mono ?_
    rintro e v2 ⟨rfl,a⟩;refine μ10 (zad a bD.o) (zad a bE.o) (zad a bF.o) (zad a KR.o) (aa.o.drew.below a) (ab.o.drew.below a) (dl.o.drew.below a) (dk.o.drew.below a) (bP.o.drew.below a) (Z.o.trans ((It.bdrew0' a).mono Z.o.size)) λG H I F M N dH bR ao D=>?_;obtain⟨aT,a6,aU,a7,bq,ap,au,aq,av,ar⟩:=bc5 G.o;obtain⟨aV,a8,aW,a9⟩:=bc2 H.o;obtain⟨aX,ba,aY,bb,a0,bc,a4,bd⟩:=bc4 I.o;obtain⟨a5,be,bl,bf,bm,bg,dK,dI,dL,dJ⟩:=bc5 F.o;clear a;rw[aj.o];clear b7 b1 b8 b2 cp bU bX bV bY bW b9 b3 ca b4 cb bZ cc b0 cd b5 ce b6 cj cg ck ch cm ci eo em ep en;go_wp2_with fail
    refine(y0f C n cC R m b cost rows Q nQ cQ sy _ M.o N.o bR.o f.o (yfg c.o.2.1)).mono ?_
    rintro e v3 ⟨rfl,a⟩;refine μ10 (zad a G.o) (zad a H.o) (zad a I.o) (zad a F.o) (M.o.below a) (N.o.below a) (dH.o.below a) (bR.o.below a) (ao.o.below a) (D.o.trans ((a).mono D.o.size)) λt u v B J K cn dy L s=>?_;obtain⟨aH,aL,aI,aM,az,ay,aA,aw,aB,ax⟩:=bc5 t.o;obtain⟨aJ,aN,aK,aO⟩:=bc2 u.o;obtain⟨aD,aP,aE,aQ,aF,aS,bh,aG⟩:=bc4 v.o;obtain⟨bi,bn,bj,bo,bk,bp,dz,dB,dA,dC⟩:=bc5 B.o;clear a;rw[ak.o];clear aT a6 aU a7 bq ap au aq av ar aV a8 aW a9 aX ba aY bb a0 bc a4 bd a5 be bl bf bm bg dK dI dL dJ;go_wp2_with fail
    refine(y0O C n cC R m b cost rows P nP cP sx E U T sz _ J.o K.o cn.o L.o f.o (yfg c.o.1) (yfg c.o.2.2) O.o).mono ?_
    rintro e v4 ⟨rfl,a⟩;refine μ10 (zad a t.o) (zad a u.o) (zad a v.o) (zad a B.o) (J.o.below a) (K.o.below a) (cn.o.below a) (dy.o.below a) (L.o.below a) (s.o.trans ((a).mono s.o.size)) λae af ag ai c4 c5 dG dx bA ah=>?_;obtain⟨cS,cG,cT,cH,cy,cx,cz,cv,cA,cw⟩:=bc5 ae.o;obtain⟨cU,cI,cV,cJ⟩:=bc2 af.o;obtain⟨cW,cK,c3,cM,cD,cN,cF,cO⟩:=bc4 ag.o;obtain⟨c6,da,c7,db,c8,dc,e4,e5,e7,e6⟩:=bc5 ai.o;clear a;rw[al.o];clear aH aL aI aM az ay aA aw aB ax aJ aN aK aO aD aP aE aQ aF aS bh aG bi bn bj bo bk bp dz dB dA dC;go_wp2;go_meet;exact⟨_,_,_,_,_,_,_,_,_,_,_,_,rfl,rfl,rfl,dG.o,dx.o,bA.o,c.o.1,c.o.2.1,c.o.2.2,ah.o⟩
   ·obtain rfl:=e0;refine μ3 g i j λaj ak al=>?_;clear g i j;go_wp2_with fail
    refine(yi7 C n cC R m b cost rows P nP cP sx Q nQ cQ sy _ aa.o.drew ab.o.drew dl.o.drew dk.o.drew f.o (yfg c.o.2.1) (yfg c.o.1) O.o).mono ?_
    rintro e v2 ⟨rfl,a⟩;refine μ10 (zad a bD.o) (zad a bE.o) (zad a bF.o) (zad a KR.o) (aa.o.drew.below a) (ab.o.drew.below a) (dl.o.drew.below a) (dk.o.drew.below a) (bP.o.drew.below a) (Z.o.trans ((It.bdrew0' a).mono Z.o.size)) λG H I F M N dH bR ao D=>?_;obtain⟨aT,a6,aU,a7,bq,ap,au,aq,av,ar⟩:=bc5 G.o;obtain⟨aV,a8,aW,a9⟩:=bc2 H.o;obtain⟨aX,ba,aY,bb,a0,bc,a4,bd⟩:=bc4 I.o;obtain⟨a5,be,bl,bf,bm,bg,dK,dI,dL,dJ⟩:=bc5 F.o;clear a;rw[aj.o];clear b7 b1 b8 b2 cp bU bX bV bY bW b9 b3 ca b4 cb bZ cc b0 cd b5 ce b6 cj cg ck ch cm ci eo em ep en;go_wp2_with fail
    refine(y0f C n cC R m b cost rows Q nQ cQ sy _ M.o N.o bR.o f.o (yfg c.o.2.1)).mono ?_
    rintro e v3 ⟨rfl,a⟩;refine μ10 (zad a G.o) (zad a H.o) (zad a I.o) (zad a F.o) (M.o.below a) (N.o.below a) (dH.o.below a) (bR.o.below a) (ao.o.below a) (D.o.trans ((a).mono D.o.size)) λt u v B J K cn dy L s=>?_;obtain⟨aH,aL,aI,aM,az,ay,aA,aw,aB,ax⟩:=bc5 t.o;obtain⟨aJ,aN,aK,aO⟩:=bc2 u.o;obtain⟨aD,aP,aE,aQ,aF,aS,bh,aG⟩:=bc4 v.o;obtain⟨bi,bn,bj,bo,bk,bp,dz,dB,dA,dC⟩:=bc5 B.o;clear a;rw[ak.o];clear aT a6 aU a7 bq ap au aq av ar aV a8 aW a9 aX ba aY bb a0 bc a4 bd a5 be bl bf bm bg dK dI dL dJ;go_wp2_with fail
    refine(y0O C n cC R m b cost rows P nP cP sx E U T sz _ J.o K.o cn.o L.o f.o (yfg c.o.1) (yfg c.o.2.2) O.o).mono ?_
    rintro e v4 ⟨rfl,a⟩;refine μ10 (zad a t.o) (zad a u.o) (zad a v.o) (zad a B.o) (J.o.below a) (K.o.below a) (cn.o.below a) (dy.o.below a) (L.o.below a) (s.o.trans ((a).mono s.o.size)) λae af ag ai c4 c5 dG dx bA ah=>?_;obtain⟨cS,cG,cT,cH,cy,cx,cz,cv,cA,cw⟩:=bc5 ae.o;obtain⟨cU,cI,cV,cJ⟩:=bc2 af.o;obtain⟨cW,cK,c3,cM,cD,cN,cF,cO⟩:=bc4 ag.o;obtain⟨c6,da,c7,db,c8,dc,e4,e5,e7,e6⟩:=bc5 ai.o;clear a;rw[al.o];clear aH aL aI aM az ay aA aw aB ax aJ aN aK aO aD aP aE aQ aF aS bh aG bi bn bj bo bk bp dz dB dA dC;go_wp2;go_meet;exact⟨_,_,_,_,_,_,_,_,_,_,_,_,rfl,rfl,rfl,dG.o,dx.o,bA.o,c.o.1,c.o.2.1,c.o.2.2,ah.o⟩
   obtain rfl:=e0;refine μ3 g i j λaj ak al=>?_;clear g i j;go_wp2_with fail
   refine(yi7 C n cC R m b cost rows P nP cP sx Q nQ cQ sy _ aa.o.drew ab.o.drew dl.o.drew dk.o.drew f.o (yfg c.o.2.1) (yfg c.o.1) O.o).mono ?_
   rintro e v2 ⟨rfl,a⟩;refine μ10 (zad a bD.o) (zad a bE.o) (zad a bF.o) (zad a KR.o) (aa.o.drew.below a) (ab.o.drew.below a) (dl.o.drew.below a) (dk.o.drew.below a) (bP.o.drew.below a) (Z.o.trans ((It.bdrew0' a).mono Z.o.size)) λG H I F M N dH bR ao D=>?_;obtain⟨aT,a6,aU,a7,bq,ap,au,aq,av,ar⟩:=bc5 G.o;obtain⟨aV,a8,aW,a9⟩:=bc2 H.o;obtain⟨aX,ba,aY,bb,a0,bc,a4,bd⟩:=bc4 I.o;obtain⟨a5,be,bl,bf,bm,bg,dK,dI,dL,dJ⟩:=bc5 F.o;clear a;rw[aj.o];clear b7 b1 b8 b2 cp bU bX bV bY bW b9 b3 ca b4 cb bZ cc b0 cd b5 ce b6 cj cg ck ch cm ci eo em ep en;go_wp2_with fail
   refine(y0f C n cC R m b cost rows Q nQ cQ sy _ M.o N.o bR.o f.o (yfg c.o.2.1)).mono ?_
   rintro e v3 ⟨rfl,a⟩;refine μ10 (zad a G.o) (zad a H.o) (zad a I.o) (zad a F.o) (M.o.below a) (N.o.below a) (dH.o.below a) (bR.o.below a) (ao.o.below a) (D.o.trans ((a).mono D.o.size)) λt u v B J K cn dy L s=>?_;obtain⟨aH,aL,aI,aM,az,ay,aA,aw,aB,ax⟩:=bc5 t.o;obtain⟨aJ,aN,aK,aO⟩:=bc2 u.o;obtain⟨aD,aP,aE,aQ,aF,aS,bh,aG⟩:=bc4 v.o;obtain⟨bi,bn,bj,bo,bk,bp,dz,dB,dA,dC⟩:=bc5 B.o;clear a;rw[ak.o];clear aT a6 aU a7 bq ap au aq av ar aV a8 aW a9 aX ba aY bb a0 bc a4 bd a5 be bl bf bm bg dK dI dL dJ;go_wp2_with fail
   refine(y0O C n cC R m b cost rows P nP cP sx E U T sz _ J.o K.o cn.o L.o f.o (yfg c.o.1) (yfg c.o.2.2) O.o).mono ?_
   rintro e v4 ⟨rfl,a⟩;refine μ10 (zad a t.o) (zad a u.o) (zad a v.o) (zad a B.o) (J.o.below a) (K.o.below a) (cn.o.below a) (dy.o.below a) (L.o.below a) (s.o.trans ((a).mono s.o.size)) λae af ag ai c4 c5 dG dx bA ah=>?_;obtain⟨cS,cG,cT,cH,cy,cx,cz,cv,cA,cw⟩:=bc5 ae.o;obtain⟨cU,cI,cV,cJ⟩:=bc2 af.o;obtain⟨cW,cK,c3,cM,cD,cN,cF,cO⟩:=bc4 ag.o;obtain⟨c6,da,c7,db,c8,dc,e4,e5,e7,e6⟩:=bc5 ai.o;clear a;rw[al.o];clear aH aL aI aM az ay aA aw aB ax aJ aN aK aO aD aP aE aQ aF aS bh aG bi bn bj bo bk bp dz dB dA dC;go_wp2;go_meet;exact⟨_,_,_,_,_,_,_,_,_,_,_,_,rfl,rfl,rfl,dG.o,dx.o,bA.o,c.o.1,c.o.2.1,c.o.2.2,ah.o⟩
 rename World=>wy
 obtain⟨X,nX,cX,x,Y,nY,cY,y,E,U,T,z,rfl,rfl,rfl,hx,hy,hz,zx,zy,zz,hB⟩:=hcut;refine μ9 (zad hB er.o) (zad hB ew.o) (zad hB ex.o) (eq.o.below hB) (eg.o.below hB) (show VecS wy 0 (X,nX,cX) x from hx) (show VecS wy 0 (Y,nY,cY) y from hy) (show VecS wy 0 (E,U,T) z from hz) (fE.o.trans ((hB).mono fE.o.size)) λdM dD dE dW dX HX HY HE cB=>?_;obtain⟨es,et,eu,ev,ey,eE,ez,eF,eA,eB⟩:=bc5 dM.o;obtain⟨ea,eC,eb,eD⟩:=bc2 dD.o;obtain⟨eh,ec,ei,ed,ej,ee,ek,ef⟩:=bc4 dE.o;clear fB fy fC fz fg fM e8 fN e9 fI fa fJ fb fK fc fL fd fF fe fG ff fH;refine μ4 zx zy zz V.o.good λZX ZY ZZ f=>?_;clear hB hx hy hz zx zy zz;have fR:=un (fS.o x y z);go_wp2_with fail
 refine(y4c C n cC R m b cost rows X nX cX x _ dW.o dX.o HX.o ω (λq l=>Zf (V.o.sc q l) δ) (yfg ZX.o)).mono ?_
 rintro e v5 ⟨vq,vb,⟨g9,A9,m9,c9,D9,md9,cd9,rfl,hn9,a⟩,hq9⟩;refine μ11 (show θ (v5.alloc (.cells #[g9,(A9,m9,c9),(D9,md9,cd9)] 62)) w.heap.size #[.int .u8 cl,.int .i8 c0,.int .i8 c1,.int .i8 c2,(A,nL,cL)] 26from zak (zad a dM.o)) (show θ (v5.alloc (.cells #[g9,(A9,m9,c9),(D9,md9,cd9)] 62)) w2.heap.size #[(C,n,cC),(R,m,b)] 33from zak (zad a dD.o)) (show θ (v5.alloc (.cells #[g9,(A9,m9,c9),(D9,md9,cd9)] 62)) w4.heap.size #[.int .i64 o,.int .i64 qP,.int .i64 qD,(aZ,nZ,cZ)] 39from zak (zad a dE.o)) (show VecS (v5.alloc (.cells #[g9,(A9,m9,c9),(D9,md9,cd9)] 62)) 0 (C,n,cC) cost from(dW.o.below a).alloc _) (show RowsS (v5.alloc (.cells #[g9,(A9,m9,c9),(D9,md9,cd9)] 62)) 0 (R,m,b) rows from(dX.o.below a).alloc _) (show VecS (v5.alloc (.cells #[g9,(A9,m9,c9),(D9,md9,cd9)] 62)) 0 (X,nX,cX) x from(HX.o.below a).alloc _) (show VecS (v5.alloc (.cells #[g9,(A9,m9,c9),(D9,md9,cd9)] 62)) 0 (Y,nY,cY) y from(HY.o.below a).alloc _) (show VecS (v5.alloc (.cells #[g9,(A9,m9,c9),(D9,md9,cd9)] 62)) 0 (E,U,T) z from(HE.o.below a).alloc _) (show RatS (v5.alloc (.cells #[g9,(A9,m9,c9),(D9,md9,cd9)] 62)) g9 (A9,m9,c9) (D9,md9,cd9) vq from(hn9).alloc _) (show Below w w (v5.alloc (.cells #[g9,(A9,m9,c9),(D9,md9,cd9)] 62))from((cB.o.trans ((a).mono cB.o.size))).alloc ((cB.o.trans ((a).mono cB.o.size))).size _) (show θ (v5.alloc (.cells #[g9,(A9,m9,c9),(D9,md9,cd9)] 62)) v5.heap.size #[g9,(A9,m9,c9),(D9,md9,cd9)] 62from zam σ) λbD bE bF aa ab bT bS bP dO Z dF=>?_;obtain⟨b7,b1,b8,b2,cp,bU,bX,bV,bY,bW⟩:=bc5 bD.o;obtain⟨b9,b3,ca,b4⟩:=bc2 bE.o;obtain⟨cb,bZ,cc,b0,cd,b5,ce,b6⟩:=bc4 bF.o;obtain⟨cj,cg,ck,ch,cm,ci⟩:=bc3 dF.o;clear hn9 a;have f7:=un hq9;clear hq9;clear es et eu ev ey eE ez eF eA eB ea eC eb eD eh ec ei ed ej ee ek ef;rcases fR.o with ⟨g,i,j⟩ | ⟨g,i,j⟩ | ⟨g,i,j⟩ | ⟨g,i,j⟩
 ·refine μ3 g i j λaj ak al=>?_;obtain⟨ho,hv⟩:=f3.o x y g;obtain rfl:=ho;obtain⟨hp,l⟩:=fP.o rfl;obtain rfl:=hp;obtain rfl:=l;have eM:=un (show vq=dq by rw[f7.o (y5A g)];exact hv.symm);have dn:=un ((eI.o rfl).2);have eJ:=un (show I64 dq.num/\I64 (dq.den:Int)from⟨⟨by have:=dn.o.1;omega,by have:=dn.o.1;omega⟩,⟨by have:=dn.o.2;omega,by have:=dn.o.2;omega⟩⟩);have fZ:=un (show mw vq<=1000000 by rw[eM.o];exact Zf (y6i dn.o) δ);clear hv
  clear g i j;go_wp2_with fail
  refine(yi7 C n cC R m b cost rows X nX cX x Y nY cY y _ aa.o ab.o bT.o bS.o f.o (yfg ZY.o) (yfg ZX.o) O.o).mono ?_
  rintro e v6 ⟨rfl,a⟩;refine μ11 (zad a bD.o) (zad a bE.o) (zad a bF.o) (zad a dF.o) (aa.o.below a) (ab.o.below a) (bT.o.below a) (bS.o.below a) (bP.o.below a) (dO.o.below a) (Z.o.trans ((a).mono Z.o.size)) λG H I F M N cu bC ao bO D=>?_;obtain⟨aT,a6,aU,a7,bq,ap,au,aq,av,ar⟩:=bc5 G.o;obtain⟨aV,a8,aW,a9⟩:=bc2 H.o;obtain⟨aX,ba,aY,bb,a0,bc,a4,bd⟩:=bc4 I.o;obtain⟨a5,be,bl,bf,bm,bg⟩:=bc3 F.o;clear a;rw[aj.o];clear b7 b1 b8 b2 cp bU bX bV bY bW b9 b3 ca b4 cb bZ cc b0 cd b5 ce b6 cj cg ck ch cm ci;go_wp2_with fail
  refine(z6u g9 A9 m9 c9 D9 md9 cd9 vq dq.num (dq.den:Int) _ bO.o (by have:=dq.den_nz;omega) eJ.o.1 eJ.o.2 (by rw[eM.o];exact(Rat.num_divInt_den dq).symm) fZ.o).mono ?_
  rintro e v7 ⟨rfl,a⟩;refine μ11 (zad a G.o) (zad a H.o) (zad a I.o) (zad a F.o) (M.o.below a) (N.o.below a) (cu.o.below a) (bC.o.below a) (ao.o.below a) (bO.o.below a) (D.o.trans ((a).mono D.o.size)) λt u v B J K bB bQ L ct s=>?_;obtain⟨aH,aL,aI,aM,az,ay,aA,aw,aB,ax⟩:=bc5 t.o;obtain⟨aJ,aN,aK,aO⟩:=bc2 u.o;obtain⟨aD,aP,aE,aQ,aF,aS,bh,aG⟩:=bc4 v.o;obtain⟨bi,bn,bj,bo,bk,bp⟩:=bc3 B.o;clear a;clear aT a6 aU a7 bq ap au aq av ar aV a8 aW a9 aX ba aY bb a0 bc a4 bd a5 be bl bf bm bg;go_wp2_with fail
  refine(y0f C n cC R m b cost rows Y nY cY y _ J.o K.o bQ.o f.o (yfg ZY.o)).mono ?_
  rintro e v8 ⟨rfl,a⟩;refine μ11 (zad a t.o) (zad a u.o) (zad a v.o) (zad a B.o) (J.o.below a) (K.o.below a) (bB.o.below a) (bQ.o.below a) (L.o.below a) (ct.o.below a) (s.o.trans ((a).mono s.o.size)) λae af ag ai c4 c5 dV d9 bA d8 ah=>?_;obtain⟨cS,cG,cT,cH,cy,cx,cz,cv,cA,cw⟩:=bc5 ae.o;obtain⟨cU,cI,cV,cJ⟩:=bc2 af.o;obtain⟨cW,cK,c3,cM,cD,cN,cF,cO⟩:=bc4 ag.o;obtain⟨c6,da,c7,db,c8,dc⟩:=bc3 ai.o;clear a;rw[ak.o];clear aH aL aI aM az ay aA aw aB ax aJ aN aK aO aD aP aE aQ aF aS bh aG bi bn bj bo bk bp;go_wp2_with fail
  refine(y0O C n cC R m b cost rows X nX cX x E U T z _ c4.o c5.o dV.o bA.o f.o (yfg ZX.o) (yfg ZZ.o) O.o).mono ?_
  rintro e v9 ⟨rfl,a⟩;refine μ5 (zad a ae.o) (zad a af.o) (zad a ag.o) (zad a ai.o) (ah.o.trans ((a).mono ah.o.size)) λgX gV gW g1 g0=>?_;obtain⟨jC,ju,jD,jv,js,jr,jo,jt,jp,jq⟩:=bc5 gX.o;obtain⟨jE,jw,jF,jx⟩:=bc2 gV.o;obtain⟨jG,jy,jH,jz,jI,jA,jJ,jB⟩:=bc4 gW.o;obtain⟨jL,jO,jM,jP,jN,jK⟩:=bc3 g1.o;clear a;rw[al.o];clear cS cG cT cH cy cx cz cv cA cw cU cI cV cJ cW cK c3 cM cD cN cF cO c6 da c7 db c8 dc;go_wp2;go_ret;exact⟨rfl,g0.o⟩
 ·refine μ3 g i j λaj ak al=>?_;obtain rfl:=fX.o y i;clear g i j;go_wp2_with fail
  refine(yi7 C n cC R m b cost rows X nX cX x Y nY cY y _ aa.o ab.o bT.o bS.o f.o (yfg ZY.o) (yfg ZX.o) O.o).mono ?_
  rintro e v6 ⟨rfl,a⟩;refine μ11 (zad a bD.o) (zad a bE.o) (zad a bF.o) (zad a dF.o) (aa.o.below a) (ab.o.below a) (bT.o.below a) (bS.o.below a) (bP.o.below a) (dO.o.below a) (Z.o.trans ((a).mono Z.o.size)) λG H I F M N cu bC ao bO D=>?_;obtain⟨aT,a6,aU,a7,bq,ap,au,aq,av,ar⟩:=bc5 G.o;obtain⟨aV,a8,aW,a9⟩:=bc2 H.o;obtain⟨aX,ba,aY,bb,a0,bc,a4,bd⟩:=bc4 I.o;obtain⟨a5,be,bl,bf,bm,bg⟩:=bc3 F.o;clear a;rw[aj.o];clear b7 b1 b8 b2 cp bU bX bV bY bW b9 b3 ca b4 cb bZ cc b0 cd b5 ce b6 cj cg ck ch cm ci;go_wp2_with fail
  refine(y0f C n cC R m b cost rows Y nY cY y _ M.o N.o bC.o f.o (yfg ZY.o)).mono ?_
  rintro e v8 ⟨rfl,a⟩;refine μ11 (zad a G.o) (zad a H.o) (zad a I.o) (zad a F.o) (M.o.below a) (N.o.below a) (cu.o.below a) (bC.o.below a) (ao.o.below a) (bO.o.below a) (D.o.trans ((a).mono D.o.size)) λt u v B J K bB bQ L ct s=>?_;obtain⟨aH,aL,aI,aM,az,ay,aA,aw,aB,ax⟩:=bc5 t.o;obtain⟨aJ,aN,aK,aO⟩:=bc2 u.o;obtain⟨aD,aP,aE,aQ,aF,aS,bh,aG⟩:=bc4 v.o;obtain⟨bi,bn,bj,bo,bk,bp⟩:=bc3 B.o;clear a;rw[ak.o];clear aT a6 aU a7 bq ap au aq av ar aV a8 aW a9 aX ba aY bb a0 bc a4 bd a5 be bl bf bm bg;go_wp2_with fail
  refine(y0O C n cC R m b cost rows X nX cX x E U T z _ J.o K.o bB.o L.o f.o (yfg ZX.o) (yfg ZZ.o) O.o).mono ?_
  rintro e v9 ⟨rfl,a⟩;refine μ11 (zad a t.o) (zad a u.o) (zad a v.o) (zad a B.o) (J.o.below a) (K.o.below a) (bB.o.below a) (bQ.o.below a) (L.o.below a) (ct.o.below a) (s.o.trans ((a).mono s.o.size)) λae af ag ai c4 c5 dV d9 bA d8 ah=>?_;obtain⟨cS,cG,cT,cH,cy,cx,cz,cv,cA,cw⟩:=bc5 ae.o;obtain⟨cU,cI,cV,cJ⟩:=bc2 af.o;obtain⟨cW,cK,c3,cM,cD,cN,cF,cO⟩:=bc4 ag.o;obtain⟨c6,da,c7,db,c8,dc⟩:=bc3 ai.o;clear a;rw[al.o];clear aH aL aI aM az ay aA aw aB ax aJ aN aK aO aD aP aE aQ aF aS bh aG bi bn bj bo bk bp;go_wp2;go_ret;exact⟨rfl,ah.o⟩
 ·refine μ3 g i j λaj ak al=>?_;obtain rfl:=ga.o x z j;clear g i j;go_wp2_with fail
  refine(yi7 C n cC R m b cost rows X nX cX x Y nY cY y _ aa.o ab.o bT.o bS.o f.o (yfg ZY.o) (yfg ZX.o) O.o).mono ?_
  rintro e v6 ⟨rfl,a⟩;refine μ11 (zad a bD.o) (zad a bE.o) (zad a bF.o) (zad a dF.o) (aa.o.below a) (ab.o.below a) (bT.o.below a) (bS.o.below a) (bP.o.below a) (dO.o.below a) (Z.o.trans ((a).mono Z.o.size)) λG H I F M N cu bC ao bO D=>?_;obtain⟨aT,a6,aU,a7,bq,ap,au,aq,av,ar⟩:=bc5 G.o;obtain⟨aV,a8,aW,a9⟩:=bc2 H.o;obtain⟨aX,ba,aY,bb,a0,bc,a4,bd⟩:=bc4 I.o;obtain⟨a5,be,bl,bf,bm,bg⟩:=bc3 F.o;clear a;rw[aj.o];clear b7 b1 b8 b2 cp bU bX bV bY bW b9 b3 ca b4 cb bZ cc b0 cd b5 ce b6 cj cg ck ch cm ci;go_wp2_with fail
  refine(y0f C n cC R m b cost rows Y nY cY y _ M.o N.o bC.o f.o (yfg ZY.o)).mono ?_
  rintro e v8 ⟨rfl,a⟩;refine μ11 (zad a G.o) (zad a H.o) (zad a I.o) (zad a F.o) (M.o.below a) (N.o.below a) (cu.o.below a) (bC.o.below a) (ao.o.below a) (bO.o.below a) (D.o.trans ((a).mono D.o.size)) λt u v B J K bB bQ L ct s=>?_;obtain⟨aH,aL,aI,aM,az,ay,aA,aw,aB,ax⟩:=bc5 t.o;obtain⟨aJ,aN,aK,aO⟩:=bc2 u.o;obtain⟨aD,aP,aE,aQ,aF,aS,bh,aG⟩:=bc4 v.o;obtain⟨bi,bn,bj,bo,bk,bp⟩:=bc3 B.o;clear a;rw[ak.o];clear aT a6 aU a7 bq ap au aq av ar aV a8 aW a9 aX ba aY bb a0 bc a4 bd a5 be bl bf bm bg;go_wp2_with fail
  refine(y0O C n cC R m b cost rows X nX cX x E U T z _ J.o K.o bB.o L.o f.o (yfg ZX.o) (yfg ZZ.o) O.o).mono ?_
  rintro e v9 ⟨rfl,a⟩;refine μ11 (zad a t.o) (zad a u.o) (zad a v.o) (zad a B.o) (J.o.below a) (K.o.below a) (bB.o.below a) (bQ.o.below a) (L.o.below a) (ct.o.below a) (s.o.trans ((a).mono s.o.size)) λae af ag ai c4 c5 dV d9 bA d8 ah=>?_;obtain⟨cS,cG,cT,cH,cy,cx,cz,cv,cA,cw⟩:=bc5 ae.o;obtain⟨cU,cI,cV,cJ⟩:=bc2 af.o;obtain⟨cW,cK,c3,cM,cD,cN,cF,cO⟩:=bc4 ag.o;obtain⟨c6,da,c7,db,c8,dc⟩:=bc3 ai.o;clear a;rw[al.o];clear aH aL aI aM az ay aA aw aB ax aJ aN aK aO aD aP aE aQ aF aS bh aG bi bn bj bo bk bp;go_wp2;go_ret;exact⟨rfl,ah.o⟩
 refine μ3 g i j λaj ak al=>?_;clear g i j;go_wp2_with fail
 refine(yi7 C n cC R m b cost rows X nX cX x Y nY cY y _ aa.o ab.o bT.o bS.o f.o (yfg ZY.o) (yfg ZX.o) O.o).mono ?_
 rintro e v6 ⟨rfl,a⟩;refine μ11 (zad a bD.o) (zad a bE.o) (zad a bF.o) (zad a dF.o) (aa.o.below a) (ab.o.below a) (bT.o.below a) (bS.o.below a) (bP.o.below a) (dO.o.below a) (Z.o.trans ((a).mono Z.o.size)) λG H I F M N cu bC ao bO D=>?_;obtain⟨aT,a6,aU,a7,bq,ap,au,aq,av,ar⟩:=bc5 G.o;obtain⟨aV,a8,aW,a9⟩:=bc2 H.o;obtain⟨aX,ba,aY,bb,a0,bc,a4,bd⟩:=bc4 I.o;obtain⟨a5,be,bl,bf,bm,bg⟩:=bc3 F.o;clear a;rw[aj.o];clear b7 b1 b8 b2 cp bU bX bV bY bW b9 b3 ca b4 cb bZ cc b0 cd b5 ce b6 cj cg ck ch cm ci;go_wp2_with fail
 refine(y0f C n cC R m b cost rows Y nY cY y _ M.o N.o bC.o f.o (yfg ZY.o)).mono ?_
 rintro e v8 ⟨rfl,a⟩;refine μ11 (zad a G.o) (zad a H.o) (zad a I.o) (zad a F.o) (M.o.below a) (N.o.below a) (cu.o.below a) (bC.o.below a) (ao.o.below a) (bO.o.below a) (D.o.trans ((a).mono D.o.size)) λt u v B J K bB bQ L ct s=>?_;obtain⟨aH,aL,aI,aM,az,ay,aA,aw,aB,ax⟩:=bc5 t.o;obtain⟨aJ,aN,aK,aO⟩:=bc2 u.o;obtain⟨aD,aP,aE,aQ,aF,aS,bh,aG⟩:=bc4 v.o;obtain⟨bi,bn,bj,bo,bk,bp⟩:=bc3 B.o;clear a;rw[ak.o];clear aT a6 aU a7 bq ap au aq av ar aV a8 aW a9 aX ba aY bb a0 bc a4 bd a5 be bl bf bm bg;go_wp2_with fail
 refine(y0O C n cC R m b cost rows X nX cX x E U T z _ J.o K.o bB.o L.o f.o (yfg ZX.o) (yfg ZZ.o) O.o).mono ?_
 rintro e v9 ⟨rfl,a⟩;refine μ11 (zad a t.o) (zad a u.o) (zad a v.o) (zad a B.o) (J.o.below a) (K.o.below a) (bB.o.below a) (bQ.o.below a) (L.o.below a) (ct.o.below a) (s.o.trans ((a).mono s.o.size)) λae af ag ai c4 c5 dV d9 bA d8 ah=>?_;obtain⟨cS,cG,cT,cH,cy,cx,cz,cv,cA,cw⟩:=bc5 ae.o;obtain⟨cU,cI,cV,cJ⟩:=bc2 af.o;obtain⟨cW,cK,c3,cM,cD,cN,cF,cO⟩:=bc4 ag.o;obtain⟨c6,da,c7,db,c8,dc⟩:=bc3 ai.o;clear a;rw[al.o];clear aH aL aI aM az ay aA aw aB ax aJ aN aK aO aD aP aE aQ aF aS bh aG bi bn bj bo bk bp;go_wp2;go_ret;exact⟨rfl,ah.o⟩
