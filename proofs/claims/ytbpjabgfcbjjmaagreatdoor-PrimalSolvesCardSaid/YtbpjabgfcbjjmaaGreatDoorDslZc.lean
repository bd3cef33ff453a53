/- Contracts and lemmas: Dsl Zu Smp. Conditions: as each says. -/
import Derived.Test.YtbpjabgfcbjjmaaGreatDoorZwZc
set_option linter.all false
set_option maxHeartbeats 4000000
set_option maxRecDepth 100000
namespace Go.Proofs.YtbpjabgfcbjjmaaGreatDoor
open Go.Proofs.Tryz
open Go.RowKit Am Dz
variable {B cost:List Int}{qs:List Rat}{H N b m nC own:Nat}{w:World}
def y5e (A:List (List Int)) (B:List Int) (c:Nat->Rat) (N own:Nat):List Rat:=y1s (λz=>y1j N c (el z)) own (y1k A B N) ((y1k A B N).length-1)
theorem y6D{S:Nat}{cost:List Rat}{rows:List PRow}{A:List (List Int)}{c:Nat->Rat}{o:Int}{X Y Z:List Rat}(hg:GoodS S nC m cost rows)(hS:Sol nC m cost rows S o X Y Z)(D:DocP nC m cost rows A B c) :
  y3f A B c (nC+cnt rows m)=o/\(o=1->y1j (nC+cnt rows m) c (el (y5e A B c (nC+cnt rows m) own))=dot cost X):=by
 have a:=D.lc;have g:=D.hf.len;have f:Rows nC rows:=λp b=>⟨(hg.rw_ p b).1,λq y=>Zj ((hg.rw_ p b).2.1 q y) hg.hS,Zj (hg.rw_ p b).2.2 hg.hS⟩
 rcases hS.shows with ⟨rfl,⟨F,E,hf,s,t⟩,_⟩ | ⟨rfl,_,v,_⟩ | ⟨rfl,_,u⟩
 have n:=(ywY hg.sh a E).1 hf;have r:∀x,ywM nC rows x->ywA nC cost (el X)<=ywA nC cost x:=λx C=>by rw[<-ywX a,t];exact yxh f hg.sh a g F s C
 obtain⟨h1,j,z,d,l⟩:=y4J D n r;refine⟨h1,λ_=>?_⟩;have i:y1k A B (nC+cnt rows m)≠[]:=λe=>by rw[e]at d;cases d
 rw[ywX a];refine Rat.le_antisymm ?_ (j _ (y2f _ _ ?_));rw[<-l];exact y3R (k:=λz=>y1j (nC+cnt rows m) c (el z)) i d;have:=List.length_pos_iff.2 i;omega;exact⟨y4K D (yxj f hg.sh g v),λe=>absurd e δ⟩;exact⟨y3Y D (yxy hg.sh a u),λe=>absurd e δ⟩
open Go.RowKit Am
open Dz (y1U y14 y1E y1k y1j y1w y2x y1s y2f)
attribute [local go_sem ↓] Go.wp_at_zero Go.wp_at_succ
structure SmallP (nC:Nat) (cost:List Int) (rows:List ZRow):Prop where
  lc:cost.length=nC
  nc:nC<=3
  nr:rows.length<=3
  co:∀p∈rows,p.coef.length=nC
  kd:∀p∈rows,p.kind=1\/p.kind=2\/p.kind=3
  ec:∀x∈cost,x.natAbs<=9
  er:∀p∈rows,(∀x∈p.coef,x.natAbs<=9)/\p.rhs.natAbs<=9
theorem y3A{rows:List ZRow}(hk:∀p∈rows,p.kind=1\/p.kind=2\/p.kind=3)(r:Nat):∀k,k<=rows.length->∀x∈y1P rows r k,x.natAbs<=9
 | 0,_,x,hx=>by cases hx
 | k+1,hl,x,hx=>by
  unfold y1P at hx;rcases ZO.1 hx with q | q;exact y3A hk r k ω x q;split at q
  cases q;rw[Xv.1 q];have:=hk _ (Zl (zaO (d:=default) (show k<rows.length by omega)));split<;>omega
theorem SmallP.tabs{rows:List ZRow}(h:SmallP nC cost rows):SmallZ rows.length (nC+cnt (toP rows) rows.length) (y2C rows) (y29 rows) (y3a cost rows):=by
 have hg:∀i,i<rows.length->rows.getD i default∈rows:=λi hi=>Zl (zaO hi)
 have d:=y3U (rows:=rows) (k:=rows.length);have h1:=h.nc;have c:=h.nr;refine⟨λx a=>?_,λr hr x a=>?_,λx a=>?_,λx a=>?_,ω,ω⟩;obtain⟨i,hi,rfl⟩:=ZG.1 a;have hi:=Xh.1 hi;rw[Zz,y1R rows i _ (Za _),h.co _ (hg i hi)];obtain⟨i,hi,rfl⟩:=ZG.1 hr;have hi:=Xh.1 hi;rcases ZO.1 a with q | q;exact(h.er _ (hg i hi)).1 x q;exact y3A h.kd i _ (Za _) x q;obtain⟨p,b,rfl⟩:=ZG.1 a;exact(h.er p b).2;unfold y3a at a;rcases ZO.1 a with q | q;exact h.ec x q;rw[(Yr.1 q).2];decide
theorem y2o:∀(l:List Rat) (k:Nat),fcells (l.take k)=(fcells l).take (k*2)
 | [],k=>by simp[fcells]
 | q::l,0=>by simp[fcells]
 | q::l,k+1=>by
  rw[show(k+1)*2=k*2+2 by omega];show _::_::fcells (l.take k)=_::_::(fcells l).take (k*2)
  rw[y2o l k]
theorem y31{n c:Nat}(h:FracsZ w H (b,n,c) qs){k:Nat}(hk:k<=n):FracsZ w H (b,k,c) (qs.take k):=by
 have i:=h.len;subst i;have d:(qs.take k).length=k:=by rw[ZF];omega
 refine⟨?_⟩;rw[d];refine⟨by rw[y2E,d],?_⟩;rcases h.own.2 with ⟨a,_⟩ | ⟨g',l,cur,a,e,hg,m,f,g,j⟩
 simp at a;simp only[Value.slice.injEq,Option.some.injEq,Addr.mk.injEq,and_true,true_and]at a;obtain⟨rfl,rfl⟩:=a;refine .inr ⟨b,c,cur,rfl,e,hg,ω,f,g,?_⟩;rw[y2o,<-j,YS,XB (ZS 2 hk)]
theorem y45{w0:World}{j:Nat}{b:OA}{a:Nat}{m:List Rat}(h0:FracsZ w0 j (b,N,a) m)(k:Nat)(hk:k<=N):∃(Z:OA) (c:Nat),(∀W:World,(Instr.slice 58 (b,N,a) none (some (.int .i64 (k:Int))) none).run prog W=.ok (Z,k,c) W)/\∀(w:World) (H:Nat) (z:List Rat),FracsZ w H (b,N,a) z->FracsZ w H (Z,k,c) (z.take k):=by
 have i:prog.underlying 58=some (.slice (prog.elem 58)):=by simp[Program.elem,underlying58]
 have d:prog.elem 58=57:=by simp[Program.elem,underlying58]
 have f:∀W:World,(Go.sizeOf 57).run prog W=.ok 2 W:=λW=>by simp[go_sem]
 have hc:=h0.form.2.1;have l:((k:Int)).toNat=k:=ω;rcases h0.form.2.2.2 with ⟨rfl,rfl,_⟩ | ⟨g,rfl,_,_⟩
 obtain rfl:N=0:=ω;obtain rfl:k=0:=ω;refine⟨none,0,λW=>?_,λw H z h=>?_⟩;rw[run_slice_h W 58 _ _ _ i .i64 _ ω ω,d,f];simp[Result.andThen,sliced];rw[Ve];exact FracsZ.nil _ _;refine⟨some ⟨g,0,none⟩,a,λW=>?_,λw H z h=>y31 h hk⟩;rw[run_slice_h W 58 _ _ _ i .i64 _ ω ω,d,f,l];by_cases e:a=0;simp[Result.andThen,sliced,e];simp[Result.andThen,sliced,Addr.add,e]
theorem y3M{w':World}{v:Value}(h:FracsZ w H v qs){cs:Array Value}{t:TypeId}(g:θ w b cs t)(i:57≠t)(a c d f:Value)(hw:((((w.setCell ⟨b,0,none⟩ a).setCell ⟨b,1,none⟩ c).setCell ⟨b,2,none⟩ d).setCell ⟨b,3,none⟩ f)=w'):FracsZ w' H v qs:=h.keep λk hk=>by
 have e:k≠b:=by rintro rfl;exact za6 h.own g i hk
 rw[<-hw,ZD _ _ _ _ (by exact e),ZD _ _ _ _ (by exact e),ZD _ _ _ _ (by exact e),ZD _ _ _ _ (by exact e)]
def y5b (w:World) (o:Int) (q:Rat) (z:List Rat) (k:Nat) (e:Ending) (w':World):Prop:=∃(P D:Int) (Z:OA) (n c:Nat),e=.returned (.agg #[.int .i64 o,.int .i64 P,.int .i64 D,(Z,n,c)])/\((o=1/\P=q.num/\D=(q.den:Int)/\n=k/\FracsZ w' 0 (Z,k,c) z)\/(o≠1/\n=0))/\Below w w w'
namespace Zr
theorem y6E(aC:OA)(nC cC:Nat)(cost:List Int)(f:OA)(m g:Nat)(J:List Value)(rows:List ZRow)(w:World)(c:IntsZ w 0 (aC,nC,cC) cost)(D:ZRows w 0 (f,m,g) J rows)(x:SmallP nC cost rows)(N:Nat)(hN:N=nC+cnt (toP rows) rows.length) :
  Calls prog 15 #[.agg #[(aC,nC,cC),(f,m,g)]] w (y5b w (y3f (y2C rows) (y29 rows) (cf (y3a cost rows)) N) (y1j N (cf (y3a cost rows)) (el (y5e (y2C rows) (y29 rows) (cf (y3a cost rows)) N nC))) ((y5e (y2C rows) (y29 rows) (cf (y3a cost rows)) N nC).take nC) nC):=by
 obtain rfl:m=rows.length:=D.nlen;have b:=un x.tabs;rw[<-hN]at b;have bB:=x.nr;have dF:=x.nc;have dB:=b.o.n7;have ar:nC<=N:=ω;have U:=un (fun(w:World) (c:IntsZ w 0 (aC,nC,cC) cost) (D:ZRows w 0 (f,rows.length,g) J rows)=>y6u aC nC cC cost f rows.length g J rows w c D ω ω (λp h=>by rw[x.co p h];omega) x.kd);unfold y3c at U;rw[<-hN]at U;have ba:=un (show(y2C rows).length<=4 by rw[y2L];omega);clear x hN;generalize hmm:rows.length=m at *
 have dA:=un hmm;clear hmm;generalize y2C rows=A at *
 generalize y29 rows=B at *
 generalize y3a cost rows=cs at *
 refine μ8 (λz (k:z∈y1k A B N)=>y1w b.o.ent b.o.bnd ba.o k) (λz (k:z∈y1k A B N)=>(show z.length=N from(Dz.points_fit b.o.rows k).1)) (fun(w:World) (aA:OA) (cA:Nat) (lA:List Value) (aB:OA) (cB:Nat) (aC:OA) (cC:Nat) (u:TabZ w 0 (aA,m,cA) lA A) (a:IntsZ w 0 (aB,m,cB) B)=>y4k aA m cA lA A aB cB B aC N cC cs (nC:Int) w u a b.o) (fun(w:World) (aA:OA) (cA:Nat) (lA:List Value) (aB:OA) (cB:Nat) (aC:OA) (cC:Nat) (u:TabZ w 0 (aA,m,cA) lA A) (c:IntsZ w 0 (aC,N,cC) cs)=>y5S aA m cA lA A aB cB B aC N cC cs (nC:Int) w u c b.o bB) (show y3f A B (cf cs) N=if y1k A B N=[]then 2 else if y1E A (cf cs) N=true then 3 else 1 from rfl) (show y5e A B (cf cs) N nC=y1s (λz=>y1j N (cf cs) (el z)) nC (y1k A B N) ((y1k A B N).length-1)from rfl) (λi (h:i<(y1k A B N).length)=>y2f (λz=>y1j N (cf cs) (el z)) nC h) b.o.cost λP al bn bi Q HV ah aj=>?_;generalize y1E A (cf cs) N=fb at *
 generalize y3f A B (cf cs) N=o at *
 generalize y5e A B (cf cs) N nC=dv at *
 generalize y1k A B N=pz at *
 clear b;obtain⟨W,s⟩:∃W,((w.alloc (.cells #[(aC,nC,cC),(f,m,g)] 36)).alloc (.cells #[.int .i64 0,.int .i64 0,.int .i64 0,()] 60))=W:=⟨_,rfl⟩
 refine μ6 (show θ W w.heap.size #[(aC,nC,cC),(f,m,g)] 36by rw[<-s];exact zak (zam σ)) (show θ W (w.heap.size+1) #[.int .i64 0,.int .i64 0,.int .i64 0,()] 60by rw[<-s];exact zam σ) (show Below w w W by rw[<-s];exact(zae w _).alloc σ _) (show w.heap.size+2<=W.heap.size by rw[<-s];simp) (show IntsZ W 0 (aC,nC,cC) cost by rw[<-s];exact((c).alloc _).alloc _) (show ZRows W 0 (f,m,g) J rows by rw[<-s];exact((D).alloc _).alloc _) λap aq F C HC HR=>?_;obtain⟨bQ,bX,bR,bK⟩:=bc2 ap.o;obtain⟨ca,b8,cu,b5,b6,cd,ch,b1,ci,cn,cP,cz,dr,di,df,c4⟩:=bf4 aq.o;clear c D;go_enter func15,ntmps15;go_wp2_with fail
 clear s;with_reducible refine(U.o _ HC.o HR.o).mono ?_
 rintro e w1 ⟨sA,kA,lA,sB,kB,sC,kC,rfl,u,a,c,hb⟩;refine μ7 (show θ (w1.alloc (.cells #[(sA,m,kA),(sB,m,kB),(sC,N,kC),(nC:Int)] 32)) w.heap.size #[(aC,nC,cC),(f,m,g)] 36from zak (zad hb ap.o)) (show θ (w1.alloc (.cells #[(sA,m,kA),(sB,m,kB),(sC,N,kC),(nC:Int)] 32)) (w.heap.size+1) #[.int .i64 0,.int .i64 0,.int .i64 0,()] 60from zak (zad hb aq.o)) (show TabZ (w1.alloc (.cells #[(sA,m,kA),(sB,m,kB),(sC,N,kC),(nC:Int)] 32)) 0 (sA,m,kA) lA A from((u.base (Zb _))).alloc _) (show IntsZ (w1.alloc (.cells #[(sA,m,kA),(sB,m,kB),(sC,N,kC),(nC:Int)] 32)) 0 (sB,m,kB) B from((a.base (Zb _))).alloc _) (show IntsZ (w1.alloc (.cells #[(sA,m,kA),(sB,m,kB),(sC,N,kC),(nC:Int)] 32)) 0 (sC,N,kC) cs from((c.base (Zb _))).alloc _) (show Below w w (w1.alloc (.cells #[(sA,m,kA),(sB,m,kB),(sC,N,kC),(nC:Int)] 32))from((F.o.trans ((hb).mono F.o.size))).alloc ((F.o.trans ((hb).mono F.o.size))).size _) (show θ (w1.alloc (.cells #[(sA,m,kA),(sB,m,kB),(sC,N,kC),(nC:Int)] 32)) w1.heap.size #[(sA,m,kA),(sB,m,kB),(sC,N,kC),(nC:Int)] 32from zam σ) λaG ay HA HB be aE aP=>?_;obtain⟨bN,bV,bP,bW⟩:=bc2 aG.o;obtain⟨b9,bU,cp,b3,cb,bJ,cl,b7,b2,ce,cw,cm,ds,dj,dg,c5⟩:=bf4 ay.o;obtain⟨cx,cj,cy,ck,cS,cg,bF,bG⟩:=bc4 aP.o;clear u a c hb;go_wp2_with fail
 with_reducible refine(bn.o _ sA kA lA sB kB sC kC HA.o HB.o).mono ?_
 rintro e w2 ⟨O,cO,l,rfl,hO,hb⟩;refine μ7 (zad hb aG.o) (zad hb ay.o) (zad hb aP.o) (HA.o.below hb) (be.o.below hb) (show PtsZ w2 0 (O,pz.length,cO) l pz from(hO.base (Zb _))) (aE.o.trans ((hb).mono aE.o.size)) λaD aI a6 bH aw R ac=>?_;obtain⟨bS,bL,bT,bM⟩:=bc2 aD.o;obtain⟨aJ,aF,b0,cc,aM,az,cr,b4,aN,aH,cQ,cD,a7,a1,c2,cN⟩:=bf4 aI.o;obtain⟨cJ,cG,cK,cH,cY,cv,dl,dt⟩:=bc4 a6.o;clear hO hb;generalize hq:pz.length=q at *
 have G:=un hq;have dJ:q<=9223372036854775807:=by have h1:=R.o.form.2.1;have h2:=R.o.form.2.2.1;unfold maxLen at h2;omega
 clear hq;clear bQ bX bR bK ca b8 cu b5 b6 cd ch b1 ci cn cP cz dr di df c4 bN bV bP bW b9 bU cp b3 cb bJ cl b7 b2 ce cw cm ds dj dg c5 cx cj cy ck cS cg bF bG;by_cases E:q=0
 ·have d:=un (show o=2 by rw[Q.o,if_pos (Xl.1 (G.o.trans E))]);subst E;go_wp2;refine Zi (v:=.agg #[.int .i64 2,.int .i64 0,.int .i64 0,()]) (by simp[results,results15,go_sem,aJ,aF,aM,az,aN,aH,a7,a1]) rfl ?_;exact⟨0,0,none,0,0,by rw[d.o],.inr ⟨by rw[d.o];decide,rfl⟩,bsc (bsc (bsc (bsc ac.o)))⟩
 have T:=un E;have am:=un (show ¬pz=[]from λe=>E (by rw[<-G.o,e];rfl));have dG:((q:Int) == 0)=false:=by simp;omega
 clear E;go_wp2_with fail
 with_reducible refine(bi.o _ sA kA lA sB kB sC kC bH.o aw.o).mono ?_
 rintro e w3 ⟨rfl,hb⟩;refine μ6 (zad hb aD.o) (zad hb aI.o) (zad hb a6.o) (aw.o.below hb) (R.o.below hb) (ac.o.trans ((hb).mono ac.o.size)) λaK aV a9 bE ab ad=>?_;obtain⟨cE,bY,cF,bZ⟩:=bc2 aK.o;obtain⟨a3,aT,de,cT,a4,aU,da,cU,a5,aW,db,cV,a8,a2,dh,c6⟩:=bf4 aV.o;obtain⟨dw,dn,dx,dp,dy,dq,dz,du⟩:=bc4 a9.o;clear hb;clear bS bL bT bM aJ aF b0 cc aM az cr b4 aN aH cQ cD a7 a1 c2 cN cJ cG cK cH cY cv dl dt;cases fb
 ·have d:=un (show o=1 by rw[Q.o,if_neg am.o,if_neg δ]);obtain⟨L,I⟩:∃L,pz[0]? = some L:=⟨pz[0]'(by rw[G.o];have:=T.o;omega),Ze _⟩
  have bq:=un (show y1s (λz=>y1j N (cf cs) (el z)) nC pz 0=L by unfold y1s;rw[Zf,I];rfl);have bl:=un (al.o L (Zl I));obtain⟨bO,rfl,_,_⟩:=ab.o.has (by have:=T.o;omega);obtain⟨a0,c0,_,y,Y⟩:=ab.o.at_ I;rw[bl.o]at y Y;have bj:=un Y;have dH:(0:Int)<(q:Int):=by have:=T.o;omega
  have dI:0<q:=ω;clear Y I;go_wp2_with fail
  go_loopw [5,6] (λbv iv wr=>∃(i:Nat) (n:OA) (r:Nat),iv=.int .i64 ((i:Int)+1)/\bv=(n,N,r)/\i+1<=q/\FracsZ wr 0 (n,N,r) (y1s (λz=>y1j N (cf cs) (el z)) nC pz i)/\Below w3 w3 wr)
   (λ_ iv _=>q-(intOf iv).toNat)
  case atStart=>exact⟨0,a0,c0,rfl,rfl,ω,by rw[bq.o];exact bj.o,Zh _ _⟩
  rename World=>wr
  obtain⟨i,n,r,rfl,rfl,hi,hZ,a⟩:=hrel;refine μ8 hZ a (zad a aK.o) (zad a aV.o) (zad a a9.o) (bE.o.below a) (ab.o.below a) (ad.o.trans ((a).mono ad.o.size)) λC af aL aO aY ax bI aS=>?_;obtain⟨dV,dN,dW,dO⟩:=bc2 aL.o;obtain⟨d1,dR,dX,dT,d2,dS,dY,dU,eo,d5,ea,d4,es,ee,ed,d3⟩:=bf4 aO.o;obtain⟨ep,d6,eq,d7,dd,ef,dm,ej⟩:=bc4 aY.o;clear hZ a;clear cE bY cF bZ a3 aT de cT a4 aU da cU a5 aW db cV a8 a2 dh c6 dw dn dx dp dy dq dz du;clear y;by_cases bA:i+1<q
  ·obtain⟨z,k⟩:∃z,pz[i+1]? = some z:=⟨pz[i+1]'(by rw[G.o];exact bA),Ze _⟩
   have ao:=un (Zl k);have bc:=un (ah.o i ω);have ai:=un (show y1s (λz=>y1j N (cf cs) (el z)) nC pz (i+1)=if y2x (λz=>y1j N (cf cs) (el z)) nC z (y1s (λz=>y1j N (cf cs) (el z)) nC pz i)=true then z else y1s (λz=>y1j N (cf cs) (el z)) nC pz i by
    conv=>lhs;unfold y1s
    rw[show pz.getD (i+1) []=z by rw[Zf,k];rfl])
   obtain⟨V,cX,_,y,H⟩:=bI.o.at_ k;rw[al.o z ao.o]at y H;have bm:=un (y6h sC N kC cs nC V cX z n r (y1s (λz=>y1j N (cf cs) (el z)) nC pz i) wr.drew ax.o.drew H.drew C.o.drew aj.o (P.o z ao.o) (P.o _ bc.o) ar ω);have bk:=un H;generalize y2x (λz=>y1j N (cf cs) (el z)) nC z (y1s (λz=>y1j N (cf cs) (el z)) nC pz i)=lb at *
   have dD:(i:Int)+1<(q:Int):=ω;have dC:(0:Int)<=(i:Int)+1:=ω;clear H k;go_upto_region 11 with fail
   have dM:=zaa y;refine wp_region_noPanic ?_;refine wp_region_held_drew (S:=λw'=>χ w' w1 2 (sC,N,kC)/\χ w' w1 3 (.int .i64 (nC:Int))/\χ w' bO (i+1) (V,N,cX)) ξ kp λhHeld=>?_;refine zaw [0,1,2,3,4,5,6,7,8] ?_;repeat refine tkH (hS:=hHeld) (h:=?_)
   refine zao ?_;refine wpAnyH_ready (rs:=[9]) ξ σ ?_;refine AllReadyH.cons rfl (λK j=>?_) AllReadyH.nil;go_simp;(go_at_call 43;(with_reducible refine bm.o.mono ?_);rintro e w5 ⟨rfl,hb⟩;have t:=un (It.bdrew0' hb);have u0:=zab t.o dd;have u1:=zab t.o dm;have u2:=zab t.o y;clear hb);(try go_wp2_with fail);refine j.o _ _ kp λhHeld=>?_;clear j K;try simp only[Act.put,pu1,pu2,pu3,pu4,pu5,pu6]
   refine wpAnyH_done ξ ?_ _;refine NoPanic.normal ?_;have ag:=un (af.o.trans (t.o.mono af.o.size));cases lb
   ·have M:=un (show y1s (λz=>y1j N (cf cs) (el z)) nC pz (i+1)=y1s (λz=>y1j N (cf cs) (el z)) nC pz i from ai.o);go_wp2_with fail
    go_roundw
    case rel=>exact⟨i+1,n,r,by go_num,rfl,ω,by rw[M.o];exact C.o.below t.o,ag.o⟩
    case measure=>simp[intOf];omega
   have M:=un (show y1s (λz=>y1j N (cf cs) (el z)) nC pz (i+1)=z from ai.o);go_wp2_with fail
   go_roundw
   case rel=>exact⟨i+1,V,cX,by go_num,rfl,ω,by rw[M.o];exact bk.o.below t.o,ag.o⟩
   case measure=>simp[intOf];omega
  obtain rfl:q=i+1:=ω;have ak:=un (show dv=y1s (λz=>y1j N (cf cs) (el z)) nC pz i from HV.o);have an:=un (show FracsZ wr 0 (n,N,r) dv by rw[ak.o];exact C.o);have bh:=un (show y14 dv by rw[ak.o];exact P.o _ (ah.o i ω));obtain⟨Z,X,dK,hcut⟩:=y45 C.o nC ar;have bg:=un hcut;clear hcut;have bf:=un (y4F sC N kC cs n r dv wr.drew ax.o.drew an.o.drew aj.o bh.o ω);generalize y1j N (cf cs) (el dv)=cq at *
  have dE:¬((i:Int)+1<((i+1:Nat):Int)):=ω;go_upto_region 13 with fail
  refine zaS (S:=λw'=>χ w' w1 2 (sC,N,kC)/\χ w' w1 3 (.int .i64 (nC:Int))) [9] (h:=λhHeld=>?_);refine zaw [0,1,2,4,5,6,7] ?_;repeat refine tkL (hS:=hHeld) (h:=?_)
  refine zao ?_;refine zaB 3 (h:=λK j=>?_);go_simp;(go_at_call 44;(with_reducible refine(bf.o).mono ?_);rintro e w6 ⟨rfl,hb⟩;refine μ5 (zad hb aL.o) (zad hb aO.o) (zad hb aY.o) (show FracsZ w6 0 (Z,nC,X) (dv.take nC)from((bg.o _ _ _ an.o).drew.below hb)) (aS.o.trans ((It.bdrew0' hb).mono aS.o.size)) λct aQ c3 br cI=>?_;obtain⟨dZ,dP,d0,dQ⟩:=bc2 ct.o;obtain⟨c7,cL,ek,d8,c8,cM,em,d9,dc,cW,en,eb,dk,c1,er,ec⟩:=bf4 aQ.o;obtain⟨eu,eg,ev,eh,ew,ei,ex,et⟩:=bc4 c3.o;clear hb);(try go_wp2_with fail);refine shutOn j λhHeld=>?_;clear j K;refine zaw [8] ?_;repeat refine tkL (hS:=hHeld) (h:=?_)
  refine zao ?_;refine zay 9 (h:=λK j=>?_);go_simp;refine shutOff j ?_;clear j K;refine zaM (h:=?_);go_wp2;refine Zi (v:=.agg #[.int .i64 1,.int .i64 cq.num,(cq.den:Int),(Z,nC,X)]) (by simp[results,results15,go_sem,c7,cL,c8,cM,dc,cW,dk,c1]) rfl ?_;have bs:=aQ;exact⟨cq.num,(cq.den:Int),Z,nC,X,by rw[d.o],.inl ⟨d.o,rfl,rfl,rfl,y3M br.o bs.o δ _ _ _ _ rfl⟩,bsc (bsc (bsc (bsc cI.o)))⟩
 have d:=un (show o=3 by rw[Q.o,if_neg am.o,if_pos rfl]);go_wp2;refine Zi (v:=.agg #[.int .i64 3,.int .i64 0,.int .i64 0,()]) (by simp[results,results15,go_sem,a3,aT,a4,aU,a5,aW,a8,a2]) rfl ?_;exact⟨0,0,none,0,0,by rw[d.o],.inr ⟨by rw[d.o];decide,rfl⟩,bsc (bsc (bsc (bsc ad.o)))⟩
end Zr
open Dz (Fz y1j y1k y1s y2f y1w)
theorem y6i{q:Rat}(h:Fz q):mw q<=1:=by
 have e:q=fr q.num (q.den:Int):=by rw[zDB (by have:=q.den_nz;omega)];exact(Rat.num_divInt_den q).symm
 rw[e];exact zH7 ⟨by have:=h.1;omega,by have:=h.1;omega⟩ ⟨by have:=h.2;omega,by have:=h.2;omega⟩
theorem y5Q{A:List (List Int)}{cs:List Int}(h:SmallZ m N A B cs)(b:A.length<=4)(a:y3f A B (cf cs) N=1):y5e A B (cf cs) N own∈y1k A B N/\Fz (y1j N (cf cs) (el (y5e A B (cf cs) N own))):=by
 have d:y1k A B N≠[]:=λe=>by unfold y3f at a;rw[if_pos e]at a;exact absurd a δ
 have hi:=y2f (λz=>y1j N (cf cs) (el z)) own (i:=(y1k A B N).length-1) (ps:=y1k A B N) (by have:=List.length_pos_iff.2 d;omega);exact⟨hi,(y1w h.ent h.bnd b hi).sum (c:=λj=>cs.getD j 0) (λj=>Dz.getD_abs h.cost j) (n:=N) (by have:=h.n7;omega)⟩
theorem SmallP.good1{rows:List ZRow}(h:SmallP nC cost rows):Good1 nC rows.length (y6C cost) (toP rows):=by
 have a:∀xs:List Int,(∀x∈xs,x.natAbs<=9)->∀q∈y6C xs,mw q<=1:=λxs c q a=>by obtain⟨x,d,rfl⟩:=ZG.1 a;exact zu9 x (by have:=c x d;constructor<;>omega)
 refine⟨by have:=h.nc;omega,by have:=h.nr;omega,a _ h.ec,λp b=>?_,λp b=>?_⟩;obtain⟨r,hr,rfl⟩:=ZG.1 b;refine⟨?_,a _ (h.er r hr).1,zu9 r.rhs (by have:=(h.er r hr).2;constructor<;>omega)⟩;show(y6C r.coef).length=nC
 rw[y6x,h.co r hr];obtain⟨r,hr,rfl⟩:=ZG.1 b;have:=h.kd r hr;show 1<=r.kind/\r.kind<=3
 omega
