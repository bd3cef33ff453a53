/- Contracts and lemmas: Zi Lk. Conditions: as each says. -/
import Derived.Test.YtbpjabgfcbjjmaaGreatZtYe
import Derived.Test.YtbpjabgfcbjjmaaGreatDslYe
set_option linter.all false
set_option maxHeartbeats 4000000
set_option maxRecDepth 100000
namespace Go.Proofs.YtbpjabgfcbjjmaaGreat
open Go.RowKit Am Go.Proofs.Tryz
open Dz (Fz y1C y1p y1U)
attribute [local go_sem ↓] Go.wp_at_zero Go.wp_at_succ
theorem y68{n r:Nat}(h:r∈List.range n):r<n:=Xu.1 h
namespace Zr
theorem y7m(aA:OA)(nA cA:Nat)(aB:OA)(nB cB:Nat)(aC:OA)(nC cC:Nat)(own:Int)(w:World)(s:nA<=8) :
  Calls prog 79 #[.agg #[(aA,nA,cA),(aB,nB,cB),(aC,nC,cC),.int .i64 own]] w (zv3 w (zN (List.range nA))):=by
 obtain⟨W,d⟩:∃W,(w.alloc (.cells #[(aA,nA,cA),(aB,nB,cB),(aC,nC,cC),.int .i64 own] 73))=W:=⟨_,rfl⟩
 have g:=un (show θ W w.heap.size #[(aA,nA,cA),(aB,nB,cB),(aC,nC,cC),.int .i64 own] 73by rw[<-d];exact zam σ);have b:=un (show Below w w W by rw[<-d];exact zae w _);obtain⟨z,D,A,v,F,H,L,I⟩:=bc4 g.o;go_enter func79,ntmps79;go_wp2_with fail
 clear d
 go_loopw [3,4] (λm e wr=>∃(r:Nat) (O:OA) (cO:Nat),e=.int .i64 r/\m=(O,r,cO)/\r<=nA/\IntsZ wr W.heap.size (O,r,cO) (zN (List.range r))/\Below W.heap.size W wr)
  (λ_ e _=>nA-(intOf e).toNat)
 case atStart=>exact⟨0,none,0,rfl,rfl,Zb _,IntsZ.nil _ _,Zj _ _⟩
 rename World=>wr
 obtain⟨r,O,cO,rfl,rfl,hr,i,a⟩:=hrel;refine μ3 i (zad a g.o) (b.o.trans ((a).mono b.o.size)) λf p o=>?_;obtain⟨x,B,y,C,E,G,M,J⟩:=bc4 p.o;have c:=un a;clear i a;by_cases q:r<nA
 ·have u:(r:Int)<(nA:Int):=ω
  have t:(0:Int)<=(r:Int):=Zf _;go_upto_region 4 with (at_builtin;go_loud (refine wpl rfl (λK l=>y1n (N:=r+1) _ _ rfl rfl (f.o.alloc _) rfl (ys:=[(r:Int)]) (y19 (zal _ _ _) rfl) (by rw[y1y,Yf]) ω (by have:=c.o.size;simp;omega) K l) ?_;rintro _ n ⟨X7,c7,rfl,hI7,hk7,hb7,hf7,ho7⟩;have k:=un (show IntsZ n W.heap.size (X7,r+1,c7) (zN (List.range (r+1)))by rw[Yd,y5j];exact hI7);have j:=un ((Xh c.o c.o.size _).trans hb7);clear hI7 hk7 hb7 hf7 ho7))
  go_wp2;go_roundw
  case rel=>exact⟨r+1,X7,c7,by go_num,rfl,ω,k.o,j.o⟩
  case measure=>simp[intOf];omega
 obtain rfl:r=nA:=ω;go_wp2;go_ret;exact⟨O,cO,by rw[y1y,Yf];rfl,by rw[y1y,Yf];exact f.o.base b.o.size,o.o⟩
theorem isT(aA:OA)(m cA:Nat)(lA:List Value)(A:List (List Int))(aB:OA)(nB cB:Nat)(aC:OA)(N cC:Nat)(own:Int)(o:OA)(n q:Nat)(cols:List Nat)(w:World)(s:TabZ w 0 (aA,m,cA) lA A)(hS:IntsZ w 0 (o,n,q) (zN cols))(Y:∀x∈A,x.length=N)(V:y1U 9 A)(hm:m<=4)(v:∀c∈cols,c<N)(X:∀k l,k<n->l<n->cols.getD k 0=cols.getD l 0->k=l)(hn:n=m)(j:y1C m (y1p A (List.range m) cols)≠0) :
  Calls prog 23 #[.agg #[(aA,m,cA),(aB,nB,cB),(aC,N,cC),.int .i64 own],(o,n,q)] w λe w'=>e=.returned true/\Below w w w':=by
 subst hn;refine μ7 Y V v X j (show n=cols.length by rw[hS.len,y1y]) s.nlen λHL HE P ao HD B Q=>?_;clear Y V v X j;obtain⟨W,u⟩:∃W,(w.alloc (.cells #[(aA,n,cA),(aB,nB,cB),(aC,N,cC),.int .i64 own] 73))=W:=⟨_,rfl⟩
 refine μ4 (show θ W w.heap.size #[(aA,n,cA),(aB,nB,cB),(aC,N,cC),.int .i64 own] 73by rw[<-u];exact zam σ) (show Below w w W by rw[<-u];exact zae w _) (show TabZ W 0 (aA,n,cA) lA A by rw[<-u];exact(s).alloc _) (show IntsZ W 0 (o,n,q) (zN cols)by rw[<-u];exact(hS).alloc _) λU I HA R=>?_;obtain⟨a5,bb,a6,a0,bf,bj,bB,bx⟩:=bc4 U.o;clear s hS;go_enter func23,ntmps23;go_wp2_with fail
 clear u
 go_loopw [5] (λG wr=>∃k:Nat,G=.int .i64 k/\k<=n/\Below W.heap.size W wr)
  (λG _=>n-(intOf G).toNat)
 case atStart=>exact⟨0,rfl,Zb _,Zj _ _⟩
 rename World=>wr
 obtain⟨k,rfl,hk,g⟩:=hrel;refine μ4 (zad g U.o) (HA.o.below g) (R.o.below g) (I.o.trans ((g).mono I.o.size)) λae aE H ad=>?_;obtain⟨a3,a9,a4,ba,be,bg,bC,bz⟩:=bc4 ae.o;have aj:=un g;clear g;by_cases v:k<n
 ·obtain⟨c,hc⟩:∃c,cols[k]? = some c:=⟨cols[k]'(by rw[<-B.o];exact v),Ze _⟩
  have L:=un hc;have aH:=P.o c (Zz hc);obtain⟨D,rfl,_,_⟩:=H.o.has ω;have y0:=H.o.at_ (y49 hc);have aW:=zaa y0;have aQ:(k:Int)<(n:Int):=ω;have aP:(0:Int)<=(k:Int):=Zf _;have aJ:¬(c:Int)<0:=ω;have aI:¬(N:Int)<=(c:Int):=ω;clear hc;go_upto_region 4 with fail
  refine zaS (S:=λw'=>χ w' D k (.int .i64 (c:Int))/\χ w' w 2 (aC,N,cC)) [] (h:=λhHeld=>?_);refine zaw [0,1,2,3,4,5,6,7,8,9,10,11,12,13,14] ?_;repeat refine tkL (hS:=hHeld) (h:=?_)
  refine zao ?_;refine zaM (h:=?_);go_wp2_with fail
  go_loopw [6] (λF wx=>∃i:Nat,F=.int .i64 i/\i<=k/\Below W.heap.size W wx)
   (λF _=>k-(intOf F).toNat)
  case atStart=>exact⟨0,rfl,Zb _,bdrew aj.o⟩
  rename World=>wx
  obtain⟨i,rfl,hi,z⟩:=hrel;have J:=un z;by_cases aT:i<k
  ·obtain⟨d,j⟩:∃d,cols[i]? = some d:=⟨cols[i]'(by rw[<-B.o];omega),Ze _⟩
   have T:=un (R.o.below z);have y1:=T.o.at_ (y49 j);have aX:=zaa y1;have y2:=T.o.at_ (y49 L.o);have aY:=zaa y2;have ax:¬(d:Int)=(c:Int):=λe=>by have e2:d=c:=ω;have:=ao.o i k ω v (by rw[Zg,Zg,j,L.o];exact e2);omega
   have aN:(i:Int)<(k:Int):=ω;have aO:(i:Int)<(n:Int):=ω;have aM:(0:Int)<=(i:Int):=Zf _;have aU:((d:Int) == (c:Int))=false:=by simpa using ax
   clear j z;go_upto_region 9 with fail
   refine zaS (S:=λw'=>χ w' D i (.int .i64 (d:Int))/\χ w' D k (.int .i64 (c:Int))) [] (h:=λhHeld=>?_);refine zaw [0,1,2,3,4,5,6,7,8] ?_;repeat refine tkL (hS:=hHeld) (h:=?_)
   refine zao ?_;refine zaM (h:=?_);go_wp2;go_roundw
   case rel=>exact⟨i+1,by go_num,ω,bdrew J.o⟩
   case measure=>simp[intOf];omega
  obtain rfl:i=k:=ω;clear z;go_wp2;go_roundw
  case rel=>exact⟨i+1,by go_num,ω,J.o⟩
  case measure=>simp[intOf];omega
 obtain rfl:k=n:=ω;refine μ4 (fun(b:OA) (f:Nat) (w:World) (s:TabZ w 0 (.slice aA k cA) lA A) (t:IntsZ w 0 (.slice b k f) (zN (List.range k))) (hS:IntsZ w 0 (.slice o k q) (zN cols))=>y5U aA k cA lA A b k f (List.range k) o k q cols w s t hS (λr hr=>⟨by have:=y68 hr;rw[<-Q.o];exact this,λc hc=>by rw[y4n HL.o (by have:=y68 hr;rw[<-Q.o];exact this)];exact P.o c hc⟩) ω ω) (y4a (A:=A) (rs:=List.range k) (p:=cols)) (HE.o.part (List.range k) cols) (show(List.range k).length=k from Yf) λar C al y=>?_;generalize hMM:y1p A (List.range k) cols=M at *
 clear hMM;have E:=HD.o;generalize hdd:y1C k M=d at *
 have am:=un hdd;have aK:(d == 0)=false:=by simpa using E
 have aL:(d != 0)=true:=by simpa using E
 clear E hdd;go_upto_region 11 with fail
 refine zaS (S:=λw'=>χ w' w 0 (.slice aA k cA)/\χ w' w 1 (aB,nB,cB)/\χ w' w 2 (aC,N,cC)/\χ w' w 3 (.int .i64 own)) [] (h:=λhHeld=>?_);refine zaw [0,1,2,3,4,5,6,7,8,9,11] ?_;repeat refine tkL (hS:=hHeld) (h:=?_)
 refine zao ?_;refine zaB 10 (h:=λK a=>?_);go_simp
 (go_at_call 79;(with_reducible refine(y7m aA k cA aB nB cB aC N cC own _ ω).mono ?_);rintro e Z ⟨b,f,rfl,t,hb⟩;refine μ5 (zad hb ae.o) (aE.o.drew.below hb) (H.o.drew.below hb) (show IntsZ Z 0 (.slice b k f) (zN (List.range k))from((by rw[y1y,y.o]at t;exact t.base (Zb _)):IntsZ Z 0 (.slice b k f) (zN (List.range k)))) (ad.o.trans ((It.bdrew0' hb).mono ad.o.size)) λac az aD au af=>?_;obtain⟨a7,a1,a8,a2,bp,bm,bw,bt⟩:=bc4 ac.o;rw[y1y,y.o];clear t hb)
 (try go_wp2_with fail)
 refine shutOn a λhHeld=>?_;clear a K;refine zaB 12 (h:=λK a=>?_);go_simp
 (go_at_call 78;(with_reducible refine(ar.o b f _ az.o au.o aD.o).mono ?_);rintro e w3 ⟨O,cO,l,rfl,hO,hb⟩;refine μ3 (zad hb ac.o) (show TabZ w3 0 (.slice O k cO) l M from((by rw[C.o.1,y.o]at hO;exact hO.base (Zb _)):TabZ w3 0 (.slice O k cO) l M)) (af.o.trans ((hb).mono af.o.size)) λag HO ah=>?_;obtain⟨bn,bc,bo,bd,bs,bq,aZ,bD⟩:=bc4 ag.o;rw[C.o.1,y.o];clear hO hb)
 (try go_wp2_with fail)
 refine shutOn a λhHeld=>?_;clear a K;refine zaB 13 (h:=λK a=>?_);go_simp
 (go_at_call 77;(with_reducible refine(y6d k O cO l M _ HO.o (λr hr=>by rw[C.o.2 r hr,<-B.o]) al.o ω).mono ?_);rintro e w4 ⟨rfl,hb⟩;have aF:=un (zad hb ag.o);have aG:=un (ah.o.trans ((hb).mono ah.o.size));obtain⟨bk,bh,bl,bi,bu,br,bA,bv⟩:=bc4 aF.o;rw[am.o];clear hb)
 (try go_wp2_with fail)
 refine shutOn a λhHeld=>?_;clear a K;refine zaw [14,15,16] ?_;repeat refine tkL (hS:=hHeld) (h:=?_)
 refine zao ?_;refine zaM (h:=?_);go_wp2;go_ret;exact⟨rfl,aG.o⟩
end Zr
end Go.Proofs.YtbpjabgfcbjjmaaGreat
namespace Go.Proofs.YtbpjabgfcbjjmaaGreat
open Go.RowKit Am Go.Proofs.Tryz
open Dz (Fz)
attribute [local go_sem ↓] Go.wp_at_zero Go.wp_at_succ
namespace Lw
theorem y7b(g:Bool)(A:OA)(m c:Nat)(D:OA)(f b:Nat)(a:Rat)(w:World)(h:RatS w g (A,m,c) (D,f,b) a)(d:Fz a) :
  Calls prog 75 #[.agg #[g,(A,m,c),(D,f,b)],.agg #[.int .i64 a.num,(a.den:Int)]] w λe w'=>e=.returned true/\Below w w w':=by
 refine μ4 (show(a.den:Int)≠0 by have:=a.den_nz;omega) (show I64 a.num/\I64 (a.den:Int)from⟨⟨by have:=d.1;omega,by have:=d.1;omega⟩,⟨by have:=d.2;omega,by have:=d.2;omega⟩⟩) (show mw a<=1000000 from Zl (y6i d) δ) (show a=Rat.divInt a.num (a.den:Int)from(Rat.num_divInt_den a).symm) λs k r o=>?_;clear d;generalize a.num=p at *
 generalize (a.den:Int)=q at *
 obtain⟨W,i⟩:∃W,((w.alloc (.cells #[g,(A,m,c),(D,f,b)] 62)).alloc (.cells #[.int .i64 p,.int .i64 q] 36))=W:=⟨_,rfl⟩
 refine μ4 (show θ W w.heap.size #[g,(A,m,c),(D,f,b)] 62by rw[<-i];exact zak (zam σ)) (show θ W (w.heap.size+1) #[.int .i64 p,.int .i64 q] 36by rw[<-i];exact zam σ) (show Below w w W by rw[<-i];exact(zae w _).alloc σ _) (show RatS W g (A,m,c) (D,f,b) a by rw[<-i];exact((h).alloc _).alloc _) λl n j t=>?_;obtain⟨E,J,F,z,L,S⟩:=bc3 l.o;obtain⟨Q,N,M,T⟩:=bc2 n.o;clear h;go_enter func75,ntmps75;go_wp2_with fail
 clear i;with_reducible refine(z6u g A m c D f b a p q _ t.o s.o k.o.1 k.o.2 o.o r.o).mono ?_
 rintro e w1 ⟨rfl,hb⟩;refine μ3 (zad hb l.o) (zad hb n.o) (j.o.trans ((hb).mono j.o.size)) λx u v=>?_;obtain⟨B,H,C,I,K,P⟩:=bc3 x.o;obtain⟨O,G,R,y⟩:=bc2 u.o;clear hb;go_wp2;go_ret;exact⟨rfl,v.o⟩
theorem y7g(P:OA)(n u:Nat)(X:List Rat)(Z:OA)(v:Nat)(w:World)(l:VecS w 0 (P,n,u) X)(y:FracsZ w 0 (Z,n,v) X)(z:∀q∈X,Fz q)(T:n<=1000) :
  Calls prog 76 #[(P,n,u),(Z,n,v)] w λe w'=>e=.returned true/\Below w w w':=by
 refine μ4 l y z l.len λM N G I=>?_;clear l y z;go_enter func76,ntmps76;go_wp2_with fail
 go_loopw [5] (λo wr=>∃k:Nat,o=.int .i64 k/\k<=n/\Below w w wr)
  (λo _=>n-(intOf o).toNat)
 case atStart=>exact⟨0,rfl,Zb _,Zj _ _⟩
 rename World=>wr
 obtain⟨k,rfl,hk,b⟩:=hrel;have f:=un b;by_cases O:k<n
 ·obtain⟨q,d⟩:∃q,X[k]? = some q:=⟨X[k]'(by rw[<-I.o];exact O),Ze _⟩
  have r:=un (M.o.below b);have s:=un (N.o.below b);obtain⟨i,rfl,_⟩:=r.o.has ω;obtain⟨t,rfl,_⟩:=s.o.has ω;obtain⟨g,A,m,c,D,p,j,B,C,E,hr⟩:=r.o.at_ d;obtain⟨y0,y1⟩:=s.o.at_ d;have J:=un (G.o q (Zz d));have H:=un (fun(w:World) (h:RatS w g (A,m,c) (D,p,j) q)=>y7b g A m c D p j q w h J.o);have L:=un hr;generalize q.num=qn at *
  generalize (q.den:Int)=qd at *
  have V:=zaa B;have Y:=zaa C;have ab:=zaa E;have ad:=zaa y0;have af:=zaa y1;have R:(k:Int)<(n:Int):=ω;have Q:(0:Int)<=(k:Int):=Zf _;clear b hr d;go_upto_region 6 with fail
  refine zaS (S:=λw'=>χ w' i (k*3) (.bool g)/\χ w' i (k*3+1) (A,m,c)/\χ w' i (k*3+2) (D,p,j)/\χ w' t (k*2) (.int .i64 qn)/\χ w' t (k*2+1) (.int .i64 qd)) [] (h:=λhHeld=>?_);refine zaw [0,1,2,3,4,5,6,7] ?_;repeat refine tkL (hS:=hHeld) (h:=?_)
  refine zao ?_;refine zaB 8 (h:=λK x=>?_);go_simp;(go_at_call 75;(with_reducible refine(H.o _ L.o.drew).mono ?_);rintro e U ⟨rfl,hb⟩;have a:=un (It.bdrew0' hb);have F:=un (f.o.trans (a.o.mono f.o.size));have W:=zab a.o B;have aa:=zab a.o C;have ac:=zab a.o E;have ae:=zab a.o y0;have ag:=zab a.o y1;clear hb);(try go_wp2_with fail);refine shutOn x λhHeld=>?_;clear x K;refine zaw [9] ?_;repeat refine tkL (hS:=hHeld) (h:=?_)
  refine zao ?_;refine zaM (h:=?_);go_wp2;go_roundw
  case rel=>exact⟨k+1,by go_num,ω,F.o⟩
  case measure=>simp[intOf];omega
 obtain rfl:k=n:=ω;clear b;go_wp2;go_ret;exact⟨rfl,f.o⟩
theorem y7e(g:Bool)(A:OA)(m c:Nat)(D:OA)(i f:Nat)(v:Rat)(P:OA)(n b:Nat)(X:List Rat)(Z:OA)(d:Nat)(w:World)(s:RatS w g (A,m,c) (D,i,f) v)(j:VecS w 0 (P,n,b) X)(k:FracsZ w 0 (Z,n,d) X)(t:Fz v)(u:∀q∈X,Fz q)(G:n<=1000) :
  Calls prog 22 #[.agg #[.int .i64 1,g,(A,m,c),(D,i,f),(P,n,b)],.agg #[.int .i64 1,.int .i64 v.num,(v.den:Int),(Z,n,d)]] w λe w'=>e=.returned true/\Below w w w':=by
 have B:=un (fun(w:World) (h:RatS w g (A,m,c) (D,i,f) v)=>y7b g A m c D i f v w h t);have E:=un (fun(w:World) (j:VecS w 0 (P,n,b) X) (k:FracsZ w 0 (Z,n,d) X)=>y7g P n b X Z d w j k u G);clear t u;generalize v.num=vn at *
 generalize (v.den:Int)=vd at *
 obtain⟨W,a⟩:∃W,((w.alloc (.cells #[.int .i64 1,g,(A,m,c),(D,i,f),(P,n,b)] 68)).alloc (.cells #[.int .i64 1,.int .i64 vn,.int .i64 vd,(Z,n,d)] 39))=W:=⟨_,rfl⟩
 refine μ6 (show θ W w.heap.size #[.int .i64 1,g,(A,m,c),(D,i,f),(P,n,b)] 68by rw[<-a];exact zak (zam σ)) (show θ W (w.heap.size+1) #[.int .i64 1,.int .i64 vn,.int .i64 vd,(Z,n,d)] 39by rw[<-a];exact zam σ) (show Below w w W by rw[<-a];exact(zae w _).alloc σ _) (show w.heap.size+2<=W.heap.size by rw[<-a];simp) (show RatS W g (A,m,c) (D,i,f) v by rw[<-a];exact((s).alloc _).alloc _) (show VecS W 0 (P,n,b) X by rw[<-a];exact((j).alloc _).alloc _) λp r l o C F=>?_;have o:=un (show FracsZ W 0 (Z,n,d) X by rw[<-a];exact((k).alloc _).alloc _);obtain⟨V,ag,Y,Q,ak,av,aR,aN,aT,aP⟩:=bc5 p.o;obtain⟨ar,am,al,aw,az,aA,aJ,aE⟩:=bc4 r.o;clear s j k;go_enter func22,ntmps22;go_wp2_with fail
 clear a;with_reducible refine(B.o _ C.o).mono ?_
 rintro e w1 ⟨rfl,hb⟩;refine μ5 (zad hb p.o) (zad hb r.o) (F.o.below hb) (o.o.below hb) (l.o.trans ((hb).mono l.o.size)) λz x L H y=>?_;obtain⟨T,ae,U,af,ai,ao,aS,aO,aU,aQ⟩:=bc5 z.o;obtain⟨an,ac,au,O,ah,ax,aK,aF⟩:=bc4 x.o;clear hb;go_wp2_with fail
 with_reducible refine(E.o _ L.o H.o).mono ?_
 rintro e M ⟨rfl,hb⟩;refine μ3 (zad hb z.o) (zad hb x.o) (y.o.trans ((hb).mono y.o.size)) λI J K=>?_;obtain⟨aa,R,ab,S,aC,aB,aL,aI,aM,aH⟩:=bc5 I.o;obtain⟨ap,ad,aq,N,ay,aj,aG,aD⟩:=bc4 J.o;clear hb;go_wp2;go_ret;exact⟨rfl,K.o⟩
theorem y7d(o:Int)(r:o≠1)(g:Bool)(A:OA)(m c:Nat)(D:OA)(b a:Nat)(P:OA)(f:Nat)(l k:Int)(w:World)(s:RatS w g (A,m,c) (D,b,a) 0)(Z:OA)(j i:Nat) :
  Calls prog 22 #[.agg #[.int .i64 o,g,(A,m,c),(D,b,a),.slice P 0 f],.agg #[.int .i64 o,.int .i64 l,.int .i64 k,(Z,j,i)]] w λe w'=>e=.returned true/\Below w w w':=by
 have z:(o == 1)=false:=by simpa using r
 have B:(o != 1)=true:=by simpa using r
 have u:=un (show zr 0=true from rfl);obtain⟨W,d⟩:∃W,((w.alloc (.cells #[.int .i64 o,g,(A,m,c),(D,b,a),.slice P 0 f] 68)).alloc (.cells #[.int .i64 o,.int .i64 l,.int .i64 k,(Z,j,i)] 39))=W:=⟨_,rfl⟩
 refine μ4 (show θ W w.heap.size #[.int .i64 o,g,(A,m,c),(D,b,a),.slice P 0 f] 68by rw[<-d];exact zak (zam σ)) (show θ W (w.heap.size+1) #[.int .i64 o,.int .i64 l,.int .i64 k,(Z,j,i)] 39by rw[<-d];exact zam σ) (show Below w w W by rw[<-d];exact(zae w _).alloc σ _) (show RatS W g (A,m,c) (D,b,a) 0 by rw[<-d];exact((s).alloc _).alloc _) λp q n t=>?_;obtain⟨H,M,I,E,Q,Y,am,ai,ao,ak⟩:=bc5 p.o;obtain⟨V,S,R,aa,ac,ad,ag,ae⟩:=bc4 q.o;clear s;go_enter func22,ntmps22;go_wp2_with fail
 clear d;with_reducible refine(Rt.zero g A m c D b a 0 _ t.o).mono ?_
 rintro e w1 ⟨rfl,hb⟩;refine μ3 (zad hb p.o) (zad hb q.o) (n.o.trans ((hb).mono n.o.size)) λy v x=>?_;obtain⟨F,K,G,L,O,U,an,aj,ap,al⟩:=bc5 y.o;obtain⟨T,J,X,C,N,ab,ah,af⟩:=bc4 v.o;clear hb;rw[u.o];go_wp2;go_ret;exact⟨rfl,x.o⟩
theorem y7c(o:Int)(g:Bool)(A:OA)(m c:Nat)(D:OA)(f d:Nat)(v:Rat)(P:OA)(n a:Nat)(X:List Rat)(k j:Int)(Z:OA)(i b:Nat)(w:World)(l:RatS w g (A,m,c) (D,f,d) v)(p:VecS w 0 (P,n,a) X)
  (h:(o=1/\k=v.num/\j=(v.den:Int)/\i=n/\FracsZ w 0 (Z,n,b) X/\Fz v/\(∀q∈X,Fz q)/\n<=1000)\/(o≠1/\n=0/\v=0)) :
  Calls prog 22 #[.agg #[.int .i64 o,g,(A,m,c),(D,f,d),(P,n,a)],.agg #[.int .i64 o,.int .i64 k,.int .i64 j,(Z,i,b)]] w λe w'=>e=.returned true/\Below w w w':=by
 rcases h with ⟨rfl,rfl,rfl,rfl,r,u,x,s⟩ | ⟨t,rfl,rfl⟩
 exact y7e g A m c D f d v P _ a X Z b w l p r u x s;exact y7d o t g A m c D f d P a k j w l Z i b
