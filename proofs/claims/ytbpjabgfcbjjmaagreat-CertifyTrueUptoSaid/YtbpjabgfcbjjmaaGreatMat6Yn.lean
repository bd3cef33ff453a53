/- Contracts and lemmas: Mat6 Mat7 Mat8 BasM BasT Tb1 Tb2. Conditions: as each says. -/
import Derived.Test.YtbpjabgfcbjjmaaGreatMat4Yn
import Derived.Test.YtbpjabgfcbjjmaaGreatMat3Yn
set_option linter.all false
set_option maxHeartbeats 8000000
set_option maxRecDepth 100000
namespace Go.Proofs.YtbpjabgfcbjjmaaGreat
open Go.RowKit Am Tryz
attribute [local go_sem ↓] Go.wp_at_zero Go.wp_at_succ
variable {L:List (List Rat)}{N c k r:Nat}{q:Rat}
namespace Mt
def by_(N n f:Nat)(R:OA)(l0:List Value)(L:List (List Rat))(g:Nat)(A:OA)(ny D:Nat)(y:List Rat)(O:Nat)(S T:Nat)(w:World)(h:VecsL w g (R,n,f) l0 L)(hL:∀r∈L,r.length=N)(G:VecS w O (A,n,D) y)(hn:n<=64)(hN:N<=64)(K:∀r∈L,∀q∈r,mw q<=T)(zy:∀q∈y,mw q<=S)(h1:1<=S)(h2:1<=T)(a:12*(64*(S+T+1)+1)+8<=LIM) :
  Calls prog 158 #[.agg #[(R,n,f),(N:Int)],(A,n,D)] w (zcd w (byL N L y) true):=by
 refine μ9 hn hN hL h.nlen G.len K zy (zu8 (N:=N) zy K h1 h2) a λHN P ao U ar ZL ZY ap am=>?_;have aO:n<=9223372036854775807:=ω;obtain⟨W,d⟩:∃W,(w.alloc (.cells #[(R,n,f),(N:Int)] 112))=W:=⟨_,rfl⟩
 refine μ5 (show θ W w.heap.size #[(R,n,f),(N:Int)] 112by rw[<-d];exact zam σ) (show Below w w W by rw[<-d];exact zae w _) (show w.heap.size+1<=W.heap.size by rw[<-d];simp) (show VecsL W g (R,n,f) l0 L by rw[<-d];exact(h).alloc _) (show VecS W O (A,n,D) y by rw[<-d];exact(G).alloc _) λaa M HZ V Z=>?_;obtain⟨aI,a0,aJ,aV⟩:=bc2 aa.o;go_enter func158,ntmps158;go_wp2_with (at_make;go_must (refine zdv rfl _ _ rfl N _ rfl rfl rfl (by have:=P.o;omega) W.heap.size rfl ?_;intro w1 ho j;have q0:=zab j aI;have q1:=zab j aJ;have HO:=un ho;have al:=un j))
 go_loopw [6,21] (λov i wr=>∃(k:Nat) (B:OA) (cB:Nat),i=.int .i64 k/\ov=(B,N,cB)/\k<=n/\VecS wr W.heap.size (B,N,cB) (zph N L y k)/\Below W.heap.size W wr)
  (λ_ i _=>n-(intOf i).toNat)
 case atStart=>exact⟨0,_,_,rfl,rfl,Zb _,by rw[zt5];exact HO.o,al.o⟩
 obtain⟨k,B,cB,rfl,rfl,hk,m,a⟩:=hrel;have aP:=HZ.o;by_cases ae:k<n
 ·obtain⟨r,hr⟩:∃r,L[k]? = some r:=⟨L[k]'(by rw[<-U.o];exact ae),Ze _⟩
  obtain⟨q,c⟩:∃q,y[k]? = some q:=⟨y[k]'(by rw[<-ar.o];exact ae),Ze _⟩
  have l:r.length=N:=ao.o r (Zj hr);obtain⟨bR,rfl,_,_⟩:=V.o.has ω;obtain⟨u,rfl,_,_⟩:=Z.o.has ω;obtain⟨p,C,_,H,F⟩:=(V.o.below a).at_ hr;rw[l]at H F;obtain⟨E,o,I,x,s,J,z,l0,l1,l2,ad⟩:=(Z.o.below a).at_ c;refine μ5 (zad a aa.o) (show VecS wr g (p,N,C) r from F) (show RatS wr E (o,I,x) (s,J,z) q from ad) (m) (show Bel W wr from Bel.mk a) λaj ax HQ t Y=>?_;obtain⟨_,_,aX,aZ⟩:=bc2 aj.o;have ak:χ wr bR k (p,N,C):=H;have aT:=zaa ak;have a1:=l0;have a2:=l1;have a3:=l2;refine μ5 (show(zph N L y k).length=r.length by rw[zhm,l]) (zt4 hr c l) (show ∀q∈zph N L y k,mw q<=64*(S+T+1)+1 from λq c=>Zf (ap.o k q c) (by have:=HN.o;have:=ZV (S+T+1) (show k<=64 by omega);omega)) (show mw q<=64*(S+T+1)+1 from Zf (ZY.o q (Zj c)) ω) (show ∀q∈r,mw q<=64*(S+T+1)+1 from λq c=>Zf (ZL.o r (Zj hr) q c) ω) λQ aw aB az aA=>?_;have aM:(0:Int)<=(k:Int):=Zg _;have aN:(k:Int)<(n:Int):=ω;go_wp2_with fail
  refine(Vc.addTimesS (64*(S+T+1)+1) am.o B N cB (zph N L y k) E o I x s J z q p N C r W.heap.size g _ t.o HQ.o ax.o Q.o (by have:=P.o;omega) aB.o az.o aA.o).mono ?_
  rintro e w3 ⟨B3,n3,c3,rfl,hv3,hb3⟩;refine μ3 (zad hb3 aj.o) (Y.o.below hb3) (show VecS w3 W.heap.size (B3,n3,c3) (zly (zph N L y k) q r)from(hv3.base Y.o.b.size)) λaH aL X=>?_;obtain⟨_,_,aY,aW⟩:=bc2 aH.o;have aK:=zab hb3 ak;have aU:=zaa aK;obtain rfl:n3=N:=by rw[X.o.len,zdt Q.o,zhm]
  go_wp2;go_roundw
  case rel=>exact⟨k+1,B3,c3,by go_num,rfl,ω,by rw[<-aw.o];exact X.o,aL.o.b⟩
  case measure=>simp[intOf];omega
 obtain rfl:k=n:=ω;have t:=un m;have an:=un (M.o.trans (a.mono M.o.size));go_wp2;refine Zi (v:=.tuple #[(B,N,cB),true]) (by simp[results,results158,go_sem]) rfl ?_;exact⟨_,_,_,rfl,by rw[<-zq8,<-U.o];exact t.o.base ω,an.o⟩
end Mt
def zou{j:Nat}{r:List Rat}(hr:L[k]? = some r)(a:r[j]? = some q):(zb4 L j)[k]? = some q:=by unfold zb4;rw[Z1,hr];simp[znd a]
namespace Mt
def rows(N n a:Nat)(R:OA)(w:World):Calls prog 111 #[.agg #[(R,n,a),(N:Int)]] w λe w'=>e=.returned (n:Int)/\Below w w w':=by
 obtain⟨W,b⟩:∃W,(w.alloc (.cells #[(R,n,a),(N:Int)] 112))=W:=⟨_,rfl⟩
 have d:=un (show θ W w.heap.size #[(R,n,a),(N:Int)] 112by rw[<-b];exact zam σ);have c:=un (show Below w w W by rw[<-b];exact zae w _);obtain⟨f,_⟩:=bc2 d.o;go_enter func111,ntmps111;go_wp2_with fail
 go_ret;exact⟨rfl,c.o⟩
def cols(N n a:Nat)(R:OA)(w:World):Calls prog 112 #[.agg #[(R,n,a),(N:Int)]] w λe w'=>e=.returned (N:Int)/\Below w w w':=by
 obtain⟨W,b⟩:∃W,(w.alloc (.cells #[(R,n,a),(N:Int)] 112))=W:=⟨_,rfl⟩
 have d:=un (show θ W w.heap.size #[(R,n,a),(N:Int)] 112by rw[<-b];exact zam σ);have c:=un (show Below w w W by rw[<-b];exact zae w _);obtain⟨_,_,f,_⟩:=bc2 d.o;go_enter func112,ntmps112;go_wp2_with fail
 go_ret;exact⟨rfl,c.o⟩
def row(N n b:Nat)(R:OA)(l0:List Value)(L:List (List Rat))(d:Nat)(k:Nat)(r:List Rat)(w:World)(h:VecsL w d (R,n,b) l0 L)(hr:L[k]? = some r)(o:r.length=N)(hN:N<=64)(x:n<=64) :
  Calls prog 113 #[.agg #[(R,n,b),(N:Int)],(k:Int)] w λe w'=>∃(l:OA) (c':Nat),e=.returned (.tuple #[(l,N,c'),true])/\VecS w' w (l,N,c') r/\Below w w w':=by
 have hk:=(ZF.1 hr).1;have y:=h.nlen;have B:(0:Int)<=(k:Int):=Zg _;have C:(k:Int)<(n:Int):=ω;have h1:decide ((k:Int)<0)=false:=σ;have A:decide ((n:Int)<=(k:Int))=false:=by simp;omega
 obtain⟨f,rfl,_,_⟩:=h.has ω;obtain⟨c,g,_,j,i⟩:=h.at_ hr;rw[o]at j i;have p:=un hN;obtain⟨W,a⟩:∃W,(w.alloc (.cells #[(f,n,b),(N:Int)] 112))=W:=⟨_,rfl⟩
 refine μ4 (show θ W w.heap.size #[(f,n,b),(N:Int)] 112by rw[<-a];exact zam σ) (show Below w w W by rw[<-a];exact zae w _) (show w.heap.size+1<=W.heap.size by rw[<-a];simp) (show VecS W d (c,N,g) r by rw[<-a];exact(i).alloc _) λu m t s=>?_;obtain⟨E,_⟩:=bc2 u.o;have D:χ W f k (c,N,g):=by rw[<-a];exact cell_al j
 clear h hr o hN x y i j;go_enter func113,ntmps113;go_wp2_with fail
 clear a;refine(Vc.copy c N g r d _ s.o (by have:=p.o;omega)).mono ?_
 rintro e w1 ⟨A2,c2,rfl,hv2,hb⟩;have q:=un (hv2);have z:=un (m.o.trans ((hb).mono m.o.size));clear hv2 hb;go_wp2;refine Zi (v:=.tuple #[(A2,N,c2),true]) (by simp[results,results113,go_sem]) rfl ?_;exact⟨_,_,rfl,q.o.base (by have:=t.o;omega),z.o⟩
def col(N n c:Nat)(R:OA)(l0:List Value)(L:List (List Rat))(y:Nat)(j:Nat)(w:World)(h:VecsL w y (R,n,c) l0 L)(D:∀r∈L,r.length=N)(hj:j<N)(hN:N<=64)(I:n<=64) :
  Calls prog 144 #[.agg #[(R,n,c),(N:Int)],(j:Int)] w (zcd w (zb4 L j) true):=by
 have am:(0:Int)<=(j:Int):=Zg _;have an:(j:Int)<(N:Int):=ω;have h1:decide ((j:Int)<0)=false:=σ;have h2:decide ((N:Int)<=(j:Int))=false:=by simp;omega
 refine μ3 I D h.nlen λV U f=>?_;have aq:n<=9223372036854775807:=ω;obtain⟨W,e⟩:∃W,(w.alloc (.cells #[(R,n,c),(N:Int)] 112))=W:=⟨_,rfl⟩
 refine μ4 (show θ W w.heap.size #[(R,n,c),(N:Int)] 112by rw[<-e];exact zam σ) (show Below w w W by rw[<-e];exact zae w _) (show w.heap.size+1<=W.heap.size by rw[<-e];simp) (show VecsL W y (R,n,c) l0 L by rw[<-e];exact(h).alloc _) λac u HZ z=>?_;obtain⟨ag,aD,aC,_⟩:=bc2 ac.o;go_enter func144,ntmps144;go_wp2_with (at_make;go_must (refine zdv rfl _ _ rfl n _ rfl rfl rfl (by have:=V.o;omega) W.heap.size rfl ?_;intro w1 J o;have q0:=zab o ag;have X:=un J;have S:=un o))
 go_loopw [24] (λi wr=>∃k:Nat,i=.int .i64 k/\k<=n/\VecS wr W.heap.size (.slice (some ⟨W.heap.size,0,none⟩) n n) (mix (zb4 L j) k)/\Below W.heap.size W wr)
  (λi _=>n-(intOf i).toNat)
 case atStart=>exact⟨0,rfl,Zb _,by rw[zhW,zbH,<-f.o];exact X.o,S.o⟩
 obtain⟨k,rfl,hk,a,d⟩:=hrel;have ar:=HZ.o;by_cases G:k<n
 ·obtain⟨r,hr⟩:∃r,L[k]? = some r:=⟨L[k]'(by rw[<-f.o];exact G),Ze _⟩
  have K:=U.o r (Zj hr);obtain⟨q,p⟩:∃q,r[j]? = some q:=⟨r[j]' ω,Ze _⟩
  obtain⟨bR,rfl,_,_⟩:=z.o.has ω;obtain⟨Ar,cr,_,s,l⟩:=(z.o.below d).at_ hr;rw[K]at s l;obtain⟨g,rfl,_,_⟩:=l.has ω;obtain⟨C,t,P,A,x,Q,B,l0,M,O,E⟩:=l.at_ p;have H:(mix (zb4 L j) k)[k]? = some 0:=zld (by rw[zbH,<-f.o];exact G);obtain⟨go,Ao,mo,co,Do,au,ak,o0,o1,o2,_⟩:=a.at_ H;have az:=a.fro (k*3);have of1:=a.fro (k*3+1);have aA:=a.fro (k*3+2);refine μ3 (E) (a) (Bel.mk d) λY m HW=>?_;have aE:=s;have aF:=l0;have aG:=M;have aH:=O;have Z:=un (zhV (zou hr p));have ao:(0:Int)<=(k:Int):=Zg _;have ap:(k:Int)<(n:Int):=ω;go_wp2;go_roundw
  case rel=>exact⟨k+1,by go_num,ω,by rw[<-Z.o];exact m.o.store k Y.o,(Bel.set3 HW.o (Za _) _ _ _).b⟩
  case measure=>simp[intOf];omega
 obtain rfl:k=n:=ω;have m:=un a;have T:=un (u.o.trans (d.mono u.o.size));go_wp2;refine Zi (v:=.tuple #[.slice (some ⟨W.heap.size,0,none⟩) k k,true]) (by simp[results,results144,go_sem]) rfl ?_;have F:=m.o;have e1:k=(zb4 L j).length:=by rw[zbH];exact f.o
 rw[show mix (zb4 L j) k=zb4 L j by rw[e1,zlc]]at F;exact⟨_,_,_,rfl,F.base ω,T.o⟩
end Mt
def zn8 (N:Nat) (L:List (List Rat)) (r c:Nat):List (List Rat):=(List.range N).map λi=>mix (zb4 L i) (if i<c then r+1 else r)
theorem znU(N:Nat)(L:List (List Rat))(r c:Nat):(zn8 N L r c).length=N:=by simp[zn8]
def zA0{xs:List Rat}(h:k<=xs.length):(mix xs k).length=xs.length:=by unfold mix;simp;omega
def zh7{i:Nat}(h:i<N):(zn8 N L r c)[i]? = some (mix (zb4 L i) (if i<c then r+1 else r)):=by unfold zn8;rw[Z1,XH h];rfl
def zvy(N:Nat)(L:List (List Rat)):zn8 N L 0 0=noughts N L.length:=by unfold zn8 noughts;apply Xf;intro i;rw[Z1,Z9];by_cases h:i<N;rw[XH h,if_pos h];simp[zhW,zbH];grind
def zvx(N:Nat)(L:List (List Rat))(r:Nat):zn8 N L r N=zn8 N L (r+1) 0:=by unfold zn8;refine VH λi hi=>?_;rw[if_pos ψ,if_neg ω]
def zxK(N:Nat)(L:List (List Rat)):zn8 N L L.length 0=zcZ N L:=by unfold zn8 zcZ;refine VH λi _=>?_;rw[if_neg ω];have:=zlc (zb4 L i);rw[zbH]at this;rw[this];rfl
def zxL{x:List Rat}(hc:c<N)(hr:L[r]? = some x)(b:x[c]? = some q):(zn8 N L r c).set c ((mix (zb4 L c) r).set r q)=zn8 N L r (c+1):=by rw[zhV (zou hr b)];apply Xf;intro i;rw[Xy];by_cases e:c=i;subst e;rw[if_pos rfl,if_pos (by rw[znU];exact hc),zh7 hc,if_pos ω];rw[if_neg e];by_cases h:i<N;rw[zh7 h,zh7 h];by_cases a:i<c;rw[if_pos a,if_pos ω];rw[if_neg a,if_neg ω];grind[List.getElem?_eq_none,znU]
namespace Mt
def turned(N n s:Nat)(R:OA)(l0:List Value)(L:List (List Rat))(H0:Nat)(w:World)(h:VecsL w H0 (R,n,s) l0 L)(hL:∀r∈L,r.length=N)(hN:N<=64)(hn:n<=64) :
  Calls prog 194 #[.agg #[(R,n,s),(N:Int)]] w (zx4 w N (zcZ N L) n):=by
 refine μ4 hn hN hL h.nlen λHN HC aI l=>?_;have bm:n<=9223372036854775807:=ω;have bf:N<=9223372036854775807:=ω;obtain⟨W,u⟩:∃W,((w.alloc (.cells #[(R,n,s),(N:Int)] 112)).alloc (.cells #[(),.int .i64 0] 112))=W:=⟨_,rfl⟩
 refine μ5 (show θ W w.heap.size #[(R,n,s),(N:Int)] 112by rw[<-u];exact zak (zam σ)) (show θ W (w.heap.size+1) #[(),.int .i64 0] 112by rw[<-u];exact zam σ) (show Below w w W by rw[<-u];exact(zae w _).alloc σ _) (show w.heap.size+2<=W.heap.size by rw[<-u];simp) (show VecsL W H0 (R,n,s) l0 L by rw[<-u];exact((h).alloc _).alloc _) λz J B HZ HR=>?_;obtain⟨bz,bF,bB,_⟩:=bc2 z.o;go_enter func194,ntmps194;go_wp2_with fail
 refine(new N n HC.o HN.o _).mono ?_
 rintro e w1 ⟨A,cA,l1,rfl,d,ha,hb⟩;refine μ4 (show θ (w1.alloc (.cells #[(A,N,cA),(n:Int)] 112)) w.heap.size #[(R,n,s),(N:Int)] 112from zak (zad hb z.o)) (show θ (w1.alloc (.cells #[(A,N,cA),(n:Int)] 112)) (w.heap.size+1) #[(),.int .i64 0] 112from zak (zad hb J.o)) (show VecsL (w1.alloc (.cells #[(A,N,cA),(n:Int)] 112)) W.heap.size (A,N,cA) l1 (noughts N n)from(d).alloc _) (show θ (w1.alloc (.cells #[(A,N,cA),(n:Int)] 112)) w1.heap.size #[(A,N,cA),(n:Int)] 112from zam σ) λaY aX HM a1=>?_;obtain⟨bw,bD,bx,bE⟩:=bc2 aY.o;obtain⟨bI,bC,bN,bG,bJ,bv,bM,bH⟩:=bf2 aX.o;obtain⟨bO,bK,bP,bL⟩:=bc2 a1.o;have HA:=un ha;have aF:=un hb;have aU:=hb.size;go_wp2
 go_loopw [19] (λi wr=>∃t:Nat,i=.int .i64 t/\t<=n/\θ wr w1.heap.size #[(A,N,cA),(n:Int)] 112/\VecsL wr W.heap.size (A,N,cA) l1 (zn8 N L t 0)/\Below W.heap.size W wr)
  (λi _=>n-(intOf i).toNat)
 case atStart=>exact⟨0,rfl,Zb _,zal _ _ _,by rw[zvy,<-l.o];exact HM.o,aF.o.alloc aU _⟩
 obtain⟨t,rfl,ht,f,d,a⟩:=hrel;have bo:=HZ.o;by_cases ar:t<n
 ·obtain⟨x,T⟩:∃x,L[t]? = some x:=⟨L[t]'(by rw[<-l.o];exact ar),Ze _⟩
  have aw:=aI.o x (Zj T);have ah:=un aw;obtain⟨M,rfl,_,_⟩:=HR.o.has ω;refine μ7 T d a f (zad a z.o) (zad a J.o) (B.o.trans ((a).mono B.o.size)) λHX aN aE KX H y aB=>?_;obtain⟨_,_,az,_⟩:=bc2 H.o;obtain⟨Y,X,aA,_,Z,V,aD,_⟩:=bf2 y.o;have bh:(0:Int)<=(t:Int):=Zg _;have bi:(t:Int)<(n:Int):=ω;go_wp2
  go_loopw [24] (λi wr=>∃c:Nat,i=.int .i64 c/\c<=N/\θ wr w1.heap.size #[(A,N,cA),(n:Int)] 112/\VecsL wr W.heap.size (A,N,cA) l1 (zn8 N L t c)/\Below W.heap.size W wr)
   (λi _=>N-(intOf i).toNat)
  case atStart=>exact⟨0,rfl,Zb _,KX.o,aN.o,aE.o⟩
  rename World=>wz
  obtain⟨c,rfl,hc,f,d,a⟩:=hrel;by_cases E:c<N
  ·obtain⟨q,Q⟩:∃q,x[c]? = some q:=⟨x[c]'(by rw[ah.o];exact E),Ze _⟩
   obtain⟨Ar,cr,_,F,D⟩:=(HR.o.below a).at_ HX.o;rw[ah.o]at F D;obtain⟨g,rfl,_,_⟩:=D.has ω;obtain⟨ga,Aa,ma,ca,Da,ay,aj,y0,y1,U,ap⟩:=D.at_ Q;obtain⟨bA,rfl,bg,_⟩:=d.has ω;have P:=zA0 (xs:=zb4 L c) (k:=t) (by rw[zbH,<-l.o];omega);obtain⟨Ak,ck,O,G,j⟩:=d.at_ (zh7 (L:=L) (r:=t) (c:=c) E);rw[if_neg (X5 c),P,zbH,<-l.o]at O G;rw[if_neg (X5 c),P,zbH,<-l.o]at j;obtain⟨m,rfl,aT,_⟩:=j.has ω;have au:(mix (zb4 L c) t)[t]? = some 0:=zld (by rw[zbH,<-l.o];exact ar);obtain⟨go,Ao,mo,co,Do,bp,bb,o0,o1,o2,_⟩:=j.at_ au;have aW:=j.fro (t*3);have of1:=j.fro (t*3+1);have bu:=j.fro (t*3+2);refine μ3 (zad a z.o) (d) (Bel.mk a) λaC HV HW=>?_;obtain⟨aZ,_,a0,_⟩:=bc2 aC.o;have a2:=F;have a3:=y0;have a4:=y1;have a5:=U;have a6:=G;have C:=un f;obtain⟨bT,_,_,_,bU,_⟩:=bf2 C.o;have a2:=F;have a3:=y0;have a4:=y1;have a5:=U;have a6:=G;have aM:=un (zxL E HX.o Q);have aL:=un (d.drew.put HA.o O (by rw[zh7 E,if_neg (X5 c)]) t ap.drew);obtain⟨bc,aq⟩:∃cs,θ wz m cs 62:=j.ratBlk;have I:=un aq;have bj:(0:Int)<=(c:Int):=Zg _;have bl:(c:Int)<(N:Int):=ω;have be:wz.drew.frozen? ⟨m,t*3,none⟩=false:=aW;have bd:=zaa o0;go_wp2_with fail
   refine za2 (S:=λw'=>χ w' w 0 (M,n,s)/\χ w' w 1 (.int .i64 (N:Int))/\χ w' w1 0 (bA,N,cA)/\χ w' w1 1 (.int .i64 (n:Int))/\χ w' M t (g,N,cr)/\χ w' g (c*3) (.bool ga)/\χ w' g (c*3+1) (Aa,ma,ca)/\χ w' g (c*3+2) (Da,ay,aj)/\χ w' bA c (m,n,ck)) 15 (h:=λhHeld=>?_);refine zaw [0,1,2,3,4,5,6,7,8,9,10,11,12,13,14] ?_;repeat refine tkE hHeld ?_
   refine zao ?_;refine zba (h:=λK hK=>?_);go_simp;refine shutOff hK ?_;refine za1 (h:=?_);go_wp2;go_roundw
   case rel=>exact⟨c+1,by go_num,ω,((TKeep.set (w:=_) (b:=m) (o:=t*3+2) (zar _ (zar _ I.o)) _).blk ((TKeep.set (w:=_) (b:=m) (o:=t*3+1) (zar _ I.o) _).blk ((TKeep.set (w:=wz) (b:=m) (o:=t*3) I.o _).blk C.o δ) δ) δ),by rw[<-aM.o];exact aL.o,(Bel.set3 HW.o.drew aT _ _ _).b⟩
   case measure=>simp[intOf];omega
  obtain rfl:N=c:=ω;refine μ3 d a f λaO aG aS=>?_;go_wp2;go_roundw
  case rel=>exact⟨t+1,by go_num,ω,aS.o,by rw[<-zvx];exact aO.o,aG.o⟩
  case measure=>simp[intOf];omega
 obtain rfl:n=t:=ω;refine μ4 (zad a z.o) (zad a J.o) (d) (B.o.trans ((a).mono B.o.size)) λH y HV aB=>?_;obtain⟨_,_,az,_⟩:=bc2 H.o;obtain⟨Y,X,aA,_,Z,V,aD,_⟩:=bf2 y.o;have C:=un f;obtain⟨bQ,_,bS,_⟩:=bc2 C.o;go_wp2;refine Zi (v:=.agg #[(A,N,cA),(n:Int)]) (by simp[results,results194,go_sem,Y,X,Z,V]) rfl ?_;have h0:=HV.o;rw[show zn8 N L n 0=zcZ N L by rw[l.o];exact zxK N L]at h0;have h1:=((h0.base (show w.heap.size<=W.heap.size by omega)).tk (TKeep.set (o:=0) y.o (A,N,cA)) δ δ δ).tk (TKeep.set (o:=1) (zar _ y.o) (n:Int)) δ δ δ;exact⟨A,cA,l1,rfl,h1,HA.o,bsc (bsc aB.o)⟩
end Mt
namespace Bs
def matrix(q n cc:Nat)(cA:OA)(lc:List Value)(C:List (List Rat))(H:Nat)(w:World)(G:χ w q 0 (cA,n,cc))(h:VecsL w H (cA,n,cc) lc C)(E:∀r∈C,r.length=n)(F:n<=64) :
  Calls prog 185 #[.pointer (some ⟨q,0,none⟩)] w (zx4 w n (zcZ n C) n):=by
 have g:=un F;have u:=un E;obtain⟨W,t⟩:∃W,(w.alloc (.cells #[(),.int .i64 0] 112))=W:=⟨_,rfl⟩
 refine μ3 (show θ W w.heap.size #[(),.int .i64 0] 112by rw[<-t];exact zam σ) (show Below w w W by rw[<-t];exact zae w _) (show VecsL W H (cA,n,cc) lc C by rw[<-t];exact(h).alloc _) λO B D=>?_;have I:χ W q 0 (cA,n,cc):=by rw[<-t];exact cell_al G
 have X:=zaa I;go_enter func185,ntmps185;go_wp2_with fail
 go_cut[3] (λU c=>∃(m:Nat) (A:OA) (k:Nat) (l:List Value),U=.pointer (some ⟨m,0,none⟩)/\Below W.heap.size W c/\W.heap.size<=m/\θ c m #[(A,n,k),(n:Int)] 112/\VecsL c W.heap.size (A,n,k) l C)
 case first=>as_aux_lemma =>
  refine zaS (S:=λw'=>χ w' q 0 (cA,n,cc)) [14,15] (h:=λhHeld=>?_);refine zaw [0,1,2,3,4,5,6,7,8] ?_;repeat refine tkL hHeld ?_
  refine zao ?_;refine zme (i:=9) (j:=13) rfl rfl ξ (λK a=>?_) (λK a=>?_)
  ·skip
   go_simp;(go_at_call 110;(refine(Mt.of n n g.o g.o cA cc lc C H _ (D.o.drew) u.o).mono ?_);rintro e u1 ⟨A1,c1,l1,rfl,d,_,b⟩;have x:=un (show VecsL u1 W.heap.size (A1,n,c1) l1 C from d);have s:=un (It.bdrew0' b);have T:=zab b X);(try go_wp2_with fail);refine shutOn a λhHeld=>?_;refine zaw [10,11,12] ?_;repeat refine tkX (h:=?_)
   refine zao ?_;refine zaB 13 (h:=λK a=>?_);go_simp;refine shutOn a λhHeld=>?_;refine zay 14 (h:=λK a=>?_);go_simp;refine shutOff a ?_;refine zay 15 (h:=λK a=>?_);go_simp;refine shutOff a ?_;refine zaM (h:=?_);go_wp2;go_meet
   case rel=>exact⟨_,_,_,_,rfl,s.o.alloc s.o.size _,s.o.size,zal _ _ _,x.o.alloc _⟩
  skip
  go_simp;refine shutOn a λhHeld=>?_;refine zaB 9 (h:=λK a=>?_);go_simp;(go_at_call 110;(refine(Mt.of n n g.o g.o cA cc lc C H _ (D.o.alloc _ |>.drew) u.o).mono ?_);rintro e u1 ⟨A1,c1,l1,rfl,d,_,b⟩;refine μ3 (show VecsL u1 W.heap.size (A1,n,c1) l1 C from d.base σ) ((zae W _).trans ((It.bdrew0' b).mono σ)) (zad b (show(W.alloc (.cells #[(),.int .i64 0] 112)).drew.heap[W.heap.size]? = _ from zal _ _ _)) λx s f=>?_;have T:=zab b (show(W.alloc (.cells #[(),.int .i64 0] 112)).drew.cell? _=_ from cell_al I);have P:=zac f.o 0;have Q:=zac f.o 1;have ae:=zag f.o 0;have af:=zag f.o 1;simp only[Xd,Z8,XJ]at P Q);(try go_wp2_with fail);refine shutOn a λhHeld=>?_;refine zaw [10,11,12] ?_;repeat refine tkX (h:=?_)
  refine zao ?_;refine zay 14 (h:=λK a=>?_);go_simp;refine shutOff a ?_;refine zay 15 (h:=λK a=>?_);go_simp;refine shutOff a ?_;refine zaM (h:=?_);go_wp2;go_meet
  case rel=>exact⟨_,_,_,_,rfl,(s.o.setCell (p:=⟨W.heap.size,0,none⟩) (Za _) _).setCell (p:=⟨W.heap.size,1,none⟩) (Za _) _,Za _,zar _ (zar _ f.o),(x.o.tk (TKeep.set f.o _) δ δ δ).tk (TKeep.set (zar _ f.o) _) δ δ δ⟩
 rename World=>c
 obtain⟨m,A,k,l,rfl,b,R,hk,d⟩:=hcut;refine μ3 (zad b O.o) (d) (B.o.trans ((b).mono B.o.size)) λac L z=>?_;have ag:χ c m 0 (A,n,k):=zac hk 0;have aj:χ c m 1 (.int .i64 (n:Int)):=zac hk 1;go_wp2_with fail
 refine(Mt.turned n n k A l C W.heap.size _ L.o u.o g.o g.o).mono ?_
 rintro e V ⟨A3,c3,l3,rfl,hv3,ha3,b⟩;refine μ3 (zad b ac.o) (hv3) (z.o.trans ((b).mono z.o.size)) λy M ad=>?_;obtain⟨aa,Y,ah,_,ab,Z,ai,_⟩:=bf2 y.o;have J:=un ha3;have N:=un (z.o.size);go_wp2;refine Zi (v:=.agg #[(A3,n,c3),(n:Int)]) (by simp[results,results185,go_sem,aa,Y,ab,Z]) rfl ?_;have h1:=((M.o.base N.o).tk (TKeep.set (o:=0) y.o (A3,n,c3)) δ δ δ).tk (TKeep.set (o:=1) (zar _ y.o) (n:Int)) δ δ δ;exact⟨A3,c3,l3,rfl,h1,J.o,bsc (bsc ad.o)⟩
end Bs
end Go.Proofs.YtbpjabgfcbjjmaaGreat
namespace Go.Proofs.YtbpjabgfcbjjmaaGreat
open Go.RowKit Am Tryz
attribute [local go_sem ↓] Go.wp_at_zero Go.wp_at_succ
variable {cs:List Rat}{S T m r:Nat}
namespace Bs
def solveT(H q n S T:Nat)(C:List (List Rat))(A:OA)(cA:Nat)(v:List Rat)(H':Nat)(w:World)(l:zjE w H q n S C)(a:VecS w H' (A,n,cA) v)(r:n<=64)(zv:∀x∈v,mw x<=T)(bm:zpS n S T<=LIM) :
  Calls prog 124 #[.pointer (some ⟨q,0,none⟩),(A,n,cA)] w (zcd w (zlA n C v) true):=by
 obtain⟨cz,cc,lc,K,ql,F,D,eA,ec,le,es,o⟩:=l;have aM:=zoC o.right.base.1 o.right.base.2.1 o.right.base.2.2 o.fac;refine μ3 r aM bm λHN HF aE=>?_;have cH:es.length<=9223372036854775807:=by have:=o.few;omega
 have cO:n<=9223372036854775807:=ω;refine μ3 o a (Zl w.heap.size w) λHP bS W=>?_;obtain⟨k0,_,k1,_,k2,cS⟩:=bc3 o.blk;refine μ4 (zo1 o.right (v:=v) a.len.symm) (λt (ht:t<=es.length)=>zr1 (t:=t) zo5 o.right (v:=v) (T:=T) a.len.symm (λi hi=>zrz zv (by rw[<-a.len];exact hi)) ht) (ywj (b:=zep n (es.drop 0) v) (x:=cB n (S+T)) zo5 aM.1 (yv8 o.right.base.1 o.right.base.2.2) (zr1 (t:=0) zo5 o.right (v:=v) (T:=T) a.len.symm (λi hi=>zrz zv (by rw[<-a.len];exact hi)) (Zb _)) (λi hi=>by rw[YA,<-zxF o.fac,zo1 o.right a.len.symm];exact ywh zo5 o.right.good.1 o.right.good.2.1 o.right.good.2.2 (λi hi=>zrz zv (by rw[<-a.len];exact hi)) i hi)) (λt e (R:es[t]? = some e)=>zrn zo5 o.right R) λbQ bR bP bK=>?_;go_enter func124,ntmps124;go_wp2_with fail
 refine(Vc.copy A n cA v H' _ bS.o (by have:=HN.o;omega)).mono ?_;rintro e w1 ⟨B,c1,rfl,hv1,hb⟩;have HX:=un (hv1);have co:=un (W.o.trans ((hb).mono W.o.size));have cp:=zab hb k2;have cU:=zaa cp;have bX:=un (show VecS w1 w (B,n,c1) (zep n (es.drop es.length) v)by rw[zuL];exact HX.o);go_wp2
 go_loopw [7] (λi wr=>∃t:Nat,i=.int .i64 ((t:Int)-1)/\t<=es.length/\VecS wr w (B,n,c1) (zep n (es.drop t) v)/\Below w w wr)
  (λi _=>(intOf i+1).toNat)
 case atStart=>exact⟨es.length,rfl,Za _,bX.o,co.o⟩
 obtain⟨t1,rfl,ht,a,l⟩:=hrel;cases t1 with
 | zero =>
  have aJ:=un a;have Y:=un l;have cR:=zab l k1;rw[show((0:Nat):Int)-1 = -1 from rfl];go_wp2_with fail
  refine(Lu.solveT K ql n (uB n S) (xB n (uB n S) (cB n (S+T)) (tB n S T)) F B c1 (zep n (es.drop 0) v) w.heap.size _ (HP.o.lu.below Y.o) aJ.o HN.o HF.o.1.pr HF.o.2 HF.o.1.piv bP.o (zC4 aE.o)).mono ?_;rintro e w2 ⟨B2,n2,c2,rfl,hv2,hb2⟩;have bT:=un hv2;have bI:=un hb2;go_wp2;refine Zi (v:=.tuple #[(B2,n2,c2),true]) (by simp[results,results124,go_sem]) rfl ?_;exact⟨_,_,_,rfl,by have h:=bT.o.base Y.o.size;rw[YA,<-zxF HP.o.fac,bQ.o]at h;exact h,Y.o.trans (bI.o.mono Y.o.size)⟩
 | succ t =>
  have b8:t<es.length:=ω;rw[show((t+1:Nat):Int)-1=(t:Int)by omega];obtain⟨⟨k,d⟩,R⟩:∃e,es[t]? = some e:=⟨es[t],Ze b8⟩
  obtain⟨hk,aj,aN,aQ⟩:=bK.o t _ R
  dsimp only at hk aj aN aQ
  have aS:=bR.o (t+1) ht;have ay:=zsb (n:=n) R v
  dsimp only at ay
  have aR:(zep n (es.drop (t+1)) v).length=n:=a.len.symm;obtain⟨X,hX⟩:∃X,X=zep n (es.drop (t+1)) v:=⟨_,rfl⟩
  rw[<-hX]at a aS ay aR;refine μ6 ay aR aS aQ aj aN λbM aK aL ar bf bN=>?_;obtain⟨be,rfl,_,_⟩:=HP.o.etas.has ω;obtain⟨Ae,s,y0,y1,u⟩:=(HP.o.etas.below l).at_ R
  dsimp only at y0 y1 u
  rw[aj]at y1 u;obtain⟨g,rfl,cE,cF⟩:=u.has ω;obtain⟨bH,b2,_,aB,ai⟩:=HP.o.etas.at_ R
  dsimp only at aB ai
  rw[aj]at aB ai;have bp:Value.slice bH n b2=.slice (some ⟨g,0,none⟩) n s:=by have h1:=zab l aB;rw[y1]at h1;injection h1 with h1;exact h1.symm
  rw[bp]at ai;have bV:=un ai;obtain⟨f,rfl,bl,cG⟩:=a.has ω;have HV:=un (a);have HW:=un (Bel.mk l);have c7:=zab l k2;have c8:=y0;have c9:χ wr be (t*2+1) (g,n,s):=y1;have L2:=un (show ∀j,j<n->4*(mw (el d j)+mw (el X j))+8<=LIM/\4*(mw (zhB k d X j)+mw (el d j*el X j))+8<=LIM from λj hj=>by have h3:=zC2 aE.o;have h5:=aL.o j hj;have h6:=ar.o j hj;have h7:=zdI (el d j) (el X j);have h8:=zl2 zo5 ar.o aL.o hk (Xm hj);omega);have L1:=un (show 4*(mw (zhB k d X n)+mw (el d k))+8<=LIM by have h3:=zC2 aE.o;have h6:=ar.o k hk;have h8:=zl2 zo5 ar.o aL.o hk (Za n);omega);have cI:(0:Int)<=(t:Int):=Zg _;have cJ:(t:Int)<(es.length:Int):=ω;have cK:(0:Int)<=(k:Int):=Zg _;have cL:(k:Int)<(n:Int):=ω;have b7:f≠wr.heap.size:=ω;go_wp2_with fail
  have bk:=zae wr (.cells #[(k:Int),(g,n,s)] 248);refine μ3 (HV.o.below bk) (HW.o.below bk) (zal wr #[(k:Int),(g,n,s)] 248) λcs cr KE=>?_;refine μ3 cs.o cr.o.b (zal wr #[(k:Int),(g,n,s)] 248) λbU bJ KE=>?_;go_wp2
  go_loopw [39] (λi aT=>∃j:Nat,i=.int .i64 j/\j<=n/\VecS aT w (f,n,c1) (zeJ k d X j)/\θ aT wr.heap.size #[(k:Int),(g,n,s)] 248/\Below w w aT)
   (λi _=>n-(intOf i).toNat)
  case atStart=>exact⟨0,rfl,Zb _,by rw[zsa];exact bU.o,KE.o,bJ.o⟩
  rename World=>wz
  obtain⟨j,rfl,hj,a,U,l⟩:=hrel;have u:=bV.o.below l;have V:(zeJ k d X j)[k]? = some (zhB k d X j):=zuI (by rw[aK.o];exact hk);have e0:=zac U 0;have e1:=zac U 1;simp only[Xd,Z8,XJ]at e0 e1;by_cases bn:j<n
  ·have aO:=zaH (xs:=d) (j:=j) (by have:=bf.o;omega);have cM:(0:Int)<=(j:Int):=Zg _;have cN:(j:Int)<(n:Int):=ω
   by_cases ax:j=k
   ·obtain rfl:k=j:=ax.symm;refine μ3 a U l λaJ aG Y=>?_;go_wp2;go_roundw
    case rel=>exact⟨k+1,by go_num,ω,by rw[<-zr9];exact aJ.o,aG.o,Y.o⟩
    case measure=>simp[intOf];omega
   have bq:(zeJ k d X j)[j]? = some (el X j):=zuH ax (by rw[aK.o];exact bn);obtain⟨gj,Aj,mj,cj,Dj,az,au,p0,p1,p2,bi⟩:=a.at_ bq;obtain⟨gk,y,mk,L,E,M,I,r0,r1,r2,Q⟩:=a.at_ V;obtain⟨gv,Av,P,cv,G,O,J,s0,s1,s2,ah⟩:=u.at_ aO;have ac:=un (zuJ (k:=k) (w:=d) (z:=X) ax);have aH:=un (L2.o j bn);have cP:((j:Int) == (k:Int))=false:=by simp;omega
   generalize zhB k d X j=pk at V Q ac aH;refine μ5 (a) (show RatS wz gj (Aj,mj,cj) (Dj,az,au) (el X j)from bi) (show RatS wz gk (y,mk,L) (E,M,I) pk from Q) (show RatS wz gv (Av,P,cv) (G,O,J) (el d j)from ah) (Bel.mk l) λHV bO aq ab HW=>?_;have a2:=e0;have aU:=zaa a2;have a3:=e1;have aV:=zaa a3;have a5:=p0;have aW:=zaa a5;have a6:=p1;have aX:=zaa a6;have a7:χ wz f (j*3+2) (Dj,az,au):=p2;have aY:=zaa a7;have a8:=r0;have aZ:=zaa a8;have a9:=r1;have a0:=zaa a9;have ba:χ wz f (k*3+2) (E,M,I):=r2;have a1:=zaa ba;have ci:χ wz g (j*3) (.bool gv):=s0;have cg:=zaa ci;have cl:χ wz g (j*3+1) (Av,P,cv):=s1;have ch:=zaa cl;have ct:χ wz g (j*3+2) (G,O,J):=s2;have cf:=zaa ct;have aG:=un U;go_wp2_with fail
   refine za2 (S:=λw'=>χ w' wr.heap.size 0 (.int .i64 (k:Int))/\χ w' wr.heap.size 1 (g,n,s)/\χ w' f (j*3) (.bool gj)/\χ w' f (j*3+1) (Aj,mj,cj)/\χ w' f (j*3+2) (Dj,az,au)/\χ w' f (k*3) (.bool gk)/\χ w' f (k*3+1) (y,mk,L)/\χ w' f (k*3+2) (E,M,I)/\χ w' g (j*3) (.bool gv)/\χ w' g (j*3+1) (Av,P,cv)/\χ w' g (j*3+2) (G,O,J)) 20 (h:=λhHeld=>?_);refine zaw [0,1,2,3,4,5,6,7,8,9,10,11,12,13,14,15,16] ?_;repeat refine tkE hHeld ?_
   refine zao ?_;refine zaN 17 (h:=λK p=>?_);go_simp;(go_at_call 29;(refine(Rt.mul gv Av P cv G O J (el d j) gj Aj mj cj Dj az au (el X j) _ ab.o.drew bO.o.drew aH.o.1).mono ?_);rintro e u1 ⟨g1,A1,m1,c1_,D1,md1,cd1,rfl,r,hb⟩;refine μ4 (HV.o.drew.below hb) (aq.o.drew.below hb) (HW.o.drew.below hb) (r) λZ bG a4 HM=>?_;have bu:=zab hb aU;have bv:=zab hb aV;have bz:=zab hb aW;have bB:=zab hb aX;have bC:=zab hb aY;have bD:=zab hb aZ;have bE:=zab hb a0;have bF:=zab hb a1;have cu:=zab hb cg;have cw:=zab hb ch;have cq:=zab hb cf;have bY:=un (zad hb (show wz.drew.heap[wr.heap.size]? = _ from aG.o)));(try go_wp2_with fail);refine shutOn p λhHeld=>?_;refine zaN 18 (h:=λK p=>?_);go_simp;(go_at_call 31;(refine(Rt.sub gk y mk L E M I pk g1 A1 m1 c1_ D1 md1 cd1 (el d j*el X j) _ bG.o HM.o aH.o.2).mono ?_);rintro e u2 ⟨g2,A2,m2,c2,D2,md2,cd2,rfl,r,hb⟩;refine μ3 (Z.o.below hb) (a4.o.below hb) (r) λaC cx HS=>?_;have c3:=zab hb bu;have c4:=zab hb bv;have c5:=zab hb bz;have c6:=zab hb bB;have cV:=zab hb bC;have cW:=zab hb bD;have cX:=zab hb bE;have cY:=zab hb bF;have cZ:=zab hb cu;have c0:=zab hb cw;have da:=zab hb cq;have bZ:=un (zad hb bY.o);have ca:=aC.o.fro (k*3);have of1:=aC.o.fro (k*3+1);have cb:=aC.o.fro (k*3+2));(try go_wp2_with fail);refine shutOn p λhHeld=>?_;refine zaw [19] ?_;repeat refine tkE hHeld ?_
   refine zao ?_;refine zba (h:=λK p=>?_);go_simp;refine shutOff p ?_;refine za1 (h:=?_);go_wp2;go_roundw
   case rel=>exact⟨j+1,by go_num,ω,by rw[<-ac.o];exact aC.o.store k HS.o,zpB bZ.o (Z6 b7) _ _ _,(Bel.set3 cx.o bl _ _ _).b⟩
   case measure=>simp[intOf];omega
  obtain rfl:n=j:=ω;have bo:=zaH (xs:=d) (j:=k) (by have:=bf.o;omega);obtain⟨gk,y,mk,L,E,M,I,r0,r1,r2,Q⟩:=a.at_ V;obtain⟨gv,Av,P,cv,G,O,J,s0,s1,s2,ah⟩:=u.at_ bo;have ac:=un (zr8 (k:=k) (w:=d) aK.o);have bc:=un L1.o;generalize zhB k d X n=pk at V Q ac bc;refine μ4 (a) (show RatS wz gk (y,mk,L) (E,M,I) pk from Q) (show RatS wz gv (Av,P,cv) (G,O,J) (el d k)from ah) (Bel.mk l) λHV aq ab HW=>?_;have a2:=e0;have aU:=zaa a2;have a3:=e1;have aV:=zaa a3;have a5:=r0;have aW:=zaa a5;have a6:=r1;have aX:=zaa a6;have a7:=r2;have aY:=zaa a7;have a8:=s0;have aZ:=zaa a8;have a9:χ wz g (k*3+1) (Av,P,cv):=s1;have a0:=zaa a9;have ba:χ wz g (k*3+2) (G,O,J):=s2;have a1:=zaa ba;go_wp2_with fail
  refine za2 (S:=λw'=>χ w' wr.heap.size 0 (.int .i64 (k:Int))/\χ w' wr.heap.size 1 (g,n,s)/\χ w' f (k*3) (.bool gk)/\χ w' f (k*3+1) (y,mk,L)/\χ w' f (k*3+2) (E,M,I)/\χ w' g (k*3) (.bool gv)/\χ w' g (k*3+1) (Av,P,cv)/\χ w' g (k*3+2) (G,O,J)) 19 (h:=λhHeld=>?_);refine zaw [0,1,2,3,4,5,6,7,8,9,10,11,12,13] ?_;repeat refine tkE hHeld ?_
  refine zao ?_;refine zaN 14 (h:=λK p=>?_);go_simp;(go_at_call 159;(refine(Rt.div gk y mk L E M I pk gv Av P cv G O J (el d k) _ aq.o.drew ab.o.drew bN.o bc.o).mono ?_);rintro e u1 ⟨g2,A2,m2,c2,D2,md2,cd2,rfl,r,hb⟩;refine μ4 (HV.o.drew.below hb) (aq.o.drew.below hb) (HW.o.drew.below hb) (r) λZ bG a4 HS=>?_;have bu:=zab hb aU;have bv:=zab hb aV;have bz:=zab hb aW;have bB:=zab hb aX;have bC:=zab hb aY;have bD:=zab hb aZ;have bE:=zab hb a0;have bF:=zab hb a1;have ca:=Z.o.fro (k*3);have of1:=Z.o.fro (k*3+1);have cb:=Z.o.fro (k*3+2));(try go_wp2_with fail);refine shutOn p λhHeld=>?_;refine zaw [15,16] ?_;repeat refine tkE hHeld ?_
  refine zao ?_;refine zfQ (i:=17) (v:=?_) rfl ξ (λ_ _ _ h=>h) (Or.inl ⟨by rfl,?_⟩) ?_
  rotate_left
  ·((intro w b6;(try dsimp only at b6);go_simp);(try rfl))
  try simp only[Act.put,pu1,pu2,pu3,pu4,pu5,pu6]
  refine zaw [18] ?_;repeat refine tkE hHeld ?_
  refine zao ?_;refine zba (h:=λK p=>?_);go_simp;refine shutOff p ?_;refine za1 (h:=?_);go_wp2;go_roundw
  case rel=>exact⟨t,by go_num,ω,by rw[bM.o,<-ac.o];exact Z.o.store k HS.o,(Bel.set3 a4.o bl _ _ _).b⟩
  case measure=>first | (simp[intOf];done) | (simp[intOf];omega)
end Bs
def pB (m S:Nat):Nat:=64*(sB m S S+S+1)+1
def zor (m S:Nat):Nat:=zpS m S S+40*pB m S+100
def ziY(h:zor m S<=LIM):zpS m S S<=LIM:=by unfold zor at h;omega
def zos(h:zor m S<=LIM):40*pB m S+100<=LIM:=by unfold zor at h;omega
def zt3{N:Nat}{A:List (List Rat)}{y:List Rat}(e:A.length=m)(hm:m<=64)(zA:∀r∈A,∀q∈r,mw q<=T)(zy:∀q∈y,mw q<=S)(h1:1<=S)(d:1<=T):∀q∈byL N A y,mw q<=64*(S+T+1)+1:=λq a=>by rw[<-zq8]at a;have:=zu8 zy zA h1 d A.length q a;have:=ZV (S+T+1) (show A.length<=64 by omega);omega
def zma(m S T:Nat):1<=sB m S T:=by unfold sB xB zB;omega
def zqF(hS:1<=S)(hr:r<m):∀x∈zdL m r,mw x<=S:=zrD (zfM m r) λi hi=>by rw[zge hr];grind[Nat.le_trans,mw1,mw0]
section
variable {W0 w:World} {H q:Nat} {rA:OA} {rc:Nat} {lA:List Value} {bA:OA} {bc_:Nat} {kA:OA} {kc:Nat} {eA:OA} {ec m N S own:Nat} {A:List (List Rat)} {b c:List Rat} {left:List Int}
  {tA:OA} {tc:Nat} {cols:List Nat}
def ziO(a:Basis m N A cols)(e:zhg mw m S (bc A cols))(hS:1<=S)(hr:r<m):∀x∈zbf A cols r,mw x<=sB m S S:=by have d:=a.len;unfold zbf;rw[d];refine zrD (ze1 a.sq a.reg _).2 (zlj zo5 a.sq a.reg e λi hi=>?_);exact zqF hS hr _ (Zj (zaH (by rw[zfM];exact hi)))
def zoT(a:Basis m N A cols)(hc:cs.length=N)(f:∀x∈cs,mw x<=T):∀x∈cols.map (λj=>el cs j),mw x<=T:=λx e=>by obtain⟨j,hj,rfl⟩:=ZH.1 e;obtain⟨i,hi⟩:=Xh.1 hj;have h1:=a.lt i (by rw[<-a.len];exact(ZF.1 hi).1);rw[getD_some (d:=0) hi]at h1;grind[zrz]
def znb(a:Basis m N A cols)(e:zhg mw m S (bc A cols))(hc:cs.length=N)(zc:∀x∈cs,mw x<=S):∀x∈zcl A cols cs,mw x<=sB m S S:=by have d:=a.len;unfold zcl;rw[d];refine zrD (ze1 a.sq a.reg _).2 (zlj zo5 a.sq a.reg e λi hi=>?_);exact zoT a hc zc _ (Zj (zaH (by rw[ZK,d];exact hi)))
namespace Tb
def basis(h:zhi W0 w H q rA rc lA bA bc_ kA kc eA ec m N S own A b c left tA tc cols) :
  Calls prog 95 #[.pointer (some ⟨q,0,none⟩)] w λe w'=>∃(f:OA) (c':Nat),e=.returned (f,m,c')/\IntsS w' w (f,m,c') cols/\Below w w w':=by
 obtain⟨qb,xA,xc,a⟩:=h;have d:=un a;have k:=a.std.hm;obtain⟨_,_,_,_,_,_,_,_,_,_,_,_,l,_⟩:=bc9 a.blk;go_enter func95,ntmps95;go_wp2_with fail
 refine(Sl.clone tA m tc (cols.map fun(x:Nat)=>(x:Int)) H _ d.o.colsI.toZ ω).mono ?_;rintro e w1 ⟨A1,c1,rfl,hv,hb⟩;refine μ3 (show(cols.map fun(x:Nat)=>(x:Int)).length=m by rw[ZK,d.o.basis.len]) hv hb λi j g=>?_;go_wp2;go_ret;exact⟨A1,c1,by rw[<-d.o.basis.len];rfl,by have h:=j.o.toS;rw[i.o]at h;exact h,g.o⟩
def values(h:zhi W0 w H q rA rc lA bA bc_ kA kc eA ec m N S own A b c left tA tc cols) :
  Calls prog 177 #[.pointer (some ⟨q,0,none⟩)] w λe w'=>∃(d:OA) (c':Nat),e=.returned (d,m,c')/\VecS w' w (d,m,c') (za5 A b cols)/\Below w w w':=by
 obtain⟨qb,xA,xc,a⟩:=h;have g:=un a;have j:=a.std.hm;obtain⟨_,_,_,_,_,_,_,_,_,_,_,_,_,_,_,_,k,_⟩:=bc9 a.blk;go_enter func177,ntmps177;go_wp2_with fail
 refine(Vc.copy xA m xc (za5 A b cols) H _ g.o.x ω).mono ?_;rintro e w1 ⟨A1,c1,rfl,hv,hb⟩;have i:=un hv;have f:=un hb;go_wp2;go_ret;exact⟨A1,c1,rfl,i.o,f.o⟩
def line(h:zhi W0 w H q rA rc lA bA bc_ kA kc eA ec m N S own A b c left tA tc cols)(r:Nat)(hr:r<m)(p:zor m S<=LIM) :
  Calls prog 150 #[.pointer (some ⟨q,0,none⟩),(r:Int)] w (zcd w (zk8 N A cols r) true):=by
 obtain⟨qb,xA,xc,d⟩:=h;have a:=un d;have K:=d.std.hm;have J:=d.std.hN;have j:=un (Zl w.heap.size w);obtain⟨y,_,z,_,_,_,_,_,_,_,_,_,L,_,C,_⟩:=bc9 d.blk;have f:=un hr;have k:=un p;go_enter func150,ntmps150;go_wp2_with fail
 refine(Vc.unit m r ω f.o _).mono ?_;rintro e w1 ⟨B,n1,c1,rfl,hv1,hb⟩;refine μ3 (a.o.below hb) (hv1) (j.o.trans ((hb).mono j.o.size)) λt l s=>?_;have E:=zab hb y;have F:=zab hb z;have P:=zab hb C;obtain rfl:m=n1:=by rw[l.o.len,zfM]
 go_wp2_with fail
 refine(Bs.solveT H qb m S S (bc A cols) B c1 (zdL m r) w.heap.size _ t.o.bas l.o ω (zqF a.o.std.hS f.o) (ziY k.o)).mono ?_;rintro e g ⟨B2,n2,c2,rfl,hv2,hb⟩;refine μ3 (t.o.below hb) (hv2) (s.o.trans ((hb).mono s.o.size)) λI n i=>?_;have M:=zab hb E;have O:=zab hb F;have o:=un (show zlA m (bc A cols) (zdL m r)=zbf A cols r by unfold zbf;rw[a.o.basis.len]);obtain rfl:m=n2:=by rw[n.o.len,(ze1 a.o.basis.sq a.o.basis.reg _).2]
 go_wp2_with fail
 refine(Mt.by_ N m rc rA lA A 0 B2 m c2 (zlA m (bc A cols) (zdL m r)) w1.heap.size (sB m S S) S _ I.o.stdN.rows a.o.std.rl n.o ω ω a.o.std.zA (by rw[o.o];exact ziO a.o.basis a.o.bas.good.2.2 a.o.std.hS f.o) (zma m S S) a.o.std.hS (by have h1:=zos k.o;unfold pB at h1;omega)).mono ?_;rintro e D ⟨B3,n3,c3,rfl,hv3,hb⟩;have u:=un (hv3);have G:=un (i.o.trans ((hb).mono i.o.size));have x:=un (i.o.size);go_wp2;refine Zi (v:=.tuple #[(B3,n3,c3),true]) (by simp[results,results150,go_sem]) rfl ?_;exact⟨_,_,_,rfl,by have h:=u.o.base x.o;rw[o.o]at h;exact h,G.o⟩
def column(h:zhi W0 w H q rA rc lA bA bc_ kA kc eA ec m N S own A b c left tA tc cols)(j:Nat)(hj:j<N)(l:zor m S<=LIM) :
  Calls prog 120 #[.pointer (some ⟨q,0,none⟩),(j:Int)] w (zcd w (zav A cols j) true):=by
 obtain⟨qb,xA,xc,d⟩:=h;have a:=un d;have z:=d.std.hm;have y:=d.std.hN;have g:=un (Zl w.heap.size w);obtain⟨C,_,D,_,_,_,_,_,_,_,_,_,_,_,s,_⟩:=bc9 d.blk;have i:=un hj;have n:=un l;go_enter func120,ntmps120;go_wp2_with fail
 refine(Mt.col N m rc rA lA A 0 j _ a.o.stdN.rows a.o.std.rl i.o ω ω).mono ?_;rintro e w1 ⟨B,n1,c1,rfl,hv1,hb⟩;refine μ3 (a.o.below hb) (hv1) (g.o.trans ((hb).mono g.o.size)) λx k f=>?_;have E:=zab hb s;obtain rfl:m=n1:=by rw[k.o.len,zbH,<-a.o.std.rows.nlen]
 go_wp2_with fail
 refine(Bs.solve H qb m S S (bc A cols) B c1 (zb4 A j) w.heap.size _ x.o.bas k.o ω (a.o.std.zcol i.o) a.o.std.hS (ziY n.o)).mono ?_;rintro e t ⟨B2,n2,c2,rfl,hv2,hb⟩;have o:=un (hv2);have u:=un (f.o.trans ((hb).mono f.o.size));have p:=un (show zes m (bc A cols) (zb4 A j)=zav A cols j by unfold zav;rw[a.o.basis.len]);have r:=un (f.o.size);go_wp2;refine Zi (v:=.tuple #[(B2,n2,c2),true]) (by simp[results,results120,go_sem]) rfl ?_;exact⟨_,_,_,rfl,by rw[<-p.o];exact o.o.base r.o,u.o⟩
end Tb
end
section
variable {W0 w:World} {H q:Nat} {rA:OA} {rc:Nat} {lA:List Value} {bA:OA} {bc_:Nat} {kA:OA} {kc:Nat} {eA:OA} {ec m N S own:Nat} {A:List (List Rat)} {b c:List Rat} {left:List Int}
  {tA:OA} {tc:Nat} {cols:List Nat}
namespace Tb
def duals(h:zhi W0 w H q rA rc lA bA bc_ kA kc eA ec m N S own A b c left tA tc cols)(E:OA)(sc:Nat)(cs:List Rat)(J:Nat)(a:VecS w J (E,N,sc) cs)(zc:∀x∈cs,mw x<=S)(z:zor m S<=LIM) :
  Calls prog 52 #[.pointer (some ⟨q,0,none⟩),(E,N,sc)] w (zcd w (zcl A cols cs) true):=by
 obtain⟨qb,xA,xc,l⟩:=h;have f:=un l;have aD:=l.std.hm;have ay:=l.std.hN;have s:=un (Zl w.heap.size w);obtain⟨X,aF,k1,_,k2,aH,_,_,_,_,Y,aI,Z,aJ,k7,_,k8,aK⟩:=bc9 l.blk;clear l;refine μ4 a zc z a.len.symm λu V M t=>?_;clear a zc z;go_enter func52,ntmps52;go_wp2_with fail
 refine(Mt.cols N m rc rA _).mono ?_;rintro e w1 ⟨rfl,hb⟩;refine μ3 (f.o.below hb) (u.o.below hb) (s.o.trans ((hb).mono s.o.size)) λI ak F=>?_;have ad:=zab hb X;have aX:=zaa ad;have ae:=zab hb k2;have aY:=zaa ae;have ag:=zab hb Y;have aZ:=zaa ag;have G:=zab hb Z;have a3:=zaa G;have ai:=zab hb k7;have aj:=zab hb k8;have a4:=zaa aj;clear hb;have aE:m<=9223372036854775807:=ω;go_wp2_with (at_make;go_must (refine zdv rfl _ _ rfl m _ rfl rfl rfl ω w1.heap.size rfl ?_;intro w2 C o;have Q:=un C;have K:=un o;have m6:=zab o G;clear C o))
 go_loopw [29] (λi wr=>∃k:Nat,i=.int .i64 k/\k<=m/\VecS wr w1 (w1.heap.size,m,m) (mix (cols.map λj=>el cs j) k)/\Below w1 w1 wr)
  (λi _=>m-(intOf i).toNat)
 case atStart=>exact⟨0,rfl,Zb _,by rw[zhW,ZK,f.o.basis.len];exact Q.o,K.o⟩
 obtain⟨k,rfl,hk,a,g⟩:=hrel;by_cases p:k<m
 ·obtain⟨j,hj⟩:∃j,cols[k]? = some j:=⟨cols[k]'(by rw[f.o.basis.len];exact p),Ze _⟩
  have W:j<N:=by have:=f.o.basis.lt k p;rw[getD_some (d:=0) hj]at this;exact this
  have D:=zaH (xs:=cs) (j:=j) (by rw[t.o];exact W);obtain⟨bt,rfl,_,_⟩:=f.o.colsI.has ω;obtain⟨bs,rfl,_,_⟩:=u.o.has ω;have p0:=(I.o.colsI.below g).at_ hj;obtain⟨ga,Aa,ma,ca,Da,aN,av,a0,a1,a2,y⟩:=(ak.o.below g).at_ D;have B:=zld (k:=k) (rs:=cols.map λj=>el cs j) (by rw[ZK,f.o.basis.len];exact p);obtain⟨go,Ao,mo,co,Do,aO,aw,o0,o1,o2,_⟩:=a.at_ B;have aT:=a.fro (k*3);have of1:=a.fro (k*3+1);have aU:=a.fro (k*3+2);refine μ4 a (Bel.mk g) y (zhV (rs:=cols.map λj=>el cs j) (k:=k) (q:=el cs j) (by rw[Z1,hj];rfl)) λn L T P=>?_;clear a g y B D;have az:(0:Int)<=(k:Int):=Zg _;have aA:(k:Int)<(m:Int):=ω;have aB:(0:Int)<=(j:Int):=Zg _;have aC:(j:Int)<(N:Int):=ω;go_wp2;go_roundw
  case rel=>exact⟨k+1,by go_num,ω,by rw[<-P.o];exact n.o.store k T.o,(Bel.set3 L.o (Za _) _ _ _).b⟩
  case measure=>simp[intOf];omega
 obtain rfl:k=m:=ω;have O:=un (show mix (cols.map λj=>el cs j) k=cols.map λj=>el cs j by have h:=zlc (cols.map λj=>el cs j);rw[ZK,f.o.basis.len]at h;exact h);rw[O.o]at a;refine μ3 (I.o.below g) (a) (F.o.trans ((g).mono F.o.size)) λah n r=>?_;have a5:=zab g ai;clear a g;go_wp2_with fail
 refine(Bs.solveT H qb k S S (bc A cols) (some ⟨w1,0,none⟩) k (cols.map λj=>el cs j) w1.heap.size _ ah.o.bas n.o ω (zoT f.o.basis t.o V.o) (ziY M.o)).mono ?_;rintro e w3 ⟨B3,n3,c3,rfl,hv3,hb⟩;have R:=un (hv3);have af:=un (r.o.trans ((hb).mono r.o.size));clear hv3 hb;have U:=un (r.o.size);go_wp2;refine Zi (v:=.tuple #[(B3,n3,c3),true]) (by simp[results,results52,go_sem]) rfl ?_;exact⟨_,_,_,rfl,by have h:=R.o.base U.o;unfold zcl;rw[f.o.basis.len];exact h,af.o⟩
def prices(h:zhi W0 w H q rA rc lA bA bc_ kA kc eA ec m N S own A b c left tA tc cols)(g:OA)(sc:Nat)(cs:List Rat)(i:Nat)(l:VecS w i (g,N,sc) cs)(zc:∀x∈cs,mw x<=S)(u:zor m S<=LIM) :
  Calls prog 118 #[.pointer (some ⟨q,0,none⟩),(g,N,sc)] w (zcd w (zaC N A cols cs) true):=by
 obtain⟨qb,xA,xc,d⟩:=h;have a:=un d;have O:=d.std.hm;have M:=d.std.hN;have p:=un (Zl w.heap.size w);obtain⟨E,_,F,_⟩:=bc9 d.blk;refine μ4 l zc u l.len.symm λs f j k=>?_;go_enter func118,ntmps118;go_wp2_with fail
 refine(duals a.o.toS g sc cs i s.o f.o j.o).mono ?_;rintro e w1 ⟨B,n1,c1,rfl,hv1,hb⟩;refine μ4 (a.o.below hb) (s.o.below hb) (hv1) (p.o.trans ((hb).mono p.o.size)) λK L t y=>?_;have P:=zab hb E;have Q:=zab hb F;obtain rfl:m=n1:=by rw[t.o.len];exact(a.o.basis.duals_ok cs).2.symm
 go_wp2_with fail
 refine(Mt.by_ N m rc rA lA A 0 B m c1 (zcl A cols cs) w.heap.size (sB m S S) S _ K.o.stdN.rows a.o.std.rl t.o ω ω a.o.std.zA (znb a.o.basis a.o.bas.good.2.2 k.o f.o) (zma m S S) a.o.std.hS (by have h1:=zos j.o;unfold pB at h1;omega)).mono ?_;rintro e n ⟨B3,n3,c3,rfl,hv3,hb⟩;refine μ3 (L.o.below hb) (hv3) (y.o.trans ((hb).mono y.o.size)) λI r o=>?_;obtain rfl:N=n3:=by rw[r.o.len,zkb]
 go_wp2_with fail
 refine(Vc.subS (pB m S) (by have h1:=zos j.o;omega) (by unfold pB;omega) g N sc cs B3 N c3 (byL N A (zcl A cols cs)) i w1.heap.size _ I.o r.o (by rw[k.o,zkb]) ω (λx D=>Zf (f.o x D) (by unfold pB;omega)) (zt3 a.o.basis.rect.len ω a.o.std.zA (znb a.o.basis a.o.bas.good.2.2 k.o f.o) (zma m S S) a.o.std.hS)).mono ?_;rintro e G ⟨B4,n4,c4,rfl,hv4,hb⟩;have z:=un (show VecS G n (B4,n4,c4) (zly cs (-1) (byL N A (zcl A cols cs)))from hv4);have J:=un (o.o.trans ((hb).mono o.o.size));have C:=un (o.o.size);go_wp2;refine Zi (v:=.tuple #[(B4,n4,c4),true]) (by simp[results,results118,go_sem]) rfl ?_;exact⟨_,_,_,rfl,z.o.base C.o,J.o⟩
end Tb
end
