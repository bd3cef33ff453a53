/- Contracts and lemmas: Mat6 Mat7 Mat8 BasM. Conditions: as each says. -/
import Derived.Test.YtbpjabgfcbjjmaaGreatMat4Ye
import Derived.Test.YtbpjabgfcbjjmaaGreatBasMemYe
set_option linter.all false
set_option maxHeartbeats 4000000
set_option maxRecDepth 100000
namespace Go.Proofs.YtbpjabgfcbjjmaaGreat
open Go.RowKit Am Tryz
attribute [local go_sem ↓] Go.wp_at_zero Go.wp_at_succ
variable {L:List (List Rat)}{N c k r:Nat}{q:Rat}
namespace Mt
theorem by_(N n f:Nat)(R:OA)(l0:List Value)(L:List (List Rat))(g:Nat)(A:OA)(ny D:Nat)(y:List Rat)(P:Nat)(S T:Nat)(w:World)(h:VecsL w g (R,n,f) l0 L)(hL:∀r∈L,r.length=N)(G:VecS w P (A,n,D) y)(hn:n<=64)(hN:N<=64)(K:∀r∈L,∀q∈r,mw q<=T)(M:∀q∈y,mw q<=S)(h1:1<=S)(h2:1<=T)(a:12*(64*(S+T+1)+1)+8<=LIM) :
  Calls prog 158 #[.agg #[(R,n,f),(N:Int)],(A,n,D)] w (zcd w (byL N L y) true):=by
 refine μ9 hn hN hL h.nlen G.len K M (zu8 (N:=N) M K h1 h2) a λHN Q ap V au ZL ZY aq an=>?_;have aP:n<=9223372036854775807:=ω;clear hn hN hL K M a h1 h2;obtain⟨W,d⟩:∃W,(w.alloc (.cells #[(R,n,f),(N:Int)] 112))=W:=⟨_,rfl⟩
 refine μ5 (show θ W w.heap.size #[(R,n,f),(N:Int)] 112by rw[<-d];exact zam σ) (show Below w w W by rw[<-d];exact zae w _) (show w.heap.size+1<=W.heap.size by rw[<-d];simp) (show VecsL W g (R,n,f) l0 L by rw[<-d];exact(h).alloc _) (show VecS W P (A,n,D) y by rw[<-d];exact(G).alloc _) λab O HZ X HY=>?_;obtain⟨aJ,a1,aK,aW⟩:=bc2 ab.o;clear h G;go_enter func158,ntmps158;go_wp2_with (at_make;go_must (refine zdv rfl _ _ rfl N _ rfl rfl rfl (by have:=Q.o;omega) W.heap.size rfl ?_;intro w1 ho j;have q0:=zab j aJ;have q1:=zab j aK;have HO:=un ho;have am:=un j;clear ho j))
 clear d
 go_loopw [6,21] (λov i wr=>∃(k:Nat) (B:OA) (cB:Nat),i=.int .i64 k/\ov=(B,N,cB)/\k<=n/\VecS wr W.heap.size (B,N,cB) (zph N L y k)/\Below W.heap.size W wr)
  (λ_ i _=>n-(intOf i).toNat)
 case atStart=>exact⟨0,_,_,rfl,rfl,Zb _,by rw[zt5];exact HO.o,am.o⟩
 obtain⟨k,B,cB,rfl,rfl,hk,m,a⟩:=hrel;have aQ:=HZ.o;by_cases af:k<n
 ·obtain⟨r,hr⟩:∃r,L[k]? = some r:=⟨L[k]'(by rw[<-V.o];exact af),Ze _⟩
  obtain⟨q,c⟩:∃q,y[k]? = some q:=⟨y[k]'(by rw[<-au.o];exact af),Ze _⟩
  have l:=ap.o r (Zz hr);obtain⟨bR,rfl,_,_⟩:=X.o.has ω;obtain⟨u,rfl,_,_⟩:=HY.o.has ω;obtain⟨p,C,_,H,F⟩:=(X.o.below a).at_ hr;rw[l]at H F;obtain⟨E,o,I,x,s,J,z,l0,l1,l2,ae⟩:=(HY.o.below a).at_ c;refine μ5 (zad a ab.o) (F) (ae) (m) (Bel.mk a) λak ay HQ t Z=>?_;obtain⟨_,_,aY,a0⟩:=bc2 ak.o;have al:=H;have aU:=zaa al;have a2:=l0;have a3:=l1;have a4:=l2;refine μ5 (show(zph N L y k).length=r.length by rw[zhm,l]) (zt4 hr c l) (show ∀q∈zph N L y k,mw q<=64*(S+T+1)+1 from λq c=>Zl (aq.o k q c) (by have:=HN.o;have:=ZV (S+T+1) (show k<=64 by omega);omega)) (show mw q<=64*(S+T+1)+1 from Zl (ZY.o q (Zz c)) ω) (show ∀q∈r,mw q<=64*(S+T+1)+1 from λq c=>Zl (ZL.o r (Zz hr) q c) ω) λU ax aC aA aB=>?_;clear m a F hr c l ae H l0 l1 l2;have aN:(0:Int)<=(k:Int):=Zf _;have aO:(k:Int)<(n:Int):=ω;go_wp2_with fail
  with_reducible refine(Vc.addTimesS (64*(S+T+1)+1) an.o B N cB (zph N L y k) E o I x s J z q p N C r W.heap.size g _ t.o HQ.o ay.o U.o (by have:=Q.o;omega) aC.o aA.o aB.o).mono ?_
  rintro e w3 ⟨B3,n3,c3,rfl,hv3,hb3⟩;refine μ3 (zad hb3 ak.o) (Z.o.below hb3) ((hv3.base Z.o.b.size)) λaI aM Y=>?_;obtain⟨_,_,aZ,aX⟩:=bc2 aI.o;have aL:=zab hb3 al;have aV:=zaa aL;clear hv3 hb3;obtain rfl:n3=N:=by rw[Y.o.len,zdt U.o,zhm]
  go_wp2;go_roundw
  case rel=>exact⟨k+1,B3,c3,by go_num,rfl,ω,by rw[<-ax.o];exact Y.o,aM.o.b⟩
  case measure=>simp[intOf];omega
 obtain rfl:k=n:=ω;have t:=un m;have ao:=un (O.o.trans (a.mono O.o.size));clear m a;go_wp2;refine Zh (v:=.tuple #[(B,N,cB),true]) (by simp[results,results158,go_sem]) rfl ?_;exact⟨_,_,_,rfl,by rw[<-zq8,<-V.o];exact t.o.base ω,ao.o⟩
end Mt
theorem zou{j:Nat}{r:List Rat}(hr:L[k]? = some r)(a:r[j]? = some q):(zb4 L j)[k]? = some q:=by unfold zb4;rw[Z2,hr];simp[znd a]
namespace Mt
theorem rows(N n a:Nat)(R:OA)(w:World):Calls prog 111 #[.agg #[(R,n,a),(N:Int)]] w λe w'=>e=.returned (n:Int)/\Below w w w':=by
 obtain⟨W,b⟩:∃W,(w.alloc (.cells #[(R,n,a),(N:Int)] 112))=W:=⟨_,rfl⟩
 have d:=un (show θ W w.heap.size #[(R,n,a),(N:Int)] 112by rw[<-b];exact zam σ);have c:=un (show Below w w W by rw[<-b];exact zae w _);obtain⟨f,_⟩:=bc2 d.o;go_enter func111,ntmps111;go_wp2_with fail
 clear b;go_ret;exact⟨rfl,c.o⟩
theorem cols(N n a:Nat)(R:OA)(w:World):Calls prog 112 #[.agg #[(R,n,a),(N:Int)]] w λe w'=>e=.returned (N:Int)/\Below w w w':=by
 obtain⟨W,b⟩:∃W,(w.alloc (.cells #[(R,n,a),(N:Int)] 112))=W:=⟨_,rfl⟩
 have d:=un (show θ W w.heap.size #[(R,n,a),(N:Int)] 112by rw[<-b];exact zam σ);have c:=un (show Below w w W by rw[<-b];exact zae w _);obtain⟨_,_,f,_⟩:=bc2 d.o;go_enter func112,ntmps112;go_wp2_with fail
 clear b;go_ret;exact⟨rfl,c.o⟩
theorem row(N n b:Nat)(R:OA)(l0:List Value)(L:List (List Rat))(d:Nat)(k:Nat)(r:List Rat)(w:World)(h:VecsL w d (R,n,b) l0 L)(hr:L[k]? = some r)(o:r.length=N)(hN:N<=64)(x:n<=64) :
  Calls prog 113 #[.agg #[(R,n,b),(N:Int)],(k:Int)] w λe w'=>∃(l:OA) (c':Nat),e=.returned (.tuple #[(l,N,c'),true])/\VecS w' w (l,N,c') r/\Below w w w':=by
 have hk:=(ZF.1 hr).1;have y:=h.nlen;have B:(0:Int)<=(k:Int):=Zf _;have C:(k:Int)<(n:Int):=ω;have h1:decide ((k:Int)<0)=false:=σ;have A:decide ((n:Int)<=(k:Int))=false:=by simp;omega
 obtain⟨f,rfl,_,_⟩:=h.has ω;obtain⟨c,g,_,j,i⟩:=h.at_ hr;rw[o]at j i;have p:=un hN;obtain⟨W,a⟩:∃W,(w.alloc (.cells #[(f,n,b),(N:Int)] 112))=W:=⟨_,rfl⟩
 refine μ4 (show θ W w.heap.size #[(f,n,b),(N:Int)] 112by rw[<-a];exact zam σ) (show Below w w W by rw[<-a];exact zae w _) (show w.heap.size+1<=W.heap.size by rw[<-a];simp) (show VecS W d (c,N,g) r by rw[<-a];exact(i).alloc _) λu m t s=>?_;obtain⟨E,_⟩:=bc2 u.o;have D:χ W f k (c,N,g):=by rw[<-a];exact cell_al j
 clear h hr o hN x y i j;go_enter func113,ntmps113;go_wp2_with fail
 clear a;with_reducible refine(Vc.copy c N g r d _ s.o (by have:=p.o;omega)).mono ?_
 rintro e w1 ⟨A2,c2,rfl,hv2,hb⟩;have q:=un (hv2);have z:=un (m.o.trans ((hb).mono m.o.size));clear hv2 hb;go_wp2;refine Zh (v:=.tuple #[(A2,N,c2),true]) (by simp[results,results113,go_sem]) rfl ?_;exact⟨_,_,rfl,q.o.base (by have:=t.o;omega),z.o⟩
theorem col(N n c:Nat)(R:OA)(l0:List Value)(L:List (List Rat))(y:Nat)(j:Nat)(w:World)(h:VecsL w y (R,n,c) l0 L)(D:∀r∈L,r.length=N)(hj:j<N)(hN:N<=64)(I:n<=64) :
  Calls prog 144 #[.agg #[(R,n,c),(N:Int)],(j:Int)] w (zcd w (zb4 L j) true):=by
 have am:(0:Int)<=(j:Int):=Zf _;have an:(j:Int)<(N:Int):=ω;have h1:decide ((j:Int)<0)=false:=σ;have h2:decide ((N:Int)<=(j:Int))=false:=by simp;omega
 refine μ3 I D h.nlen λV U f=>?_;have aq:n<=9223372036854775807:=ω;clear I hN D;obtain⟨W,e⟩:∃W,(w.alloc (.cells #[(R,n,c),(N:Int)] 112))=W:=⟨_,rfl⟩
 refine μ4 (show θ W w.heap.size #[(R,n,c),(N:Int)] 112by rw[<-e];exact zam σ) (show Below w w W by rw[<-e];exact zae w _) (show w.heap.size+1<=W.heap.size by rw[<-e];simp) (show VecsL W y (R,n,c) l0 L by rw[<-e];exact(h).alloc _) λac u HZ z=>?_;obtain⟨ag,aD,aC,_⟩:=bc2 ac.o;clear h;go_enter func144,ntmps144;go_wp2_with (at_make;go_must (refine zdv rfl _ _ rfl n _ rfl rfl rfl (by have:=V.o;omega) W.heap.size rfl ?_;intro w1 J o;have q0:=zab o ag;have X:=un J;have S:=un o;clear J o))
 clear e
 go_loopw [24] (λi wr=>∃k:Nat,i=.int .i64 k/\k<=n/\VecS wr W.heap.size (.slice (some ⟨W.heap.size,0,none⟩) n n) (mix (zb4 L j) k)/\Below W.heap.size W wr)
  (λi _=>n-(intOf i).toNat)
 case atStart=>exact⟨0,rfl,Zb _,by rw[zhW,zbH,<-f.o];exact X.o,S.o⟩
 obtain⟨k,rfl,hk,a,d⟩:=hrel;have ar:=HZ.o;by_cases G:k<n
 ·obtain⟨r,hr⟩:∃r,L[k]? = some r:=⟨L[k]'(by rw[<-f.o];exact G),Ze _⟩
  have K:=U.o r (Zz hr);obtain⟨q,p⟩:∃q,r[j]? = some q:=⟨r[j]' ω,Ze _⟩
  obtain⟨bR,rfl,_,_⟩:=z.o.has ω;obtain⟨Ar,cr,_,s,l⟩:=(z.o.below d).at_ hr;rw[K]at s l;obtain⟨g,rfl,_,_⟩:=l.has ω;obtain⟨C,t,P,A,x,Q,B,l0,M,O,E⟩:=l.at_ p;have H:(mix (zb4 L j) k)[k]? = some 0:=zld (by rw[zbH,<-f.o];exact G);obtain⟨go,Ao,mo,co,Do,au,ak,o0,o1,o2,_⟩:=a.at_ H;have az:=a.fro (k*3);have of1:=a.fro (k*3+1);have aA:=a.fro (k*3+2);refine μ3 (E) (a) (Bel.mk d) λY m HW=>?_;have aE:=s;have aF:=l0;have aG:=M;have aH:=O;have Z:=un (zhV (zou hr p));clear a d l hr p K E H s l0 M O;have ao:(0:Int)<=(k:Int):=Zf _;have ap:(k:Int)<(n:Int):=ω;go_wp2;go_roundw
  case rel=>exact⟨k+1,by go_num,ω,by rw[<-Z.o];exact m.o.store k Y.o,(Bel.set3 HW.o (Za _) _ _ _).b⟩
  case measure=>simp[intOf];omega
 obtain rfl:k=n:=ω;have m:=un a;have T:=un (u.o.trans (d.mono u.o.size));clear a d;go_wp2;refine Zh (v:=.tuple #[.slice (some ⟨W.heap.size,0,none⟩) k k,true]) (by simp[results,results144,go_sem]) rfl ?_;have F:=m.o;have e1:k=(zb4 L j).length:=by rw[zbH];exact f.o
 rw[show mix (zb4 L j) k=zb4 L j by rw[e1,zlc]]at F;exact⟨_,_,_,rfl,F.base ω,T.o⟩
end Mt
def zn8 (N:Nat) (L:List (List Rat)) (r c:Nat):List (List Rat):=(List.range N).map λi=>mix (zb4 L i) (if i<c then r+1 else r)
theorem znU(N:Nat)(L:List (List Rat))(r c:Nat):(zn8 N L r c).length=N:=by simp[zn8]
theorem zA0{xs:List Rat}(h:k<=xs.length):(mix xs k).length=xs.length:=by unfold mix;simp;omega
theorem zh7{i:Nat}(h:i<N):(zn8 N L r c)[i]? = some (mix (zb4 L i) (if i<c then r+1 else r)):=by unfold zn8;rw[Z2,XC h];rfl
theorem zvy(N:Nat)(L:List (List Rat)):zn8 N L 0 0=noughts N L.length:=by unfold zn8 noughts;apply Xc;intro i;rw[Z2,Z8];by_cases h:i<N;rw[XC h,if_pos h];simp[zhW,zbH];grind
theorem zvx(N:Nat)(L:List (List Rat))(r:Nat):zn8 N L r N=zn8 N L (r+1) 0:=by unfold zn8;refine YK λi hi=>?_;rw[if_pos ψ,if_neg ω]
theorem zxK(N:Nat)(L:List (List Rat)):zn8 N L L.length 0=zcZ N L:=by unfold zn8 zcZ;refine YK λi _=>?_;rw[if_neg ω];have:=zlc (zb4 L i);rw[zbH]at this;rw[this];rfl
theorem zxL{x:List Rat}(hc:c<N)(hr:L[r]? = some x)(b:x[c]? = some q):(zn8 N L r c).set c ((mix (zb4 L c) r).set r q)=zn8 N L r (c+1):=by rw[zhV (zou hr b)];apply Xc;intro i;rw[XA];by_cases e:c=i;subst e;rw[if_pos rfl,if_pos (by rw[znU];exact hc),zh7 hc,if_pos ω];rw[if_neg e];by_cases h:i<N;rw[zh7 h,zh7 h];by_cases a:i<c;rw[if_pos a,if_pos ω];rw[if_neg a,if_neg ω];grind[List.getElem?_eq_none,znU]
namespace Mt
theorem turned(N n s:Nat)(R:OA)(l0:List Value)(L:List (List Rat))(H0:Nat)(w:World)(h:VecsL w H0 (R,n,s) l0 L)(hL:∀r∈L,r.length=N)(hN:N<=64)(hn:n<=64) :
  Calls prog 194 #[.agg #[(R,n,s),(N:Int)]] w (zx4 w N (zcZ N L) n):=by
 refine μ4 hn hN hL h.nlen λHN HC aI l=>?_;have bm:n<=9223372036854775807:=ω;have bf:N<=9223372036854775807:=ω;clear hn hN hL;obtain⟨W,u⟩:∃W,((w.alloc (.cells #[(R,n,s),(N:Int)] 112)).alloc (.cells #[(),.int .i64 0] 112))=W:=⟨_,rfl⟩
 refine μ5 (show θ W w.heap.size #[(R,n,s),(N:Int)] 112by rw[<-u];exact zak (zam σ)) (show θ W (w.heap.size+1) #[(),.int .i64 0] 112by rw[<-u];exact zam σ) (show Below w w W by rw[<-u];exact(zae w _).alloc σ _) (show w.heap.size+2<=W.heap.size by rw[<-u];simp) (show VecsL W H0 (R,n,s) l0 L by rw[<-u];exact((h).alloc _).alloc _) λz J B HZ HR=>?_;obtain⟨bz,bF,bB,_⟩:=bc2 z.o;clear h;go_enter func194,ntmps194;go_wp2_with fail
 clear u;with_reducible refine(new N n HC.o HN.o _).mono ?_
 rintro e w1 ⟨A,cA,l1,rfl,d,ha,hb⟩;refine μ4 (show θ (w1.alloc (.cells #[(A,N,cA),(n:Int)] 112)) w.heap.size #[(R,n,s),(N:Int)] 112from zak (zad hb z.o)) (show θ (w1.alloc (.cells #[(A,N,cA),(n:Int)] 112)) (w.heap.size+1) #[(),.int .i64 0] 112from zak (zad hb J.o)) (show VecsL (w1.alloc (.cells #[(A,N,cA),(n:Int)] 112)) W.heap.size (A,N,cA) l1 (noughts N n)from(d).alloc _) (show θ (w1.alloc (.cells #[(A,N,cA),(n:Int)] 112)) w1.heap.size #[(A,N,cA),(n:Int)] 112from zam σ) λaY aX HM a1=>?_;obtain⟨bw,bD,bx,bE⟩:=bc2 aY.o;obtain⟨bI,bC,bN,bG,bJ,bv,bM,bH⟩:=bf2 aX.o;obtain⟨bO,bK,bP,bL⟩:=bc2 a1.o;have HA:=un ha;have aF:=un hb;have aU:=hb.size;clear d ha hb;go_wp2
 go_loopw [19] (λi wr=>∃t:Nat,i=.int .i64 t/\t<=n/\θ wr w1.heap.size #[(A,N,cA),(n:Int)] 112/\VecsL wr W.heap.size (A,N,cA) l1 (zn8 N L t 0)/\Below W.heap.size W wr)
  (λi _=>n-(intOf i).toNat)
 case atStart=>exact⟨0,rfl,Zb _,zal _ _ _,by rw[zvy,<-l.o];exact HM.o,aF.o.alloc aU _⟩
 obtain⟨t,rfl,ht,f,d,a⟩:=hrel;have bo:=HZ.o;by_cases ar:t<n
 ·obtain⟨x,T⟩:∃x,L[t]? = some x:=⟨L[t]'(by rw[<-l.o];exact ar),Ze _⟩
  have aw:=aI.o x (Zz T);have ah:=un aw;obtain⟨M,rfl,_,_⟩:=HR.o.has ω;refine μ7 T d a f (zad a z.o) (zad a J.o) (B.o.trans ((a).mono B.o.size)) λHX aN aE KX H y aB=>?_;obtain⟨_,_,az,_⟩:=bc2 H.o;obtain⟨Y,X,aA,_,Z,V,aD,_⟩:=bf2 y.o;clear f d a T aw;have bh:(0:Int)<=(t:Int):=Zf _;have bi:(t:Int)<(n:Int):=ω;go_wp2
  go_loopw [24] (λi wr=>∃c:Nat,i=.int .i64 c/\c<=N/\θ wr w1.heap.size #[(A,N,cA),(n:Int)] 112/\VecsL wr W.heap.size (A,N,cA) l1 (zn8 N L t c)/\Below W.heap.size W wr)
   (λi _=>N-(intOf i).toNat)
  case atStart=>exact⟨0,rfl,Zb _,KX.o,aN.o,aE.o⟩
  rename World=>wz
  obtain⟨c,rfl,hc,f,d,a⟩:=hrel;by_cases E:c<N
  ·obtain⟨q,Q⟩:∃q,x[c]? = some q:=⟨x[c]'(by rw[ah.o];exact E),Ze _⟩
   obtain⟨Ar,cr,_,F,D⟩:=(HR.o.below a).at_ HX.o;rw[ah.o]at F D;obtain⟨g,rfl,_,_⟩:=D.has ω;obtain⟨ga,Aa,ma,ca,Da,ay,aj,y0,y1,U,ap⟩:=D.at_ Q;obtain⟨bA,rfl,bg,_⟩:=d.has ω;have P:=zA0 (xs:=zb4 L c) (k:=t) (by rw[zbH,<-l.o];omega);obtain⟨Ak,ck,O,G,j⟩:=d.at_ (zh7 (L:=L) (r:=t) (c:=c) E);rw[if_neg (XW c),P,zbH,<-l.o]at O G;rw[if_neg (XW c),P,zbH,<-l.o]at j;obtain⟨m,rfl,aT,_⟩:=j.has ω;have au:(mix (zb4 L c) t)[t]? = some 0:=zld (by rw[zbH,<-l.o];exact ar);obtain⟨go,Ao,mo,co,Do,bp,bb,o0,o1,o2,_⟩:=j.at_ au;have aW:=j.fro (t*3);have of1:=j.fro (t*3+1);have bu:=j.fro (t*3+2);refine μ3 (zad a z.o) (d) (Bel.mk a) λaC HV HW=>?_;obtain⟨aZ,_,a0,_⟩:=bc2 aC.o;have a2:=F;have a3:=y0;have a4:=y1;have a5:=U;have a6:=G;have C:=un f;obtain⟨bT,_,_,_,bU,_⟩:=bf2 C.o;have a2:=F;have a3:=y0;have a4:=y1;have a5:=U;have a6:=G;have aM:=un (zxL E HX.o Q);have aL:=un (d.drew.put HA.o O (by rw[zh7 E,if_neg (XW c)]) t ap.drew);obtain⟨bc,aq⟩:∃cs,θ wz m cs 62:=j.ratBlk;have I:=un aq;clear f d a D j Q ap au O aq F G y0 y1 U P;have bj:(0:Int)<=(c:Int):=Zf _;have bl:(c:Int)<(N:Int):=ω;have be:wz.drew.frozen? ⟨m,t*3,none⟩=false:=aW;have bd:=zaa o0;go_wp2_with fail
   refine za2 (S:=λw'=>χ w' w 0 (M,n,s)/\χ w' w 1 (.int .i64 (N:Int))/\χ w' w1 0 (bA,N,cA)/\χ w' w1 1 (.int .i64 (n:Int))/\χ w' M t (g,N,cr)/\χ w' g (c*3) (.bool ga)/\χ w' g (c*3+1) (Aa,ma,ca)/\χ w' g (c*3+2) (Da,ay,aj)/\χ w' bA c (m,n,ck)) 15 (h:=λhHeld=>?_);refine zaw [0,1,2,3,4,5,6,7,8,9,10,11,12,13,14] ?_;repeat refine tkE (hS:=hHeld) (h:=?_)
   refine zao ?_;refine zba (h:=λK hK=>?_);go_simp;refine shutOff hK ?_;clear hK K;refine za1 (h:=?_);go_wp2;go_roundw
   case rel=>exact⟨c+1,by go_num,ω,((TKeep.set (w:=_) (b:=m) (o:=t*3+2) (zar _ (zar _ I.o)) _).blk ((TKeep.set (w:=_) (b:=m) (o:=t*3+1) (zar _ I.o) _).blk ((TKeep.set (w:=wz) (b:=m) (o:=t*3) I.o _).blk C.o δ) δ) δ),by rw[<-aM.o];exact aL.o,(Bel.set3 HW.o.drew aT _ _ _).b⟩
   case measure=>simp[intOf];omega
  obtain rfl:N=c:=ω;refine μ3 d a f λaO aG aS=>?_;clear d a f;go_wp2;go_roundw
  case rel=>exact⟨t+1,by go_num,ω,aS.o,by rw[<-zvx];exact aO.o,aG.o⟩
  case measure=>simp[intOf];omega
 obtain rfl:n=t:=ω;refine μ4 (zad a z.o) (zad a J.o) (d) (B.o.trans ((a).mono B.o.size)) λH y HV aB=>?_;obtain⟨_,_,az,_⟩:=bc2 H.o;obtain⟨Y,X,aA,_,Z,V,aD,_⟩:=bf2 y.o;have C:=un f;obtain⟨bQ,_,bS,_⟩:=bc2 C.o;clear f d a;go_wp2;refine Zh (v:=.agg #[(A,N,cA),(n:Int)]) (by simp[results,results194,go_sem,Y,X,Z,V]) rfl ?_;have h0:=HV.o;rw[show zn8 N L n 0=zcZ N L by rw[l.o];exact zxK N L]at h0;have h1:=((h0.base (show w.heap.size<=W.heap.size by omega)).tk (TKeep.set (o:=0) y.o (A,N,cA)) δ δ δ).tk (TKeep.set (o:=1) (zar _ y.o) (n:Int)) δ δ δ;exact⟨A,cA,l1,rfl,h1,HA.o,bsc (bsc aB.o)⟩
end Mt
namespace Bs
theorem matrix(q n cc:Nat)(cA:OA)(lc:List Value)(C:List (List Rat))(H:Nat)(w:World)(G:χ w q 0 (cA,n,cc))(h:VecsL w H (cA,n,cc) lc C)(E:∀r∈C,r.length=n)(F:n<=64) :
  Calls prog 185 #[.pointer (some ⟨q,0,none⟩)] w (zx4 w n (zcZ n C) n):=by
 have g:=un F;have u:=un E;clear F E;obtain⟨W,t⟩:∃W,(w.alloc (.cells #[(),.int .i64 0] 112))=W:=⟨_,rfl⟩
 refine μ3 (show θ W w.heap.size #[(),.int .i64 0] 112by rw[<-t];exact zam σ) (show Below w w W by rw[<-t];exact zae w _) (show VecsL W H (cA,n,cc) lc C by rw[<-t];exact(h).alloc _) λO B D=>?_;have I:χ W q 0 (cA,n,cc):=by rw[<-t];exact cell_al G
 have X:=zaa I;clear G;clear h;go_enter func185,ntmps185;go_wp2_with fail
 clear t;go_cut[3] (λU c=>∃(m:Nat) (A:OA) (k:Nat) (l:List Value),U=.pointer (some ⟨m,0,none⟩)/\Below W.heap.size W c/\W.heap.size<=m/\θ c m #[(A,n,k),(n:Int)] 112/\VecsL c W.heap.size (A,n,k) l C)
 case first=>as_aux_lemma =>
  refine zaS (S:=λw'=>χ w' q 0 (cA,n,cc)) [14,15] (h:=λhHeld=>?_);refine zaw [0,1,2,3,4,5,6,7,8] ?_;repeat refine tkL (hS:=hHeld) (h:=?_)
  refine zao ?_;refine zme (i:=9) (j:=13) rfl rfl ξ (λK a=>?_) (λK a=>?_)
  ·skip
   go_simp;(go_at_call 110;(with_reducible refine(Mt.of n n g.o g.o cA cc lc C H _ (D.o.drew) u.o).mono ?_);rintro e u1 ⟨A1,c1,l1,rfl,d,_,b⟩;have x:=un (show VecsL u1 W.heap.size (A1,n,c1) l1 C from d);have s:=un (It.bdrew0' b);have T:=zab b X;clear b d);(try go_wp2_with fail);refine shutOn a λhHeld=>?_;clear a K;refine zaw [10,11,12] ?_;repeat refine tkX (h:=?_)
   refine zao ?_;refine zaB 13 (h:=λK a=>?_);go_simp;refine shutOn a λhHeld=>?_;clear a K;refine zay 14 (h:=λK a=>?_);go_simp;refine shutOff a ?_;clear a K;refine zay 15 (h:=λK a=>?_);go_simp;refine shutOff a ?_;clear a K;refine zaM (h:=?_);go_wp2;go_meet
   case rel=>exact⟨_,_,_,_,rfl,s.o.alloc s.o.size _,s.o.size,zal _ _ _,x.o.alloc _⟩
  skip
  go_simp;refine shutOn a λhHeld=>?_;clear a K;refine zaB 9 (h:=λK a=>?_);go_simp;(go_at_call 110;(with_reducible refine(Mt.of n n g.o g.o cA cc lc C H _ (D.o.alloc _ |>.drew) u.o).mono ?_);rintro e u1 ⟨A1,c1,l1,rfl,d,_,b⟩;refine μ3 (show VecsL u1 W.heap.size (A1,n,c1) l1 C from d.base σ) ((zae W _).trans ((It.bdrew0' b).mono σ)) (zad b (show(W.alloc (.cells #[(),.int .i64 0] 112)).drew.heap[W.heap.size]? = _ from zal _ _ _)) λx s f=>?_;have T:=zab b (show(W.alloc (.cells #[(),.int .i64 0] 112)).drew.cell? _=_ from cell_al I);have P:=zac f.o 0;have Q:=zac f.o 1;have ae:=zag f.o 0;have af:=zag f.o 1;simp only[Xa,Z9,XH]at P Q;clear b d);(try go_wp2_with fail);refine shutOn a λhHeld=>?_;clear a K;refine zaw [10,11,12] ?_;repeat refine tkX (h:=?_)
  refine zao ?_;refine zay 14 (h:=λK a=>?_);go_simp;refine shutOff a ?_;clear a K;refine zay 15 (h:=λK a=>?_);go_simp;refine shutOff a ?_;clear a K;refine zaM (h:=?_);go_wp2;go_meet
  case rel=>exact⟨_,_,_,_,rfl,(s.o.setCell (p:=⟨W.heap.size,0,none⟩) (Za _) _).setCell (p:=⟨W.heap.size,1,none⟩) (Za _) _,Za _,zar _ (zar _ f.o),(x.o.tk (TKeep.set f.o _) δ δ δ).tk (TKeep.set (zar _ f.o) _) δ δ δ⟩
 rename World=>c
 obtain⟨m,A,k,l,rfl,b,R,hk,d⟩:=hcut;refine μ3 (zad b O.o) (d) (B.o.trans ((b).mono B.o.size)) λac L z=>?_;have ag:χ c m 0 (A,n,k):=zac hk 0;have aj:χ c m 1 (.int .i64 (n:Int)):=zac hk 1;clear b hk d R;go_wp2_with fail
 with_reducible refine(Mt.turned n n k A l C W.heap.size _ L.o u.o g.o g.o).mono ?_
 rintro e V ⟨A3,c3,l3,rfl,hv3,ha3,b⟩;refine μ3 (zad b ac.o) (hv3) (z.o.trans ((b).mono z.o.size)) λy M ad=>?_;obtain⟨aa,Y,ah,_,ab,Z,ai,_⟩:=bf2 y.o;have J:=un ha3;have N:=un (z.o.size);clear hv3 ha3 b;go_wp2;refine Zh (v:=.agg #[(A3,n,c3),(n:Int)]) (by simp[results,results185,go_sem,aa,Y,ab,Z]) rfl ?_;have h1:=((M.o.base N.o).tk (TKeep.set (o:=0) y.o (A3,n,c3)) δ δ δ).tk (TKeep.set (o:=1) (zar _ y.o) (n:Int)) δ δ δ;exact⟨A3,c3,l3,rfl,h1,J.o,bsc (bsc ad.o)⟩
