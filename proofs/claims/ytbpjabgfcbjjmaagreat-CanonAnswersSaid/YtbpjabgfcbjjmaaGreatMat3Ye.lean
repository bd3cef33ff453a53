/- Contracts and lemmas: Mat3 Vec8 Vec6. Conditions: as each says. -/
import Derived.Test.YtbpjabgfcbjjmaaGreatMat2Ye
set_option linter.all false
set_option maxHeartbeats 4000000
set_option maxRecDepth 100000
namespace Go.Proofs.YtbpjabgfcbjjmaaGreat
open Go.RowKit Am Tryz
attribute [local go_sem ↓] Go.wp_at_zero Go.wp_at_succ
variable {xs:List Rat}{a b:Rat}
def zsR (w:World) (n:Nat) (L:List (List Rat)) (c:Nat) (e:Ending) (w':World):Prop:=∃(A:OA) (cR:Nat) (l:List Value),e=.returned (.tuple #[.agg #[(A,n,cR),(c:Int)],true])/\VecsL w' w (A,n,cR) l L/\zbG l/\Below w w w'
def zx4 (w:World) (n:Nat) (L:List (List Rat)) (c:Nat) (e:Ending) (w':World):Prop:=∃(A:OA) (cR:Nat) (l:List Value),e=.returned (.agg #[(A,n,cR),(c:Int)])/\VecsL w' w (A,n,cR) l L/\zbG l/\Below w w w'
def noughts (n c:Nat):List (List Rat):=List.replicate n (List.replicate c 0)
namespace Mt
theorem new(n c:Nat)(P:n<=64)(hc:c<=64)(w:World):Calls prog 155 #[(n:Int),(c:Int)] w (zsR w n (noughts n c) c):=by
 have h1:decide ((n:Int)<0)=false:=σ;have h2:decide ((64:Int)<(n:Int))=false:=by simp;omega
 have h3:decide ((c:Int)<0)=false:=σ;have h4:decide ((64:Int)<(c:Int))=false:=by simp;omega
 have HN:=un P;have X:=un hc;have ar:n<=9223372036854775807:=ω;clear P hc;obtain⟨W,u⟩:∃W,(w.alloc (.cells #[(),.int .i64 0] 112))=W:=⟨_,rfl⟩
 refine μ3 (show θ W w.heap.size #[(),.int .i64 0] 112by rw[<-u];exact zam σ) (show Below w w W by rw[<-u];exact zae w _) (show w.heap.size+1<=W.heap.size by rw[<-u];simp) λI q HZ=>?_;go_enter func155,ntmps155;go_wp2;clear u
 go_loopw [25] (λi wr=>∃(k:Nat) (A:OA) (d:Nat) (l:List Value),i=.int .i64 k/\k<=n/\θ wr W.heap.size #[(A,k,d),(c:Int)] 112/\VecsL wr W.heap.size (A,k,d) l (noughts k c)/\zbG l/\Below W.heap.size W wr)
  (λi _=>n-(intOf i).toNat)
 case atStart=>exact⟨0,none,0,[],rfl,Zb _,zal _ _ _,VecsL.nil _ _,zbG.nil,zae W _⟩
 obtain⟨k,A,d,l,rfl,hk,x,t,J,f⟩:=hrel;have H:=un J;clear J;have au:=HZ.o;have ah:=f.size;by_cases aq:k<n
 ·skip
  refine μ4 (zad f I.o) (t) (Bel.mk f) (q.o.trans ((f).mono q.o.size)) λj r HW T=>?_;obtain⟨y,B,F,_,z,C,G,_⟩:=bf2 j.o;have s:=un x;obtain⟨aj,_,_,_,ak,_⟩:=bf2 s.o;clear x t f;have ap:(k:Int)<(n:Int):=ω;have Z:=un (show(noughts k c).length=k by simp[noughts]);go_wp2_with fail
  refine za2 (S:=λw'=>χ w' W.heap.size 0 (A,k,d)/\χ w' W.heap.size 1 (.int .i64 (c:Int))) 7 (h:=λhHeld=>?_);refine zaw [0,1,2] ?_;repeat refine tkE (hS:=hHeld) (h:=?_)
  refine zao ?_;refine zaN 3 (h:=λK a=>?_);(refine zh5 rfl _ _ rfl c _ rfl rfl rfl (by have:=X.o;omega) ?_;intro Q E D;refine μ4 (zad D s.o) (r.o.drew.below D) (HW.o.drew.below D) (show VecS Q W.heap.size (.slice (some ⟨wr.heap.size,0,none⟩) c c) (List.replicate c 0)from(E.base ah)) λU ai al HR=>?_;obtain⟨az,_,_,_,aA,_⟩:=bf2 U.o;have av:wr.heap.size<Q.heap.size:=(E.lt rfl).2;clear E);refine shutOn a λhHeld=>?_;clear a K;refine zaN 4 (h:=λK a=>?_);go_simp;refine shutOn a λhHeld=>?_;clear a K;refine zaN 5 (h:=λK a=>?_);(refine zjh rfl _ _ rfl rfl (ai.o.alloc _) rfl (zal _ _ _) (HR.o.alloc _) Z.o (by have:=HN.o;omega) (by simp;omega) ?_;intro V c5 R L O M;refine μ3 L (O.blk (zak U.o) δ) ((al.o.alloc _).b.trans M) λY m ad=>?_;have p0:χ R W.heap.size 0 (A,k,d):=zac m.o 0;have p1:χ R W.heap.size 1 (.int .i64 (c:Int)):=zac m.o 1;have ay:=zag m.o 0;clear L O M);refine shutOn a λhHeld=>?_;clear a K;refine zaw [6] ?_;repeat refine tkE (hS:=hHeld) (h:=?_)
  refine zao ?_;refine zba (h:=λK a=>?_);go_simp;refine shutOff a ?_;clear a K;refine za1 (h:=?_);go_wp2;go_roundw
  case rel=>exact⟨k+1,V,c5,_,by go_num,ω,zar _ m.o,by rw[show noughts (k+1) c=noughts k c++[List.replicate c 0]from Yg];exact Y.o.tk (TKeep.set m.o _) δ δ δ,H.o.push λg b hg hb e=>(by have N:some wr.heap.size=some g:=hg;injection N with N;have:=(r.o.lt hb e).2;omega),Xf ad.o (p:=⟨W.heap.size,0,none⟩) (Za _) _⟩
  case measure=>simp[intOf];omega
 obtain rfl:k=n:=ω;refine μ3 (zad f I.o) (t) (q.o.trans ((f).mono q.o.size)) λj r T=>?_;obtain⟨y,B,F,_,z,C,G,_⟩:=bf2 j.o;have s:=un x;obtain⟨aj,_,ak,_⟩:=bc2 s.o;clear x t f;go_wp2;refine Zh (v:=.tuple #[.agg #[(A,k,d),(c:Int)],true]) (by simp[results,results155,go_sem,y,B,z,C]) rfl ?_;have h1:=((r.o.base (show w.heap.size<=W.heap.size by omega)).tk (TKeep.set (o:=0) j.o (A,k,d)) δ δ δ).tk (TKeep.set (o:=1) (zar _ j.o) (c:Int)) δ δ δ;exact⟨A,d,l,rfl,h1,H.o,bsc (bsc T.o)⟩
end Mt
theorem zqJ{o:Oper}{a:Act}{w:World}{K:Act->World->Prop}{Q:Exit->Act->World->Prop}(s x:Operand)
  (v:o.op=.call { callee:=.builtin .append,args:=#[s,x],argTypes:=#[30,30] }) (y:a.eval s=()) {H:Nat} {A:OA} {n c:Nat} {qs:List Rat} (B:a.eval x=(A,n,c)) (f:VecS w H (A,n,c) qs) (X:qs.length<=1000000)
  (p:∀b c' w',VecS w' w (.slice b n c') qs->Below w w w'->K (a.put o.dst (.slice b n c')) w'):Oper.wp prog o a w K Q:=by
 obtain⟨C,hi,O,R,S⟩:=info_parts ze0;obtain rfl:=f.len;rcases f.form.2.2.2 with ⟨rfl,rfl,rfl⟩ | ⟨g,rfl,V,W⟩
 have N:=run_append_owned_none (P:=prog) (w:=w) w.heap.size 30 o.type 62 C 3 underlying30 hi () 0 [] (Xo _ _ _ _);unfold Oper.wp;simp[execOp,v,resolve,invoke,builtin,y,B,N,Result.andThen];exact p none 0 w (VecS.nil _ _) (Zj _ _)
 obtain⟨l,d,i,E⟩:=f.row;have J:∀u∈rcells l,u.oneCell'=true:=ziJ l λr hr=>by
  obtain⟨k,hk,I⟩:=YI hr;have G:l[k]? = some r:=by rw[Ze hk,I]
  obtain⟨q,M⟩:∃q,qs[k]? = some q:=⟨qs[k]' ω,Ze _⟩
  obtain⟨A,m,c,D,Y,U,h1,e⟩:=(i k r q G M).shape;rw[h1,e];exact⟨rfl,rfl⟩
 refine wp_append_own w s x 30 v w.heap.size 62 C _ 3 56 underlying30 hi O R S rfl δ () 0 [] y (Xo _ _ _ _) ⟨g,0,none⟩ qs.length c (rcells l) B (by rw[zcC,d])
  (λj u z=>by
   have hj:=(ZF.1 z).1;rw[zcC,d]at hj;show w.cell? (Addr.add _ _)=_
   rw[show(⟨g,0,none⟩:Addr).add j=⟨g,j,none⟩by unfold Addr.add;split<;>simp_all];rw[E.cellAt j hj];exact z) J (by unfold maxLen;omega) ω (Za _) ?_
 intro T w' L F _;have t:Below w w w':=(Zj _ _).grown F (Za _) (λk hk=>by cases hk);have hS:VecS w' w T qs:=⟨l,d,λk r q h1 e=>(i k r q h1 e).below t,by simpa using L⟩
 obtain⟨b,Z,c',rfl⟩:=hS.slice;obtain rfl:=hS.len;grind
namespace Vc
theorem copy(A:OA)(n c:Nat)(qs:List Rat)(H:Nat)(w:World)(h:VecS w H (A,n,c) qs)(f:n<=1000000) :
  Calls prog 108 #[(A,n,c)] w λe w'=>∃(a:OA) (c':Nat),e=.returned (a,n,c')/\VecS w' w (a,n,c') qs/\Below w w w':=by
 refine μ3 h f h.len λl j k=>?_;clear h f;go_enter func108,ntmps108;go_wp2_with (at_builtin;go_loud (refine wpList_plain rfl λK b=>zqJ _ _ rfl rfl rfl l.o (by have:=k.o;have:=j.o;omega) ?_;intro a c' w' g d;refine b _ _ ?_;have m:=un g;have i:=un d;clear g d b))
 go_ret;exact⟨a,c',rfl,m.o,i.o⟩
end Vc
theorem zu9(x:Int)(h:I64 x):mw (x:Rat)<=1:=by unfold mw;rw[Rat.num_intCast,Rat.den_intCast];have h1:=zdl (n:=x.natAbs) ψ;have a:=zdl (n:=1) δ;omega
theorem zvb:mw 0<=1:=zu9 0 (by constructor<;>decide)
theorem zDJ{M:Nat}(b:1<=M)(h:∀q∈xs,mw q<=M)(i:Nat):mw (el xs i)<=M:=by unfold el;rw[Zg];grind[Nat.le_trans,zvb,List.mem_of_getElem?]
theorem zrK{f:Nat->Rat}{M:Nat}(h:∀i,mw (f i)<=M):∀n,mw (zai n f)<=n*(M+1)+1
 | 0=>by simpa[zai]using zvb
 | n+1=>by
  have h1:=zrK h n;have a:=h n;have b:=zrI (zai n f) (f n);rw[Nat.succ_mul];show mw (zai n f+f n)<=_
  omega
def ziw (xs ys:List Rat) (k:Nat):Rat:=zai k λi=>el xs i*el ys i
def dot (xs ys:List Rat):Rat:=ziw xs ys xs.length
theorem zlZ(xs ys:List Rat)(k:Nat)(c:xs[k]? = some a)(d:ys[k]? = some b):ziw xs ys (k+1)=ziw xs ys k+a*b:=by unfold ziw;rw[zai,znd c,znd d]
theorem zlY(xs ys:List Rat)(k:Nat)(c:xs[k]? = some a)(d:ys[k]? = some b)(h:a=0\/b=0):ziw xs ys (k+1)=ziw xs ys k:=by rw[zlZ xs ys k c d];grind
theorem zrJ{ys:List Rat}(a:∀q∈xs,mw q<=4000000)(b:∀q∈ys,mw q<=4000000)(k:Nat):mw (ziw xs ys k)<=k*8000001+1 :=
 zrK (λi=>Zl (zdI _ _) (by have:=zDJ ω a i;have:=zDJ ω b i;omega)) k
def scale (r:Rat) (xs:List Rat):List Rat:=xs.map λa=>r*a
theorem zvn{r:Rat}{k:Nat}(h:xs[k]? = some a):(scale r xs)[k]? = some (r*a):=by simp[scale,h]
theorem zfH(r:Rat)(xs:List Rat):(scale r xs).length=xs.length:=by simp[scale]
namespace Vc
theorem subS(S:Nat)(hS:12*S+8<=LIM)(h1:1<=S)(A:OA)(n c:Nat)(xs:List Rat)(B:OA)(d c':Nat)(ys:List Rat)(H f:Nat)(w:World)(j:VecS w H (A,n,c) xs)(k:VecS w f (B,d,c') ys)
  (i:xs.length=ys.length) (a:n<=1048576) (l:∀q∈xs,mw q<=S) (o:∀q∈ys,mw q<=S) :
  Calls prog 100 #[(A,n,c),(B,d,c')] w (zcd w (zly xs ((-1:Int):Rat) ys) true):=by
 refine μ8 j k i a l o hS h1 λp s y x G I C E=>?_;clear j k i a l o hS h1;go_enter func100,ntmps100;go_wp2_with fail
 refine(Rt.int (-1) δ δ _).mono ?_;rintro e w1 ⟨g,R,m,cr,D,md,cd,rfl,hr,a⟩;refine μ4 (p.o.below a) (s.o.below a) hr a λr t z b=>?_;clear hr a;go_wp2_with fail
 refine(addTimesS S C.o A n c xs g R m cr D md cd ((-1:Int):Rat) B d c' ys H f _ r.o z.o t.o y.o x.o G.o (Zl (zu9 _ (by constructor<;>decide)) E.o) I.o).mono ?_;rintro e J ⟨A2,n2,c2,rfl,hv,a⟩;have F:=un (hv.base b.o.size);have u:=un (b.o.trans (a.mono b.o.size));clear hv a;go_wp2;refine Zh (v:=.tuple #[(A2,n2,c2),true]) (by simp[results,results100,go_sem]) rfl ?_;exact⟨_,_,_,rfl,F.o,u.o⟩
theorem sub(A:OA)(n c:Nat)(xs:List Rat)(B:OA)(a c':Nat)(ys:List Rat)(H b:Nat)(w:World)(f:VecS w H (A,n,c) xs)(g:VecS w b (B,a,c') ys)
  (e:xs.length=ys.length) (d:n<=1048576) (i:∀q∈xs,mw q<=100000000) (j:∀q∈ys,mw q<=100000000) :
  Calls prog 100 #[(A,n,c),(B,a,c')] w (zcd w (zly xs ((-1:Int):Rat) ys) true) :=
 subS 100000000 (by rw[zaP];decide) δ A n c xs B a c' ys H b w f g e d i j
theorem scaleS(S:Nat)(hS:8*S+8<=LIM)(g:Bool)(R:OA)(m j:Nat)(D:OA)(o f:Nat)(r:Rat)(A:OA)(n c:Nat)(xs:List Rat)(H:Nat)(w:World)(L:VecS w H (A,n,c) xs)(hr:RatS w g (R,m,j) (D,o,f) r)
  (d:n<=1048576) (X:∀q∈xs,mw q<=S) (zr:mw r<=S) :
  Calls prog 59 #[.agg #[g,(R,m,j),(D,o,f)],(A,n,c)] w (zq5 w (scale r xs)):=by
 have u:=L.len;refine μ4 u d X zr λt Z ZX ZR=>?_;have aI:n<=9223372036854775807:=ω;have ah:=un hS;clear u d X zr hS;obtain⟨W,s⟩:∃W,(w.alloc (.cells #[g,(R,m,j),(D,o,f)] 62))=W:=⟨_,rfl⟩
 refine μ5 (show θ W w.heap.size #[g,(R,m,j),(D,o,f)] 62by rw[<-s];exact zam σ) (show Below w w W by rw[<-s];exact zae w _) (show w.heap.size+1<=W.heap.size by rw[<-s];simp) (show VecS W H (A,n,c) xs by rw[<-s];exact(L).alloc _) (show RatS W g (R,m,j) (D,o,f) r by rw[<-s];exact(hr).alloc _) λak J HZ M HR=>?_;clear L hr;go_enter func59,ntmps59;go_wp2_with (at_make;go_must (refine zdv rfl _ _ rfl n _ rfl rfl rfl Z.o W.heap.size rfl ?_;intro w1 Q O))
 clear s;have HO:=un Q;have Y:=un O;clear Q O;go_wp2
 go_loopw [12] (λi wr=>∃k:Nat,i=.int .i64 k/\k<=n/\VecS wr W.heap.size (.slice (some ⟨W.heap.size,0,none⟩) n n) (mix (Go.Proofs.YtbpjabgfcbjjmaaGreat.scale r xs) k)/\Below W.heap.size W wr)
  (λi _=>n-(intOf i).toNat)
 case atStart=>exact⟨0,rfl,Zb _,by rw[zhW,zfH,<-t.o];exact HO.o,Y.o⟩
 obtain⟨k,rfl,hk,F,l⟩:=hrel;by_cases P:k<n
 ·obtain⟨a,E⟩:∃a,xs[k]? = some a:=⟨xs[k]'(by rw[<-t.o];exact P),Ze _⟩
  obtain⟨p,rfl,aE,aF⟩:=M.o.has ω;obtain⟨C,x,G,z,y,I,B,T,U,k2,N⟩:=(M.o.below l).at_ E;refine μ5 (zad l ak.o) (HR.o.below l) (N) (F) (Bel.mk l) λV az ag K HW=>?_;obtain⟨aR,_,aS,_,aV,_⟩:=bc3 V.o;have aw:=T;have aq:=zaa aw;have ax:=U;have ar:=zaa ax;have ay:=k2;have au:=zaa ay;have ab:=un (zvn (r:=r) E);have ZA:=un (ZX.o a (Zz E));have aG:(0:Int)<=(k:Int):=Zf _;have aH:(k:Int)<(n:Int):=ω;have L1:=un (show 4*(mw r+mw a)+8<=LIM by have:=ZR.o;have:=ZA.o;have:=ah.o;omega);have ad:=un (zld (k:=k) (rs:=Go.Proofs.YtbpjabgfcbjjmaaGreat.scale r xs) (by rw[zfH,<-t.o];exact P));clear F l E T U k2 N;have aJ:=HZ.o;go_wp2_with fail
  go_region_held3 (λw'=>χ w' w 0 (.bool g)/\χ w' w 1 (R,m,j)/\χ w' w 2 (D,o,f)/\χ w' p (k*3) (.bool C)/\χ w' p (k*3+1) (x,G,z)/\χ w' p (k*3+2) (y,I,B))
   (((try go_split_ands);(try simp only[Xp]);(repeat' apply And.intro)<;>(repeat(first | with_reducible assumption | with_reducible refine cell_set ω ?_ | with_reducible refine cell_al ?_))))
   (first
    | (go_at_call 29;(with_reducible refine(Rt.mul g R m j D o f r C x G z y I B a _ az.o.drew ag.o.drew L1.o).mono ?_);rintro e u1 ⟨g1,A1,m1,c1,D1,md1,cd1,rfl,u,d⟩;refine μ4 (zad d V.o) (K.o.drew.below d) (HW.o.drew.below d) (u) λav v aA HM=>?_;obtain⟨aT,_,aU,_,aY,_⟩:=bc3 av.o;have aW:=zab d aq;have aX:=zab d ar;have aZ:=zab d au;have pp:=v.o.at_ ad.o;obtain⟨go,Ao,mo,co,Do,aK,aD,o0,o1,o2,_⟩:=pp;have aP:=v.o.fro (k*3);have of1:=v.o.fro (k*3+1);have aQ:=v.o.fro (k*3+2);clear u d)
    | fail)
  go_wp2;go_roundw
  case rel=>exact⟨k+1,by go_num,ω,by rw[<-zhV ab.o];exact VecS.store v.o k HM.o,(Bel.set3 aA.o (Za _) _ _ _).b⟩
  case measure=>simp[intOf];omega
 obtain rfl:k=n:=ω;have K:=un F;have HF:=un l;clear F l;go_wp2;go_ret;refine⟨_,_,_,rfl,?_,J.o.trans (HF.o.mono J.o.size)⟩;have h:=K.o;rw[show k=(Go.Proofs.YtbpjabgfcbjjmaaGreat.scale r xs).length by rw[zfH,<-t.o],zlc]at h;rw[<-show k=(Go.Proofs.YtbpjabgfcbjjmaaGreat.scale r xs).length by rw[zfH,<-t.o]]at h;exact h.base J.o.size
theorem scale(g:Bool)(R:OA)(m b:Nat)(D:OA)(d a:Nat)(r:Rat)(A:OA)(n c:Nat)(xs:List Rat)(H:Nat)(w:World)(f:VecS w H (A,n,c) xs)(hr:RatS w g (R,m,b) (D,d,a) r)
  (e:n<=1048576) (i:∀q∈xs,mw q<=100000000) (zr:mw r<=100000000) :
  Calls prog 59 #[.agg #[g,(R,m,b),(D,d,a)],(A,n,c)] w (zq5 w (scale r xs)) :=
 scaleS 100000000 (by rw[zaP];decide) g R m b D d a r A n c xs H w f hr e i zr
