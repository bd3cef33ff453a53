/- Contracts and lemmas: Mat3 Vec8 Vec6 BasMem BasCap Mat5 Vec7 Prob2 Prob3 Prob5 Prob4. Conditions: as each says. -/
import Derived.Test.YtbpjabgfcbjjmaaGreatVec4Yn
import Derived.Test.YtbpjabgfcbjjmaaGreatSiegYn
set_option linter.all false
set_option maxHeartbeats 4000000
set_option maxRecDepth 100000
namespace Go.Proofs.YtbpjabgfcbjjmaaGreat
open Go.RowKit Am Tryz
attribute [local go_sem ↓] Go.wp_at_zero Go.wp_at_succ
variable {xs:List Rat}{a b:Rat}
def zsR (w:World) (n:Nat) (L:List (List Rat)) (c:Nat) (e:Ending) (w':World):Prop:=∃(A:OA) (cR:Nat) (l:List Value),e=.returned (.tuple #[.agg #[(A,n,cR),(c:Int)],true])/\VecsL w' w (A,n,cR) l L/\zbG l/\Below w w w'
def zx4 (w:World) (n:Nat) (L:List (List Rat)) (c:Nat) (e:Ending) (w':World):Prop:=∃(A:OA) (cR:Nat) (l:List Value),e=.returned (.agg #[(A,n,cR),(c:Int)])/\VecsL w' w (A,n,cR) l L/\zbG l/\Below w w w'
def noughts (n c:Nat):List (List Rat):=List.replicate n (List.replicate c 0)
namespace Mt
def new(n c:Nat)(P:n<=64)(hc:c<=64)(w:World):Calls prog 155 #[(n:Int),(c:Int)] w (zsR w n (noughts n c) c):=by
 have h1:decide ((n:Int)<0)=false:=σ;have h2:decide ((64:Int)<(n:Int))=false:=by simp;omega
 have h3:decide ((c:Int)<0)=false:=σ;have h4:decide ((64:Int)<(c:Int))=false:=by simp;omega
 have HN:=un P;have X:=un hc;have ar:n<=9223372036854775807:=ω;obtain⟨W,u⟩:∃W,(w.alloc (.cells #[(),.int .i64 0] 112))=W:=⟨_,rfl⟩
 refine μ3 (show θ W w.heap.size #[(),.int .i64 0] 112by rw[<-u];exact zam σ) (show Below w w W by rw[<-u];exact zae w _) (show w.heap.size+1<=W.heap.size by rw[<-u];simp) λI q HZ=>?_;go_enter func155,ntmps155;go_wp2
 go_loopw [25] (λi wr=>∃(k:Nat) (A:OA) (d:Nat) (l:List Value),i=.int .i64 k/\k<=n/\θ wr W.heap.size #[(A,k,d),(c:Int)] 112/\VecsL wr W.heap.size (A,k,d) l (noughts k c)/\zbG l/\Below W.heap.size W wr)
  (λi _=>n-(intOf i).toNat)
 case atStart=>exact⟨0,none,0,[],rfl,Zb _,zal _ _ _,VecsL.nil _ _,zbG.nil,zae W _⟩
 obtain⟨k,A,d,l,rfl,hk,x,t,J,f⟩:=hrel;have H:=un J;have au:=HZ.o;have ah:=f.size;by_cases aq:k<n
 ·skip
  refine μ4 (zad f I.o) (t) (Bel.mk f) (q.o.trans ((f).mono q.o.size)) λj r HW T=>?_;obtain⟨y,B,F,_,z,C,G,_⟩:=bf2 j.o;have s:=un x;obtain⟨aj,_,_,_,ak,_⟩:=bf2 s.o;have ap:(k:Int)<(n:Int):=ω;have Z:=un (show(noughts k c).length=k by simp[noughts]);go_wp2_with fail
  refine za2 (S:=λw'=>χ w' W.heap.size 0 (A,k,d)/\χ w' W.heap.size 1 (.int .i64 (c:Int))) 7 (h:=λhHeld=>?_);refine zaw [0,1,2] ?_;repeat refine tkE hHeld ?_
  refine zao ?_;refine zaN 3 (h:=λK a=>?_);(refine zh5 rfl _ _ rfl c _ rfl rfl rfl (by have:=X.o;omega) ?_;intro Q E D;refine μ4 (zad D s.o) (r.o.drew.below D) (HW.o.drew.below D) (show VecS Q W.heap.size (.slice (some ⟨wr.heap.size,0,none⟩) c c) (List.replicate c 0)from(E.base ah)) λU ai al HR=>?_;obtain⟨az,_,_,_,aA,_⟩:=bf2 U.o;have av:wr.heap.size<Q.heap.size:=(E.lt rfl).2);refine shutOn a λhHeld=>?_;refine zaN 4 (h:=λK a=>?_);go_simp;refine shutOn a λhHeld=>?_;refine zaN 5 (h:=λK a=>?_);(refine zjh rfl _ _ rfl rfl (ai.o.alloc _) rfl (zal _ _ _) (HR.o.alloc _) Z.o (by have:=HN.o;omega) (by simp;omega) ?_;intro V c5 R L O M;refine μ3 L (O.blk (zak U.o) δ) ((al.o.alloc _).b.trans M) λY m ad=>?_;have p0:χ R W.heap.size 0 (A,k,d):=zac m.o 0;have p1:χ R W.heap.size 1 (.int .i64 (c:Int)):=zac m.o 1;have ay:=zag m.o 0);refine shutOn a λhHeld=>?_;refine zaw [6] ?_;repeat refine tkE hHeld ?_
  refine zao ?_;refine zba (h:=λK a=>?_);go_simp;refine shutOff a ?_;refine za1 (h:=?_);go_wp2;go_roundw
  case rel=>exact⟨k+1,V,c5,_,by go_num,ω,zar _ m.o,by rw[show noughts (k+1) c=noughts k c++[List.replicate c 0]from Yi];exact Y.o.tk (TKeep.set m.o _) δ δ δ,H.o.push λg b hg hb e=>(by have N:some wr.heap.size=some g:=hg;injection N with N;have:=(r.o.lt hb e).2;omega),Xj ad.o (p:=⟨W.heap.size,0,none⟩) (Za _) _⟩
  case measure=>simp[intOf];omega
 obtain rfl:k=n:=ω;refine μ3 (zad f I.o) (t) (q.o.trans ((f).mono q.o.size)) λj r T=>?_;obtain⟨y,B,F,_,z,C,G,_⟩:=bf2 j.o;have s:=un x;obtain⟨aj,_,ak,_⟩:=bc2 s.o;go_wp2;refine Zi (v:=.tuple #[.agg #[(A,k,d),(c:Int)],true]) (by simp[results,results155,go_sem,y,B,z,C]) rfl ?_;have h1:=((r.o.base (show w.heap.size<=W.heap.size by omega)).tk (TKeep.set (o:=0) j.o (A,k,d)) δ δ δ).tk (TKeep.set (o:=1) (zar _ j.o) (c:Int)) δ δ δ;exact⟨A,d,l,rfl,h1,H.o,bsc (bsc T.o)⟩
end Mt
def zqJ{o:Oper}{a:Act}{w:World}{K:Act->World->Prop}{Q:Exit->Act->World->Prop}(s x:Operand)
  (v:o.op=.call { callee:=.builtin .append,args:=#[s,x],argTypes:=#[30,30] }) (y:a.eval s=()) {H:Nat} {A:OA} {n c:Nat} {qs:List Rat} (B:a.eval x=(A,n,c)) (f:VecS w H (A,n,c) qs) (X:qs.length<=1000000)
  (p:∀b c' w',VecS w' w (.slice b n c') qs->Below w w w'->K (a.put o.dst (.slice b n c')) w'):Oper.wp prog o a w K Q:=by
 obtain⟨C,hi,O,R,S⟩:=info_parts ze0;obtain rfl:=f.len;rcases f.form.2.2.2 with ⟨rfl,rfl,rfl⟩ | ⟨g,rfl,V,W⟩
 have N:=run_append_owned_none (P:=prog) (w:=w) w.heap.size 30 o.type 62 C 3 underlying30 hi () 0 [] (Xs _ _ _ _);unfold Oper.wp;simp[execOp,v,resolve,invoke,builtin,y,B,N,Result.andThen];exact p none 0 w (VecS.nil _ _) (Zl _ _)
 obtain⟨l,d,i,E⟩:=f.row;have J:∀u∈rcells l,u.oneCell'=true:=ziJ l λr hr=>by
  obtain⟨k,hk,I⟩:=YM hr;have G:l[k]? = some r:=by rw[Ze hk,I]
  obtain⟨q,M⟩:∃q,qs[k]? = some q:=⟨qs[k]' ω,Ze _⟩
  obtain⟨A,m,c,D,Y,U,h1,e⟩:=(i k r q G M).shape;rw[h1,e];exact⟨rfl,rfl⟩
 refine wp_append_own w s x 30 v w.heap.size 62 C _ 3 56 underlying30 hi O R S rfl δ () 0 [] y (Xs _ _ _ _) ⟨g,0,none⟩ qs.length c (rcells l) B (by rw[zcC,d])
  (λj u z=>by
   have hj:=(ZF.1 z).1;rw[zcC,d]at hj;show w.cell? (Addr.add _ _)=_
   rw[show(⟨g,0,none⟩:Addr).add j=⟨g,j,none⟩by unfold Addr.add;split<;>simp_all];rw[E.cellAt j hj];exact z) J (by unfold maxLen;omega) ω (Za _) ?_
 intro T w' L F _;have t:Below w w w':=(Zl _ _).grown F (Za _) (λk hk=>by cases hk);have hS:VecS w' w T qs:=⟨l,d,λk r q h1 e=>(i k r q h1 e).below t,by simpa using L⟩
 obtain⟨b,Z,c',rfl⟩:=hS.slice;obtain rfl:=hS.len;grind
namespace Vc
def copy(A:OA)(n c:Nat)(qs:List Rat)(H:Nat)(w:World)(h:VecS w H (A,n,c) qs)(f:n<=1000000) :
  Calls prog 108 #[(A,n,c)] w λe w'=>∃(a:OA) (c':Nat),e=.returned (a,n,c')/\VecS w' w (a,n,c') qs/\Below w w w':=by
 refine μ3 h f h.len λl j k=>?_;go_enter func108,ntmps108;go_wp2_with (at_builtin;go_loud (refine wpList_plain rfl λK b=>zqJ _ _ rfl rfl rfl l.o (by have:=k.o;have:=j.o;omega) ?_;intro a c' w' g d;refine b _ _ ?_;have m:=un g;have i:=un d))
 go_ret;exact⟨a,c',rfl,m.o,i.o⟩
end Vc
theorem zu9(x:Int)(h:I64 x):mw (x:Rat)<=1:=by unfold mw;rw[Rat.num_intCast,Rat.den_intCast];have h1:=zdl (n:=x.natAbs) ψ;have a:=zdl (n:=1) δ;omega
theorem zvb:mw 0<=1:=zu9 0 (by constructor<;>decide)
def zDJ{M:Nat}(b:1<=M)(h:∀q∈xs,mw q<=M)(i:Nat):mw (el xs i)<=M:=by unfold el;rw[Zh];grind[Nat.le_trans,zvb,List.mem_of_getElem?]
def zrK{f:Nat->Rat}{M:Nat}(h:∀i,mw (f i)<=M):∀n,mw (zai n f)<=n*(M+1)+1
 | 0=>by simpa[zai]using zvb
 | n+1=>by
  have h1:=zrK h n;have a:=h n;have b:=zrI (zai n f) (f n);rw[Nat.succ_mul];show mw (zai n f+f n)<=_
  omega
def ziw (xs ys:List Rat) (k:Nat):Rat:=zai k λi=>el xs i*el ys i
def dot (xs ys:List Rat):Rat:=ziw xs ys xs.length
def zlZ(xs ys:List Rat)(k:Nat)(c:xs[k]? = some a)(d:ys[k]? = some b):ziw xs ys (k+1)=ziw xs ys k+a*b:=by unfold ziw;rw[zai,znd c,znd d]
def zlY(xs ys:List Rat)(k:Nat)(c:xs[k]? = some a)(d:ys[k]? = some b)(h:a=0\/b=0):ziw xs ys (k+1)=ziw xs ys k:=by rw[zlZ xs ys k c d];grind
def zrJ{ys:List Rat}(zx:∀q∈xs,mw q<=4000000)(zy:∀q∈ys,mw q<=4000000)(k:Nat):mw (ziw xs ys k)<=k*8000001+1 :=
 zrK (λi=>Zf (zdI _ _) (by have:=zDJ ω zx i;have:=zDJ ω zy i;omega)) k
def scale (r:Rat) (xs:List Rat):List Rat:=xs.map λa=>r*a
def zvn{r:Rat}{k:Nat}(h:xs[k]? = some a):(scale r xs)[k]? = some (r*a):=by simp[scale,h]
def zfH(r:Rat)(xs:List Rat):(scale r xs).length=xs.length:=by simp[scale]
namespace Vc
def subS(S:Nat)(hS:12*S+8<=LIM)(h1:1<=S)(A:OA)(n c:Nat)(xs:List Rat)(B:OA)(d c':Nat)(ys:List Rat)(H f:Nat)(w:World)(j:VecS w H (A,n,c) xs)(k:VecS w f (B,d,c') ys)
  (i:xs.length=ys.length) (a:n<=1048576) (zx:∀q∈xs,mw q<=S) (zy:∀q∈ys,mw q<=S) :
  Calls prog 100 #[(A,n,c),(B,d,c')] w (zcd w (zly xs ((-1:Int):Rat) ys) true):=by
 refine μ8 j k i a zx zy hS h1 λl p u t E F y z=>?_;go_enter func100,ntmps100;go_wp2_with fail
 refine(Rt.int (-1) δ δ _).mono ?_;rintro e w1 ⟨g,R,m,cr,D,md,cd,rfl,hr,a⟩;refine μ4 (l.o.below a) (p.o.below a) hr a λo r x b=>?_;go_wp2_with fail
 refine(addTimesS S y.o A n c xs g R m cr D md cd ((-1:Int):Rat) B d c' ys H f _ o.o x.o r.o u.o t.o E.o (Zf (zu9 _ (by constructor<;>decide)) z.o) F.o).mono ?_;rintro e G ⟨A2,n2,c2,rfl,hv,a⟩;have C:=un (hv.base b.o.size);have s:=un (b.o.trans (a.mono b.o.size));go_wp2;refine Zi (v:=.tuple #[(A2,n2,c2),true]) (by simp[results,results100,go_sem]) rfl ?_;exact⟨_,_,_,rfl,C.o,s.o⟩
def sub(A:OA)(n c:Nat)(xs:List Rat)(B:OA)(a c':Nat)(ys:List Rat)(H b:Nat)(w:World)(f:VecS w H (A,n,c) xs)(g:VecS w b (B,a,c') ys)
  (e:xs.length=ys.length) (d:n<=1048576) (zx:∀q∈xs,mw q<=100000000) (zy:∀q∈ys,mw q<=100000000) :
  Calls prog 100 #[(A,n,c),(B,a,c')] w (zcd w (zly xs ((-1:Int):Rat) ys) true) :=
 subS 100000000 (by rw[zaP];decide) δ A n c xs B a c' ys H b w f g e d zx zy
def scaleS(S:Nat)(hS:8*S+8<=LIM)(g:Bool)(R:OA)(m j:Nat)(D:OA)(o f:Nat)(r:Rat)(A:OA)(n c:Nat)(xs:List Rat)(H:Nat)(w:World)(L:VecS w H (A,n,c) xs)(hr:RatS w g (R,m,j) (D,o,f) r)
  (d:n<=1048576) (zx:∀q∈xs,mw q<=S) (zr:mw r<=S) :
  Calls prog 59 #[.agg #[g,(R,m,j),(D,o,f)],(A,n,c)] w (zq5 w (scale r xs)):=by
 have u:=L.len;refine μ4 u d zx zr λt Y ZX ZR=>?_;have aH:n<=9223372036854775807:=ω;have ag:=un hS;clear u d zx zr hS;obtain⟨W,s⟩:∃W,(w.alloc (.cells #[g,(R,m,j),(D,o,f)] 62))=W:=⟨_,rfl⟩
 refine μ5 (show θ W w.heap.size #[g,(R,m,j),(D,o,f)] 62by rw[<-s];exact zam σ) (show Below w w W by rw[<-s];exact zae w _) (show w.heap.size+1<=W.heap.size by rw[<-s];simp) (show VecS W H (A,n,c) xs by rw[<-s];exact(L).alloc _) (show RatS W g (R,m,j) (D,o,f) r by rw[<-s];exact(hr).alloc _) λaj J HZ M HR=>?_;clear L hr;go_enter func59,ntmps59;go_wp2_with (at_make;go_must (refine zdv rfl _ _ rfl n _ rfl rfl rfl Y.o W.heap.size rfl ?_;intro w1 Q O))
 clear s;have HO:=un Q;have X:=un O;clear Q O;go_wp2
 go_loopw [12] (λi wr=>∃k:Nat,i=.int .i64 k/\k<=n/\VecS wr W.heap.size (.slice (some ⟨W.heap.size,0,none⟩) n n) (mix (Go.Proofs.YtbpjabgfcbjjmaaGreat.scale r xs) k)/\Below W.heap.size W wr)
  (λi _=>n-(intOf i).toNat)
 case atStart=>exact⟨0,rfl,Zb _,by rw[zhW,zfH,<-t.o];exact HO.o,X.o⟩
 obtain⟨k,rfl,hk,F,l⟩:=hrel;by_cases P:k<n
 ·obtain⟨a,E⟩:∃a,xs[k]? = some a:=⟨xs[k]'(by rw[<-t.o];exact P),Ze _⟩
  obtain⟨p,rfl,aD,aE⟩:=M.o.has ω;obtain⟨C,x,G,z,y,I,B,T,U,k2,N⟩:=(M.o.below l).at_ E;refine μ5 (zad l aj.o) (HR.o.below l) (show RatS wr C (x,G,z) (y,I,B) a from N) (F) (Bel.mk l) λV ay af K HW=>?_;obtain⟨aQ,_,aR,_,aU,_⟩:=bc3 V.o;have av:χ wr p (k*3) (.bool C):=T;have ap:=zaa av;have aw:χ wr p (k*3+1) (x,G,z):=U;have aq:=zaa aw;have ax:χ wr p (k*3+2) (y,I,B):=k2;have ar:=zaa ax;have aa:=un (zvn (r:=r) E);have ZA:=un (ZX.o a (Zj E));have aF:(0:Int)<=(k:Int):=Zg _;have aG:(k:Int)<(n:Int):=ω;have L1:=un (show 4*(mw r+mw a)+8<=LIM by have:=ZR.o;have:=ZA.o;have:=ag.o;omega);have ac:=un (zld (k:=k) (rs:=Go.Proofs.YtbpjabgfcbjjmaaGreat.scale r xs) (by rw[zfH,<-t.o];exact P));clear F l E T U k2 N;have aI:=HZ.o;go_wp2_with fail
  go_region_held3 (λw'=>χ w' w 0 (.bool g)/\χ w' w 1 (R,m,j)/\χ w' w 2 (D,o,f)/\χ w' p (k*3) (.bool C)/\χ w' p (k*3+1) (x,G,z)/\χ w' p (k*3+2) (y,I,B))
   (((try go_split_ands);(try simp only[Xi]);(repeat' apply And.intro)<;>(repeat(first | with_reducible assumption | refine cell_set ω ?_ | refine cell_al ?_))))
   (first
    | (go_at_call 29;(refine(Rt.mul g R m j D o f r C x G z y I B a _ ay.o.drew af.o.drew L1.o).mono ?_);rintro e u1 ⟨g1,A1,m1,c1,D1,md1,cd1,rfl,u,d⟩;refine μ4 (zad d V.o) (K.o.drew.below d) (HW.o.drew.below d) (u) λau v az HM=>?_;obtain⟨aS,_,aT,_,aX,_⟩:=bc3 au.o;have aV:=zab d ap;have aW:=zab d aq;have aY:=zab d ar;have pp:=v.o.at_ ac.o;obtain⟨go,Ao,mo,co,Do,aJ,aC,o0,o1,o2,_⟩:=pp;have aO:=v.o.fro (k*3);have of1:=v.o.fro (k*3+1);have aP:=v.o.fro (k*3+2);clear u d)
    | fail)
  go_wp2;go_roundw
  case rel=>exact⟨k+1,by go_num,ω,by rw[<-zhV aa.o];exact VecS.store v.o k HM.o,(Bel.set3 az.o (Za _) _ _ _).b⟩
  case measure=>simp[intOf];omega
 obtain rfl:k=n:=ω;have K:=un F;have Z:=un l;clear F l;go_wp2;go_ret;refine⟨_,_,_,rfl,?_,J.o.trans (Z.o.mono J.o.size)⟩;have h:=K.o;rw[show k=(Go.Proofs.YtbpjabgfcbjjmaaGreat.scale r xs).length by rw[zfH,<-t.o],zlc]at h;rw[<-show k=(Go.Proofs.YtbpjabgfcbjjmaaGreat.scale r xs).length by rw[zfH,<-t.o]]at h;exact h.base J.o.size
def scale(g:Bool)(R:OA)(m b:Nat)(D:OA)(d a:Nat)(r:Rat)(A:OA)(n c:Nat)(xs:List Rat)(H:Nat)(w:World)(f:VecS w H (A,n,c) xs)(hr:RatS w g (R,m,b) (D,d,a) r)
  (e:n<=1048576) (zx:∀q∈xs,mw q<=100000000) (zr:mw r<=100000000) :
  Calls prog 59 #[.agg #[g,(R,m,b),(D,d,a)],(A,n,c)] w (zq5 w (scale r xs)) :=
 scaleS 100000000 (by rw[zaP];decide) g R m b D d a r A n c xs H w f hr e zx zr
end Vc
end Go.Proofs.YtbpjabgfcbjjmaaGreat
namespace Go.Proofs.YtbpjabgfcbjjmaaGreat
open Go.RowKit Am Tryz
variable {cs:Array Value}{g:Bool}{F:LUv}{C D L:List (List Rat)}{xs:List Nat}{qs r:List Rat}{l:List Value}{H K S T b c k n o q ql:Nat}{A:OA}{tb:Option Nat}{t:TypeId}{d s v:Value}{w w':World}
def zxj:(prog.info? 248).map (λi=>(i.zero,i.size,i.bytes))=some (some (.agg #[.int .i64 0,()]),2,32):=ξ
structure Kept (T:List TypeId) (b:Option Nat) (w w':World):Prop where
  all:∀(k:Nat) (cs:Array Value) (t:TypeId),θ w k cs t->t ∉ T->(t=3->some k≠b)->θ w' k cs t
  size:w.heap.size<=w'.heap.size
def TB:List TypeId:=[30,246,248]
def TT:List TypeId:=[30,246,248,202]
namespace Kept
variable {T:List TypeId} {b:Option Nat} {w w1 w2:World}
def of_below(h:Below w w w1):Kept T b w w1:=⟨λ_ _ _ h1 _ _=>zad h h1,h.size⟩
theorem refl(w:World):Kept T b w w:=of_below (Zl _ _)
def trans(h:Kept T b w w1)(a:Kept T b w1 w2):Kept T b w w2:=⟨λk cs t e n m=>a.all k cs t (h.all k cs t e n m) n m,Zf h.size a.size⟩
def below(h:Kept T b w w1)(a:Below w1 w1 w2):Kept T b w w2:=h.trans (of_below a)
def alloc(h:Kept T b w w1)(o:Obj):Kept T b w (w1.alloc o):=h.below (zae _ o)
def drew(h:Kept T b w w1):Kept T b w w1.drew:=h.below (zap _ 1)
def any{a:List TypeId}{c:Option Nat}(h:Kept T none w w1)(f:∀t∈T,t∈a):Kept a c w w1:=⟨λk cs t e n _=>h.all k cs t e (λd=>n (f t d)) (λ_=>σ),h.size⟩
theorem set(a:θ w k cs t)(c:t∈T)(u:Value):Kept T b w (w.setCell ⟨k,o,none⟩ u) :=
 ⟨λj d f e n _=>by rw[ZE _ _ _ _ ψ];exact e,σ⟩
def setInt(a:θ w k cs 3)(u:Value):Kept T (some k) w (w.setCell ⟨k,o,none⟩ u) :=
 ⟨λj c d e _ m=>by rw[ZE _ _ _ _ ψ];exact e,σ⟩
def tk(h:TKeep t w w1)(c:w.heap.size<=w1.heap.size)(d:t∈T):Kept T b w w1 :=
 ⟨λ_ _ f e n _=>h.blk e (λa=>n (a▸d)),c⟩
def blk(h:Kept T b w w1)(e:θ w k cs t)(n:t ∉ T)(m:t≠3):θ w1 k cs t:=h.all k cs t e n (λa=>absurd a m)
def nat(h:Kept T b w w1)(h1:206 ∉ T)(f:zas w s n):zas w1 s n:=by
 obtain⟨xs,c,e⟩:=f;refine⟨xs,c.keep λk a=>?_,e⟩;rcases c.1.2 with ⟨rfl,_⟩ | ⟨g',cap,cur,rfl,_,d,_⟩
 cases a;injection a with a;subst a;rw[d];exact h.blk d h1 δ
def ratS{q:Rat}(h:Kept T b w w1)(h1:206 ∉ T)(a:RatS w g s d q):RatS w1 g s d q:=⟨⟨h.nat h1 a.num.abs,a.num.neg⟩,h.nat h1 a.den⟩
def vec(h:Kept T b w w1)(h1:206 ∉ T)(d:62 ∉ T)(c:VecS w H v qs):VecS w1 H v qs:=by
 refine c.keepAll (λk hk=>?_) λ_ _ _ _ r=>h.ratS h1 r
 obtain⟨l,_,_,e⟩:=c.row;rcases e.2 with ⟨rfl,_⟩ | ⟨g',cap,cur,rfl,_,a,_⟩
 cases hk;injection hk with hk;subst hk;rw[a];exact h.blk a d δ
def ints(h:Kept T b w w1)(h1:3 ∉ T)(c:IntsS w H v xs)(e:∀g,v.ownBlock=some g->some g≠b):IntsS w1 H v xs:=by
 refine c.keep λk hk=>?_;rcases c.own.2 with ⟨rfl,_⟩ | ⟨g',cap,cur,rfl,_,a,_⟩
 cases hk;have d:g'=k:=by injection hk
 subst d;rw[a];exact h.all _ _ _ a h1 λ_=>e _ hk
end Kept
def ecells (l:List (Nat × Value)):List Value:=l.flatMap λr=>[.int .i64 (r.1:Int),r.2]
theorem zp1(r:Nat × Value)(l:List (Nat × Value)):ecells (r::l)=.int .i64 (r.1:Int)::r.2::ecells l:=by simp[ecells]
def znc(a b:List (Nat × Value)):ecells (a++b)=ecells a++ecells b:=by simp[ecells]
def zr7(l:List (Nat × Value)):∀(k:Nat) (r:Nat × Value),l[k]? = some r->(ecells l)[k*2]? = some (.int .i64 (r.1:Int))/\(ecells l)[k*2+1]? = some r.2:=by
 induction l with
 | nil=>grind
 | cons a l ih =>
  grind[zp1]
structure EtasL (w:World) (H:Nat) (v:Value) (l:List (Nat × Value)) (es:List (Nat × List Rat)):Prop where
  len:l.length=es.length
  each:∀(k:Nat) (s:Nat × Value) (e:Nat × List Rat),l[k]? = some s->es[k]? = some e->s.1=e.1/\VecS w H s.2 e.2
  own:w.ownsRow H 248 2 v es.length (ecells l)
namespace EtasL
variable {w w':World} {H:Nat} {v:Value} {l:List (Nat × Value)} {es:List (Nat × List Rat)}
def keepAll(h:EtasL w H v l es)(hk:∀k,v.ownBlock=some k->w'.heap[k]? = w.heap[k]?)(hr:∀s r,VecS w H s r->VecS w' H s r):EtasL w' H v l es :=
 ⟨h.len,λk s e a b=>⟨(h.each k s e a b).1,hr _ _ (h.each k s e a b).2⟩,zc9 h.own hk⟩
def below(h:EtasL w H v l es)(a:Below w w w'):EtasL w' H v l es:=h.keepAll (λk hk=>a.block k (h.own.lt k hk).2) λ_ _ r=>r.below a
def alloc(h:EtasL w H v l es)(o:Obj):EtasL (w.alloc o) H v l es:=h.below (zae w o)
def drew(h:EtasL w H v l es):EtasL w.drew H v l es:=h.below (zap w 1)
theorem nil(w:World)(H:Nat):EtasL w H () [] []:=⟨rfl,λk s r h=>by simp at h,Xs _ _ _ _⟩
def tk{t:TypeId}(h:EtasL w H v l es)(hk:TKeep t w w')(h1:206≠t)(c:62≠t)(d:248≠t):EtasL w' H v l es :=
 h.keepAll (λk a=>hk k (h.own.lt k a).2 λcs e=>za6 h.own e d a) λ_ _ r=>r.tk hk h1 c
def form(h:EtasL w H (A,n,c) l es):n=es.length/\n<=c/\c<=maxLen/\((A=none/\c=0/\es=[])\/∃g,A=some ⟨g,0,none⟩/\H<=g/\g<w.heap.size):=by
 rcases h.own.2 with ⟨d,a⟩ | ⟨g,cap,cur,d,hg,e,a,hm,_⟩
 injection d with e1 e2 e3;subst e1 e2 e3;exact⟨a.symm,Za _,Zb _,.inl ⟨rfl,rfl,Xo.1 a⟩⟩;grind
def nlen(h:EtasL w H (A,n,c) l es):n=es.length:=h.form.1
def has(h:EtasL w H (A,n,c) l es)(f:0<n):∃g,A=some ⟨g,0,none⟩/\H<=g/\g<w.heap.size:=by obtain⟨h1,d,e,a | a⟩:=h.form;omega;exact a
def slice(h:EtasL w H v l es):∃A c,v=.slice A es.length c:=by
 rcases h.own.2 with ⟨a,d⟩ | ⟨g,cap,cur,a,_⟩
 exact⟨_,_,by rw[a,d]⟩;grind
def at_(h:EtasL w H (b,n,c) l es){e:Nat × List Rat}(hk:es[k]? = some e):∃(A:OA) (c:Nat),χ w b (k*2) (.int .i64 (e.1:Int))/\χ w b (k*2+1) (.slice A e.2.length c)/\VecS w H (.slice A e.2.length c) e.2:=by
 have m:=h.nlen;subst m;have j:=(ZF.1 hk).1;obtain⟨s,f⟩:∃s,l[k]? = some s:=⟨l[k]'(by rw[h.len];exact j),Ze _⟩
 obtain⟨h1,a⟩:=h.each k s e f hk;obtain⟨A,n,c,d⟩:=a.slice;rw[d]at a;obtain rfl:=a.len;obtain⟨g,i⟩:=zr7 l k s f;refine⟨A,c,?_,?_,a⟩;rw[h.own.cellAt _ ω,g,h1];rw[h.own.cellAt _ ω,i,d]
end EtasL
def zC5{c:Value}(e:θ w b #[c,d] t):∀j u,[c,d][j]? = some u->w.cell? ((⟨b,0,none⟩:Addr).add j)=some u:=by
 intro j u a
 match j,a with
 | 0,a=>exact(zac e 0).trans a
 | 1,a=>exact(zac e 1).trans a
 | j+2,a=>simp at a
def zjg{ops:Array Oper}{o:Oper}{a:Act}{K:Act->World->Prop}{Q:Exit->Act->World->Prop}{E:Prop}(hg:o.guard=none)(s x:Operand)
  (A:o.op=.call { callee:=.builtin .append,args:=#[s,x],argTypes:=#[244,244] })   {l:List (Nat × Value)} {es:List (Nat × List Rat)} (G:a.eval s=v) (c:EtasL w H v l es)  (I:a.eval x=.slice (some ⟨b,0,none⟩) 1 1)
  {at_:Nat} {g:Value}  (y:θ w b #[(at_:Int),g] 248) (hr:VecS w H g r)  (z:es.length=n) (R:n+1<=1000000) (i:H<=w.heap.size)
  (t:∀f c' O w',EtasL w' H (.slice f (n+1) c') O (es++[(at_,r)])->TKeep 248 w w'->Below H w w'->K (a.put o.dst (.slice f (n+1) c')) w') :
  if Region.wanted o (yielded ops a.tmps)=true then Oper.wp prog o a w K Q else E:=by
 have hw:Region.wanted o (yielded ops a.tmps)=true:=by simp[Region.wanted,hg]
 rw[if_pos hw];subst z;obtain⟨N,hi,J,L,M⟩:=info_parts zxj
 refine wp_append_own w s x 244 A H 248 N _ 2 32 underlying244 hi J L M rfl δ v es.length (ecells l) G c.own ⟨b,0,none⟩ 1 1 [.int .i64 (at_:Int),g] I rfl (zC5 y)
  (by intro u p;simp at p;rcases p with e | e;(rw[e];rfl);(rw[e];exact hr.one)) (by unfold maxLen;omega) ω i ?_
 intro P w' B m _;have hk:=TKeep.grown c.own m;have j:EtasL w' H P (l++[(at_,g)]) (es++[(at_,r)]):=by refine⟨by simp[c.len],?_,by rw[Zz,znc];exact B⟩;intro k r' p' h1 d;rcases XM k l.length with h | h | h;rw[Z4 h]at h1;rw[Z4 (by rw[<-c.len];exact h)]at d;exact⟨(c.each k r' p' h1 d).1,(c.each k r' p' h1 d).2.tk hk δ δ⟩;subst h;rw[ZN (Za _)]at h1;rw[ZN (by rw[c.len];exact Za _)]at d;simp at h1;rw[c.len]at d;simp at d;subst h1 d;exact⟨rfl,hr.tk hk δ δ⟩;grind
 obtain⟨f,c',e⟩:=j.slice;rw[Zz]at e;subst e;exact t f c' _ w' j hk ((Zl _ _).grown m i (λk hk=>(c.own.lt k hk).1))
def zd5{ops:Array Oper}{rest:List Oper}{o:Oper}{a:Act}{Q:Exit->Act->World->Prop}(d:o.guard=none)(s x:Operand)
  (y:o.op=.call { callee:=.builtin .append,args:=#[s,x],argTypes:=#[244,244] })   {l:List (Nat × Value)} {es:List (Nat × List Rat)} (z:a.eval s=v) (A:EtasL w H v l es)  (B:a.eval x=.slice (some ⟨b,0,none⟩) 1 1)
  {at_:Nat} {f:Value}  (p:θ w b #[(at_:Int),f] 248) (hr:VecS w H f r)  (u:es.length=n) (t:n+1<=1000000) (j:H<=w.heap.size)
  (k:∀c c' e w',EtasL w' H (.slice c (n+1) c') e (es++[(at_,r)])->TKeep 248 w w'->Below H w w'->wpList prog ops Q rest (a.put o.dst (.slice c (n+1) c')) w') :
  wpList prog ops Q (o::rest) a w:=by
 refine wpList_plain d λK m=>?_;have h:=zjg (ops:=ops) (K:=K) (Q:=Q) (E:=True) d s x y z A B p hr u t j λc c' e w' h1 g i=>m _ _ (k c c' e w' h1 g i)
 have hw:Region.wanted o (yielded ops a.tmps)=true:=by simp[Region.wanted,d]
 rw[if_pos hw]at h;exact h
structure Hi (H:Nat) (w w':World):Prop where
  blk:∀k,H<=k->k<w.heap.size->w'.heap[k]? = w.heap[k]?
  num:∀(k:Nat) (cs:Array Value),θ w k cs 206->θ w' k cs 206
namespace Hi
variable {H:Nat} {w w':World}
def nat(h:Hi H w w')(f:zas w s n):zas w' s n:=by
 obtain⟨xs,c,e⟩:=f;refine⟨xs,c.keep λk a=>?_,e⟩;rcases c.1.2 with ⟨rfl,_⟩ | ⟨g',cap,cur,rfl,_,d,_⟩
 cases a;injection a with a;subst a;rw[d];exact h.num _ _ d
def ratS{q:Rat}(h:Hi H w w')(a:RatS w g s d q):RatS w' g s d q:=⟨⟨h.nat a.num.abs,a.num.neg⟩,h.nat a.den⟩
def vec(h:Hi H w w')(a:VecS w H v qs):VecS w' H v qs:=a.keepAll (λk hk=>h.blk k (a.lt hk).1 (a.lt hk).2) λ_ _ _ _ r=>h.ratS r
def vecs(h:Hi H w w')(a:VecsL w H v l L):VecsL w' H v l L:=a.keepAll (λk hk=>h.blk k (a.own.lt k hk).1 (a.own.lt k hk).2) λ_ _ _ r=>h.vec r
def ints(h:Hi H w w')(a:IntsS w H v xs):IntsS w' H v xs:=a.keep λk hk=>h.blk k (a.own.lt k hk).1 (a.own.lt k hk).2
def lu(h:Hi H w w')(k:LuS w H q n F):LuS w' H q n F:=by obtain⟨⟨lA,lc,ll,uA,uc,ul,pA,pc,h1,c,d,e,f,g,i⟩,a,j⟩:=k;exact⟨⟨lA,lc,ll,uA,uc,ul,pA,pc,by rw[h.blk q a (ZU.1 h1).1];exact h1,h.vecs c,d,h.vecs e,f,g,h.ints i⟩,a,j⟩
theorem set(hk:k<H)(a:θ w k cs t)(c:206≠t)(u:Value):Hi H w (w.setCell ⟨k,o,none⟩ u) :=
 ⟨λj h1 _=>ZE _ _ _ _ (show j≠k by omega),λj d e=>by rw[ZE _ _ _ _ (show j≠k by grind)];exact e⟩
end Hi
def LuS.below(h:LuS w H q n F)(a:Below w w w'):LuS w' H q n F :=
 Hi.lu ⟨λk _ hk=>a.block k hk,λ_ _ e=>zad a e⟩ h
def LuS.tk{w w':World}{H q n:Nat}{F:LUv}{t:TypeId}(h:LuS w H q n F)(hk:TKeep t w w')(h1:206≠t)(a:62≠t)(c:30≠t)(f:3≠t)(g:265≠t):LuS w' H q n F:=by obtain⟨⟨lA,lc,ll,uA,uc,ul,pA,pc,a1,a2,a3,a4,a5,a6,a7⟩,d,e⟩:=h;exact⟨⟨lA,lc,ll,uA,uc,ul,pA,pc,hk.blk a1 g,a2.tk hk h1 a c,a3,a4.tk hk h1 a c,a5,a6,a7.tk hk f⟩,d,e⟩
structure BasP (w:World) (H q n S:Nat) (cA:OA) (cc:Nat) (lc:List Value) (C:List (List Rat)) (K ql:Nat) (F:LUv) (D:List (List Rat)) (eA:OA) (ec:Nat) (le:List (Nat × Value)) (es:List (Nat × List Rat)):Prop where
  blk:θ w q #[(cA,n,cc),.pointer (some ⟨ql,0,none⟩),(eA,es.length,ec)] 246
  cols:VecsL w H (cA,n,cc) lc C
  low:∀g,(Value.slice cA n cc).ownBlock=some g->g<K
  lu:LuS w K ql n F
  fac:zoN n (zcZ n D)=some F
  etas:EtasL w H (eA,es.length,ec) le es
  right:EtasZ mw S n D es C
  few:es.length<=8
  own:H<=q
  ownK:H<=K
def zjE (w:World) (H q n S:Nat) (C:List (List Rat)):Prop:=∃cA cc lc K ql F D eA ec le es,BasP w H q n S cA cc lc C K ql F D eA ec le es
namespace BasP
variable {w w':World} {H q n S:Nat} {cA:OA} {cc:Nat} {lc:List Value} {C:List (List Rat)} {K ql:Nat} {F:LUv} {D:List (List Rat)} {eA:OA} {ec:Nat} {le:List (Nat × Value)} {es:List (Nat × List Rat)}
def below(h:BasP w H q n S cA cc lc C K ql F D eA ec le es)(a:Below w w w'):BasP w' H q n S cA cc lc C K ql F D eA ec le es :=
 ⟨by rw[a.block q (ZU.1 h.blk).1];exact h.blk,h.cols.below a,h.low,h.lu.below a,h.fac,h.etas.below a,h.right,h.few,h.own,h.ownK⟩
def alloc(h:BasP w H q n S cA cc lc C K ql F D eA ec le es)(o:Obj):BasP (w.alloc o) H q n S cA cc lc C K ql F D eA ec le es:=h.below (zae w o)
def drew(h:BasP w H q n S cA cc lc C K ql F D eA ec le es):BasP w.drew H q n S cA cc lc C K ql F D eA ec le es:=h.below (zap w 1)
def tk{t:TypeId}(h:BasP w H q n S cA cc lc C K ql F D eA ec le es)(hk:TKeep t w w')(h1:206≠t)(a:62≠t)(c:30≠t)(d:3≠t)(e:265≠t)(f:248≠t)(g:246≠t):BasP w' H q n S cA cc lc C K ql F D eA ec le es :=
 ⟨hk.blk h.blk g,h.cols.tk hk h1 a c,h.low,h.lu.tk hk h1 a c d e,h.fac,h.etas.tk hk h1 a f,h.right,h.few,h.own,h.ownK⟩
def qlt(h:BasP w H q n S cA cc lc C K ql F D eA ec le es):q<w.heap.size:=(ZU.1 h.blk).1
def hle(h:BasP w H q n S cA cc lc C K ql F D eA ec le es):H<=w.heap.size:=Zf h.own (Xm h.qlt)
end BasP
namespace zjE
variable {w w':World} {H q n S:Nat} {C:List (List Rat)}
def below(h:zjE w H q n S C)(a:Below w w w'):zjE w' H q n S C:=by obtain⟨cA,cc,lc,K,ql,F,D,eA,ec,le,es,h⟩:=h;exact⟨cA,cc,lc,K,ql,F,D,eA,ec,le,es,h.below a⟩
def alloc(h:zjE w H q n S C)(o:Obj):zjE (w.alloc o) H q n S C:=h.below (zae w o)
def drew(h:zjE w H q n S C):zjE w.drew H q n S C:=h.below (zap w 1)
def tk{t:TypeId}(h:zjE w H q n S C)(hk:TKeep t w w')(h1:206≠t)(a:62≠t)(c:30≠t)(d:3≠t)(e:265≠t)(f:248≠t)(g:246≠t):zjE w' H q n S C:=by obtain⟨cA,cc,lc,K,ql,F,D,eA,ec,le,es,h⟩:=h;exact⟨cA,cc,lc,K,ql,F,D,eA,ec,le,es,h.tk hk h1 a c d e f g⟩
def good(h:zjE w H q n S C):CSq n C/\CReg n C/\zhg mw n S C:=by obtain⟨cA,cc,lc,K,ql,F,D,eA,ec,le,es,h⟩:=h;exact h.right.good
def hle(h:zjE w H q n S C):H<=w.heap.size:=by obtain⟨cA,cc,lc,K,ql,F,D,eA,ec,le,es,h⟩:=h;exact h.hle
end zjE
def zey (w:World) (ql:Nat) (tb:Option Nat):Prop:=∀(cs:Array Value),θ w ql cs 265->∀p,cs[2]? = some p->∀g,p.ownBlock=some g->some g≠tb
def zhf (w:World) (H q n S:Nat) (C:List (List Rat)) (tb:Option Nat):Prop:=∃cA cc lc K ql F D eA ec le es,BasP w H q n S cA cc lc C K ql F D eA ec le es/\zey w ql tb
def LuS.perm{w:World}{K ql n:Nat}{F:LUv}(h:LuS w K ql n F){cs:Array Value}(hc:θ w ql cs 265){p:Value}(a:cs[2]? = some p):IntsS w K p F.perm:=by
 obtain⟨⟨lA,lc,ll,uA,uc,ul,pA,pc,a1,a2,a3,a4,a5,a6,a7⟩,c,d⟩:=h;rw[a1]at hc;injection hc with hc;injection hc with hc;subst hc;have:p=.slice pA n pc:=by simpa using a.symm
 rw[this];exact a7
def LuS.qlt(h:LuS w K ql n F):ql<w.heap.size:=by obtain⟨⟨lA,lc,ll,uA,uc,ul,pA,pc,a1,_⟩,_,_⟩:=h;exact(ZU.1 a1).1
def LuS.setI(h:LuS w K ql n F)(g:zey w ql (some b))(f:θ w b cs 3)(u:Value):LuS (w.setCell ⟨b,o,none⟩ u) K ql n F:=by have a:TKeep 3 w (w.setCell ⟨b,o,none⟩ u):=TKeep.set f u;obtain⟨⟨lA,lc,ll,uA,uc,ul,pA,pc,a1,a2,a3,a4,a5,a6,a7⟩,c,d⟩:=h;refine⟨⟨lA,lc,ll,uA,uc,ul,pA,pc,a.blk a1 δ,a2.tk a δ δ δ,a3,a4.tk a δ δ δ,a5,a6,a7.keep λk hk=>ZE _ _ _ _ ?_⟩,c,d⟩;intro e;exact g _ a1 (pA,n,pc) rfl k hk (by rw[e])
def zey.same(h:zey w ql tb)(e:w'.heap[ql]? = w.heap[ql]?):zey w' ql tb:=λcs hc p a g hg=>h cs (e▸hc) p a g hg
namespace zhf
variable {w w':World} {H q n S:Nat} {C:List (List Rat)} {tb:Option Nat}
def toS(h:zhf w H q n S C tb):zjE w H q n S C:=by obtain⟨cA,cc,lc,K,ql,F,D,eA,ec,le,es,h,_⟩:=h;exact⟨cA,cc,lc,K,ql,F,D,eA,ec,le,es,h⟩
def below(h:zhf w H q n S C tb)(a:Below w w w'):zhf w' H q n S C tb:=by obtain⟨cA,cc,lc,K,ql,F,D,eA,ec,le,es,h,c⟩:=h;exact⟨cA,cc,lc,K,ql,F,D,eA,ec,le,es,h.below a,c.same (a.block ql h.lu.qlt)⟩
def alloc(h:zhf w H q n S C tb)(o:Obj):zhf (w.alloc o) H q n S C tb:=h.below (zae w o)
def drew(h:zhf w H q n S C tb):zhf w.drew H q n S C tb:=h.below (zap w 1)
def tk{t:TypeId}(h:zhf w H q n S C tb)(hk:TKeep t w w')(h1:206≠t)(c:62≠t)(d:30≠t)(e:3≠t)(a:265≠t)(f:248≠t)(g:246≠t):zhf w' H q n S C tb:=by obtain⟨cA,cc,lc,K,ql,F,D,eA,ec,le,es,h,i⟩:=h;refine⟨cA,cc,lc,K,ql,F,D,eA,ec,le,es,h.tk hk h1 c d e a f g,i.same ?_⟩;obtain⟨⟨lA,lc,ll,uA,uc,ul,pA,pc,a1,_⟩,_,_⟩:=h.lu;rw[hk.blk a1 a,a1]
def setI{b o:Nat}{cs:Array Value}(h:zhf w H q n S C (some b))(c:θ w b cs 3)(u:Value):zhf (w.setCell ⟨b,o,none⟩ u) H q n S C (some b):=by have a:TKeep 3 w (w.setCell ⟨b,o,none⟩ u):=TKeep.set c u;obtain⟨cA,cc,lc,K,ql,F,D,eA,ec,le,es,h,d⟩:=h;refine⟨cA,cc,lc,K,ql,F,D,eA,ec,le,es,⟨a.blk h.blk δ,h.cols.tk a δ δ δ,h.low,h.lu.setI d c u,h.fac,h.etas.tk a δ δ δ,h.right,h.few,h.own,h.ownK⟩,d.same ?_⟩;obtain⟨⟨lA,lc,ll,uA,uc,ul,pA,pc,a1,_⟩,_,_⟩:=h.lu;rw[a.blk a1 δ,a1]
def good(h:zhf w H q n S C tb):CSq n C/\CReg n C/\zhg mw n S C:=h.toS.good
def hle(h:zhf w H q n S C tb):H<=w.heap.size:=h.toS.hle
end zhf
def zjE.later(h:zjE w H q n S C)(c:∀g,tb=some g->w.heap.size<=g):zhf w H q n S C tb:=by obtain⟨cA,cc,lc,K,ql,F,D,eA,ec,le,es,h⟩:=h;refine⟨cA,cc,lc,K,ql,F,D,eA,ec,le,es,h,λcs hc p a g hg e=>?_⟩;have h1:=((h.lu.perm hc a).own.lt g hg).2;have d:=c g e.symm;omega
def BasP.ahead{cA:OA}{cc:Nat}{lc:List Value}{eA:OA}{ec:Nat}{le:List (Nat × Value)}{es:List (Nat × List Rat)}
  (h:BasP w H q n S cA cc lc C K ql F D eA ec le es)  (c:∀g,tb=some g->g<K):zey w ql tb:=λcs hc p a g hg e=>by
 have h1:=((h.lu.perm hc a).own.lt g hg).1;have d:=c g e.symm;omega
def zpS (n S T:Nat):Nat:=64*(tB n S T+sB n S T+sB n S S+uB n S+n*(sB n S S+tB n S T+2)+xB n (uB n S) (cB n (S+T)) (tB n S T)+S+T+2)+64
def zyh(h:zpS n S T<=LIM):64*(sB n S T+sB n S S+S+T+1)+8<=LIM:=by unfold zpS at h;omega
def zC3(h:zpS n S T<=LIM):24*uB n S+8<=LIM:=by unfold zpS at h;omega
def zHx(h:zpS n S T<=LIM):4*(4*sB n S T+uB n S+1)+8<=LIM:=by unfold zpS at h;omega
def zC2(h:zpS n S T<=LIM):4*(tB n S T+sB n S S+tB n S T+n*(sB n S S+tB n S T+2)+sB n S S)+8<=LIM:=by unfold zpS at h;omega
def zC4(h:zpS n S T<=LIM):4*(4*xB n (uB n S) (cB n (S+T)) (tB n S T)+uB n S+1)+8<=LIM:=by unfold zpS at h;omega
def zoC(c:CSq n D)(hr:CReg n D)(e:zhg mw n S D)(hf:zoN n (zcZ n D)=some F) :
  LUinv n (en (zcZ n D)) n F/\LUsz mw n (uB n S) F:=by
 obtain⟨G,a,d⟩:=ziH c hr;rw[hf]at a;injection a with a;subst a;refine⟨d,zk9 zo5 (zfJ n D) (zfK c) (λi hi j hj=>?_) hf⟩;rw[zeI hi (by rw[c.len];exact hj)];exact e j hj i hi
def yv8(a:CSq n D)(c:zhg mw n S D):∀i,i<n->∀j,j<n->mw (en (zcZ n D) i j)<=S:=λi hi j hj=>by rw[zeI hi (by rw[a.len];exact hj)];exact c j hj i hi
def zxE(hf:zoN n (zcZ n D)=some F)(v:List Rat):zes n D v=zaR n F v:=by unfold zes;rw[hf]
def zxF(hf:zoN n (zcZ n D)=some F)(v:List Rat):zlA n D v=zcq n F v:=by unfold zlA;rw[hf]
theorem zrz{v:List Rat}(h:∀x∈v,mw x<=T){i:Nat}(hi:i<v.length):mw (el v i)<=T:=h _ (Zj (zaH hi))
def zrD{v:List Rat}(a:v.length=n)(h:∀i,i<n->mw (el v i)<=T):∀x∈v,mw x<=T:=by grind[List.mem_iff_getElem?,znd,List.getElem?_eq_some_iff]
attribute [local go_sem ↓] Go.wp_at_zero Go.wp_at_succ
def znQ(P:Program)(w:World)(f r s c:TypeId)(sz:Nat)(d a:OA)(e g zKx p:Nat)(o:P.underlying f=some (.slice c))(m:(P.info? c).map (·.size)=some sz)(k:Nat.min zKx e=0) :
  (Builtin.copy_ #[f,r] s #[(d,e,g),(a,zKx,p)]).run P w=.ok (goInt 0) w:=by
 cases hq:P.info? c with
 | none=>simp[hq]at m
 | some i =>
  have j:∀(x:Addr),(loadCells x 0).run P w=.ok #[] w:=λx=>by rfl
  cases d<;>cases a<;>simp[Builtin.copy_,run_underlying o,Builtin.lenOf,Builtin.firstCells,sizeOf,typeInfo,hq,k,storeCells,j]
def VecS.cells(i:VecS w H (A,n,c) qs):∃l:List RV,l.length=qs.length/\(∀(k:Nat) (r:RV) (q:Rat),l[k]? = some r->qs[k]? = some q->RatS w r.1 r.2.1 r.2.2 q)/\w.ownsRow H 62 3 (A,n,c) qs.length (rcells l) /\
  (∀u∈rcells l,u.oneCell'=true)/\∀g,A=some ⟨g,0,none⟩->∀j u,(rcells l)[j]? = some u->w.cell? ((⟨g,0,none⟩:Addr).add j)=some u:=by
 obtain rfl:=i.len;obtain⟨l,a,d,e⟩:=i.row;refine⟨l,a,d,e,ziJ l λr hr=>?_,λg hg j u f=>?_⟩;obtain⟨k,hk,s⟩:=YM hr;have p:l[k]? = some r:=by rw[Ze hk,s]
 obtain⟨q,t⟩:∃q,qs[k]? = some q:=⟨qs[k]' ω,Ze _⟩
 obtain⟨A,m,c,D,y,x,h1,o⟩:=(d k r q p t).shape;rw[h1,o];exact⟨rfl,rfl⟩;subst hg;have hj:=(ZF.1 f).1;rw[zcC,a]at hj;rw[show(⟨g,0,none⟩:Addr).add j=⟨g,j,none⟩by unfold Addr.add;split<;>simp_all,e.cellAt j hj];exact f
def zwE(f:VecsL w H v l L)(X:zbG l){I:List Rat}(z:l[k]? = some (A,n,c))(s:L[k]? = some I){Q:Nat}{u:OA}{c':Nat}(hr:VecS w Q (u,n,c') r)(J:TypeId) :
  ∃w',(Builtin.copy_ #[30,30] J #[(A,n,c),(u,n,c')]).run prog w=.ok (goInt n) w'/\VecsL w' H v l (L.set k r)/\TKeep 62 w w'/\∀B,B<=H->Below B w w':=by
 obtain⟨i0,hi,_,ab,_⟩:=info_parts ze0;have P:(prog.info? 62).map (·.size)=some 3:=by rw[hi];simp[ab]
 have h0:=f.each k _ _ z s;have n0:=h0.len;have o:=hr.len;by_cases O:n=0;have t:=znQ prog w 30 30 J 62 3 A u n c n c' underlying30 P (by rw[O];rfl);refine⟨w,by rw[t,O];rfl,?_,λ_ _ _=>rfl,λB _=>Zl _ _⟩;have e:r=I:=by rw[Xo.1 (show r.length=0 by omega),Xo.1 (show I.length=0 by omega)]
 have:L.set k r=L:=by rw[e];apply Xf;grind
 rw[this];exact f;obtain⟨g,rfl,ag,ai⟩:=h0.has ω;obtain⟨g',rfl,ah,aj⟩:=hr.has ω;obtain⟨lr,p,U,M,V,W⟩:=hr.cells;obtain⟨l0,d1,_,R⟩:=h0.row;rcases R.2 with ⟨G,_⟩ | ⟨gg,cap,cur,G,Y,m,ak,hm,Z,al⟩
 cases G;injection G with e6 e7 e8;injection e6 with e6;injection e6 with e6;subst e6;have t:=zqx prog w 30 30 J 62 3 g 0 n c ⟨g',0,none⟩ n c' cur 62 (rcells lr) underlying30 P m (by rw[zcC,p,<-o];simp) (W g' rfl) (by rw[zcC,p,Z];omega) V;rw[show Nat.min n n=n from Vh n]at t;subst e8;refine⟨_,t,?_,?_,?_⟩
 all_goals
  generalize hcs:(cur.toList.take 0++rcells lr++cur.toList.drop (0+(rcells lr).length)).toArray=cs'
 have y:=λj hj=>setRow_other w g j cs' hj
 have at_:θ (w.setRow g cs') g cs' 62:=setRow_heap w g cur _ 62 _ m;have kp:zff w (w.setRow g cs'):=λj _ E=>y j (by rintro rfl;exact E _ m)
 have N:(rcells lr).length=n*3:=by rw[zcC,p,<-o]
 refine⟨by rw[ZW];exact f.len,λj s' r' h1 d=>?_,by rw[ZW];exact zc9 f.own λj hj=>y j λe=>za6 f.own (e▸m) δ (e▸hj)⟩;by_cases e:k=j;subst e;rw[YB (ZF.1 s).1]at d;injection d with d;subst d;rw[z]at h1;injection h1 with h1;subst h1;refine⟨lr,p,λi x q a b=>(U i x q a b).keepT kp,by rw[N,o],.inr ⟨g,c,cs',by rw[o],Y,at_,ω,hm,?_,?_⟩⟩;rw[<-hcs];simp;omega;rw[<-hcs,<-o,<-N];simp;rw[YC e]at d;exact(f.each j s' r' h1 d).keepAll (λx hx=>y x λM=>e (X k j _ _ g z h1 rfl (by rw[hx,M]))) λ_ _ _ _ r=>r.keepT kp
 exact λj _ E=>setRow_other w g j cs' (by rintro rfl;exact E _ m)
 grind[below_setRow,Below.refl]
def zsE (L:List (List Rat)) (c k:Nat):List (List Rat):=L.take k++noughts (L.length-k) c
def zu2(L:List (List Rat))(c:Nat):zsE L c 0=noughts L.length c:=by simp[zsE]
def zxm(L:List (List Rat))(c:Nat):zsE L c L.length=L:=by simp[zsE,noughts]
def zrE(h:k<L.length):(zsE L c k)[k]? = some (List.replicate c 0):=by unfold zsE noughts;rw[ZN (by rw[ZI];omega),ZI,XD (Xm h),Xz,Z9,if_pos ω]
def zu1(h:L[k]? = some r):(zsE L c k).set k r=zsE L c (k+1):=by have hk:=(ZF.1 h).1;unfold zsE noughts;rw[Yq,if_neg (by rw[ZI];omega),Xe,h,ZI,XD (Xm hk),Xz,show L.length-k=(L.length-(k+1))+1 by omega,Yu];simp
namespace Mt
def of(n c:Nat)(hn:n<=64)(hc:c<=64)(R:OA)(M:Nat)(l0:List Value)(L:List (List Rat))(G:Nat)(w:World)(h:VecsL w G (R,n,M) l0 L)(hL:∀r∈L,r.length=c) :
  Calls prog 110 #[(c:Int),(R,n,M)] w (zsR w n L c):=by
 refine μ4 hn hc hL h.nlen λHN HC am g=>?_;have aJ:n<=9223372036854775807:=ω;obtain⟨W,j⟩:∃W,(w.alloc (.cells #[(),.int .i64 0] 112))=W:=⟨_,rfl⟩
 refine μ4 (show θ W w.heap.size #[(),.int .i64 0] 112by rw[<-j];exact zam σ) (show Below w w W by rw[<-j];exact zae w _) (show w.heap.size+1<=W.heap.size by rw[<-j];simp) (show VecsL W G (R,n,M) l0 L by rw[<-j];exact(h).alloc _) λJ m HZ Y=>?_;go_enter func110,ntmps110;go_wp2_with fail
 refine(new n c HN.o HC.o _).mono ?_
 rintro e w1 ⟨A,cA,l1,rfl,a,ha,hb⟩;refine μ3 (show θ (w1.alloc (.cells #[(A,n,cA),(c:Int)] 112)) w.heap.size #[(),.int .i64 0] 112from zak (zad hb J.o)) (show VecsL (w1.alloc (.cells #[(A,n,cA),(c:Int)] 112)) W.heap.size (A,n,cA) l1 (noughts n c)from(a).alloc _) (show θ (w1.alloc (.cells #[(A,n,cA),(c:Int)] 112)) w1.heap.size #[(A,n,cA),(c:Int)] 112from zam σ) λaC HM aB=>?_;obtain⟨aO,aR,aT,aW,aP,aS,aU,aX⟩:=bf2 aC.o;obtain⟨aV,aQ,aY,aN⟩:=bc2 aB.o;have X:=un ha;have ai:=un hb;have aA:=hb.size;go_wp2
 go_loopw [22] (λi wr=>∃k:Nat,i=.int .i64 k/\k<=n/\θ wr w1.heap.size #[(A,n,cA),(c:Int)] 112/\VecsL wr W.heap.size (A,n,cA) l1 (zsE L c k)/\Below W.heap.size W wr)
  (λi _=>n-(intOf i).toNat)
 case atStart=>exact⟨0,rfl,Zb _,zal _ _ _,by rw[zu2,<-g.o];exact HM.o,ai.o.alloc aA _⟩
 obtain⟨k,rfl,hk,t,a,d⟩:=hrel;have aL:=HZ.o;by_cases P:k<n
 ·obtain⟨r,hr⟩:∃r,L[k]? = some r:=⟨L[k]'(by rw[<-g.o];exact P),Ze _⟩
  have ae:=am.o r (Zj hr);obtain⟨bR,rfl,_,_⟩:=Y.o.has ω;obtain⟨V,Z,_,u,N⟩:=(Y.o.below d).at_ hr;rw[ae]at u N;obtain⟨bA,rfl,_,_⟩:=a.has ω;obtain⟨Ak,ck,O,x,_⟩:=a.at_ (zrE (c:=c) (by rw[<-g.o];exact P));rw[ZQ]at O x;refine μ5 (zad d J.o) (N) (a) (Bel.mk d) (m.o.trans ((d).mono m.o.size)) λf ar I HW ag=>?_;obtain⟨B,y,Q,_,E,z,U,_⟩:=bf2 f.o;have aF:=u;have aG:=x;have s:=un t;obtain⟨aD,_,_,_,aE,_⟩:=bf2 s.o;have aF:=u;have aG:=x;refine μ3 O hr (zrE (c:=c) (show k<L.length by rw[<-g.o];exact P)) λal ak ao=>?_;have aH:(0:Int)<=(k:Int):=Zg _;have aI:(k:Int)<(n:Int):=ω;obtain⟨w3,aK,af,ac,ab⟩:=zwE I.o X.o al.o ao.o ar.o 3;refine μ3 af (ac.blk s.o δ) (HW.o.b.trans (ab _ (Za _))) λaq ax av=>?_;go_wp2;go_roundw
  case rel=>exact⟨k+1,by go_num,ω,ax.o,by rw[<-zu1 ak.o];exact aq.o,av.o⟩
  case measure=>simp[intOf];omega
 obtain rfl:k=n:=ω;refine μ3 (zad d J.o) (a) (m.o.trans ((d).mono m.o.size)) λf I ag=>?_;obtain⟨B,y,Q,_,E,z,U,_⟩:=bf2 f.o;have s:=un t;obtain⟨aD,_,aE,_⟩:=bc2 s.o;go_wp2;refine Zi (v:=.tuple #[.agg #[(A,k,cA),(c:Int)],true]) (by simp[results,results110,go_sem,B,y,E,z]) rfl ?_;have h0:=I.o;rw[g.o,zxm,<-g.o]at h0;have h1:=((h0.base (show w.heap.size<=W.heap.size by omega)).tk (TKeep.set (o:=0) f.o (A,k,cA)) δ δ δ).tk (TKeep.set (o:=1) (zar _ f.o) (c:Int)) δ δ δ;exact⟨A,cA,l1,rfl,h1,X.o,bsc (bsc ag.o)⟩
end Mt
end Go.Proofs.YtbpjabgfcbjjmaaGreat
namespace Go.Proofs.YtbpjabgfcbjjmaaGreat
open Go.RowKit Am Tryz
attribute [local go_sem ↓] Go.wp_at_zero Go.wp_at_succ
variable {rows:List PRow}{cost x ys:List Rat}{k:Nat}{p:PRow}{q:Rat}
def zvQ(h:zr q=true):q=0:=Xx h
namespace Vc
def dot_no(A:OA)(n c:Nat)(xs:List Rat)(B:OA)(a c':Nat)(ys:List Rat)(H e:Nat)(w:World)(b:VecS w H (A,n,c) xs)(d:VecS w e (B,a,c') ys)(f:xs.length≠ys.length) :
  Calls prog 63 #[(A,n,c),(B,a,c')] w (zii w 0 false):=by
 have g:((n:Int) == (a:Int))=false:=by rw[b.len,d.len];simp;omega
 have i:¬((n:Int)=(a:Int)):=by rw[b.len,d.len];omega
 have j:¬n=a:=by rw[b.len,d.len];omega
 clear b d;go_enter func63,ntmps63;go_wp2;refine Zi (v:=.tuple #[.agg #[false,(),()],false]) (by simp[results,results63,go_sem]) rfl ?_;exact⟨_,_,_,_,_,_,_,rfl,RatS.zero _,zae w _⟩
def dot_ok(A:OA)(n c:Nat)(xs:List Rat)(B:OA)(j c':Nat)(ys:List Rat)(H H':Nat)(w:World)(hx:VecS w H (A,n,c) xs)(hy:VecS w H' (B,j,c') ys)(hl:xs.length=ys.length)(d:n<=1000)(zx:∀q∈xs,mw q<=4000000)(zy:∀q∈ys,mw q<=4000000) :
  Calls prog 63 #[(A,n,c),(B,j,c')] w (zii w (dot xs ys) true):=by
 have s:=hx.len;have a4:=hy.len;have en:j=n:=ω;subst en;refine μ5 s hl d zx zy λHN HL aV ZX ZY=>?_;have bN:j<=9223372036854775807:=ω;clear s a4 hl d zx zy;obtain⟨W,M⟩:∃W,(w.alloc (.cells #[false,(),()] 62))=W:=⟨_,rfl⟩
 refine μ4 (show θ W w.heap.size #[false,(),()] 62by rw[<-M];exact zam σ) (show Below w w W by rw[<-M];exact zae w _) (show VecS W H (A,j,c) xs by rw[<-M];exact(hx).alloc _) (show VecS W H' (B,j,c') ys by rw[<-M];exact(hy).alloc _) λaC U V X=>?_;clear hx hy;go_enter func63,ntmps63;go_wp2;clear M
 go_loopw [16] (λi wr=>∃(k:Nat) (g:Bool) (P:OA) (m cp:Nat) (D:OA) (o l:Nat),i=.int .i64 k/\k<=j/\θ wr W.heap.size #[g,(P,m,cp),(D,o,l)] 62/\RatS wr g (P,m,cp) (D,o,l) (ziw xs ys k)/\Below W.heap.size W wr)
  (λi _=>j-(intOf i).toNat)
 case atStart=>exact⟨0,_,_,_,_,_,_,_,rfl,Zb _,zal _ _ _,RatS.zero _,zae W _⟩
 obtain⟨k,g,P,m,cp,D,o,l,rfl,hk,aa,Z,f⟩:=hrel;by_cases aG:k<j
 ·obtain⟨a,N⟩:∃a,xs[k]? = some a:=⟨xs[k]'(by rw[<-HN.o];exact aG),Ze _⟩
  obtain⟨b,d⟩:∃b,ys[k]? = some b:=⟨ys[k]'(by rw[<-HL.o,<-HN.o];exact aG),Ze _⟩
  obtain⟨t,rfl,bH,bI⟩:=V.o.has ω;obtain⟨by_,rfl,bJ,bK⟩:=X.o.has ω;obtain⟨J,x,O,E,z,R,G,k0,k1,k2,aD⟩:=(V.o.below f).at_ N;obtain⟨L,y,Q,F,C,T,I,l0,l1,l2,aE⟩:=(X.o.below f).at_ d;refine μ8 (zad f aC.o) (V.o.below f) (X.o.below f) (aD) (show RatS wr L (y,Q,F) (C,T,I) b from aE) (Z) (Bel.mk f) (U.o.trans ((f).mono U.o.size)) λu bb bc aB aY HP HW aI=>?_;obtain⟨ab,ad,av,_,ac,ae,aw,_,af,ag,az,_⟩:=bf3 u.o;have aJ:=k0;have aK:=k1;have aN:=k2;have aO:=l0;have aP:=l1;have aQ:=l2;have Y:=un aa;obtain⟨bf,_,_,_,bg,_,_,_,be,_⟩:=bf3 Y.o;have aJ:=k0;have aK:=k1;have aN:=k2;have aO:=l0;have aP:=l1;have aQ:=l2;refine μ4 N d (show 4*(mw a+mw b)+8<=LIM by have:=ZX.o a (Zj N);have:=ZY.o b (Zj d);have:=zaP;omega) (show 4*(mw (ziw xs ys k)+mw (a*b))+8<=LIM by have:=ZX.o a (Zj N);have:=ZY.o b (Zj d);have h1:=zrJ ZX.o ZY.o k;have:=zdI a b;have:=zaP;have h2:k*8000001<=1000*8000001:=ZV _ (by have:=aV.o;omega);omega) λah ai L1 L2=>?_;have bL:(0:Int)<=(k:Int):=Zg _;have bM:(k:Int)<(j:Int):=ω;clear aa Z f N d k0 k1 k2 l0 l1 l2 aD aE;go_wp2_with fail
  refine(Rt.zero J x O E z R G a _ aB.o).mono ?_;rintro e v1 ⟨rfl,d⟩;refine μ5 (zad d Y.o) (aB.o.below d) (aY.o.below d) (HP.o.below d) (HW.o.below d) λaL bD aU aR aS=>?_;have bh:=zab d aJ;have bk:=zab d aK;have bl:=zab d aN;have bn:=zab d aO;have bs:=zab d aP;have bw:=zab d aQ;clear d;cases hza:zr a
  ·go_wp2_with fail
   refine(Rt.zero L y Q F C T I b _ aU.o).mono ?_;rintro e v2 ⟨rfl,d⟩;refine μ5 (zad d aL.o) (bD.o.below d) (aU.o.below d) (aR.o.below d) (aS.o.below d) λay bE bF aH aT=>?_;obtain⟨bU,_,_,_,bW,_,_,_,bZ,_⟩:=bf3 ay.o;have bj:=zab d bh;have a5:=zaa bj;have bo:=zab d bk;have a6:=zaa bo;have bq:=zab d bl;have a7:=zaa bq;have bp:=zab d bn;have a8:=zaa bp;have bu:=zab d bs;have a9:=zaa bu;have bA:=zab d bw;have ba:=zaa bA;clear d;cases hzb:zr b
   ·go_wp2_with fail
    refine za2 (S:=λw'=>χ w' W.heap.size 0 (.bool g)/\χ w' W.heap.size 1 (P,m,cp)/\χ w' W.heap.size 2 (D,o,l)/\χ w' t (k*3) (.bool J)/\χ w' t (k*3+1) (x,O,E)/\χ w' t (k*3+2) (z,R,G)/\χ w' by_ (k*3) (.bool L)/\χ w' by_ (k*3+1) (y,Q,F)/\χ w' by_ (k*3+2) (C,T,I)) 11 (h:=λhHeld=>?_);refine zaw [0,1,2,3,4,5,6,7,8] ?_;repeat refine tkE hHeld ?_
    refine zao ?_;refine zaN 9 (h:=λK r=>?_);go_simp;(go_at_call 29;(refine(Rt.mul J x O E z R G a L y Q F C T I b _ bE.o.drew bF.o.drew L1.o).mono ?_);rintro e u1 ⟨g1,A1,m1,c1,D1,md1,cd1,rfl,s,d⟩;refine μ4 (zad d ay.o) (aH.o.drew.below d) (aT.o.drew.below d) (s) λaM bd bz HM=>?_;obtain⟨bP,_,_,_,bQ,_,_,_,bY,_⟩:=bf3 aM.o;have bi:=zab d a5;have bm:=zab d a6;have br:=zab d a7;have bt:=zab d a8;have bv:=zab d a9;have bB:=zab d ba;clear s d);(try go_wp2_with fail);refine shutOn r λhHeld=>?_;clear r K;refine zaN 10 (h:=λK r=>?_);go_simp;(go_at_call 28;(refine(Rt.add g P m cp D o l (ziw xs ys k) g1 A1 m1 c1 D1 md1 cd1 (a*b) _ bd.o HM.o L2.o).mono ?_);rintro e u2 ⟨g2,A2,m2,c2,D2,md2,cd2,rfl,s,d⟩;refine μ3 (zad d aM.o) (bz.o.below d) (s) λax bC HS=>?_;obtain⟨bV,_,bR,_,bX,_,bS,_,b0,_,bT,_⟩:=bf3 ax.o;have b1:=zab d bi;have b2:=zab d bm;have b3:=zab d br;have b4:=zab d bt;have b5:=zab d bv;have b6:=zab d bB;clear s d);(try go_wp2_with fail);refine shutOn r λhHeld=>?_;clear r K;refine zba (h:=λK r=>?_);go_simp;refine shutOff r ?_;clear r K;refine za1 (h:=?_)
    all_goals
     go_wp2;go_roundw
     case rel=>exact⟨k+1,g2,A2,m2,c2,D2,md2,cd2,by go_num,ω,zar _ (zar _ (zar _ ax.o)),by rw[zlZ xs ys k ah.o ai.o];exact HS.o.set3 ax.o δ _ _ _,(Bel.set3 bC.o (Za _) _ _ _).b⟩
     case measure=>simp[intOf];omega
   skip
   go_wp2;go_roundw
   case rel=>exact⟨k+1,g,P,m,cp,D,o,l,by go_num,ω,ay.o,by rw[zlY xs ys k ah.o ai.o (Or.inr (zvQ hzb))];exact aH.o,aT.o.b⟩
   case measure=>simp[intOf];omega
  skip
  go_wp2;go_roundw
  case rel=>exact⟨k+1,g,P,m,cp,D,o,l,by go_num,ω,aL.o,by rw[zlY xs ys k ah.o ai.o (Or.inl (zvQ hza))];exact aR.o,aS.o.b⟩
  case measure=>simp[intOf];omega
 have a3:k=j:=ω;refine μ5 (zad f aC.o) (V.o.below f) (X.o.below f) (Z) (U.o.trans ((f).mono U.o.size)) λu bb bc HP aI=>?_;obtain⟨ab,ad,av,_,ac,ae,aw,_,af,ag,az,_⟩:=bf3 u.o;have Y:=un aa;obtain⟨bf,_,bg,_,be,_⟩:=bc3 Y.o;clear aa Z f;go_wp2;refine Zi (v:=.tuple #[.agg #[g,(P,m,cp),(D,o,l)],true]) (by simp[results,results63,go_sem,ab,ad,ac,ae,af,ag]) rfl ?_;have h:=HP.o;rw[a3,HN.o]at h;exact⟨_,_,_,_,_,_,_,rfl,h.set3 u.o δ _ _ _,bsc (bsc (bsc aI.o))⟩
end Vc
abbrev Sm (xs:List Rat):Prop:=∀q∈xs,mw q<=4000000
def zdp (p:PRow) (x:List Rat):Rat:=dot p.coef x-p.rhs
def zdH (p:PRow) (x:List Rat):Bool:=if p.kind=1 then decide (zdp p x<=0)else if p.kind=2 then decide (0<=zdp p x)else decide (p.kind=3)&&decide (zdp p x=0)
def zDI{xs:List Rat}(zx:Sm xs)(zy:Sm ys)(h:xs.length<=1000):mw (dot xs ys)<=8000002000:=by have h1:=zrJ zx zy xs.length;unfold dot;omega
def zsp(q:Rat):q.num<=0↔q<=0:=by have h:=Y5 (q := -q);rw[Va]at h;grind
def zxh(h:p.kind=1):decide ((zdp p x).num<=0)=zdH p x:=by unfold zdH;rw[if_pos h];simp[decide_eq_decide,zsp]
def zxg(h:p.kind=2):decide (0<=zdp p x)=zdH p x:=by unfold zdH;rw[if_neg ω,if_pos h]
def zxf(h:p.kind=3):zr (zdp p x)=zdH p x:=by unfold zdH;rw[if_neg ω,if_neg ω,ZG h,Bool.true_and];rfl
def zxi(h1:p.kind≠1)(a:p.kind≠2)(b:p.kind≠3):false=zdH p x:=by unfold zdH;rw[if_neg h1,if_neg a,ZJ b,Bool.false_and]
namespace Pb
def over(C:OA)(nc cc:Nat)(g:Bool)(A:OA)(m c:Nat)(D:OA)(d b:Nat)(kd:Int)(p:PRow)(hk:p.kind=kd)(X:OA)(l k:Nat)(x:List Rat)(w:World)(hc:VecS w 0 (C,nc,cc) p.coef)(hr:RatS w g (A,m,c) (D,d,b) p.rhs)(q:VecS w 0 (X,l,k) x)(o:p.coef.length=x.length)(a:nc<=1000)(zc:Sm p.coef)(zr:mw p.rhs<=4000000)(zx:Sm x) :
  Calls prog 98 #[.agg #[(C,nc,cc),.int .i64 kd,g,(A,m,c),(D,d,b)],(X,l,k)] w (zii w (zdp p x) true):=by
 have i:=hc.len;refine μ5 o a zc zx (show 4*(mw (dot p.coef x)+mw p.rhs)+8<=LIM by have:=zDI zc zx ω;have:=zaP;omega) λy t I J H=>?_;clear i o a zc zr zx;obtain⟨W,f⟩:∃W,((w.alloc (.cells #[(C,nc,cc),.int .i64 kd,g,(A,m,c),(D,d,b)] 101)).alloc (.cells #[false,(),()] 62))=W:=⟨_,rfl⟩
 refine μ6 (show θ W w.heap.size #[(C,nc,cc),.int .i64 kd,g,(A,m,c),(D,d,b)] 101by rw[<-f];exact zak (zam σ)) (show θ W (w.heap.size+1) #[false,(),()] 62by rw[<-f];exact zam σ) (show Below w w W by rw[<-f];exact(zae w _).alloc σ _) (show VecS W 0 (C,nc,cc) p.coef by rw[<-f];exact((hc).alloc _).alloc _) (show VecS W 0 (X,l,k) x by rw[<-f];exact((q).alloc _).alloc _) (show RatS W g (A,m,c) (D,d,b) p.rhs by rw[<-f];exact((hr).alloc _).alloc _) λn G j u F z=>?_;obtain⟨Y,_⟩:=bc5 n.o;clear hc hr q;go_enter func98,ntmps98;go_wp2_with fail
 clear f;refine(Vc.dot_ok C nc cc p.coef X l k x 0 0 _ u.o F.o y.o t.o I.o J.o).mono ?_;rintro e w1 ⟨g2,A2,m2,c2,D2,md2,cd2,rfl,i,a⟩;refine μ6 (show θ (w1.alloc (.cells #[g2,(A2,m2,c2),(D2,md2,cd2)] 62)) w.heap.size #[(C,nc,cc),.int .i64 kd,g,(A,m,c),(D,d,b)] 101from zak (zad a n.o)) (show θ (w1.alloc (.cells #[g2,(A2,m2,c2),(D2,md2,cd2)] 62)) (w.heap.size+1) #[false,(),()] 62from zak (zad a G.o)) (show RatS (w1.alloc (.cells #[g2,(A2,m2,c2),(D2,md2,cd2)] 62)) g (A,m,c) (D,d,b) p.rhs from(z.o.below a).alloc _) (show RatS (w1.alloc (.cells #[g2,(A2,m2,c2),(D2,md2,cd2)] 62)) g2 (A2,m2,c2) (D2,md2,cd2) (dot p.coef x)from(i).alloc _) (show Below w w (w1.alloc (.cells #[g2,(A2,m2,c2),(D2,md2,cd2)] 62))from((j.o.trans ((a).mono j.o.size))).alloc ((j.o.trans ((a).mono j.o.size))).size _) (show θ (w1.alloc (.cells #[g2,(A2,m2,c2),(D2,md2,cd2)] 62)) w1.heap.size #[g2,(A2,m2,c2),(D2,md2,cd2)] 62from zam σ) λO L V B r U=>?_;obtain⟨_,_,_,_,aa,_,ag,_,ah,_⟩:=bc5 O.o;obtain⟨ac,_,ad,_,af,_⟩:=bc3 U.o;clear i a;go_wp2_with fail
 refine(Rt.sub g2 A2 m2 c2 D2 md2 cd2 (dot p.coef x) g A m c D d b p.rhs _ B.o V.o H.o).mono ?_;rintro e K ⟨g3,A3,m3,c3,D3,md3,cd3,rfl,i,a⟩;refine μ3 (zad a L.o) (show RatS K g3 (A3,m3,c3) (D3,md3,cd3) (zdp p x)from i) (r.o.trans ((a).mono r.o.size)) λs E R=>?_;obtain⟨Q,N,Z,_,S,M,ab,_,T,P,ae,_⟩:=bf3 s.o;clear i a;go_wp2;refine Zi (v:=.tuple #[.agg #[g3,(A3,m3,c3),(D3,md3,cd3)],true]) (by simp[results,results98,go_sem,Q,N,S,M,T,P]) rfl ?_;exact⟨_,_,_,_,_,_,_,rfl,E.o.set3 s.o δ _ _ _,bsc (bsc (bsc R.o))⟩
def holds(C:OA)(nc cc:Nat)(g:Bool)(A:OA)(m c:Nat)(D:OA)(i d:Nat)(kd:Int)(p:PRow)(hk:p.kind=kd)(X:OA)(t o:Nat)(x:List Rat)(w:World)(hc:VecS w 0 (C,nc,cc) p.coef)(hr:RatS w g (A,m,c) (D,i,d) p.rhs)(z:VecS w 0 (X,t,o) x)(y:p.coef.length=x.length)(a:nc<=1000)(zc:Sm p.coef)(zr:mw p.rhs<=4000000)(zx:Sm x) :
  Calls prog 62 #[.agg #[(C,nc,cc),.int .i64 kd,g,(A,m,c),(D,i,d)],(X,t,o)] w λe w'=>e=.returned (.bool (zdH p x))/\Below w w w':=by
 have s:=hc.len;refine μ6 y a zc zr zx hk λG E J K L b=>?_;clear hk s y a zc zr zx;obtain⟨W,k⟩:∃W,(w.alloc (.cells #[(C,nc,cc),.int .i64 kd,g,(A,m,c),(D,i,d)] 101))=W:=⟨_,rfl⟩
 refine μ5 (show θ W w.heap.size #[(C,nc,cc),.int .i64 kd,g,(A,m,c),(D,i,d)] 101by rw[<-k];exact zam σ) (show Below w w W by rw[<-k];exact zae w _) (show VecS W 0 (C,nc,cc) p.coef by rw[<-k];exact(hc).alloc _) (show VecS W 0 (X,t,o) x by rw[<-k];exact(z).alloc _) (show RatS W g (A,m,c) (D,i,d) p.rhs by rw[<-k];exact(hr).alloc _) λv n F I H=>?_;obtain⟨S,_,T,_,V,_,aa,_,ab,_⟩:=bc5 v.o;clear hc hr z;go_enter func62,ntmps62;go_wp2_with fail
 clear k;refine(over C nc cc g A m c D i d kd p b.o X t o x _ F.o H.o I.o G.o E.o J.o K.o L.o).mono ?_;rintro e w1 ⟨g2,A2,m2,c2,D2,md2,cd2,rfl,s,a⟩;refine μ4 (show θ (w1.alloc (.cells #[g2,(A2,m2,c2),(D2,md2,cd2)] 62)) w.heap.size #[(C,nc,cc),.int .i64 kd,g,(A,m,c),(D,i,d)] 101from zak (zad a v.o)) (show RatS (w1.alloc (.cells #[g2,(A2,m2,c2),(D2,md2,cd2)] 62)) g2 (A2,m2,c2) (D2,md2,cd2) (zdp p x)from(s).alloc _) (show Below w w (w1.alloc (.cells #[g2,(A2,m2,c2),(D2,md2,cd2)] 62))from((n.o.trans ((a).mono n.o.size))).alloc ((n.o.trans ((a).mono n.o.size))).size _) (show θ (w1.alloc (.cells #[g2,(A2,m2,c2),(D2,md2,cd2)] 62)) w1.heap.size #[g2,(A2,m2,c2),(D2,md2,cd2)] 62from zam σ) λQ u j P=>?_;obtain⟨_,_,R,_⟩:=bc5 Q.o;obtain⟨Y,_,Z,_,U,_⟩:=bc3 P.o;clear s a;by_cases h1:kd=1
 ·have M:(kd == 1)=true:=by simp[h1]
  go_wp2_with fail
  refine(Rt.sign g2 A2 m2 c2 D2 md2 cd2 (zdp p x) _ u.o).mono ?_;rintro e B ⟨rfl,a⟩;have l:=un (j.o.trans ((a).mono j.o.size));clear a;go_wp2;go_ret;have f:=zxh (p:=p) (x:=x) (b.o.trans h1);exact⟨by rw[<-f];rfl,l.o⟩
 have M:(kd == 1)=false:=by simp[h1]
 by_cases q:kd=2
 ·have N:(kd == 2)=true:=by simp[q]
  go_wp2_with fail
  refine(Rt.sign g2 A2 m2 c2 D2 md2 cd2 (zdp p x) _ u.o).mono ?_;rintro e B ⟨rfl,a⟩;have l:=un (j.o.trans ((a).mono j.o.size));clear a;go_wp2;go_ret;have f:=zxg (p:=p) (x:=x) (b.o.trans q);exact⟨by rw[<-f];rfl,l.o⟩
 have N:(kd == 2)=false:=by simp[q]
 by_cases r:kd=3
 ·have O:(kd == 3)=true:=by simp[r]
  go_wp2_with fail
  refine(Rt.zero g2 A2 m2 c2 D2 md2 cd2 (zdp p x) _ u.o).mono ?_;rintro e B ⟨rfl,a⟩;have l:=un (j.o.trans ((a).mono j.o.size));clear a;go_wp2;go_ret;have f:=zxf (p:=p) (x:=x) (b.o.trans r);exact⟨by rw[<-f];rfl,l.o⟩
 have O:(kd == 3)=false:=by simp[r]
 go_wp2;go_ret;have f:=zxi (p:=p) (x:=x) (by rw[b.o];exact h1) (by rw[b.o];exact q) (by rw[b.o];exact r);exact⟨by rw[<-f];rfl,j.o⟩
def zPu(C:OA)(nc cc:Nat)(R:OA)(nr c:Nat)(cost:List Rat)(rows:List PRow)(X:OA)(f d:Nat)(x:List Rat)(w:World)(hc:VecS w 0 (C,nc,cc) cost)(hr:RowsS w 0 (R,nr,c) rows)(l:VecS w 0 (X,f,d) x)(k:cost.length=x.length)(a:nc<=1000)(zc:Sm cost)(zx:Sm x) :
  Calls prog 17 #[.agg #[(C,nc,cc),(R,nr,c)],(X,f,d)] w (zii w (dot cost x) true):=by
 refine μ4 k a zc zx λq n t u=>?_;clear k a zc zx;obtain⟨W,b⟩:∃W,((w.alloc (.cells #[(C,nc,cc),(R,nr,c)] 33)).alloc (.cells #[false,(),()] 62))=W:=⟨_,rfl⟩
 refine μ5 (show θ W w.heap.size #[(C,nc,cc),(R,nr,c)] 33by rw[<-b];exact zak (zam σ)) (show θ W (w.heap.size+1) #[false,(),()] 62by rw[<-b];exact zam σ) (show Below w w W by rw[<-b];exact(zae w _).alloc σ _) (show VecS W 0 (C,nc,cc) cost by rw[<-b];exact((hc).alloc _).alloc _) (show VecS W 0 (X,f,d) x by rw[<-b];exact((l).alloc _).alloc _) λi j g o s=>?_;obtain⟨K,_⟩:=bc2 i.o;clear hc hr l;go_enter func17,ntmps17;go_wp2_with fail
 clear b;refine(Vc.dot_ok C nc cc cost X f d x 0 0 _ o.o s.o q.o n.o t.o u.o).mono ?_;rintro e w1 ⟨g2,A2,m2,c2,D2,md2,cd2,rfl,hn,a⟩;refine μ3 (zad a j.o) (show RatS w1 g2 (A2,m2,c2) (D2,md2,cd2) (dot cost x)from hn) (g.o.trans ((a).mono g.o.size)) λm r z=>?_;obtain⟨E,A,af,_,F,y,ac,_,D,G,ah,_⟩:=bf3 m.o;clear hn a;go_wp2;refine Zi (v:=.tuple #[.agg #[g2,(A2,m2,c2),(D2,md2,cd2)],true]) (by simp[results,results17,go_sem,E,A,F,y,D,G]) rfl ?_;exact⟨_,_,_,_,_,_,_,rfl,r.o.set3 m.o δ _ _ _,bsc (bsc (bsc z.o))⟩
def ys1(C:OA)(nc cc:Nat)(R:OA)(nr b:Nat)(cost:List Rat)(rows:List PRow)(X:OA)(d c:Nat)(x:List Rat)(w:World)(hc:VecS w 0 (C,nc,cc) cost)(hr:RowsS w 0 (R,nr,b) rows)(j:VecS w 0 (X,d,c) x)(q:cost.length≠x.length) :
  Calls prog 17 #[.agg #[(C,nc,cc),(R,nr,b)],(X,d,c)] w (zii w (0) false):=by
 have m:=un q;obtain⟨W,a⟩:∃W,((w.alloc (.cells #[(C,nc,cc),(R,nr,b)] 33)).alloc (.cells #[false,(),()] 62))=W:=⟨_,rfl⟩
 refine μ5 (show θ W w.heap.size #[(C,nc,cc),(R,nr,b)] 33by rw[<-a];exact zak (zam σ)) (show θ W (w.heap.size+1) #[false,(),()] 62by rw[<-a];exact zam σ) (show Below w w W by rw[<-a];exact(zae w _).alloc σ _) (show VecS W 0 (C,nc,cc) cost by rw[<-a];exact((hc).alloc _).alloc _) (show VecS W 0 (X,d,c) x by rw[<-a];exact((j).alloc _).alloc _) λg i f l o=>?_;obtain⟨G,K,H,D⟩:=bc2 g.o;obtain⟨S,Q,ac,N,O,T,U,L,V,aa,af,ae⟩:=bf3 i.o;clear hc hr j;go_enter func17,ntmps17;go_wp2_with fail
 clear a;refine(Vc.dot_no C nc cc cost X d c x 0 0 _ l.o o.o m.o).mono ?_;rintro e w1 ⟨g2,A2,m2,c2,D2,md2,cd2,rfl,hn,hb⟩;refine μ4 (zad hb g.o) (zad hb i.o) (show RatS w1 g2 (A2,m2,c2) (D2,md2,cd2) (0)from hn) (f.o.trans ((hb).mono f.o.size)) λu k n s=>?_;obtain⟨E,I,F,J⟩:=bc2 u.o;obtain⟨z,t,ab,M,A,r,Y,P,y,B,ad,Z⟩:=bf3 k.o;clear hn hb;go_wp2;refine Zi (v:=.tuple #[.agg #[g2,(A2,m2,c2),(D2,md2,cd2)],false]) (by simp[results,results17,go_sem,z,t,A,r,y,B]) rfl ?_;exact⟨_,_,_,_,_,_,_,rfl,n.o.set3 k.o δ _ _ _,bsc (bsc (bsc s.o))⟩
end Pb
def znD (cost:List Rat) (rows:List PRow) (x:List Rat):Bool:=decide (x.length=cost.length) && !(x.any λq=>decide (q<0))&&rows.all λp=>zdH p x
abbrev Rows (n:Nat) (rows:List PRow):Prop:=∀p∈rows,p.coef.length=n/\Sm p.coef/\mw p.rhs<=4000000
def zv9{f:PRow->Bool}(h:(rows.take k).all f=true)(b:rows[k]? = some p)(a:f p=true):(rows.take (k+1)).all f=true:=by rw[Xe,List.all_append,h,b];simp[a]
def ztT{f:PRow->Bool}(b:rows[k]? = some p)(a:f p=false):rows.all f=false:=by rw[Vm];grind
def zw4(h:x.length≠cost.length):znD cost rows x=false:=by unfold znD;rw[ZJ h];rfl
def zw5(h:(x.any λq=>decide (q<0))=true):znD cost rows x=false:=by unfold znD;rw[h];simp
def zoE(a:x.length=cost.length)(h:(x.any λq=>decide (q<0))=false):znD cost rows x=rows.all λp=>zdH p x:=by unfold znD;rw[h,ZG a];simp
namespace Pb
def zAF(C:OA)(nc cc:Nat)(R:OA)(nr a:Nat)(cost:List Rat)(rows:List PRow)(X:OA)(b f:Nat)(x:List Rat)(w:World)(hc:VecS w 0 (C,nc,cc) cost)(hr:RowsS w 0 (R,nr,a) rows)(d:VecS w 0 (X,b,f) x)(g:x.length≠cost.length) :
  Calls prog 54 #[.agg #[(C,nc,cc),(R,nr,a)],(X,b,f)] w λe w'=>e=.returned (.bool (znD cost rows x))/\Below w w w':=by
 have h1:¬((b:Int)=(nc:Int)):=by rw[d.len,hc.len];omega
 have l:¬(b=nc):=by rw[d.len,hc.len];omega
 have j:=un (zw4 (rows:=rows) g);obtain⟨W,c⟩:∃W,(w.alloc (.cells #[(C,nc,cc),(R,nr,a)] 33))=W:=⟨_,rfl⟩
 have k:=un (show θ W w.heap.size #[(C,nc,cc),(R,nr,a)] 33by rw[<-c];exact zam σ);have i:=un (show Below w w W by rw[<-c];exact zae w _);obtain⟨m,_⟩:=bc2 k.o;clear hc hr d g;go_enter func54,ntmps54;go_wp2;clear c;go_ret;exact⟨by rw[j.o];rfl,i.o⟩
def fits(C:OA)(nc cc:Nat)(R:OA)(nr l:Nat)(cost:List Rat)(rows:List PRow)(X:OA)(z n:Nat)(x:List Rat)(w:World)(hc:VecS w 0 (C,nc,cc) cost)(hr:RowsS w 0 (R,nr,l) rows)(y:VecS w 0 (X,z,n) x)(a:nc<=1000)(Y:Rows nc rows)(zx:Sm x)(aG:nr<=1000) :
  Calls prog 54 #[.agg #[(C,nc,cc),(R,nr,l)],(X,z,n)] w λe w'=>e=.returned (.bool (znD cost rows x))/\Below w w w':=by
 by_cases s:x.length≠cost.length;exact zAF C nc cc R nr l cost rows X z n x w hc hr y s;have s:=Decidable.not_not.1 s;have T:=y.len;have ap:=hc.len;have U:=hr.len;have en:nc=z:=ω;subst en;refine μ6 s U T a Y zx λL M ag HB ak ZX=>?_;clear s a Y zx T ap U;obtain⟨W,o⟩:∃W,(w.alloc (.cells #[(C,nc,cc),(R,nr,l)] 33))=W:=⟨_,rfl⟩
 refine μ4 (show θ W w.heap.size #[(C,nc,cc),(R,nr,l)] 33by rw[<-o];exact zam σ) (show Below w w W by rw[<-o];exact zae w _) (show VecS W 0 (X,nc,n) x by rw[<-o];exact(y).alloc _) (show RowsS W 0 (R,nr,l) rows by rw[<-o];exact(hr).alloc _) λS K P HR=>?_;obtain⟨aL,_,aM,aJ⟩:=bc2 S.o;clear hc hr y;go_enter func54,ntmps54;go_wp2_with fail
 clear o;refine(Vc.below X nc n x 0 _ P.o).mono ?_;rintro e w1 ⟨rfl,a⟩;refine μ4 (zad a S.o) (P.o.below a) (HR.o.below a) (K.o.trans ((a).mono K.o.size)) λax aa E t=>?_;obtain⟨_,_,aK,aN⟩:=bc2 ax.o;clear a;cases hneg:(x.any λq=>decide (q<0))
 ·skip
  go_wp2
  go_loopw [20] (λi wr=>∃k:Nat,i=.int .i64 k/\k<=nr/\Below w1 w1 wr/\(rows.take k).all (λp=>zdH p x)=true)
   (λi _=>nr-(intOf i).toNat)
  case atStart=>exact⟨0,rfl,Zb _,Zl _ _,rfl⟩
  obtain⟨k,rfl,hk,d,H⟩:=hrel;have O:=un H;by_cases ao:k<nr
  ·obtain⟨p,v⟩:∃p,rows[k]? = some p:=⟨rows[k]'(by rw[<-M.o];exact ao),Ze _⟩
   obtain⟨b,rfl,aC,aD⟩:=(E.o).has ω;obtain⟨Q,nq,G,g,A,m,c,D,J,F,k0,k1,k2,k3,k4,I,V⟩:=(E.o.below d).at_ v;have N:=un v;have u:=un (ak.o p (Zj v));obtain rfl:nc=nq:=by rw[I.len,u.o.1]
   generalize hkd:p.kind=kd at k1;refine μ6 hkd (aa.o.below d) (I) (show RatS wr g (A,m,c) (D,J,F) p.rhs from V) (Bel.mk d) (t.o.trans ((d).mono t.o.size)) λaf ac HQ aj HW B=>?_;clear d H v I V hkd;have aE:(0:Int)<=(k:Int):=Zg _;have aF:(k:Int)<(nr:Int):=ω;go_wp2_with fail
   have r:=zae wr (.cells #[(Q,nc,G),.int .i64 kd,g,(A,m,c),(D,J,F)] 101);refine μ5 (ac.o.below r) (HQ.o.below r) (aj.o.below r) (HW.o.below r) (B.o.trans ((r).mono B.o.size)) λav aw au aA Z=>?_;refine(holds Q nc G g A m c D J F kd p af.o X nc n x _ aw.o au.o av.o (u.o.1.trans ag.o) HB.o u.o.2.1 u.o.2.2 ZX.o).mono ?_;rintro e v1 ⟨rfl,a⟩;have az:=un (aA.o.below a);have ay:=un (Z.o.trans ((a).mono Z.o.size));clear a;cases hh:zdH p x
   ·have j:=un ((zoE L.o hneg).trans (ztT (f:=λp=>zdH p x) N.o hh));go_wp2;go_ret
    exact⟨by rw[j.o];rfl,ay.o⟩
   have j:=un (zv9 (f:=λp=>zdH p x) O.o N.o hh);go_wp2;go_roundw
   case rel=>exact⟨k+1,by go_num,ω,az.o.b,j.o⟩
   case measure=>simp[intOf];omega
  have an:k=nr:=ω;refine μ3 (show znD cost rows x=true by rw[zoE L.o hneg];have h:=O.o;rw[an,M.o,XL]at h;exact h) (aa.o.below d) (t.o.trans ((d).mono t.o.size)) λj ac B=>?_;clear d H;go_wp2;go_ret;exact⟨by rw[j.o];rfl,B.o⟩
 have j:=un (zw5 (cost:=cost) (rows:=rows) hneg);go_wp2;go_ret;exact⟨by rw[j.o];rfl,t.o⟩
end Pb
abbrev Kinds (rows:List PRow):Prop:=∀p∈rows,1<=p.kind/\p.kind<=3
namespace Pb
def may(C:OA)(nc cc:Nat)(R:OA)(nr d:Nat)(cost:List Rat)(rows:List PRow)(w:World)(hc:VecS w 0 (C,nc,cc) cost)(hr:RowsS w 0 (R,nr,d) rows)(P:nc<=24)(ac:nr<=20)(z:Rows nc rows)(x:Kinds rows) :
  Calls prog 57 #[.agg #[(C,nc,cc),(R,nr,d)]] w λe w'=>e=.returned .nilIface/\Below w w w':=by
 have y:=hr.len;refine μ3 y z x λG H u=>?_;have J:(nc:Int)<=24:=ω;have T:¬(24:Int)<(nc:Int):=ω;have ad:¬(20:Int)<(nr:Int):=ω;clear z x y;obtain⟨W,f⟩:∃W,(w.alloc (.cells #[(C,nc,cc),(R,nr,d)] 33))=W:=⟨_,rfl⟩
 refine μ4 (show θ W w.heap.size #[(C,nc,cc),(R,nr,d)] 33by rw[<-f];exact zam σ) (show Below w w W by rw[<-f];exact zae w _) (show VecS W 0 (C,nc,cc) cost by rw[<-f];exact(hc).alloc _) (show RowsS W 0 (R,nr,d) rows by rw[<-f];exact(hr).alloc _) λq l t n=>?_;obtain⟨ai,_,aj,ah⟩:=bc2 q.o;clear hc hr;go_enter func57,ntmps57;go_wp2;clear f
 go_loopw [19] (λi wr=>∃k:Nat,i=.int .i64 k/\k<=nr/\Below W.heap.size W wr)
  (λi _=>nr-(intOf i).toNat)
 case atStart=>exact⟨0,rfl,Zb _,Zl _ _⟩
 obtain⟨k,rfl,hk,a⟩:=hrel;by_cases K:k<nr
 ·obtain⟨p,j⟩:∃p,rows[k]? = some p:=⟨rows[k]'(by rw[<-G.o];exact K),Ze _⟩
  obtain⟨b,rfl,S,J⟩:=n.o.has ω;obtain⟨Q,nq,o,g,A,m,c,D,s,r,k0,k1,k2,k3,k4,B,_⟩:=(n.o.below a).at_ j;obtain rfl:nc=nq:=by rw[B.len,(H.o p (Zj j)).1]
  have X:=(u.o p (Zj j)).1;have Y:=(u.o p (Zj j)).2;have Z:¬p.kind<1:=ω;have aa:¬3<p.kind:=ω;refine μ5 (zad a q.o) (t.o.below a) (n.o.below a) (Bel.mk a) (l.o.trans ((a).mono l.o.size)) λF O M I E=>?_;clear a j B;have U:(0:Int)<=(k:Int):=Zg _;have V:(k:Int)<(nr:Int):=ω;have v:=zae wr (.cells #[(Q,nc,o),.int .i64 p.kind,g,(A,m,c),(D,s,r)] 101);have L:=un (zad v F.o);have N:=un (I.o.below v);obtain⟨ak,_⟩:=bc2 L.o;have al:χ (wr.alloc (.cells #[(Q,nc,o),.int .i64 p.kind,g,(A,m,c),(D,s,r)] 101)) wr.heap.size 0 (Q,nc,o):=zax rfl rfl;have am:χ (wr.alloc (.cells #[(Q,nc,o),.int .i64 p.kind,g,(A,m,c),(D,s,r)] 101)) wr.heap.size 1 (.int .i64 p.kind):=zax rfl rfl;go_wp2;go_roundw
  case rel=>exact⟨k+1,by go_num,ω,N.o.b⟩
  case measure=>simp[intOf];omega
 have ab:k=nr:=ω;refine μ4 (zad a q.o) (t.o.below a) (n.o.below a) (l.o.trans ((a).mono l.o.size)) λF O M E=>?_;clear a;go_wp2;go_ret;exact⟨rfl,E.o⟩
end Pb
def zIc (p:PRow) (q:Rat):Bool := !(decide (p.kind=1)&&decide (0<q)||decide (p.kind=2)&&decide (q<0))
def zxD (rows:List PRow) (ys:List Rat) (k:Nat):Bool:=(List.range k).all λi=>zIc (rows.getD i default) (el ys i)
def zId (rows:List PRow) (ys:List Rat):Bool:=zxD rows ys rows.length
def zfC(h:rows[k]? = some p):rows.getD k default=p:=by rw[Zh,h];rfl
def ydX(h:zxD rows ys k=true)(a:rows[k]? = some p)(b:ys[k]? = some q)(c:zIc p q=true):zxD rows ys (k+1)=true:=by
 unfold zxD at *
 rw[Yp,List.all_append,h,List.all_cons,zfC a,znd b,c];rfl
def yeb(a:rows[k]? = some p)(b:ys[k]? = some q)(c:zIc p q=false):zId rows ys=false:=by unfold zId zxD;rw[Vm];exact⟨k,Xb.2 (ZF.1 a).1,by rw[zfC a,znd b,c];decide⟩
def zPs(q:Rat):0<q.num↔0<q:=by have h:=zsp q;grind
def zPt(q:Rat):0<q.num.sign↔0<q:=by rw[<-zPs];grind
def zQE(q:Rat):q.num.sign<0↔q<0:=by rw[<-zvc];grind
def yd3(h:p.kind=1):zIc p q = !(decide (0<q)):=by unfold zIc;rw[ZG h,ZJ (show ¬p.kind=2 by omega)];simp
def yd4(h:p.kind=2):zIc p q = !(decide (q<0)):=by unfold zIc;rw[ZG h,ZJ (show ¬p.kind=1 by omega)];simp
def yeh(h:p.kind≠1)(a:p.kind≠2):zIc p q=true:=by unfold zIc;rw[ZJ h,ZJ a];simp
namespace Ct
def signed(C:OA)(nc cc:Nat)(R:OA)(nr J:Nat)(cost:List Rat)(rows:List PRow)(Y:OA)(ny cy:Nat)(y:List Rat)(w:World)(hc:VecS w 0 (C,nc,cc) cost)(hr:RowsS w 0 (R,nr,J) rows)(hy:VecS w 0 (Y,ny,cy) y)(hl:y.length=rows.length)(aX:nr<=1000) :
  Calls prog 58 #[.agg #[(C,nc,cc),(R,nr,J)],(Y,ny,cy)] w λe w'=>e=.returned (.bool (zId rows y))/\Below w w w':=by
 have aW:=hy.len;have aJ:=hr.len;have en:nr=ny:=ω;subst en;have HL:=un hl;have HN:=un aJ;clear hl aW aJ;obtain⟨W,z⟩:∃W,(w.alloc (.cells #[(C,nc,cc),(R,nr,J)] 33))=W:=⟨_,rfl⟩
 refine μ4 (show θ W w.heap.size #[(C,nc,cc),(R,nr,J)] 33by rw[<-z];exact zam σ) (show Below w w W by rw[<-z];exact zae w _) (show VecS W 0 (Y,nr,cy) y by rw[<-z];exact(hy).alloc _) (show RowsS W 0 (R,nr,J) rows by rw[<-z];exact(hr).alloc _) λam M S O=>?_;obtain⟨_,_,bx,bv⟩:=bc2 am.o;clear hc hr hy;go_enter func58,ntmps58;go_wp2;clear z
 go_loopw [16] (λi wr=>∃k:Nat,i=.int .i64 k/\k<=nr/\Below W.heap.size W wr/\zxD rows y k=true)
  (λi _=>nr-(intOf i).toNat)
 case atStart=>exact⟨0,rfl,Zb _,Zl _ _,rfl⟩
 obtain⟨k,rfl,hk,d,hT⟩:=hrel;have P:=un hT;by_cases aI:k<nr
 ·obtain⟨p,hp⟩:∃p,rows[k]? = some p:=⟨rows[k]'(by rw[<-HN.o];exact aI),Ze _⟩
  obtain⟨q,hq⟩:∃q,y[k]? = some q:=⟨y[k]'(by rw[HL.o,<-HN.o];exact aI),Ze _⟩
  obtain⟨b,rfl,bi,bj⟩:=O.o.has ω;obtain⟨by_,rfl,bk,bl⟩:=S.o.has ω;obtain⟨Q,nq,x,g,A,m,c,D,B,v,k0,k1,k2,k3,k4,_⟩:=(O.o.below d).at_ hp;obtain⟨V,L,X,T,N,Z,U,l0,l1,l2,aG⟩:=(S.o.below d).at_ hq;have H:=un hp;have I:=un hq;generalize hkd:p.kind=kd at k1;refine μ4 hkd (aG) (Bel.mk d) (M.o.trans ((d).mono M.o.size)) λu ak HW l=>?_;have ac:=l0;have ad:=l1;have ae:=l2;clear d hT hp hq hkd aG l0 l1 l2;have bm:(0:Int)<=(k:Int):=Zg _;have bn:(k:Int)<(nr:Int):=ω;by_cases h1:kd=1
  ·subst h1;have a:=zae wr (.cells #[(Q,nq,x),.int .i64 1,g,(A,m,c),(D,B,v)] 101);refine μ3 (ak.o.below a) (HW.o.below a) (l.o.trans ((a).mono l.o.size)) λG K F=>?_;have o:=zab a ac;have r:=zab a ad;have s:=zab a ae
   have t:χ (wr.alloc (.cells #[(Q,nq,x),.int .i64 1,g,(A,m,c),(D,B,v)] 101)) wr.heap.size 1 (.int .i64 1):=zax rfl rfl;go_wp2_with fail
   refine(Rt.sign V L X T N Z U q _ G.o).mono ?_;rintro e v1 ⟨rfl,hb⟩;have aE:=un (K.o.below hb);have az:=un (F.o.trans ((hb).mono F.o.size));have aC:=zab hb t;clear hb;by_cases f:0<q
   ·have au:=(zPs q).2 f;have av:=(zPt q).2 f;have j:=un (yeb H.o I.o (by rw[yd3 (u.o),ZG f];rfl));go_wp2;go_ret
    exact⟨by rw[j.o];rfl,az.o⟩
   have au:¬0<q.num:=λh=>f ((zPs q).1 h)
   have av:¬0<q.num.sign:=λh=>f ((zPt q).1 h)
   have j:=un (ydX P.o H.o I.o (by rw[yd3 (u.o),ZJ f];rfl));go_wp2;go_roundw
   case rel=>exact⟨k+1,by go_num,ω,aE.o.b,j.o⟩
   case measure=>simp[intOf];omega
  skip
  by_cases h2:kd=2
  ·subst h2;have a:=zae wr (.cells #[(Q,nq,x),.int .i64 2,g,(A,m,c),(D,B,v)] 101);refine μ3 (ak.o.below a) (HW.o.below a) (l.o.trans ((a).mono l.o.size)) λG K F=>?_;have o:=zab a ac;have r:=zab a ad;have s:=zab a ae
   have t:χ (wr.alloc (.cells #[(Q,nq,x),.int .i64 2,g,(A,m,c),(D,B,v)] 101)) wr.heap.size 1 (.int .i64 2):=zax rfl rfl;go_wp2_with fail
   refine(Rt.sign V L X T N Z U q _ G.o).mono ?_;rintro e v1 ⟨rfl,hb⟩;have aE:=un (K.o.below hb);have az:=un (F.o.trans ((hb).mono F.o.size));have aC:=zab hb t;clear hb;by_cases f:q<0
   ·have au:=(zvc q).2 f;have av:=(zQE q).2 f;have j:=un (yeb H.o I.o (by rw[yd4 (u.o),ZG f];rfl));go_wp2;go_ret
    exact⟨by rw[j.o];rfl,az.o⟩
   have au:¬q.num<0:=λh=>f ((zvc q).1 h)
   have av:¬q.num.sign<0:=λh=>f ((zQE q).1 h)
   have j:=un (ydX P.o H.o I.o (by rw[yd4 (u.o),ZJ f];rfl));go_wp2;go_roundw
   case rel=>exact⟨k+1,by go_num,ω,aE.o.b,j.o⟩
   case measure=>simp[intOf];omega
  have bp:(kd == 2)=false:=by simp[h2]
  have bo:(kd == 1)=false:=by simp[h1]
  have a:=zae wr (.cells #[(Q,nq,x),.int .i64 kd,g,(A,m,c),(D,B,v)] 101);refine μ3 (ak.o.below a) (HW.o.below a) (l.o.trans ((a).mono l.o.size)) λG K F=>?_;have o:=zab a ac;have r:=zab a ad;have s:=zab a ae;have t:χ (wr.alloc (.cells #[(Q,nq,x),.int .i64 kd,g,(A,m,c),(D,B,v)] 101)) wr.heap.size 1 (.int .i64 kd):=zax rfl rfl;have j:=un (ydX P.o H.o I.o (yeh (by rw[u.o];exact h1) (by rw[u.o];exact h2)));go_wp2;go_roundw
  case rel=>exact⟨k+1,by go_num,ω,K.o.b,j.o⟩
  case measure=>simp[intOf];omega
 have aV:k=nr:=ω;have j:=un (show zId rows y=true by have h:=P.o;rw[aV,HN.o]at h;exact h);have l:=un (M.o.trans ((d).mono M.o.size));clear d hT;go_wp2;go_ret;exact⟨by rw[j.o];rfl,l.o⟩
