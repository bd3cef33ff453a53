/- Contracts and lemmas: Vec4 Vec5 Law1 Mat1 Mat2 LuMem LuMem2. Conditions: as each says. -/
import Derived.Test.YtbpjabgfcbjjmaaGreatRat5Yn
import Derived.Test.YtbpjabgfcbjjmaaGreatLin0Yn
import Derived.Test.YtbpjabgfcbjjmaaGreatEtaYn
import Derived.Laws.OwnMore
import Derived.Laws.CopyRow
set_option linter.all false
set_option maxHeartbeats 4000000
set_option maxRecDepth 100000
namespace Go.Proofs.YtbpjabgfcbjjmaaGreat
open Go.RowKit Am Tryz
attribute [local go_sem ↓] Go.wp_at_zero Go.wp_at_succ
variable {ps:List (Int × Int)}{rs:List Rat}{k:Nat}{W w w':World}
abbrev I64 (x:Int):Prop := -9223372036854775808<=x/\x<=9223372036854775807
def zcs (w:World) (A:OA) (ps:List (Int × Int)):Prop:=∀(k:Nat) (x:Int × Int),ps[k]? = some x->I64 x.1/\I64 x.2/\∃b o,A=some ⟨b,o,none⟩/\χ w b (o+k*2) (.int .i64 x.1)/\χ w b (o+k*2+1) (.int .i64 x.2)
def zcs.below{A:OA}(h:zcs w A ps)(a:Below w w w'):zcs w' A ps:=by intro k x g;obtain⟨h1,c,b,o,d,e,f⟩:=h k x g;grind[zab]
def frs (ps:List (Int × Int)):List Rat:=ps.map λx=>fr x.1 x.2
def zw8{x:Int × Int}(h:ps[k]? = some x):frs (ps.take (k+1))=frs (ps.take k)++[fr x.1 x.2]:=by unfold frs;rw[Xe,h];simp
namespace Lw
theorem zA3(p d:Int)(c:d≠0)(j:I64 p)(i:I64 d)(w:World):Calls prog 44 #[.agg #[.int .i64 p,.int .i64 d]] w (ze4 w (fr p d)):=by
 have m:=un (zDB (p:=p) c);have B:(d == 0)=false:=by simpa using c
 refine μ3 j i c λg f l=>?_;obtain⟨W,b⟩:∃W,((w.alloc (.cells #[.int .i64 p,.int .i64 d] 109)).alloc (.cells #[false,(),()] 62))=W:=⟨_,rfl⟩
 refine μ3 (show θ W w.heap.size #[.int .i64 p,.int .i64 d] 109by rw[<-b];exact zak (zam σ)) (show θ W (w.heap.size+1) #[false,(),()] 62by rw[<-b];exact zam σ) (show Below w w W by rw[<-b];exact(zae w _).alloc σ _) λo q a=>?_;obtain⟨C,_,D,_⟩:=bc2 o.o;go_enter func44,ntmps44;go_wp2_with fail
 refine(Rt.of p d l.o g.o.1 g.o.2 f.o.1 f.o.2 _).mono ?_
 rintro e w1 ⟨g3,A3,m3,c3,D3,md3,cd3,rfl,hn,hb⟩;refine μ4 (show θ (w1.alloc (.cells #[g3,(A3,m3,c3),(D3,md3,cd3)] 62)) (w.heap.size+1) #[false,(),()] 62from zak (zad hb q.o)) (show RatS (w1.alloc (.cells #[g3,(A3,m3,c3),(D3,md3,cd3)] 62)) g3 (A3,m3,c3) (D3,md3,cd3) (Rat.divInt p d)from(hn).alloc _) (show Below w w (w1.alloc (.cells #[g3,(A3,m3,c3),(D3,md3,cd3)] 62))from((a.o.trans ((hb).mono a.o.size))).alloc ((a.o.trans ((hb).mono a.o.size))).size _) (show θ (w1.alloc (.cells #[g3,(A3,m3,c3),(D3,md3,cd3)] 62)) w1.heap.size #[g3,(A3,m3,c3),(D3,md3,cd3)] 62from zam σ) λk n s A=>?_;obtain⟨x,t,F,_,y,r,E,_,u,z,G,_⟩:=bf3 k.o;obtain⟨H,_,I,_,J,_⟩:=bc3 A.o;go_wp2;refine Zi (v:=.agg #[g3,(A3,m3,c3),(D3,md3,cd3)]) (by simp[results,results44,go_sem,x,t,y,r,u,z]) rfl ?_;rw[m.o];exact⟨g3,A3,m3,c3,D3,md3,cd3,rfl,n.o.set3 k.o δ _ _ _,bsc (bsc (bsc s.o))⟩
def one(p d:Int)(a:I64 p)(b:I64 d)(w:World):Calls prog 44 #[.agg #[.int .i64 p,.int .i64 d]] w (ze4 w (fr p d)):=by grind[zxr,zA3]
def make(A:OA)(n c:Nat)(ps:List (Int × Int))(w:World)(v:n=ps.length)(hf:zcs w A ps)(u:n<=1048576) :
  Calls prog 12 #[(A,n,c)] w (zq5 w (frs ps)):=by
 have q:=un v;have O:=un hf;have Y:n<=9223372036854775807:=ω;have H:=un u;clear v hf u;go_enter func12,ntmps12;go_wp2
 go_loopw [3,4] (λS i wr=>∃(k:Nat) (f:OA) (p c':Nat),i=.int .i64 k/\S=(f,p,c')/\k<=n/\VecS wr w (f,p,c') (frs (ps.take k))/\Below w w wr)
  (λ_ i _=>n-(intOf i).toNat)
 case atStart=>exact⟨0,none,0,0,rfl,rfl,Zb _,VecS.nil _ _,Zl _ _⟩
 obtain⟨k,f,p,c',rfl,rfl,hk,d,j⟩:=hrel;have L:=un d;have a:=un j;by_cases Q:k<n
 ·obtain⟨x,l⟩:∃x,ps[k]? = some x:=⟨ps[k]'(by rw[<-q.o];exact Q),Ze _⟩
  have J:=un l;obtain⟨U,V⟩:=x;obtain⟨y,t,b,o,rfl,h0,h1⟩:=(O.o.below a.o) k _ l;have I:=un y;have F:=un t;have W:(0:Int)<=(k:Int):=Zg _;have X:(k:Int)<(n:Int):=ω;clear j d l y t;simp only at h0 h1;go_wp2_with fail
  refine(one U V I.o F.o _).mono ?_;rintro e T ⟨g,A,m,c2,D,md,cd,rfl,hq,hb⟩;refine μ4 (show w.heap.size<=T.heap.size from Zf a.o.size hb.size) (a.o.trans (hb.mono a.o.size)) (L.o.below hb) hq λr C M K=>?_;clear hb hq;go_wp2_with (at_builtin;go_loud (refine zev rfl _ _ rfl rfl (M.o.alloc _) rfl (zal _ _ _) (K.o.alloc _) (by unfold frs;rw[ZK,ZI];have:=H.o;omega) (by have:=r.o;simp;omega) ?_;intro B Z P w3 z s R;have N:=un z;have E:=un s;clear z s))
  subst R;exact⟨⟨k+1,B,_,P,σ,rfl,ω,by rw[zw8 J.o];exact N.o,(C.o.alloc r.o _).trans E.o⟩,by simp[intOf];omega⟩
 obtain rfl:k=n:=ω;have G:=un d;clear j d;go_wp2;go_ret;refine⟨_,_,_,rfl,?_,a.o⟩;have h:=G.o;rw[q.o,XL]at h;exact h
end Lw
structure Bel (W w:World):Prop where
  b:Below W W w
def Bel.below(h:Bel W w)(a:Below w w w'):Bel W w':=⟨h.b.trans (a.mono h.b.size)⟩
def Bel.alloc{W w:World}(h:Bel W w)(o:Obj):Bel W (w.alloc o):=h.below (zae w o)
def Bel.drew{W w:World}(h:Bel W w):Bel W w.drew:=h.below (zap w 1)
def Bel.set3(h:Bel W w){b i j:Nat}(a:W.heap.size<=b)(u v x:Value):Bel W (((w.setCell ⟨b,i,none⟩ u).setCell ⟨b,j,none⟩ v).setCell ⟨b,k,none⟩ x):=⟨((h.b.setCell a u).setCell a v).setCell a x⟩
def zl9(n:Nat):(madeCells (Value.agg #[false,(),()]).cells (n*3)).toList=rcells (List.replicate n (false,.slice none 0 0,.slice none 0 0)):=by
 apply Xf;intro j;have d:(Value.agg #[false,(),()]).cells=#[.bool false,.slice none 0 0,.slice none 0 0]:=rfl;rw[d];by_cases hj:j<n*3;have h1:(madeCells #[false,(),()] (n*3)).toList[j]? = some ([Value.bool false,.slice none 0 0,.slice none 0 0][j%3]?.getD default):=by simp[madeCells,hj]
 have hk:(List.replicate n ((false,.slice none 0 0,.slice none 0 0):RV))[j/3]? = some (false,.slice none 0 0,.slice none 0 0):=by rw[Z9,if_pos ω]
 obtain⟨a,b,c⟩:=ziI _ _ _ hk;rw[h1];grind;rw[Xl (by simp[madeCells];omega),Xl (by rw[zcC];simp;omega)]
def zdv{ops:Array Oper}{rest:List Oper}{o:Oper}{a:Act}{Q:Exit->Act->World->Prop}
  (hg:o.guard=none) (l c:Operand) (m:o.op=Op.makeSlice 30 l c) (n:Nat) (L:Int) (j:a.eval l=.int .i64 L) (hc:a.eval c=.int .i64 L) (g:L=(n:Int)) (v:n<=1048576) (H:Nat) (e:w.heap.size=H)
  (f:∀w1,VecS w1 w (H,n,n) (List.replicate n 0)->Below w w w1->wpList prog ops Q rest (a.put o.dst (H,n,n)) w1):wpList prog ops Q (o::rest) a w:=by
 obtain⟨u,hi,p,s,t⟩:=info_parts ze0;subst e;subst g;refine wpList_make_full w hg l c 30 m w.heap.size 62 u _ 3 underlying30 hi p s .i64 .i64 n n n j hc rfl rfl (by rw[t];omega) (by unfold maxLen;omega) (Za _) ?_;intro w1 d i;rw[zl9]at d;refine f w1 ⟨List.replicate n (false,.slice none 0 0,.slice none 0 0),σ,?_,by rw[ZQ];exact d⟩ ((Zl _ _).grown i (Za _) (λk hk=>by cases hk));simp_all[Z9,if_pos,RatS.zero]
def mix (rs:List Rat) (k:Nat):List Rat:=rs.take k++List.replicate (rs.length-k) 0
def zhW(rs:List Rat):mix rs 0=List.replicate rs.length 0:=by simp[mix]
def zlc(rs:List Rat):mix rs rs.length=rs:=by simp[mix]
def zhV{q:Rat}(h:rs[k]? = some q):(mix rs k).set k q=mix rs (k+1):=by have hk:=(ZF.1 h).1;unfold mix;rw[Yq,if_neg (by rw[ZI];omega),Xe,h,ZI,XD (Xm hk),Xz,show rs.length-k=(rs.length-(k+1))+1 by omega,Yu];simp
def zld(h:k<rs.length):(mix rs k)[k]? = some 0:=by unfold mix;rw[ZN (by rw[ZI];omega),ZI,XD (Xm h),Xz,Z9,if_pos ω]
namespace Vc
def addTimesS(S:Nat)(hS:12*S+8<=LIM)(A:OA)(n c:Nat)(xs:List Rat)(g:Bool)(R:OA)(m p:Nat)(D:OA)(t o:Nat)(r:Rat)(B:OA)(f c':Nat)(ys:List Rat)(H H':Nat)(w:World)(hx:VecS w H (A,n,c) xs)(hr:RatS w g (R,m,p) (D,t,o) r)(hy:VecS w H' (B,f,c') ys)
  (hl:xs.length=ys.length) (d:n<=1048576) (zx:∀q∈xs,mw q<=S) (zr:mw r<=S) (zy:∀q∈ys,mw q<=S) :
  Calls prog 125 #[(A,n,c),.agg #[g,(R,m,p),(D,t,o)],(B,f,c')] w (zcd w (zly xs r ys) true):=by
 have l:=hx.len;have aO:=hy.len;have en:f=n:=ω;subst en;refine μ7 l hl d zx zr zy hS λu y aw ZX ZR ZY af=>?_;have bn:f<=9223372036854775807:=ω;clear l aO hl d zx zr zy hS;obtain⟨W,s⟩:∃W,(w.alloc (.cells #[g,(R,m,p),(D,t,o)] 62))=W:=⟨_,rfl⟩
 refine μ6 (show θ W w.heap.size #[g,(R,m,p),(D,t,o)] 62by rw[<-s];exact zam σ) (show Below w w W by rw[<-s];exact zae w _) (show w.heap.size+1<=W.heap.size by rw[<-s];simp) (show VecS W H (A,f,c) xs by rw[<-s];exact(hx).alloc _) (show VecS W H' (B,f,c') ys by rw[<-s];exact(hy).alloc _) (show RatS W g (R,m,p) (D,t,o) r by rw[<-s];exact(hr).alloc _) λaI X HZ HA HB HR=>?_;clear hx hr hy;go_enter func125,ntmps125;go_wp2_with (at_make;go_must (refine zdv rfl _ _ rfl f _ rfl rfl rfl aw.o W.heap.size rfl ?_;intro w1 ho ak))
 clear s;have HO:=un ho;have av:=un ak;clear ho ak;go_wp2
 go_loopw [20] (λi wr=>∃k:Nat,i=.int .i64 k/\k<=f/\VecS wr W.heap.size (.slice (some ⟨W.heap.size,0,none⟩) f f) (mix (zly xs r ys) k)/\Below W.heap.size W wr)
  (λi _=>f-(intOf i).toNat)
 case atStart=>exact⟨0,rfl,Zb _,by rw[zhW,zdt y.o,<-u.o];exact HO.o,av.o⟩
 obtain⟨k,rfl,hk,P,j⟩:=hrel;by_cases Z:k<f
 ·obtain⟨a,O⟩:∃a,xs[k]? = some a:=⟨xs[k]'(by rw[<-u.o];exact Z),Ze _⟩
  obtain⟨b,d⟩:∃b,ys[k]? = some b:=⟨ys[k]'(by rw[<-y.o,<-u.o];exact Z),Ze _⟩
  obtain⟨x,rfl,bh,bi⟩:=HA.o.has ω;obtain⟨by_,rfl,bj,bk⟩:=HB.o.has ω;obtain⟨M,C,Q,I,F,U,K,k0,k1,k2,ai⟩:=(HA.o.below j).at_ O;obtain⟨N,E,T,J,G,V,L,l0,l1,l2,aj⟩:=(HB.o.below j).at_ d;refine μ6 (zad j aI.o) (HR.o.below j) (show RatS wr M (C,Q,I) (F,U,K) a from ai) (show RatS wr N (E,T,J) (G,V,L) b from aj) (P) (Bel.mk j) λau a9 aD aE Y HW=>?_;obtain⟨bw,_,bz,_,bC,_⟩:=bc3 au.o;have aW:χ wr x (k*3) (.bool M):=k0;have aQ:=zaa aW;have aX:χ wr x (k*3+1) (C,Q,I):=k1;have aR:=zaa aX;have a0:=k2;have aS:=zaa a0;have a1:=l0;have aT:=zaa a1;have a5:=l1;have aU:=zaa a5;have a6:=l2;have aV:=zaa a6;refine μ3 (zmR (r:=r) O d) (ZX.o a (Zj O)) (ZY.o b (Zj d)) λay ZA ZB=>?_;have bl:(0:Int)<=(k:Int):=Zg _;have bm:(k:Int)<(f:Int):=ω;refine μ3 (show 4*(mw r+mw b)+8<=LIM by have:=ZR.o;have:=ZB.o;have:=af.o;omega) (show 4*(mw a+mw (r*b))+8<=LIM by have:=ZR.o;have:=ZB.o;have:=ZA.o;have:=zdI r b;have:=af.o;omega) (zld (k:=k) (rs:=zly xs r ys) (by rw[zdt y.o,<-u.o];exact Z)) λL1 L2 aA=>?_;clear P j O d k0 k1 k2 l0 l1 l2 ai aj;have bo:=HZ.o;go_wp2_with fail
  go_region_held3 (λw'=>χ w' w 0 (.bool g)/\χ w' w 1 (R,m,p)/\χ w' w 2 (D,t,o)/\χ w' x (k*3) (.bool M)/\χ w' x (k*3+1) (C,Q,I)/\χ w' x (k*3+2) (F,U,K)/\χ w' by_ (k*3) (.bool N)/\χ w' by_ (k*3+1) (E,T,J)/\χ w' by_ (k*3+2) (G,V,L))
   (((try go_split_ands);(try simp only[Xi]);(repeat' apply And.intro)<;>(repeat(first | with_reducible assumption | refine cell_set ω ?_ | refine cell_al ?_))))
   (first
    | (go_at_call 29;(refine(Rt.mul g R m p D t o r N E T J G V L b _ a9.o.drew aE.o.drew L1.o).mono ?_);rintro e u1 ⟨g1,A1,m1,c1,D1,md1,cd1,rfl,l,d⟩;refine μ5 (zad d au.o) (aD.o.drew.below d) (Y.o.drew.below d) (HW.o.drew.below d) (l) λar bd bb ba HM=>?_;obtain⟨bA,_,bB,_,bG,_⟩:=bc3 ar.o;have aZ:=zab d aQ;have a2:=zab d aR;have a3:=zab d aS;have a4:=zab d aT;have a7:=zab d aU;have a8:=zab d aV;clear l d)
    | (go_at_call 28;(refine(Rt.add M C Q I F U K a g1 A1 m1 c1 D1 md1 cd1 (r*b) _ bd.o HM.o L2.o).mono ?_);rintro e u2 ⟨g2,A2,m2,c2,D2,md2,cd2,rfl,l,d⟩;refine μ4 (zad d ar.o) (bb.o.below d) (ba.o.below d) (l) λaY z bc HS=>?_;obtain⟨bE,_,bF,_,bM,_⟩:=bc3 aY.o;have bD:=zab d aZ;have bH:=zab d a2;have bJ:=zab d a3;have bI:=zab d a4;have bK:=zab d a7;have bL:=zab d a8;have pp:=z.o.at_ aA.o;obtain⟨go,Ao,mo,co,Do,bp,bg,o0,o1,o2,_⟩:=pp;have bu:=z.o.fro (k*3);have of1:=z.o.fro (k*3+1);have bv:=z.o.fro (k*3+2);clear l d)
    | fail)
  go_wp2;go_roundw
  case rel=>exact⟨k+1,by go_num,ω,by rw[<-zhV ay.o];exact VecS.store z.o k HS.o,(Bel.set3 bc.o (Za _) _ _ _).b⟩
  case measure=>simp[intOf];omega
 obtain rfl:k=f:=ω;have Y:=un P;have HF:=un j;clear P j;go_wp2;refine Zi (v:=.tuple #[.slice (some ⟨W.heap.size,0,none⟩) k k,true]) (by simp[results,results125,go_sem]) rfl ?_;refine⟨_,_,_,rfl,?_,X.o.trans (HF.o.mono X.o.size)⟩;have h:=Y.o;rw[show k=(zly xs r ys).length by rw[zdt y.o,<-u.o],zlc]at h;rw[<-show k=(zly xs r ys).length by rw[zdt y.o,<-u.o]]at h;exact h.base X.o.size
def addTimes(A:OA)(n c:Nat)(xs:List Rat)(g:Bool)(R:OA)(m b:Nat)(D:OA)(d a:Nat)(r:Rat)(B:OA)(e c':Nat)(ys:List Rat)(H f:Nat)(w:World)(k:VecS w H (A,n,c) xs)(hr:RatS w g (R,m,b) (D,d,a) r)(l:VecS w f (B,e,c') ys)
  (j:xs.length=ys.length) (i:n<=1048576) (zx:∀q∈xs,mw q<=100000000) (zr:mw r<=100000000) (zy:∀q∈ys,mw q<=100000000) :
  Calls prog 125 #[(A,n,c),.agg #[g,(R,m,b),(D,d,a)],(B,e,c')] w (zcd w (zly xs r ys) true) :=
 addTimesS 100000000 (by rw[zaP];decide) A n c xs g R m b D d a r B e c' ys H f w k hr l j i zx zr zy
end Vc
end Go.Proofs.YtbpjabgfcbjjmaaGreat
namespace Go.Proofs.YtbpjabgfcbjjmaaGreat
open Go.RowKit Am
variable {cs:Array Value}{g:Bool}{ps:List PRow}{l:List RR}{r:List Rat}{xs:List Value}{H b c k n:Nat}{A:OA}{t:TypeId}{d e f s v:Value}{w w':World}
def zC6(c:θ w b #[d,e,f] t):∀j u,[d,e,f][j]? = some u->w.cell? ((⟨b,0,none⟩:Addr).add j)=some u:=by
 intro j u a
 match j,a with
 | 0,a=>exact(zac c 0).trans a
 | 1,a=>exact(zac c 1).trans a
 | 2,a=>exact(zac c 2).trans a
 | j+3,a=>simp at a
def zMe{g i:Value}(c:θ w b #[d,e,f,g,i] t):∀j u,[d,e,f,g,i][j]? = some u->w.cell? ((⟨b,0,none⟩:Addr).add j)=some u:=by
 intro j u a
 match j,a with
 | 0,a=>exact(zac c 0).trans a
 | 1,a=>exact(zac c 1).trans a
 | 2,a=>exact(zac c 2).trans a
 | 3,a=>exact(zac c 3).trans a
 | 4,a=>exact(zac c 4).trans a
 | j+5,a=>simp at a
structure RowsL (w:World) (H:Nat) (v:Value) (l:List RR) (ps:List PRow):Prop where
  len:l.length=ps.length
  each:∀(k:Nat) (r:RR) (p:PRow),l[k]? = some r->ps[k]? = some p->RowS w r p
  own:w.ownsRow H 101 5 v ps.length (zcW l)
def RowsL.toS(h:RowsL w H v l ps):RowsS w H v ps:=⟨l,h.len,h.each,h.own⟩
def RowsL.below{w w':World}{H:Nat}{v:Value}{l:List RR}{ps:List PRow}(h:RowsL w H v l ps)(a:Below w w w'):RowsL w' H v l ps :=
 ⟨h.len,λk r p h1 b=>(h.each k r p h1 b).below a,zc9 h.own λk hk=>a.block k (h.own.lt k hk).2⟩
def RowsL.alloc{w:World}{H:Nat}{v:Value}{l:List RR}{ps:List PRow}(h:RowsL w H v l ps)(o:Obj):RowsL (w.alloc o) H v l ps:=h.below (zae w o)
def RowsL.drew{w:World}{H:Nat}{v:Value}{l:List RR}{ps:List PRow}(h:RowsL w H v l ps):RowsL w.drew H v l ps:=h.below (zap w 1)
def zij (w w':World):Prop:=∀k,k<w.heap.size->(∀cs,w.heap[k]? ≠ some (.cells cs 101 (0,0)))->w'.heap[k]? = w.heap[k]?
def zas.keepR(h:zas w s n)(hk:zij w w'):zas w' s n:=by obtain⟨xs,a,c⟩:=h;refine⟨xs,a.keep λk b=>hk k (a.block b) λcs e=>?_,c⟩;exact za6 a.1 e δ b
def RatS.keepR{w w':World}{g:Bool}{s d:Value}{q:Rat}(h:RatS w g s d q)(hk:zij w w'):RatS w' g s d q:=⟨⟨h.num.abs.keepR hk,h.num.neg⟩,h.den.keepR hk⟩
def VecS.keepR{w w':World}{H:Nat}{v:Value}{qs:List Rat}(h:VecS w H v qs)(hk:zij w w'):VecS w' H v qs:=by obtain⟨l,_,_,b⟩:=h.row;exact h.keepAll (λk a=>hk k (h.lt a).2 λcs e=>za6 b e δ a) λ_ _ _ _ r=>r.keepR hk
def RowS.keepR{w w':World}{r:RR}{p:PRow}(h:RowS w r p)(hk:zij w w'):RowS w' r p:=⟨h.coef.keepR hk,h.kind,h.rhs.keepR hk⟩
def zKw(h:w.ownsRow H 101 5 v n xs)(hg:w.grownBy w' v.ownBlock):zij w w':=by
 intro k hk c;refine hg.block k hk λe=>?_;rcases h.2 with ⟨a,_⟩ | ⟨g,cap,cur,a,_,b,_⟩
 rw[a]at e;cases e;rw[a]at e;injection e with e;grind
def RowsL.coefLt(h:RowsL w H v l ps)(i:Nat)(a:RR)(b:Nat)(hi:l[i]? = some a)(d:a.c.ownBlock=some b):b<w.heap.size:=by
 have e:=(ZF.1 hi).1;obtain⟨p,f⟩:∃p,ps[i]? = some p:=⟨ps[i]'(by rw[<-h.len];exact e),Ze _⟩
 exact((h.each i a p hi f).coef.lt d).2
theorem RowsL.nil(w:World)(H:Nat):RowsL w H () [] []:=⟨rfl,λk r p h=>by simp at h,Xs _ _ _ _⟩
def RowsL.slice{w:World}{H:Nat}{v:Value}{l:List RR}{ps:List PRow}(h:RowsL w H v l ps):∃A c,v=.slice A ps.length c:=by
 rcases h.own.2 with ⟨a,b⟩ | ⟨g,cap,cur,a,_⟩
 exact⟨_,_,by rw[a,b]⟩;grind
def zKn{ops:Array Oper}{o:Oper}{a:Act}{K:Act->World->Prop}{Q:Exit->Act->World->Prop}{E:Prop}(hg:o.guard=none)(s x:Operand)
  (M:o.op=.call { callee:=.builtin .append,args:=#[s,x],argTypes:=#[31,31] })     (O:a.eval s=v) (d:RowsL w H v l ps)  (P:a.eval x=.slice (some ⟨b,0,none⟩) 1 1)
  {C:OA} {nc cc:Nat} {kd:Int}   {m:Nat} {D:OA} {j i:Nat} {p:PRow} (I:θ w b #[(C,nc,cc),.int .i64 kd,g,(A,m,c),(D,j,i)] 101)
  (hr:RowS w ⟨.slice C nc cc,kd,g,.slice A m c,.slice D j i⟩ p)  (J:ps.length=n) (W:n+1<=1000000) (y:H<=w.heap.size)
  (G:∀q c' w',RowsL w' H (.slice q (n+1) c') (l++[⟨.slice C nc cc,kd,g,.slice A m c,.slice D j i⟩]) (ps++[p])->zij w w'->Below H w w'->K (a.put o.dst (.slice q (n+1) c')) w') :
  if Region.wanted o (yielded ops a.tmps)=true then Oper.wp Tryz.prog o a w K Q else E:=by
 have hw:Region.wanted o (yielded ops a.tmps)=true:=by simp[Region.wanted,hg]
 rw[if_pos hw];subst J;obtain⟨U,hi,R,S,T⟩:=info_parts zLy
 refine wp_append_own w s x 31 M H 101 U _ 5 88 Tryz.underlying31 hi R S T rfl δ v ps.length (zcW l) O d.own ⟨b,0,none⟩ 1 1 [.slice C nc cc,.int .i64 kd,.bool g,.slice A m c,.slice D j i] P rfl (zMe I)
  (by intro u F;simp at F;rcases F with rfl | rfl | rfl | rfl | rfl<;>rfl) (by unfold maxLen;omega) ω y ?_
 intro V w' N B _;have hk:=zKw d.own B;have z:RowsL w' H V (l++[⟨.slice C nc cc,kd,g,.slice A m c,.slice D j i⟩]) (ps++[p]):=by refine⟨by simp[d.len],?_,by rw[Zz,zKq];exact N⟩;intro k r p' h1 f;rcases XM k l.length with h | h | h;rw[Z4 h]at h1;rw[Z4 (by rw[<-d.len];exact h)]at f;exact(d.each k r p' h1 f).keepR hk;subst h;rw[ZN (Za _)]at h1;rw[ZN (by rw[d.len];exact Za _)]at f;simp at h1;rw[d.len]at f;simp at f;subst h1 f;exact hr.keepR hk;grind
 obtain⟨q,c',e⟩:=z.slice;rw[Zz]at e;subst e;exact G q c' w' z hk ((Zl _ _).grown B y (λk hk=>(d.own.lt k hk).1))
structure LineV where
  coef:List (Int × Int)
  kind:Int
  rhs:Int × Int
def zex (w:World) (A:OA) (ls:List LineV):Prop:=∀(k:Nat) (x:LineV),ls[k]? = some x->x.coef.length<=1048576/\I64 x.rhs.1/\I64 x.rhs.2/\∃b o C cc,A=some ⟨b,o,none⟩/\zcs w C x.coef /\
  χ w b (o+k*4) (.slice C x.coef.length cc)/\χ w b (o+k*4+1) (.int .i64 x.kind)/\χ w b (o+k*4+2) (.int .i64 x.rhs.1)/\χ w b (o+k*4+3) (.int .i64 x.rhs.2)
def zex.below{w w':World}{A:OA}{ls:List LineV}(h:zex w A ls)(a:Below w w w'):zex w' A ls:=by intro k x n;obtain⟨h1,c,d,b,o,C,cc,e,f,g,i,j,m⟩:=h k x n;exact⟨h1,c,d,b,o,C,cc,e,f.below a,zab a g,zab a i,zab a j,zab a m⟩
def zex.alloc{w:World}{A:OA}{ls:List LineV}(h:zex w A ls)(o:Obj):zex (w.alloc o) A ls:=h.below (zae w o)
def zex.drew{w:World}{A:OA}{ls:List LineV}(h:zex w A ls):zex w.drew A ls:=h.below (zap w 1)
def zcs.alloc{w:World}{A:OA}{ps:List (Int × Int)}(h:zcs w A ps)(o:Obj):zcs (w.alloc o) A ps:=h.below (zae w o)
def zcs.drew{w:World}{A:OA}{ps:List (Int × Int)}(h:zcs w A ps):zcs w.drew A ps:=h.below (zap w 1)
def Apart (C:Value) (l:List RR):Prop:=(∀(i j:Nat) (ri rj:RR) (b:Nat),l[i]? = some ri->l[j]? = some rj->ri.c.ownBlock=some b->rj.c.ownBlock=some b->i=j)/\∀(i:Nat) (ri:RR) (b:Nat),l[i]? = some ri->ri.c.ownBlock=some b->C.ownBlock≠some b
def zLa(C:Value):Apart C []:=⟨λi j a c b h=>by simp at h,λi a b h=>by simp at h⟩
def zKz{C:Value}{r:RR}{N:Nat}(h:Apart C l)(n:∀(i:Nat) (a:RR) (b:Nat),l[i]? = some a->a.c.ownBlock=some b->b<N)(p:∀b,C.ownBlock=some b->b<N)(hr:∀b,r.c.ownBlock=some b->N<=b):Apart C (l++[r]):=by
 have g:∀(i:Nat) (a:RR),(l++[r])[i]? = some a->(i<l.length/\l[i]? = some a)\/(i=l.length/\a=r):=ψ;refine⟨λi j a k b hi hj d f=>?_,λi a b hi d hc=>?_⟩;rcases g i a hi with ⟨h1,e⟩ | ⟨h1,rfl⟩<;>rcases g j k hj with ⟨o,m⟩ | ⟨o,rfl⟩
 exact h.1 i j a k b e m d f;have:=n i a b e d;have:=hr b f;omega;have:=n j k b m f;have:=hr b d;omega;omega;rcases g i a hi with ⟨h1,e⟩ | ⟨h1,rfl⟩
 exact h.2 i a b e d hc;grind
def zrA:(Tryz.prog.info? 30).map (λi=>(i.zero,i.size,i.bytes))=some (some (.slice none 0 0),1,24):=ξ
def TKeep (t:TypeId) (w w':World):Prop:=∀k,k<w.heap.size->(∀cs,w.heap[k]? ≠ some (.cells cs t (0,0)))->w'.heap[k]? = w.heap[k]?
theorem TKeep.set{o:Nat}(a:θ w b cs t)(u:Value):TKeep t w (w.setCell ⟨b,o,none⟩ u):=λk _ c =>
 ZE _ _ _ _ ψ
def TKeep.grown{size:Nat}(h:w.ownsRow H t size v n xs)(hg:w.grownBy w' v.ownBlock):TKeep t w w':=by
 intro k hk c;refine hg.block k hk λe=>?_;rcases h.2 with ⟨a,_⟩ | ⟨g,cap,cur,a,_,b,_⟩
 rw[a]at e;cases e;rw[a]at e;injection e with e;grind
def TKeep.blk{c:TypeId}(h:TKeep t w w')(a:θ w b cs c)(d:c≠t):θ w' b cs c:=by rw[h b (ZU.1 a).1 λf e=>d (by rw[a]at e;grind)];exact a
section
variable {w w':World} {t:TypeId}
def zas.tk(h:zas w s n)(hk:TKeep t w w')(h1:206≠t):zas w' s n:=by obtain⟨xs,a,c⟩:=h;refine⟨xs,a.keep λk b=>hk k (a.block b) λcs e=>?_,c⟩;exact za6 a.1 e h1 b
def RatS.tk{g:Bool}{s d:Value}{q:Rat}(h:RatS w g s d q)(hk:TKeep t w w')(h1:206≠t):RatS w' g s d q:=⟨⟨h.num.abs.tk hk h1,h.num.neg⟩,h.den.tk hk h1⟩
def VecS.tk{H:Nat}{v:Value}{qs:List Rat}(h:VecS w H v qs)(hk:TKeep t w w')(h1:206≠t)(c:62≠t):VecS w' H v qs:=by obtain⟨l,_,_,b⟩:=h.row;exact h.keepAll (λk a=>hk k (h.lt a).2 λcs e=>za6 b e c a) λ_ _ _ _ r=>r.tk hk h1
end
def VecS.ratBlk{qs:List Rat}(h:VecS w H (b,n,c) qs):∃cs,θ w b cs 62:=by
 obtain⟨_,_,_,d⟩:=h.row;rcases d.2 with ⟨a,_⟩ | ⟨g,cap,cur,a,_,e,_⟩
 cases a;grind
structure VecsL (w:World) (H:Nat) (v:Value) (l:List Value) (L:List (List Rat)):Prop where
  len:l.length=L.length
  each:∀(k:Nat) (s:Value) (r:List Rat),l[k]? = some s->L[k]? = some r->VecS w H s r
  own:w.ownsRow H 30 1 v L.length l
def zbG (l:List Value):Prop:=∀(i j:Nat) (a b:Value) (g:Nat),l[i]? = some a->l[j]? = some b->a.ownBlock=some g->b.ownBlock=some g->i=j
namespace VecsL
variable {w w':World} {H:Nat} {v:Value} {l:List Value} {L:List (List Rat)}
def keepAll(h:VecsL w H v l L)(hk:∀k,v.ownBlock=some k->w'.heap[k]? = w.heap[k]?)(hr:∀s r,s∈l->VecS w H s r->VecS w' H s r):VecsL w' H v l L :=
 ⟨h.len,λk s r a b=>hr s r (Zj a) (h.each k s r a b),zc9 h.own hk⟩
def below(h:VecsL w H v l L)(a:Below w w w'):VecsL w' H v l L:=h.keepAll (λk hk=>a.block k (h.own.lt k hk).2) λ_ _ _ r=>r.below a
def alloc(h:VecsL w H v l L)(o:Obj):VecsL (w.alloc o) H v l L:=h.below (zae w o)
def drew(h:VecsL w H v l L):VecsL w.drew H v l L:=h.below (zap w 1)
def base{c:Nat}(h:VecsL w H v l L)(d:c<=H):VecsL w c v l L:=⟨h.len,λk s r a b=>(h.each k s r a b).base d,zbu h.own d⟩
theorem nil(w:World)(H:Nat):VecsL w H () [] []:=⟨rfl,λk s r h=>by simp at h,Xs _ _ _ _⟩
def tk{t:TypeId}(h:VecsL w H v l L)(hk:TKeep t w w')(h1:206≠t)(b:62≠t)(c:30≠t):VecsL w' H v l L :=
 h.keepAll (λk a=>hk k (h.own.lt k a).2 λcs e=>za6 h.own e c a) λ_ _ _ r=>r.tk hk h1 b
def form(h:VecsL w H (A,n,c) l L):n=L.length/\n<=c/\c<=maxLen/\((A=none/\c=0/\L=[])\/∃g,A=some ⟨g,0,none⟩/\H<=g/\g<w.heap.size):=by
 rcases h.own.2 with ⟨b,a⟩ | ⟨g,cap,cur,b,hg,d,a,hm,_⟩
 injection b with e1 e2 e3;subst e1 e2 e3;exact⟨a.symm,Za _,Zb _,.inl ⟨rfl,rfl,Xo.1 a⟩⟩;grind
def nlen(h:VecsL w H (A,n,c) l L):n=L.length:=h.form.1
def has(h:VecsL w H (A,n,c) l L)(e:0<n):∃g,A=some ⟨g,0,none⟩/\H<=g/\g<w.heap.size:=by obtain⟨h1,b,d,a | a⟩:=h.form;omega;exact a
def slice(h:VecsL w H v l L):∃A c,v=.slice A L.length c:=by
 rcases h.own.2 with ⟨a,b⟩ | ⟨g,cap,cur,a,_⟩
 exact⟨_,_,by rw[a,b]⟩;grind
def fro(h:VecsL w H (b,n,c) l L)(j:Nat):w.frozen? ⟨b,j,none⟩=false:=by have a:=h.nlen;subst a;exact h.own.frozenAt j
def get(h:VecsL w H v l L)(hk:L[k]? = some r):∃(A:OA) (c:Nat),l[k]? = some (A,r.length,c)/\VecS w H (A,r.length,c) r:=by
 have d:=(ZF.1 hk).1;obtain⟨s,b⟩:∃s,l[k]? = some s:=⟨l[k]'(by rw[h.len];exact d),Ze _⟩
 have a:=h.each k s r b hk;obtain⟨A,n,c,rfl⟩:=a.slice;obtain rfl:=a.len;grind
def at_(h:VecsL w H (b,n,c) l L)(hk:L[k]? = some r):∃(A:OA) (c:Nat),l[k]? = some (A,r.length,c)/\χ w b k (A,r.length,c)/\VecS w H (A,r.length,c) r:=by have d:=h.nlen;subst d;obtain⟨A,c',a,e⟩:=h.get hk;have f:=(ZF.1 hk).1;exact⟨A,c',a,by rw[h.own.cellAt _ ω];exact a,e⟩
def blk(h:VecsL w H (b,n,c) l L):∃cs,θ w b cs 30:=by
 rcases h.own.2 with ⟨a,_⟩ | ⟨g,cap,cur,a,_,d,_⟩
 cases a;grind
def store(h:VecsL w H (b,n,c) l L)(hk:k<L.length)(o:VecS w H s r):VecsL (w.setCell ⟨b,k,none⟩ s) H (b,n,c) (l.set k s) (L.set k r):=by
 have m:=h.nlen;subst m;obtain⟨cs,f⟩:∃cs,θ w b cs 30:=by
  rcases h.own.2 with ⟨d,_⟩ | ⟨g,cap,cur,d,_,j,_⟩
  cases d;grind
 have kp:TKeep 30 w (w.setCell ⟨b,k,none⟩ s):=TKeep.set f s;refine⟨by rw[ZW,ZW];exact h.len,λi p r' h1 a=>?_,?_⟩;by_cases e:k=i;subst e;rw[YB (by rw[h.len];exact hk)]at h1;rw[YB hk]at a;injection h1 with h1;injection a with a;subst h1 a;exact o.tk kp δ δ;rw[YC e]at h1 a;exact(h.each i p r' h1 a).tk kp δ δ;rw[ZW];exact(h.own.stored _ _).1
def put(h:VecsL w H v l L)(z:zbG l)(o:l[k]? = some (b,n,c))(p:L[k]? = some r)(i:Nat){q:Rat}(C:RatS w g s d q) :
  VecsL (((w.setCell ⟨b,i*3,none⟩ (.bool g)).setCell ⟨b,i*3+1,none⟩ s).setCell ⟨b,i*3+2,none⟩ d) H v l (L.set k (r.set i q)):=by
 have f:=h.each k _ _ o p;have D:=f.store i C;obtain⟨cs,u⟩:∃cs,θ w b cs 62:=by
  obtain⟨_,_,_,y⟩:=f.row;rcases y.2 with ⟨f,_⟩ | ⟨g,cap,cur,f,_,A,_⟩
  cases f;grind
 have m:∀j,j≠b->(((w.setCell ⟨b,i*3,none⟩ (.bool g)).setCell ⟨b,i*3+1,none⟩ s).setCell ⟨b,i*3+2,none⟩ d).heap[j]? = w.heap[j]?:=λj hj=>by rw[ZE _ _ _ _ (by exact hj),ZE _ _ _ _ (by exact hj),ZE _ _ _ _ (by exact hj)]
 refine⟨by rw[ZW];exact h.len,λj E r' h1 a=>?_,by rw[ZW];exact zc9 h.own λj hj=>m j λe=>za6 h.own (e▸u) δ (e▸hj)⟩;by_cases e:k=j;grind;rw[YC e]at a;exact(h.each j E r' h1 a).keepAll (λg hg=>m g λx=>e (z k j _ _ b o h1 rfl (by rw[hg,x]))) λ_ _ _ _ r=>r.keepT λj hj B=>m j λe=>B _ (e▸u)
end VecsL
theorem zbG.set{l:List Value}(h:zbG l){k:Nat}{s:Value}(f:∀(g:Nat) (j:Nat) (b:Value),s.ownBlock=some g->j≠k->l[j]? = some b->b.ownBlock≠some g):zbG (l.set k s):=by
 intro i j a b g h1 c d e;rw[Xy]at h1 c;split at h1<;>split at c
 omega;grind;rename_i e1 e2;split at c
 injection c with c;subst c;exact absurd d (f g i a e (Z6 e1) h1);cases c;exact h i j a b g h1 c d e
def zbG.push{l:List Value}(h:zbG l)(f:∀(g:Nat) (b:Value),s.ownBlock=some g->b∈l->b.ownBlock≠some g):zbG (l++[s]):=by
 intro i j a b g h1 c d e;rw[List.getElem?_append]at h1 c;split at h1<;>split at c
 exact h i j a b g h1 c d e;rename_i e1 e2;rw[List.getElem?_singleton]at c;split at c
 injection c with c;subst c;exact absurd d (f g a e (Zj h1));cases c;rename_i e1 e2;rw[List.getElem?_singleton]at h1;split at h1
 injection h1 with h1;subst h1;exact absurd e (f g b d (Zj c));cases h1;grind
def VecsL.lt{w:World}{H:Nat}{v:Value}{l:List Value}{L:List (List Rat)}(h:VecsL w H v l L){s:Value}(a:s∈l){g:Nat}(hg:s.ownBlock=some g):H<=g/\g<w.heap.size:=by obtain⟨k,hk,rfl⟩:=YM a;exact(h.each k _ (L[k]'(by rw[<-h.len];exact hk)) (Ze hk) (Ze _)).lt hg
theorem zbG.nil:zbG []:=λi j a b g h=>by simp at h
end Go.Proofs.YtbpjabgfcbjjmaaGreat
namespace Go.Proofs.YtbpjabgfcbjjmaaGreat
open Go.RowKit Am Tryz
variable {cs:Array Value}{F:LUv}{L:List (List Rat)}{xs:List Nat}{r:List Rat}{l:List Value}{H b c i j k m n x:Nat}{A:OA}{t:TypeId}{s v y:Value}{w:World}
def zxP{w1:World}(b:w1.ownsRow H 62 3 (H,n,n) n (madeCells (Value.agg #[false,(),()]).cells (n*3)).toList):VecS w1 H (H,n,n) (List.replicate n 0):=by rw[zl9]at b;refine⟨List.replicate n (false,.slice none 0 0,.slice none 0 0),σ,?_,by rw[ZQ];exact b⟩;simp_all[Z9,if_pos,RatS.zero]
def zh5{ops:Array Oper}{o:Oper}{a:Act}{K:Act->World->Prop}{Q:Exit->Act->World->Prop}{E:Prop}(hg:o.guard=none)(l c:Operand)(f:o.op=Op.makeSlice 30 l c)(n:Nat)(L:Int)(e:a.eval l=.int .i64 L)(hc:a.eval c=.int .i64 L)(d:L=(n:Int))(s:n<=1048576)
  (b:∀w1,VecS w1 w (w.heap.size,n,n) (List.replicate n 0)->Below w w w1->K (a.put o.dst (w.heap.size,n,n)) w1) :
  if Region.wanted o (yielded ops a.tmps)=true then Oper.wp prog o a w K Q else E:=by
 have hw:Region.wanted o (yielded ops a.tmps)=true:=by simp[Region.wanted,hg]
 rw[if_pos hw];obtain⟨p,hi,i,j,m⟩:=info_parts ze0;subst d;obtain⟨w',g,r,r2⟩:=run_make_full (P:=prog) w w.heap.size 30 62 p _ 3 underlying30 hi i j .i64 .i64 n (by rw[m];omega) (by unfold maxLen;omega) (Za _);unfold Oper.wp;simp[execOp,f,e,hc,g,Result.andThen];exact b _ (zxP r) ((Zl _ _).grown r2 (Za _) (λk hk=>by cases hk))
def VecsL.append{w':World}{c:Value}(b:VecsL w H v l L)(e:VecS w H s r)(d:w'.ownsRow H 30 1 c (L.length+1) (l++[s]))(hg:w.grownBy w' v.ownBlock):VecsL w' H c (l++[s]) (L++[r]):=by have hk:=TKeep.grown b.own hg;refine⟨by simp[b.len],λk r' p' h1 a=>?_,by rw[Zz];exact d⟩;rcases XM k l.length with h | h | h;rw[Z4 h]at h1;rw[Z4 (by rw[<-b.len];exact h)]at a;exact(b.each k r' p' h1 a).tk hk δ δ;subst h;rw[ZN (Za _)]at h1;rw[ZN (by rw[b.len];exact Za _)]at a;simp at h1;rw[b.len]at a;simp at a;subst h1 a;exact e.tk hk δ δ;grind
def zrj{c:Value}(d:θ w b #[c] t):∀j u,[c][j]? = some u->w.cell? ((⟨b,0,none⟩:Addr).add j)=some u:=by
 intro j u a
 match j,a with
 | 0,a=>exact(zac d 0).trans a
 | j+1,a=>simp at a
def VecS.one(h:VecS w H s r):s.oneCell'=true:=by obtain⟨A,n,c,rfl⟩:=h.slice;rfl
def zjh{ops:Array Oper}{o:Oper}{a:Act}{K:Act->World->Prop}{Q:Exit->Act->World->Prop}{E:Prop}(hg:o.guard=none)(s x:Operand)
  (z:o.op=.call { callee:=.builtin .append,args:=#[s,x],argTypes:=#[110,110] })     (B:a.eval s=v) (d:VecsL w H v l L)  (C:a.eval x=.slice (some ⟨b,0,none⟩) 1 1)
  {e:Value}  (p:θ w b #[e] 30) (hr:VecS w H e r)  (y:L.length=n) (M:n+1<=1000000) (i:H<=w.heap.size)
  (m:∀c c' w',VecsL w' H (.slice c (n+1) c') (l++[e]) (L++[r])->TKeep 30 w w'->Below H w w'->K (a.put o.dst (.slice c (n+1) c')) w') :
  if Region.wanted o (yielded ops a.tmps)=true then Oper.wp prog o a w K Q else E:=by
 have hw:Region.wanted o (yielded ops a.tmps)=true:=by simp[Region.wanted,hg]
 rw[if_pos hw];subst y;obtain⟨J,hi,D,G,I⟩:=info_parts zrA
 refine wp_append_own w s x 110 z H 30 J _ 1 24 underlying110 hi D G I rfl δ v L.length l B d.own ⟨b,0,none⟩ 1 1 [e] C rfl (zrj p)
  (by intro u j;simp at j;subst j;exact hr.one) (by unfold maxLen;omega) ω i ?_
 intro N w' A g _;have f:=d.append hr A g;obtain⟨c,c',rfl⟩:=f.slice;rw[Zz]at f;have t:=m c c' w' f (TKeep.grown d.own g) ((Zl _ _).grown g i (λk hk=>(d.own.lt k hk).1));grind
def zqx(P:Program)(w:World)(d y z c:TypeId)(sz:Nat)(g o b k:Nat)(a:Addr)(zKx x:Nat)(cur:Array Value)(t:TypeId)(cs:List Value)
  (u:P.underlying d=some (.slice c)) (f:(P.info? c).map (·.size)=some sz)
  (hg:θ w g cur t) (p:cs.length=Nat.min zKx b*sz)
  (r:∀j v,cs[j]? = some v->w.cell? (a.add j)=some v) (m:o+cs.length<=cur.size) (h1:∀v∈cs,v.oneCell'=true) :
  (Builtin.copy_ #[d,y] z #[.slice (some ⟨g,o,none⟩) b k,.slice (some a) zKx x]).run P w =
   .ok (goInt (Nat.min zKx b)) (w.setRow g (cur.toList.take o++cs++cur.toList.drop (o+cs.length)).toArray):=by
 have e:=run_loadCells_list (P:=P) w a cs r;have s:=run_storeCells_at P g o t cs 0 cur w hg ω h1;cases hq:P.info? c with
 | none=>simp[hq]at f
 | some i =>
  have hi:i.size=sz:=ψ;rw[p]at e;simp[Builtin.copy_,run_underlying u,Builtin.lenOf,Builtin.firstCells,sizeOf,typeInfo,hq,hi,e,s]
def znF:(prog.info? 3).map (λi=>(i.zero,i.size,i.bytes))=some (some (.int .i64 0),1,8):=ξ
def icells (xs:List Nat):List Value:=xs.map λx=>.int .i64 ((x:Nat):Int)
structure IntsS (w:World) (H:Nat) (v:Value) (xs:List Nat):Prop where
  own:w.ownsRow H 3 1 v xs.length (icells xs)
namespace IntsS
variable {w w':World} {H:Nat} {v:Value} {xs:List Nat}
def keep(h:IntsS w H v xs)(hk:∀k,v.ownBlock=some k->w'.heap[k]? = w.heap[k]?):IntsS w' H v xs:=⟨zc9 h.own hk⟩
def below(h:IntsS w H v xs)(a:Below w w w'):IntsS w' H v xs:=h.keep λk hk=>a.block k (h.own.lt k hk).2
def alloc(h:IntsS w H v xs)(o:Obj):IntsS (w.alloc o) H v xs:=h.below (zae w o)
def drew(h:IntsS w H v xs):IntsS w.drew H v xs:=h.below (zap w 1)
def base{a:Nat}(h:IntsS w H v xs)(b:a<=H):IntsS w a v xs:=⟨zbu h.own b⟩
theorem nil(w:World)(H:Nat):IntsS w H () []:=⟨Xs _ _ _ _⟩
def tk(h:IntsS w H v xs)(hk:TKeep t w w')(h1:3≠t):IntsS w' H v xs :=
 h.keep λk a=>hk k (h.own.lt k a).2 λcs e=>za6 h.own e h1 a
def form(h:IntsS w H (A,n,c) xs):n=xs.length/\n<=c/\c<=maxLen/\((A=none/\c=0/\xs=[])\/∃g,A=some ⟨g,0,none⟩/\H<=g/\g<w.heap.size):=by
 rcases h.own.2 with ⟨b,a⟩ | ⟨g,cap,cur,b,hg,d,a,hm,_⟩
 injection b with e1 e2 e3;subst e1 e2 e3;exact⟨a.symm,Za _,Zb _,.inl ⟨rfl,rfl,Xo.1 a⟩⟩;grind
def len(h:IntsS w H (A,n,c) xs):n=xs.length:=h.form.1
def has(h:IntsS w H (A,n,c) xs)(e:0<n):∃g,A=some ⟨g,0,none⟩/\H<=g/\g<w.heap.size:=by obtain⟨h1,b,d,a | a⟩:=h.form;omega;exact a
def slice(h:IntsS w H v xs):∃A c,v=.slice A xs.length c:=by
 rcases h.own.2 with ⟨a,b⟩ | ⟨g,cap,cur,a,_⟩
 exact⟨_,_,by rw[a,b]⟩;grind
def fro(h:IntsS w H (b,n,c) xs)(j:Nat):w.frozen? ⟨b,j,none⟩=false:=by have a:=h.len;subst a;exact h.own.frozenAt j
def at_(h:IntsS w H (b,n,c) xs)(hk:xs[k]? = some x):χ w b k (.int .i64 (x:Int)):=by have a:=h.len;subst a;have d:=(ZF.1 hk).1;rw[h.own.cellAt _ ω];simp[icells,hk]
def store(h:IntsS w H (b,n,c) xs)(k x:Nat):IntsS (w.setCell ⟨b,k,none⟩ (x:Int)) H (b,n,c) (xs.set k x):=by have a:=h.len;subst a;refine⟨?_⟩;have:=(h.own.stored k (x:Int)).1;rw[ZW];simpa[icells,Vf]using this
def push{w':World}{a:Value}(c:IntsS w H v xs)(b:w'.ownsRow H 3 1 a (xs.length+1) (icells xs++[.int .i64 (x:Int)])):IntsS w' H a (xs++[x]):=by refine⟨?_⟩;rw[Zz];simpa[icells]using b
end IntsS
def zll{ops:Array Oper}{o:Oper}{a:Act}{K:Act->World->Prop}{Q:Exit->Act->World->Prop}{E:Prop}(hg:o.guard=none)(s x:Operand)
  (t:o.op=.call { callee:=.builtin .append,args:=#[s,x],argTypes:=#[41,41] })    (A:a.eval s=v) (d:IntsS w H v xs)  (B:a.eval x=.slice (some ⟨b,0,none⟩) 1 1)
  {z:Nat} (m:θ w b #[(z:Int)] 3)  (r:xs.length=n) (J:n+1<=1000000) (f:H<=w.heap.size)
  (j:∀c c' w',IntsS w' H (.slice c (n+1) c') (xs++[z])->TKeep 3 w w'->Below H w w'->K (a.put o.dst (.slice c (n+1) c')) w') :
  if Region.wanted o (yielded ops a.tmps)=true then Oper.wp prog o a w K Q else E:=by
 have hw:Region.wanted o (yielded ops a.tmps)=true:=by simp[Region.wanted,hg]
 rw[if_pos hw];subst r;obtain⟨I,hi,C,D,G⟩:=info_parts znF
 refine wp_append_own w s x 41 t H 3 I _ 1 8 underlying41 hi C D G rfl δ v xs.length (icells xs) A d.own ⟨b,0,none⟩ 1 1 [.int .i64 (z:Int)] B rfl (zrj m)
  (by intro u i;simp at i;subst i;rfl) (by unfold maxLen;omega) ω f ?_
 intro M w' y g _;have e:=d.push y;obtain⟨c,c',rfl⟩:=e.slice;rw[Zz]at e;have p:=j c c' w' e (TKeep.grown d.own g) ((Zl _ _).grown g f (λk hk=>(d.own.lt k hk).1));grind
structure LuS (w:World) (H q n:Nat) (F:LUv):Prop where
  ex:∃(lA:OA) (lc:Nat) (ll:List Value) (uA:OA) (uc:Nat) (ul:List Value) (pA:OA) (pc:Nat),
    θ w q #[(lA,n,lc),(uA,n,uc),(pA,n,pc),.bool F.odd] 265/\VecsL w H (lA,n,lc) ll F.lo/\zbG ll/\VecsL w H (uA,n,uc) ul F.up/\zbG ul /\
    (∀a∈ll,∀b∈ul,∀g,a.ownBlock=some g->b.ownBlock≠some g)/\IntsS w H (pA,n,pc) F.perm
  own:H<=q
  sq:Sq n F
namespace VecsL
variable {w w':World} {H:Nat} {v:Value} {l:List Value} {L:List (List Rat)}
def off(h:VecsL w H v l L){o:Nat}(a:θ w b cs 30)(c:v.ownBlock≠some b)(u:Value):VecsL (w.setCell ⟨b,o,none⟩ u) H v l L :=
 h.keepAll (λk hk=>ZE _ _ _ _ ψ) λ_ _ _ r=>r.tk (TKeep.set a u) δ δ
def offRat(h:VecsL w H v l L)(c:θ w b cs 62)(f:∀s∈l,s.ownBlock≠some b)(i:Nat)(x y z:Value) :
  VecsL (((w.setCell ⟨b,i*3,none⟩ x).setCell ⟨b,i*3+1,none⟩ y).setCell ⟨b,i*3+2,none⟩ z) H v l L:=by
 have a:∀j,j≠b->(((w.setCell ⟨b,i*3,none⟩ x).setCell ⟨b,i*3+1,none⟩ y).setCell ⟨b,i*3+2,none⟩ z).heap[j]? = w.heap[j]?:=λj hj=>by rw[ZE _ _ _ _ (by exact hj),ZE _ _ _ _ (by exact hj),ZE _ _ _ _ (by exact hj)]
 exact h.keepAll (λk hk=>a k λe=>za6 h.own (e▸c) δ (e▸hk)) λs r m o=>o.keepAll (λg hg=>a g λe=>f s m (e▸hg)) λ_ _ _ _ q=>q.keepT λj hj d=>a j λe=>d _ (e▸c)
def swap(h:VecsL w H (b,n,c) l L){x:Value}{s:List Rat}(hi:l[i]? = some x)(hj:l[j]? = some y)(hr:L[i]? = some r)(a:L[j]? = some s) :
  VecsL ((w.setCell ⟨b,i,none⟩ y).setCell ⟨b,j,none⟩ x) H (b,n,c) ((l.set i y).set j x) (sw L i j []):=by
 obtain⟨cs,e⟩:=h.blk;have h1:=h.store (ZF.1 hr).1 (h.each _ _ _ hj a);have d:=h1.store (k:=j) (by rw[ZW];grind) ((h.each _ _ _ hi hr).tk (TKeep.set (o:=i) e y) δ δ);unfold sw;rw[Zh,Zh,hr,a];exact d
end VecsL
def zrV{α:Type}{l:List α}{x y:α}(hi:l[i]? = some x)(hj:l[j]? = some y)(k:Nat):((l.set i y).set j x)[k]? = l[tw i j k]?:=by have h1:=(ZF.1 hi).1;have b:=(ZF.1 hj).1;unfold tw;rw[Xy,ZW,Xy];grind
def zyB{α:Type}{l:List α}{x y:α}(hi:l[i]? = some x)(hj:l[j]? = some y){a:α}(h:a∈(l.set i y).set j x):a∈l:=ψ
def zbG.sw(h:zbG l){x:Value}(hi:l[i]? = some x)(hj:l[j]? = some y):zbG ((l.set i y).set j x):=by intro a b u v g h1 c d e;rw[zrV hi hj]at h1 c;have:=h _ _ _ _ _ h1 c d e;rw[<-zxO i j a,this,zxO]
def IntsS.swap(h:IntsS w H (b,n,c) xs){y:Nat}(hi:xs[i]? = some x)(hj:xs[j]? = some y) :
  IntsS ((w.setCell ⟨b,i,none⟩ (y:Int)).setCell ⟨b,j,none⟩ (x:Int)) H (b,n,c) (Am.sw xs i j 0):=by
 have:=(h.store i y).store j x;unfold Am.sw;rw[Zh,Zh,hi,hj];exact this
def IntsS.blk(h:IntsS w H (b,n,c) xs):∃cs,θ w b cs 3:=by
 rcases h.own.2 with ⟨a,_⟩ | ⟨g,cap,cur,a,_,d,_⟩
 cases a;grind
structure LuP (w:World) (H q n lb lc:Nat) (ll:List Value) (ub uc:Nat) (ul:List Value) (pb pc:Nat) (F:LUv):Prop where
  blk:θ w q #[(lb,n,lc),(ub,n,uc),(pb,n,pc),.bool F.odd] 265
  lo:VecsL w H (lb,n,lc) ll F.lo
  la:zbG ll
  up:VecsL w H (ub,n,uc) ul F.up
  ua:zbG ul
  rows:∀a∈ll,∀b∈ul,∀g,a.ownBlock=some g->b.ownBlock≠some g
  sep:lb≠ub
  perm:IntsS w H (pb,n,pc) F.perm
  own:H<=q
namespace LuP
variable {w w':World} {H q n lb lc:Nat} {ll:List Value} {ub uc:Nat} {ul:List Value} {pb pc:Nat} {F:LUv}
def below(h:LuP w H q n lb lc ll ub uc ul pb pc F)(a:Below w w w'):LuP w' H q n lb lc ll ub uc ul pb pc F :=
 ⟨by rw[a.block q (ZU.1 h.blk).1];exact h.blk,h.lo.below a,h.la,h.up.below a,h.ua,h.rows,h.sep,h.perm.below a,h.own⟩
def alloc(h:LuP w H q n lb lc ll ub uc ul pb pc F)(o:Obj):LuP (w.alloc o) H q n lb lc ll ub uc ul pb pc F:=h.below (zae w o)
def drew(h:LuP w H q n lb lc ll ub uc ul pb pc F):LuP w.drew H q n lb lc ll ub uc ul pb pc F:=h.below (zap w 1)
def qlt(h:LuP w H q n lb lc ll ub uc ul pb pc F):q<w.heap.size:=(ZU.1 h.blk).1
def lbge(h:LuP w H q n lb lc ll ub uc ul pb pc F)(b:0<n):H<=lb/\lb<w.heap.size:=by obtain⟨g,e,h1,a⟩:=h.lo.has b;grind
def ubge(h:LuP w H q n lb lc ll ub uc ul pb pc F)(b:0<n):H<=ub/\ub<w.heap.size:=by obtain⟨g,e,h1,a⟩:=h.up.has b;grind
def pbge(h:LuP w H q n lb lc ll ub uc ul pb pc F)(b:0<n):H<=pb/\pb<w.heap.size:=by obtain⟨g,e,h1,a⟩:=h.perm.has b;grind
def swU(h:LuP w H q n lb lc ll ub uc ul pb pc F){x:Value}{s:List Rat}(hi:ul[i]? = some x)(hj:ul[j]? = some y)(hr:F.up[i]? = some r)(p:F.up[j]? = some s) :
  LuP ((w.setCell ⟨ub,i,none⟩ y).setCell ⟨ub,j,none⟩ x) H q n lb lc ll ub uc ((ul.set i y).set j x) pb pc { F with up:=sw F.up i j [] }:=by
 obtain⟨cs,c⟩:=h.up.blk;have g:TKeep 30 w (w.setCell ⟨ub,i,none⟩ y):=TKeep.set c y;have d:=zar (o:=i) y c;have k2:TKeep 30 (w.setCell ⟨ub,i,none⟩ y) ((w.setCell ⟨ub,i,none⟩ y).setCell ⟨ub,j,none⟩ x):=TKeep.set d x;have f:(Value.slice (some ⟨lb,0,none⟩) n lc).ownBlock≠some ub:=by intro e;exact h.sep (by injection e)
 exact⟨k2.blk (g.blk h.blk δ) δ,(h.lo.off c f y).off d f x,h.la,h.up.swap hi hj hr p,h.ua.sw hi hj,λa k b m=>h.rows a k b (zyB hi hj m),h.sep,(h.perm.tk g δ).tk k2 δ,h.own⟩
def swL(h:LuP w H q n lb lc ll ub uc ul pb pc F){x:Value}{s:List Rat}(hi:ll[i]? = some x)(hj:ll[j]? = some y)(hr:F.lo[i]? = some r)(p:F.lo[j]? = some s) :
  LuP ((w.setCell ⟨lb,i,none⟩ y).setCell ⟨lb,j,none⟩ x) H q n lb lc ((ll.set i y).set j x) ub uc ul pb pc { F with lo:=sw F.lo i j [] }:=by
 obtain⟨cs,c⟩:=h.lo.blk;have g:TKeep 30 w (w.setCell ⟨lb,i,none⟩ y):=TKeep.set c y;have d:=zar (o:=i) y c;have k2:TKeep 30 (w.setCell ⟨lb,i,none⟩ y) ((w.setCell ⟨lb,i,none⟩ y).setCell ⟨lb,j,none⟩ x):=TKeep.set d x;have f:(Value.slice (some ⟨ub,0,none⟩) n uc).ownBlock≠some lb:=by intro e;exact h.sep (by injection e with e;exact e.symm)
 exact⟨k2.blk (g.blk h.blk δ) δ,h.lo.swap hi hj hr p,h.la.sw hi hj,(h.up.off c f y).off d f x,h.ua,λa k b m=>h.rows a (zyB hi hj k) b m,h.sep,(h.perm.tk g δ).tk k2 δ,h.own⟩
def swP(h:LuP w H q n lb lc ll ub uc ul pb pc F){y:Nat}(hi:F.perm[i]? = some x)(hj:F.perm[j]? = some y) :
  LuP ((w.setCell ⟨pb,i,none⟩ (y:Int)).setCell ⟨pb,j,none⟩ (x:Int)) H q n lb lc ll ub uc ul pb pc { F with perm:=sw F.perm i j 0 }:=by
 obtain⟨cs,b⟩:=h.perm.blk;have a:TKeep 3 w (w.setCell ⟨pb,i,none⟩ (y:Int)):=TKeep.set b _;have c:=zar (o:=i) (y:Int) b;have k2:TKeep 3 (w.setCell ⟨pb,i,none⟩ (y:Int)) ((w.setCell ⟨pb,i,none⟩ (y:Int)).setCell ⟨pb,j,none⟩ (x:Int)):=TKeep.set c _;exact⟨k2.blk (a.blk h.blk δ) δ,(h.lo.tk a δ δ δ).tk k2 δ δ δ,h.la,(h.up.tk a δ δ δ).tk k2 δ δ δ,h.ua,h.rows,h.sep,h.perm.swap hi hj,h.own⟩
def setO(h:LuP w H q n lb lc ll ub uc ul pb pc F)(o:Bool):LuP (w.setCell ⟨q,3,none⟩ o) H q n lb lc ll ub uc ul pb pc { F with odd:=o }:=by have a:TKeep 265 w (w.setCell ⟨q,3,none⟩ o):=TKeep.set h.blk _;refine⟨?_,h.lo.tk a δ δ δ,h.la,h.up.tk a δ δ δ,h.ua,h.rows,h.sep,h.perm.tk a δ,h.own⟩;have:=zar (o:=3) o h.blk;grind
def putL(h:LuP w H q n lb lc ll ub uc ul pb pc F)(e:ll[k]? = some (b,m,c))(f:F.lo[k]? = some r)(i:Nat){g:Bool}{d:Value}{x:Rat}(y:RatS w g s d x) :
  LuP (((w.setCell ⟨b,i*3,none⟩ g).setCell ⟨b,i*3+1,none⟩ s).setCell ⟨b,i*3+2,none⟩ d) H q n lb lc ll ub uc ul pb pc { F with lo:=F.lo.set k (r.set i x) }:=by
 obtain⟨cs,a⟩:=(h.lo.each k _ _ e f).ratBlk;have p:TKeep 62 w (w.setCell ⟨b,i*3,none⟩ g):=TKeep.set a _;have j:=zar (o:=i*3) g a;have k2:TKeep 62 (w.setCell ⟨b,i*3,none⟩ g) ((w.setCell ⟨b,i*3,none⟩ g).setCell ⟨b,i*3+1,none⟩ s):=TKeep.set j _;have u:=zar (o:=i*3+1) s j;have k3:TKeep 62 ((w.setCell ⟨b,i*3,none⟩ g).setCell ⟨b,i*3+1,none⟩ s) (((w.setCell ⟨b,i*3,none⟩ g).setCell ⟨b,i*3+1,none⟩ s).setCell ⟨b,i*3+2,none⟩ d):=TKeep.set u _;exact⟨k3.blk (k2.blk (p.blk h.blk δ) δ) δ,h.lo.put h.la e f i y,h.la,h.up.offRat a (λt z=>h.rows _ (Zj e) t z b rfl) i _ _ _,h.ua,h.rows,h.sep,((h.perm.tk p δ).tk k2 δ).tk k3 δ,h.own⟩
def putU(h:LuP w H q n lb lc ll ub uc ul pb pc F)(hk:k<F.up.length){B:Nat}(y:VecS w H (A,m,c) r)(hf:∀g,(Value.slice A m c).ownBlock=some g->B<=g)(u:∀a∈ll,∀g,a.ownBlock=some g->g<B)(z:∀a∈ul,∀g,a.ownBlock=some g->g<B) :
  LuP (w.setCell ⟨ub,k,none⟩ (A,m,c)) H q n lb lc ll ub uc (ul.set k (A,m,c)) pb pc { F with up:=F.up.set k r }:=by
 obtain⟨cs,o⟩:=h.up.blk;have p:TKeep 30 w (w.setCell ⟨ub,k,none⟩ (A,m,c)):=TKeep.set o _;have x:(Value.slice (some ⟨lb,0,none⟩) n lc).ownBlock≠some ub:=by intro e;exact h.sep (by injection e)
 refine⟨p.blk h.blk δ,h.lo.off o x _,h.la,h.up.store hk y,h.ua.set λg j b h1 f d s=>?_,λa i b t g h1 f=>?_,h.sep,h.perm.tk p δ,h.own⟩;have:=hf g h1;have:=z b (Zj d) g s;omega;rcases Vq t with d | d;exact h.rows a i b d g h1 f;subst d;have:=hf g f;have:=u a i g h1;omega
def ltL(h:LuP w H q n lb lc ll ub uc ul pb pc F):∀a∈ll,∀g,a.ownBlock=some g->g<w.heap.size:=λa b g hg=>(h.lo.lt b hg).2
def ltU(h:LuP w H q n lb lc ll ub uc ul pb pc F):∀a∈ul,∀g,a.ownBlock=some g->g<w.heap.size:=λa b g hg=>(h.up.lt b hg).2
end LuP
def LuQ (w:World) (H q n:Nat) (F:LUv):Prop:=∃lb lc ll ub uc ul pb pc,LuP w H q n lb lc ll ub uc ul pb pc F
def LuQ.toS{q:Nat}(h:LuQ w H q n F)(a:Sq n F):LuS w H q n F:=by obtain⟨lb,lc,ll,ub,uc,ul,pb,pc,h⟩:=h;exact⟨⟨_,lc,ll,_,uc,ul,_,pc,h.blk,h.lo,h.la,h.up,h.ua,h.rows,h.perm⟩,h.own,a⟩
def clr (F:LUv) (c t:Nat):LUv:={ F with lo:=(zaT c F.lo F.up t).1,up:=(zaT c F.lo F.up t).2 }
def zwC(F:LUv)(c t:Nat):clr F c (t+1)=({ clr F c t with lo:=(clr F c t).lo.set (c+1+t) (((clr F c t).lo.getD (c+1+t) []).set c (en (clr F c t).up (c+1+t) c/en (clr F c t).up c c)),up:=(clr F c t).up.set (c+1+t) (zly ((clr F c t).up.getD (c+1+t) []) (-(en (clr F c t).up (c+1+t) c/en (clr F c t).up c c)) ((clr F c t).up.getD c [])) }:LUv):=rfl
def zxH(s:Sq n F)(c k:Nat):F.step c k=clr (F.turn c k) c (n-(c+1)):=by unfold LUv.step clr;rw[s.ul]
def zC8(s:Sq n F)(hc:c<n)(t:Nat)(e:c+1+t<=n):Sq n (clr F c t):=by obtain⟨⟨h1,a,b,d⟩,_⟩:=zfU c n F.lo F.up s.ll s.lr s.ul s.ur hc t e;exact⟨h1,a,b,d,s.pl⟩
def zz5(s:Sq n F)(hc:c<n)(t:Nat)(a:c+1+t<n):(∀j,j<n->en (clr F c t).up (c+1+t) j=en F.up (c+1+t) j)/\∀j,j<n->en (clr F c t).up c j=en F.up c j:=by obtain⟨_,h,_⟩:=zfU c n F.lo F.up s.ll s.lr s.ul s.ur hc t ω;exact⟨λj hj=>by show en (zaT c F.lo F.up t).2 _ _=_;rw[h _ a _ hj,if_neg ω],λj hj=>by show en (zaT c F.lo F.up t).2 _ _=_;rw[h _ hc _ hj,if_neg ω]⟩
