/- Contracts and lemmas: Vec4 Vec5 Law1 Mat1. Conditions: as each says. -/
import Derived.Test.YtbpjabgfcbjjmaaGreatRat5Ye
import Derived.Test.YtbpjabgfcbjjmaaGreatLin0Ye
import Derived.Test.YtbpjabgfcbjjmaaGreatProb1Ye
import Derived.Laws.OwnMore
set_option linter.all false
set_option maxHeartbeats 4000000
set_option maxRecDepth 100000
namespace Go.Proofs.YtbpjabgfcbjjmaaGreat
open Go.RowKit Am Tryz
attribute [local go_sem ↓] Go.wp_at_zero Go.wp_at_succ
variable {ps:List (Int × Int)}{rs:List Rat}{k:Nat}{W w w':World}
abbrev I64 (x:Int):Prop := -9223372036854775808<=x/\x<=9223372036854775807
def zcs (w:World) (A:OA) (ps:List (Int × Int)):Prop:=∀(k:Nat) (x:Int × Int),ps[k]? = some x->I64 x.1/\I64 x.2/\∃b o,A=some ⟨b,o,none⟩/\χ w b (o+k*2) (.int .i64 x.1)/\χ w b (o+k*2+1) (.int .i64 x.2)
theorem zcs.below{A:OA}(h:zcs w A ps)(a:Below w w w'):zcs w' A ps:=by intro k x g;obtain⟨h1,c,b,o,d,e,f⟩:=h k x g;grind[zab]
def frs (ps:List (Int × Int)):List Rat:=ps.map λx=>fr x.1 x.2
theorem zw8{x:Int × Int}(h:ps[k]? = some x):frs (ps.take (k+1))=frs (ps.take k)++[fr x.1 x.2]:=by unfold frs;rw[Xb,h];simp
namespace Lw
theorem zA3(p d:Int)(c:d≠0)(j:I64 p)(i:I64 d)(w:World):Calls prog 44 #[.agg #[.int .i64 p,.int .i64 d]] w (ze4 w (fr p d)):=by
 have m:=un (zDB (p:=p) c);have B:(d == 0)=false:=by simpa using c
 refine μ3 j i c λg f l=>?_;clear j c i;obtain⟨W,b⟩:∃W,((w.alloc (.cells #[.int .i64 p,.int .i64 d] 109)).alloc (.cells #[false,(),()] 62))=W:=⟨_,rfl⟩
 refine μ3 (show θ W w.heap.size #[.int .i64 p,.int .i64 d] 109by rw[<-b];exact zak (zam σ)) (show θ W (w.heap.size+1) #[false,(),()] 62by rw[<-b];exact zam σ) (show Below w w W by rw[<-b];exact(zae w _).alloc σ _) λo q a=>?_;obtain⟨C,_,D,_⟩:=bc2 o.o;go_enter func44,ntmps44;go_wp2_with fail
 clear b;with_reducible refine(Rt.of p d l.o g.o.1 g.o.2 f.o.1 f.o.2 _).mono ?_
 rintro e w1 ⟨g3,A3,m3,c3,D3,md3,cd3,rfl,hn,hb⟩;refine μ4 (show θ (w1.alloc (.cells #[g3,(A3,m3,c3),(D3,md3,cd3)] 62)) (w.heap.size+1) #[false,(),()] 62from zak (zad hb q.o)) (show RatS (w1.alloc (.cells #[g3,(A3,m3,c3),(D3,md3,cd3)] 62)) g3 (A3,m3,c3) (D3,md3,cd3) (Rat.divInt p d)from(hn).alloc _) (show Below w w (w1.alloc (.cells #[g3,(A3,m3,c3),(D3,md3,cd3)] 62))from((a.o.trans ((hb).mono a.o.size))).alloc ((a.o.trans ((hb).mono a.o.size))).size _) (show θ (w1.alloc (.cells #[g3,(A3,m3,c3),(D3,md3,cd3)] 62)) w1.heap.size #[g3,(A3,m3,c3),(D3,md3,cd3)] 62from zam σ) λk n s A=>?_;obtain⟨x,t,F,_,y,r,E,_,u,z,G,_⟩:=bf3 k.o;obtain⟨H,_,I,_,J,_⟩:=bc3 A.o;clear hn hb;go_wp2;refine Zh (v:=.agg #[g3,(A3,m3,c3),(D3,md3,cd3)]) (by simp[results,results44,go_sem,x,t,y,r,u,z]) rfl ?_;rw[m.o];exact⟨g3,A3,m3,c3,D3,md3,cd3,rfl,n.o.set3 k.o δ _ _ _,bsc (bsc (bsc s.o))⟩
theorem one(p d:Int)(a:I64 p)(b:I64 d)(w:World):Calls prog 44 #[.agg #[.int .i64 p,.int .i64 d]] w (ze4 w (fr p d)):=by grind[zxr,zA3]
theorem make(A:OA)(n c:Nat)(ps:List (Int × Int))(w:World)(v:n=ps.length)(hf:zcs w A ps)(u:n<=1048576) :
  Calls prog 12 #[(A,n,c)] w (zq5 w (frs ps)):=by
 have q:=un v;have O:=un hf;have Y:n<=9223372036854775807:=ω;have H:=un u;clear v hf u;go_enter func12,ntmps12;go_wp2
 go_loopw [3,4] (λS i wr=>∃(k:Nat) (f:OA) (p c':Nat),i=.int .i64 k/\S=(f,p,c')/\k<=n/\VecS wr w (f,p,c') (frs (ps.take k))/\Below w w wr)
  (λ_ i _=>n-(intOf i).toNat)
 case atStart=>exact⟨0,none,0,0,rfl,rfl,Zb _,VecS.nil _ _,Zj _ _⟩
 obtain⟨k,f,p,c',rfl,rfl,hk,d,j⟩:=hrel;have L:=un d;have a:=un j;by_cases Q:k<n
 ·obtain⟨x,l⟩:∃x,ps[k]? = some x:=⟨ps[k]'(by rw[<-q.o];exact Q),Ze _⟩
  have J:=un l;obtain⟨U,V⟩:=x;obtain⟨y,t,b,o,rfl,h0,h1⟩:=(O.o.below a.o) k _ l;have I:=un y;have F:=un t;have W:(0:Int)<=(k:Int):=Zf _;have X:(k:Int)<(n:Int):=ω;clear j d l y t;simp only at h0 h1;go_wp2_with fail
  refine(one U V I.o F.o _).mono ?_;rintro e T ⟨g,A,m,c2,D,md,cd,rfl,hq,hb⟩;refine μ4 (show w.heap.size<=T.heap.size from Zl a.o.size hb.size) (a.o.trans (hb.mono a.o.size)) (L.o.below hb) hq λr C M K=>?_;clear hb hq;go_wp2_with (at_builtin;go_loud (refine zev rfl _ _ rfl rfl (M.o.alloc _) rfl (zal _ _ _) (K.o.alloc _) (by unfold frs;rw[ZK,ZG];have:=H.o;omega) (by have:=r.o;simp;omega) ?_;intro B Z P w3 z s R;have N:=un z;have E:=un s;clear z s))
  subst R;exact⟨⟨k+1,B,_,P,σ,rfl,ω,by rw[zw8 J.o];exact N.o,(C.o.alloc r.o _).trans E.o⟩,by simp[intOf];omega⟩
 obtain rfl:k=n:=ω;have G:=un d;clear j d;go_wp2;go_ret;refine⟨_,_,_,rfl,?_,a.o⟩;have h:=G.o;rw[q.o,XK]at h;exact h
end Lw
structure Bel (W w:World):Prop where
  b:Below W W w
theorem Bel.below(h:Bel W w)(a:Below w w w'):Bel W w':=⟨h.b.trans (a.mono h.b.size)⟩
theorem Bel.alloc{W w:World}(h:Bel W w)(o:Obj):Bel W (w.alloc o):=h.below (zae w o)
theorem Bel.drew{W w:World}(h:Bel W w):Bel W w.drew:=h.below (zap w 1)
theorem Bel.set3(h:Bel W w){b i j:Nat}(a:W.heap.size<=b)(u v x:Value):Bel W (((w.setCell ⟨b,i,none⟩ u).setCell ⟨b,j,none⟩ v).setCell ⟨b,k,none⟩ x):=⟨((h.b.setCell a u).setCell a v).setCell a x⟩
theorem zl9(n:Nat):(madeCells (Value.agg #[false,(),()]).cells (n*3)).toList=rcells (List.replicate n (false,.slice none 0 0,.slice none 0 0)):=by
 apply Xc;intro j;have d:(Value.agg #[false,(),()]).cells=#[.bool false,.slice none 0 0,.slice none 0 0]:=rfl;rw[d];by_cases hj:j<n*3;have h1:(madeCells #[false,(),()] (n*3)).toList[j]? = some ([Value.bool false,.slice none 0 0,.slice none 0 0][j%3]?.getD default):=by simp[madeCells,hj]
 have hk:(List.replicate n ((false,.slice none 0 0,.slice none 0 0):RV))[j/3]? = some (false,.slice none 0 0,.slice none 0 0):=by rw[Z8,if_pos ω]
 obtain⟨a,b,c⟩:=ziI _ _ _ hk;rw[h1];grind;rw[Xe (by simp[madeCells];omega),Xe (by rw[zcC];simp;omega)]
theorem zdv{ops:Array Oper}{rest:List Oper}{o:Oper}{a:Act}{Q:Exit->Act->World->Prop}
  (hg:o.guard=none) (l c:Operand) (m:o.op=Op.makeSlice 30 l c) (n:Nat) (L:Int) (j:a.eval l=.int .i64 L) (hc:a.eval c=.int .i64 L) (g:L=(n:Int)) (v:n<=1048576) (H:Nat) (e:w.heap.size=H)
  (f:∀w1,VecS w1 w (H,n,n) (List.replicate n 0)->Below w w w1->wpList prog ops Q rest (a.put o.dst (H,n,n)) w1):wpList prog ops Q (o::rest) a w:=by
 obtain⟨u,hi,p,s,t⟩:=info_parts ze0;subst e;subst g;refine wpList_make_full w hg l c 30 m w.heap.size 62 u _ 3 underlying30 hi p s .i64 .i64 n n n j hc rfl rfl (by rw[t];omega) (by unfold maxLen;omega) (Za _) ?_;intro w1 d i;rw[zl9]at d;refine f w1 ⟨List.replicate n (false,.slice none 0 0,.slice none 0 0),σ,?_,by rw[ZO];exact d⟩ ((Zj _ _).grown i (Za _) (λk hk=>by cases hk));simp_all[Z8,if_pos,RatS.zero]
def mix (rs:List Rat) (k:Nat):List Rat:=rs.take k++List.replicate (rs.length-k) 0
theorem zhW(rs:List Rat):mix rs 0=List.replicate rs.length 0:=by simp[mix]
theorem zlc(rs:List Rat):mix rs rs.length=rs:=by simp[mix]
theorem zhV{q:Rat}(h:rs[k]? = some q):(mix rs k).set k q=mix rs (k+1):=by have hk:=(ZF.1 h).1;unfold mix;rw[Yo,if_neg (by rw[ZG];omega),Xb,h,ZG,Xx (Xi hk),Xq,show rs.length-k=(rs.length-(k+1))+1 by omega,Ys];simp
theorem zld(h:k<rs.length):(mix rs k)[k]? = some 0:=by unfold mix;rw[ZJ (by rw[ZG];omega),ZG,Xx (Xi h),Xq,Z8,if_pos ω]
namespace Vc
theorem addTimesS(S:Nat)(hS:12*S+8<=LIM)(A:OA)(n c:Nat)(xs:List Rat)(g:Bool)(R:OA)(m p:Nat)(D:OA)(t o:Nat)(r:Rat)(B:OA)(f c':Nat)(ys:List Rat)(H H':Nat)(w:World)(hx:VecS w H (A,n,c) xs)(hr:RatS w g (R,m,p) (D,t,o) r)(hy:VecS w H' (B,f,c') ys)
  (hl:xs.length=ys.length) (d:n<=1048576) (zx:∀q∈xs,mw q<=S) (zr:mw r<=S) (zy:∀q∈ys,mw q<=S) :
  Calls prog 125 #[(A,n,c),.agg #[g,(R,m,p),(D,t,o)],(B,f,c')] w (zcd w (zly xs r ys) true):=by
 have l:=hx.len;have aQ:=hy.len;have en:f=n:=ω;subst en;refine μ7 l hl d zx zr zy hS λu y ay ZX ZR ZY af=>?_;have bp:f<=9223372036854775807:=ω;clear l aQ hl d zx zr zy hS;obtain⟨W,s⟩:∃W,(w.alloc (.cells #[g,(R,m,p),(D,t,o)] 62))=W:=⟨_,rfl⟩
 refine μ6 (show θ W w.heap.size #[g,(R,m,p),(D,t,o)] 62by rw[<-s];exact zam σ) (show Below w w W by rw[<-s];exact zae w _) (show w.heap.size+1<=W.heap.size by rw[<-s];simp) (show VecS W H (A,f,c) xs by rw[<-s];exact(hx).alloc _) (show VecS W H' (B,f,c') ys by rw[<-s];exact(hy).alloc _) (show RatS W g (R,m,p) (D,t,o) r by rw[<-s];exact(hr).alloc _) λaK X HZ HA HB HR=>?_;clear hx hr hy;go_enter func125,ntmps125;go_wp2_with (at_make;go_must (refine zdv rfl _ _ rfl f _ rfl rfl rfl ay.o W.heap.size rfl ?_;intro w1 ho ak))
 clear s;have HO:=un ho;have ax:=un ak;clear ho ak;go_wp2
 go_loopw [20] (λi wr=>∃k:Nat,i=.int .i64 k/\k<=f/\VecS wr W.heap.size (.slice (some ⟨W.heap.size,0,none⟩) f f) (mix (zly xs r ys) k)/\Below W.heap.size W wr)
  (λi _=>f-(intOf i).toNat)
 case atStart=>exact⟨0,rfl,Zb _,by rw[zhW,zdt y.o,<-u.o];exact HO.o,ax.o⟩
 obtain⟨k,rfl,hk,P,j⟩:=hrel;by_cases Z:k<f
 ·obtain⟨a,O⟩:∃a,xs[k]? = some a:=⟨xs[k]'(by rw[<-u.o];exact Z),Ze _⟩
  obtain⟨b,d⟩:∃b,ys[k]? = some b:=⟨ys[k]'(by rw[<-y.o,<-u.o];exact Z),Ze _⟩
  obtain⟨x,rfl,bj,bk⟩:=HA.o.has ω;obtain⟨by_,rfl,bl,bm⟩:=HB.o.has ω;obtain⟨M,C,Q,I,F,U,K,k0,k1,k2,ai⟩:=(HA.o.below j).at_ O;obtain⟨N,E,T,J,G,V,L,l0,l1,l2,aj⟩:=(HB.o.below j).at_ d;refine μ6 (zad j aK.o) (HR.o.below j) (ai) (aj) (P) (Bel.mk j) λau bb aF aG Y HW=>?_;obtain⟨bA,_,bB,_,bE,_⟩:=bc3 au.o;have aY:=k0;have aS:=zaa aY;have aZ:=k1;have aT:=zaa aZ;have a2:=k2;have aU:=zaa a2;have a3:=l0;have aV:=zaa a3;have a7:=l1;have aW:=zaa a7;have a8:=l2;have aX:=zaa a8;refine μ3 (zmR (r:=r) O d) (ZX.o a (Zz O)) (ZY.o b (Zz d)) λaA ZA ZB=>?_;have bn:(0:Int)<=(k:Int):=Zf _;have bo:(k:Int)<(f:Int):=ω;refine μ3 (show 4*(mw r+mw b)+8<=LIM by have:=ZR.o;have:=ZB.o;have:=af.o;omega) (show 4*(mw a+mw (r*b))+8<=LIM by have:=ZR.o;have:=ZB.o;have:=ZA.o;have:=zdI r b;have:=af.o;omega) (zld (k:=k) (rs:=zly xs r ys) (by rw[zdt y.o,<-u.o];exact Z)) λL1 L2 aC=>?_;clear P j O d k0 k1 k2 l0 l1 l2 ai aj;have bq:=HZ.o;go_wp2_with fail
  go_region_held3 (λw'=>χ w' w 0 (.bool g)/\χ w' w 1 (R,m,p)/\χ w' w 2 (D,t,o)/\χ w' x (k*3) (.bool M)/\χ w' x (k*3+1) (C,Q,I)/\χ w' x (k*3+2) (F,U,K)/\χ w' by_ (k*3) (.bool N)/\χ w' by_ (k*3+1) (E,T,J)/\χ w' by_ (k*3+2) (G,V,L))
   (((try go_split_ands);(try simp only[Xp]);(repeat' apply And.intro)<;>(repeat(first | with_reducible assumption | with_reducible refine cell_set ω ?_ | with_reducible refine cell_al ?_))))
   (first
    | (go_at_call 29;(with_reducible refine(Rt.mul g R m p D t o r N E T J G V L b _ bb.o.drew aG.o.drew L1.o).mono ?_);rintro e u1 ⟨g1,A1,m1,c1,D1,md1,cd1,rfl,l,d⟩;refine μ5 (zad d au.o) (aF.o.drew.below d) (Y.o.drew.below d) (HW.o.drew.below d) (l) λar bf bd bc HM=>?_;obtain⟨bC,_,bD,_,bI,_⟩:=bc3 ar.o;have a1:=zab d aS;have a4:=zab d aT;have a5:=zab d aU;have a6:=zab d aV;have a9:=zab d aW;have ba:=zab d aX;clear l d)
    | (go_at_call 28;(with_reducible refine(Rt.add M C Q I F U K a g1 A1 m1 c1 D1 md1 cd1 (r*b) _ bf.o HM.o L2.o).mono ?_);rintro e u2 ⟨g2,A2,m2,c2,D2,md2,cd2,rfl,l,d⟩;refine μ4 (zad d ar.o) (bd.o.below d) (bc.o.below d) (l) λa0 z be HS=>?_;obtain⟨bG,_,bH,_,bO,_⟩:=bc3 a0.o;have bF:=zab d a1;have bJ:=zab d a4;have bL:=zab d a5;have bK:=zab d a6;have bM:=zab d a9;have bN:=zab d ba;have pp:=z.o.at_ aC.o;obtain⟨go,Ao,mo,co,Do,br,bi,o0,o1,o2,_⟩:=pp;have bw:=z.o.fro (k*3);have of1:=z.o.fro (k*3+1);have bz:=z.o.fro (k*3+2);clear l d)
    | fail)
  go_wp2;go_roundw
  case rel=>exact⟨k+1,by go_num,ω,by rw[<-zhV aA.o];exact VecS.store z.o k HS.o,(Bel.set3 be.o (Za _) _ _ _).b⟩
  case measure=>simp[intOf];omega
 obtain rfl:k=f:=ω;have Y:=un P;have HF:=un j;clear P j;go_wp2;refine Zh (v:=.tuple #[.slice (some ⟨W.heap.size,0,none⟩) k k,true]) (by simp[results,results125,go_sem]) rfl ?_;refine⟨_,_,_,rfl,?_,X.o.trans (HF.o.mono X.o.size)⟩;have h:=Y.o;rw[show k=(zly xs r ys).length by rw[zdt y.o,<-u.o],zlc]at h;rw[<-show k=(zly xs r ys).length by rw[zdt y.o,<-u.o]]at h;exact h.base X.o.size
end Vc
end Go.Proofs.YtbpjabgfcbjjmaaGreat
namespace Go.Proofs.YtbpjabgfcbjjmaaGreat
open Go.RowKit Am
variable {cs:Array Value}{g:Bool}{ps:List PRow}{l:List RR}{r:List Rat}{xs:List Value}{H b c k n:Nat}{A:OA}{t:TypeId}{d e f s v:Value}{w w':World}
theorem zC6(c:θ w b #[d,e,f] t):∀j u,[d,e,f][j]? = some u->w.cell? ((⟨b,0,none⟩:Addr).add j)=some u:=by
 intro j u a
 match j,a with
 | 0,a=>exact(zac c 0).trans a
 | 1,a=>exact(zac c 1).trans a
 | 2,a=>exact(zac c 2).trans a
 | j+3,a=>simp at a
theorem zMe{g i:Value}(c:θ w b #[d,e,f,g,i] t):∀j u,[d,e,f,g,i][j]? = some u->w.cell? ((⟨b,0,none⟩:Addr).add j)=some u:=by
 intro j u a
 match j,a with
 | 0,a=>exact(zac c 0).trans a
 | 1,a=>exact(zac c 1).trans a
 | 2,a=>exact(zac c 2).trans a
 | 3,a=>exact(zac c 3).trans a
 | 4,a=>exact(zac c 4).trans a
 | j+5,a=>simp at a
structure RowsL (w:World) (H:Nat) (v:Value) (l:List RR) (ps:List PRow):Prop where
  len:l.length=ps.length
  each:∀(k:Nat) (r:RR) (p:PRow),l[k]? = some r->ps[k]? = some p->RowS w r p
  own:w.ownsRow H 101 5 v ps.length (zcW l)
theorem RowsL.toS(h:RowsL w H v l ps):RowsS w H v ps:=⟨l,h.len,h.each,h.own⟩
theorem RowsL.below{w w':World}{H:Nat}{v:Value}{l:List RR}{ps:List PRow}(h:RowsL w H v l ps)(a:Below w w w'):RowsL w' H v l ps :=
 ⟨h.len,λk r p h1 b=>(h.each k r p h1 b).below a,zc9 h.own λk hk=>a.block k (h.own.lt k hk).2⟩
theorem RowsL.alloc{w:World}{H:Nat}{v:Value}{l:List RR}{ps:List PRow}(h:RowsL w H v l ps)(o:Obj):RowsL (w.alloc o) H v l ps:=h.below (zae w o)
theorem RowsL.drew{w:World}{H:Nat}{v:Value}{l:List RR}{ps:List PRow}(h:RowsL w H v l ps):RowsL w.drew H v l ps:=h.below (zap w 1)
def zij (w w':World):Prop:=∀k,k<w.heap.size->(∀cs,w.heap[k]? ≠ some (.cells cs 101 (0,0)))->w'.heap[k]? = w.heap[k]?
theorem zas.keepR(h:zas w s n)(hk:zij w w'):zas w' s n:=by obtain⟨xs,a,c⟩:=h;refine⟨xs,a.keep λk b=>hk k (a.block b) λcs e=>?_,c⟩;exact za6 a.1 e δ b
theorem RatS.keepR{w w':World}{g:Bool}{s d:Value}{q:Rat}(h:RatS w g s d q)(hk:zij w w'):RatS w' g s d q:=⟨⟨h.num.abs.keepR hk,h.num.neg⟩,h.den.keepR hk⟩
theorem VecS.keepR{w w':World}{H:Nat}{v:Value}{qs:List Rat}(h:VecS w H v qs)(hk:zij w w'):VecS w' H v qs:=by obtain⟨l,_,_,b⟩:=h.row;exact h.keepAll (λk a=>hk k (h.lt a).2 λcs e=>za6 b e δ a) λ_ _ _ _ r=>r.keepR hk
theorem RowS.keepR{w w':World}{r:RR}{p:PRow}(h:RowS w r p)(hk:zij w w'):RowS w' r p:=⟨h.coef.keepR hk,h.kind,h.rhs.keepR hk⟩
theorem zKw(h:w.ownsRow H 101 5 v n xs)(hg:w.grownBy w' v.ownBlock):zij w w':=by
 intro k hk c;refine hg.block k hk λe=>?_;rcases h.2 with ⟨a,_⟩ | ⟨g,cap,cur,a,_,b,_⟩
 rw[a]at e;cases e;rw[a]at e;injection e with e;grind
theorem RowsL.coefLt(h:RowsL w H v l ps)(i:Nat)(a:RR)(b:Nat)(hi:l[i]? = some a)(d:a.c.ownBlock=some b):b<w.heap.size:=by
 have e:=(ZF.1 hi).1;obtain⟨p,f⟩:∃p,ps[i]? = some p:=⟨ps[i]'(by rw[<-h.len];exact e),Ze _⟩
 exact((h.each i a p hi f).coef.lt d).2
theorem RowsL.nil(w:World)(H:Nat):RowsL w H () [] []:=⟨rfl,λk r p h=>by simp at h,Xo _ _ _ _⟩
theorem RowsL.slice{w:World}{H:Nat}{v:Value}{l:List RR}{ps:List PRow}(h:RowsL w H v l ps):∃A c,v=.slice A ps.length c:=by
 rcases h.own.2 with ⟨a,b⟩ | ⟨g,cap,cur,a,_⟩
 exact⟨_,_,by rw[a,b]⟩;grind
theorem zKn{ops:Array Oper}{o:Oper}{a:Act}{K:Act->World->Prop}{Q:Exit->Act->World->Prop}{E:Prop}(hg:o.guard=none)(s x:Operand)
  (M:o.op=.call { callee:=.builtin .append,args:=#[s,x],argTypes:=#[31,31] })     (O:a.eval s=v) (d:RowsL w H v l ps)  (P:a.eval x=.slice (some ⟨b,0,none⟩) 1 1)
  {C:OA} {nc cc:Nat} {kd:Int}   {m:Nat} {D:OA} {j i:Nat} {p:PRow} (I:θ w b #[(C,nc,cc),.int .i64 kd,g,(A,m,c),(D,j,i)] 101)
  (hr:RowS w ⟨.slice C nc cc,kd,g,.slice A m c,.slice D j i⟩ p)  (J:ps.length=n) (W:n+1<=1000000) (y:H<=w.heap.size)
  (G:∀q c' w',RowsL w' H (.slice q (n+1) c') (l++[⟨.slice C nc cc,kd,g,.slice A m c,.slice D j i⟩]) (ps++[p])->zij w w'->Below H w w'->K (a.put o.dst (.slice q (n+1) c')) w') :
  if Region.wanted o (yielded ops a.tmps)=true then Oper.wp Tryz.prog o a w K Q else E:=by
 have hw:Region.wanted o (yielded ops a.tmps)=true:=by simp[Region.wanted,hg]
 rw[if_pos hw];subst J;obtain⟨U,hi,R,S,T⟩:=info_parts zLy
 refine wp_append_own w s x 31 M H 101 U _ 5 88 Tryz.underlying31 hi R S T rfl δ v ps.length (zcW l) O d.own ⟨b,0,none⟩ 1 1 [.slice C nc cc,.int .i64 kd,.bool g,.slice A m c,.slice D j i] P rfl (zMe I)
  (by intro u F;simp at F;rcases F with rfl | rfl | rfl | rfl | rfl<;>rfl) (by unfold maxLen;omega) ω y ?_
 intro V w' N B _;have hk:=zKw d.own B;have z:RowsL w' H V (l++[⟨.slice C nc cc,kd,g,.slice A m c,.slice D j i⟩]) (ps++[p]):=by refine⟨by simp[d.len],?_,by rw[ZD,zKq];exact N⟩;intro k r p' h1 f;rcases XJ k l.length with h | h | h;rw[Z1 h]at h1;rw[Z1 (by rw[<-d.len];exact h)]at f;exact(d.each k r p' h1 f).keepR hk;subst h;rw[ZJ (Za _)]at h1;rw[ZJ (by rw[d.len];exact Za _)]at f;simp at h1;rw[d.len]at f;simp at f;subst h1 f;exact hr.keepR hk;grind
 obtain⟨q,c',e⟩:=z.slice;rw[ZD]at e;subst e;exact G q c' w' z hk ((Zj _ _).grown B y (λk hk=>(d.own.lt k hk).1))
structure LineV where
  coef:List (Int × Int)
  kind:Int
  rhs:Int × Int
def zex (w:World) (A:OA) (ls:List LineV):Prop:=∀(k:Nat) (x:LineV),ls[k]? = some x->x.coef.length<=1048576/\I64 x.rhs.1/\I64 x.rhs.2/\∃b o C cc,A=some ⟨b,o,none⟩/\zcs w C x.coef /\
  χ w b (o+k*4) (.slice C x.coef.length cc)/\χ w b (o+k*4+1) (.int .i64 x.kind)/\χ w b (o+k*4+2) (.int .i64 x.rhs.1)/\χ w b (o+k*4+3) (.int .i64 x.rhs.2)
theorem zex.below{w w':World}{A:OA}{ls:List LineV}(h:zex w A ls)(a:Below w w w'):zex w' A ls:=by intro k x n;obtain⟨h1,c,d,b,o,C,cc,e,f,g,i,j,m⟩:=h k x n;exact⟨h1,c,d,b,o,C,cc,e,f.below a,zab a g,zab a i,zab a j,zab a m⟩
theorem zex.alloc{w:World}{A:OA}{ls:List LineV}(h:zex w A ls)(o:Obj):zex (w.alloc o) A ls:=h.below (zae w o)
theorem zex.drew{w:World}{A:OA}{ls:List LineV}(h:zex w A ls):zex w.drew A ls:=h.below (zap w 1)
theorem zcs.alloc{w:World}{A:OA}{ps:List (Int × Int)}(h:zcs w A ps)(o:Obj):zcs (w.alloc o) A ps:=h.below (zae w o)
theorem zcs.drew{w:World}{A:OA}{ps:List (Int × Int)}(h:zcs w A ps):zcs w.drew A ps:=h.below (zap w 1)
def Apart (C:Value) (l:List RR):Prop:=(∀(i j:Nat) (ri rj:RR) (b:Nat),l[i]? = some ri->l[j]? = some rj->ri.c.ownBlock=some b->rj.c.ownBlock=some b->i=j)/\∀(i:Nat) (ri:RR) (b:Nat),l[i]? = some ri->ri.c.ownBlock=some b->C.ownBlock≠some b
theorem zLa(C:Value):Apart C []:=⟨λi j a c b h=>by simp at h,λi a b h=>by simp at h⟩
theorem zKz{C:Value}{r:RR}{N:Nat}(h:Apart C l)(n:∀(i:Nat) (a:RR) (b:Nat),l[i]? = some a->a.c.ownBlock=some b->b<N)(p:∀b,C.ownBlock=some b->b<N)(hr:∀b,r.c.ownBlock=some b->N<=b):Apart C (l++[r]):=by
 have g:∀(i:Nat) (a:RR),(l++[r])[i]? = some a->(i<l.length/\l[i]? = some a)\/(i=l.length/\a=r):=ψ;refine⟨λi j a k b hi hj d f=>?_,λi a b hi d hc=>?_⟩;rcases g i a hi with ⟨h1,e⟩ | ⟨h1,rfl⟩<;>rcases g j k hj with ⟨o,m⟩ | ⟨o,rfl⟩
 exact h.1 i j a k b e m d f;have:=n i a b e d;have:=hr b f;omega;have:=n j k b m f;have:=hr b d;omega;omega;rcases g i a hi with ⟨h1,e⟩ | ⟨h1,rfl⟩
 exact h.2 i a b e d hc;grind
theorem zrA:(Tryz.prog.info? 30).map (λi=>(i.zero,i.size,i.bytes))=some (some (.slice none 0 0),1,24):=ξ
def TKeep (t:TypeId) (w w':World):Prop:=∀k,k<w.heap.size->(∀cs,w.heap[k]? ≠ some (.cells cs t (0,0)))->w'.heap[k]? = w.heap[k]?
theorem TKeep.set{o:Nat}(a:θ w b cs t)(u:Value):TKeep t w (w.setCell ⟨b,o,none⟩ u):=λk _ c =>
 ZE _ _ _ _ ψ
theorem TKeep.grown{size:Nat}(h:w.ownsRow H t size v n xs)(hg:w.grownBy w' v.ownBlock):TKeep t w w':=by
 intro k hk c;refine hg.block k hk λe=>?_;rcases h.2 with ⟨a,_⟩ | ⟨g,cap,cur,a,_,b,_⟩
 rw[a]at e;cases e;rw[a]at e;injection e with e;grind
theorem TKeep.blk{c:TypeId}(h:TKeep t w w')(a:θ w b cs c)(d:c≠t):θ w' b cs c:=by rw[h b (ZS.1 a).1 λf e=>d (by rw[a]at e;grind)];exact a
section
variable {w w':World} {t:TypeId}
theorem zas.tk(h:zas w s n)(hk:TKeep t w w')(h1:206≠t):zas w' s n:=by obtain⟨xs,a,c⟩:=h;refine⟨xs,a.keep λk b=>hk k (a.block b) λcs e=>?_,c⟩;exact za6 a.1 e h1 b
theorem RatS.tk{g:Bool}{s d:Value}{q:Rat}(h:RatS w g s d q)(hk:TKeep t w w')(h1:206≠t):RatS w' g s d q:=⟨⟨h.num.abs.tk hk h1,h.num.neg⟩,h.den.tk hk h1⟩
theorem VecS.tk{H:Nat}{v:Value}{qs:List Rat}(h:VecS w H v qs)(hk:TKeep t w w')(h1:206≠t)(c:62≠t):VecS w' H v qs:=by obtain⟨l,_,_,b⟩:=h.row;exact h.keepAll (λk a=>hk k (h.lt a).2 λcs e=>za6 b e c a) λ_ _ _ _ r=>r.tk hk h1
end
theorem VecS.ratBlk{qs:List Rat}(h:VecS w H (b,n,c) qs):∃cs,θ w b cs 62:=by
 obtain⟨_,_,_,d⟩:=h.row;rcases d.2 with ⟨a,_⟩ | ⟨g,cap,cur,a,_,e,_⟩
 cases a;grind
structure VecsL (w:World) (H:Nat) (v:Value) (l:List Value) (L:List (List Rat)):Prop where
  len:l.length=L.length
  each:∀(k:Nat) (s:Value) (r:List Rat),l[k]? = some s->L[k]? = some r->VecS w H s r
  own:w.ownsRow H 30 1 v L.length l
def zbG (l:List Value):Prop:=∀(i j:Nat) (a b:Value) (g:Nat),l[i]? = some a->l[j]? = some b->a.ownBlock=some g->b.ownBlock=some g->i=j
namespace VecsL
variable {w w':World} {H:Nat} {v:Value} {l:List Value} {L:List (List Rat)}
theorem keepAll(h:VecsL w H v l L)(hk:∀k,v.ownBlock=some k->w'.heap[k]? = w.heap[k]?)(hr:∀s r,s∈l->VecS w H s r->VecS w' H s r):VecsL w' H v l L :=
 ⟨h.len,λk s r a b=>hr s r (Zz a) (h.each k s r a b),zc9 h.own hk⟩
theorem below(h:VecsL w H v l L)(a:Below w w w'):VecsL w' H v l L:=h.keepAll (λk hk=>a.block k (h.own.lt k hk).2) λ_ _ _ r=>r.below a
theorem alloc(h:VecsL w H v l L)(o:Obj):VecsL (w.alloc o) H v l L:=h.below (zae w o)
theorem drew(h:VecsL w H v l L):VecsL w.drew H v l L:=h.below (zap w 1)
theorem base{c:Nat}(h:VecsL w H v l L)(d:c<=H):VecsL w c v l L:=⟨h.len,λk s r a b=>(h.each k s r a b).base d,zbu h.own d⟩
theorem nil(w:World)(H:Nat):VecsL w H () [] []:=⟨rfl,λk s r h=>by simp at h,Xo _ _ _ _⟩
theorem tk{t:TypeId}(h:VecsL w H v l L)(hk:TKeep t w w')(h1:206≠t)(b:62≠t)(c:30≠t):VecsL w' H v l L :=
 h.keepAll (λk a=>hk k (h.own.lt k a).2 λcs e=>za6 h.own e c a) λ_ _ _ r=>r.tk hk h1 b
theorem form(h:VecsL w H (A,n,c) l L):n=L.length/\n<=c/\c<=maxLen/\((A=none/\c=0/\L=[])\/∃g,A=some ⟨g,0,none⟩/\H<=g/\g<w.heap.size):=by
 rcases h.own.2 with ⟨b,a⟩ | ⟨g,cap,cur,b,hg,d,a,hm,_⟩
 injection b with e1 e2 e3;subst e1 e2 e3;exact⟨a.symm,Za _,Zb _,.inl ⟨rfl,rfl,Xk.1 a⟩⟩;grind
theorem nlen(h:VecsL w H (A,n,c) l L):n=L.length:=h.form.1
theorem has(h:VecsL w H (A,n,c) l L)(e:0<n):∃g,A=some ⟨g,0,none⟩/\H<=g/\g<w.heap.size:=by obtain⟨h1,b,d,a | a⟩:=h.form;omega;exact a
theorem slice(h:VecsL w H v l L):∃A c,v=.slice A L.length c:=by
 rcases h.own.2 with ⟨a,b⟩ | ⟨g,cap,cur,a,_⟩
 exact⟨_,_,by rw[a,b]⟩;grind
theorem fro(h:VecsL w H (b,n,c) l L)(j:Nat):w.frozen? ⟨b,j,none⟩=false:=by have a:=h.nlen;subst a;exact h.own.frozenAt j
theorem get(h:VecsL w H v l L)(hk:L[k]? = some r):∃(A:OA) (c:Nat),l[k]? = some (A,r.length,c)/\VecS w H (A,r.length,c) r:=by
 have d:=(ZF.1 hk).1;obtain⟨s,b⟩:∃s,l[k]? = some s:=⟨l[k]'(by rw[h.len];exact d),Ze _⟩
 have a:=h.each k s r b hk;obtain⟨A,n,c,rfl⟩:=a.slice;obtain rfl:=a.len;grind
theorem at_(h:VecsL w H (b,n,c) l L)(hk:L[k]? = some r):∃(A:OA) (c:Nat),l[k]? = some (A,r.length,c)/\χ w b k (A,r.length,c)/\VecS w H (A,r.length,c) r:=by have d:=h.nlen;subst d;obtain⟨A,c',a,e⟩:=h.get hk;have f:=(ZF.1 hk).1;exact⟨A,c',a,by rw[h.own.cellAt _ ω];exact a,e⟩
theorem blk(h:VecsL w H (b,n,c) l L):∃cs,θ w b cs 30:=by
 rcases h.own.2 with ⟨a,_⟩ | ⟨g,cap,cur,a,_,d,_⟩
 cases a;grind
theorem store(h:VecsL w H (b,n,c) l L)(hk:k<L.length)(o:VecS w H s r):VecsL (w.setCell ⟨b,k,none⟩ s) H (b,n,c) (l.set k s) (L.set k r):=by
 have m:=h.nlen;subst m;obtain⟨cs,f⟩:∃cs,θ w b cs 30:=by
  rcases h.own.2 with ⟨d,_⟩ | ⟨g,cap,cur,d,_,j,_⟩
  cases d;grind
 have kp:TKeep 30 w (w.setCell ⟨b,k,none⟩ s):=TKeep.set f s;refine⟨by rw[ZQ,ZQ];exact h.len,λi p r' h1 a=>?_,?_⟩;by_cases e:k=i;subst e;rw[Yy (by rw[h.len];exact hk)]at h1;rw[Yy hk]at a;injection h1 with h1;injection a with a;subst h1 a;exact o.tk kp δ δ;rw[YF e]at h1 a;exact(h.each i p r' h1 a).tk kp δ δ;rw[ZQ];exact(h.own.stored _ _).1
theorem put(h:VecsL w H v l L)(z:zbG l)(o:l[k]? = some (b,n,c))(p:L[k]? = some r)(i:Nat){q:Rat}(C:RatS w g s d q) :
  VecsL (((w.setCell ⟨b,i*3,none⟩ (.bool g)).setCell ⟨b,i*3+1,none⟩ s).setCell ⟨b,i*3+2,none⟩ d) H v l (L.set k (r.set i q)):=by
 have f:=h.each k _ _ o p;have D:=f.store i C;obtain⟨cs,u⟩:∃cs,θ w b cs 62:=by
  obtain⟨_,_,_,y⟩:=f.row;rcases y.2 with ⟨f,_⟩ | ⟨g,cap,cur,f,_,A,_⟩
  cases f;grind
 have m:∀j,j≠b->(((w.setCell ⟨b,i*3,none⟩ (.bool g)).setCell ⟨b,i*3+1,none⟩ s).setCell ⟨b,i*3+2,none⟩ d).heap[j]? = w.heap[j]?:=λj hj=>by rw[ZE _ _ _ _ (by exact hj),ZE _ _ _ _ (by exact hj),ZE _ _ _ _ (by exact hj)]
 refine⟨by rw[ZQ];exact h.len,λj E r' h1 a=>?_,by rw[ZQ];exact zc9 h.own λj hj=>m j λe=>za6 h.own (e▸u) δ (e▸hj)⟩;by_cases e:k=j;grind;rw[YF e]at a;exact(h.each j E r' h1 a).keepAll (λg hg=>m g λx=>e (z k j _ _ b o h1 rfl (by rw[hg,x]))) λ_ _ _ _ r=>r.keepT λj hj B=>m j λe=>B _ (e▸u)
end VecsL
theorem zbG.set{l:List Value}(h:zbG l){k:Nat}{s:Value}(f:∀(g:Nat) (j:Nat) (b:Value),s.ownBlock=some g->j≠k->l[j]? = some b->b.ownBlock≠some g):zbG (l.set k s):=by
 intro i j a b g h1 c d e;rw[XA]at h1 c;split at h1<;>split at c
 omega;grind;rename_i e1 e2;split at c
 injection c with c;subst c;exact absurd d (f g i a e (Z4 e1) h1);cases c;exact h i j a b g h1 c d e
theorem zbG.push{l:List Value}(h:zbG l)(f:∀(g:Nat) (b:Value),s.ownBlock=some g->b∈l->b.ownBlock≠some g):zbG (l++[s]):=by
 intro i j a b g h1 c d e;rw[List.getElem?_append]at h1 c;split at h1<;>split at c
 exact h i j a b g h1 c d e;rename_i e1 e2;rw[List.getElem?_singleton]at c;split at c
 injection c with c;subst c;exact absurd d (f g a e (Zz h1));cases c;rename_i e1 e2;rw[List.getElem?_singleton]at h1;split at h1
 injection h1 with h1;subst h1;exact absurd e (f g b d (Zz c));cases h1;grind
theorem VecsL.lt{w:World}{H:Nat}{v:Value}{l:List Value}{L:List (List Rat)}(h:VecsL w H v l L){s:Value}(a:s∈l){g:Nat}(hg:s.ownBlock=some g):H<=g/\g<w.heap.size:=by obtain⟨k,hk,rfl⟩:=YI a;exact(h.each k _ (L[k]'(by rw[<-h.len];exact hk)) (Ze hk) (Ze _)).lt hg
theorem zbG.nil:zbG []:=λi j a b g h=>by simp at h
