/- Contracts and lemmas: Zd Zp Zk Zs. Conditions: as each says. -/
import Derived.Test.YtbpjabgfcbjjmaaGreatTbzYe
import Derived.Deep.CutBlock
set_option linter.all false
set_option maxHeartbeats 4000000
set_option maxRecDepth 100000
namespace Go.Proofs.YtbpjabgfcbjjmaaGreat
open Go.RowKit Am Go.Proofs.Tryz
open Dz (ez y1p y1C y1O y2h y1U y2u)
attribute [local go_sem ↓] Go.wp_at_zero Go.wp_at_succ
variable {B row ys:List Int}{p rs:List Nat}{H N b c i k n r:Nat}{w:World}
def zN (l:List Nat):List Int:=l.map fun(x:Nat)=>(x:Int)
theorem y1y(l:List Nat):(zN l).length=l.length:=by simp[zN]
theorem y49{l:List Nat}{x:Nat}(h:l[k]? = some x):(zN l)[k]? = some (x:Int):=by simp[zN,h]
def y5c (w:World) (M:List (List Int)) (e:Ending) (w':World):Prop:=∃(A':OA) (c':Nat) (l:List Value),e=.returned (A',M.length,c')/\TabZ w' w.heap.size (A',M.length,c') l M/\Below w w w'
theorem y4b{A:List (List Int)}{cols:List Nat}(h:rs[i]? = some r):y1p A (rs.take (i+1)) cols=y1p A (rs.take i) cols++[cols.map λc=>ez A r c]:=by unfold y1p;rw[Xb,h,Ye];rfl
theorem map_take{α β:Type}{f:α->β}{l:List α}{r:α}(h:l[i]? = some r):(l.take (i+1)).map f=(l.take i).map f++[f r]:=by rw[Xb,h,Ye];rfl
theorem y5R{A:List (List Int)}(h:A[r]? = some row)(hc:c<row.length):row[c]? = some (ez A r c):=by unfold ez;rw[Zg (l:=A),h];exact zaO hc
theorem IntsZ.newsTake(h:IntsZ w H (b,n,c) ys){hi:Nat}(a:hi<=n)(cc:Nat):News w 1 (b,hi,cc) hi (zcells (ys.take hi)):=by
 rcases h.newsCut 0 hi (Zb _) a with ⟨e,_⟩ | ⟨i,c',e,d,f,g⟩
 cases e;injection e with e1 e2 e3;injection e1 with e1;subst e1;exact .inr ⟨_,cc,rfl,d,f,g⟩
theorem IntsZ.newsDrop(h:IntsZ w H (b,n,c) ys){lo:Nat}(k:lo<=n)(a:n<=c)(cc:Nat):News w 1 (.slice (some ⟨b,if c=lo then 0 else lo,none⟩) (n-lo) cc) (n-lo) (zcells (ys.drop lo)):=by
 by_cases e:c=lo;have l:=h.len;have i:ys.drop lo=[]:=XG ω;rw[i];exact .inr ⟨_,cc,rfl,by simp[zcells];omega,λj x d=>by simp[zcells]at d,λx d=>by simp[zcells]at d⟩;rw[if_neg e];rcases h.newsCut lo n k (Za _)with ⟨e,_⟩ | ⟨m,c',e,a,f,g⟩
 cases e;injection e with e1 e2 e3;injection e1 with e1;subst e1;have l:=h.len;rw[ZZ ω]at a f g;exact .inr ⟨_,cc,rfl,a,f,g⟩
theorem y3O(W:World)(g n c k:Nat)(h1:k+1<=n) :
  (Instr.slice 41 (g,n,c) (some (.int .i64 ((k:Int)+1))) none none).run prog W=.ok (.slice (some ⟨g,if c=k+1 then 0 else k+1,none⟩) (n-(k+1)) (c-(k+1))) W:=by
 have d:prog.underlying 41=some (.slice (prog.elem 41)):=by rfl
 have a:prog.elem 41=3:=by rfl
 have b:(Go.sizeOf 3).run prog W=.ok 1 W:=by simp[go_sem]
 have hk:((k:Int)+1).toNat=k+1:=ω;rw[run_slice_l W 41 _ _ _ d .i64 _ ω ω,a,b,hk];by_cases h0:c=k+1;simp[Result.andThen,sliced,h0];simp[Result.andThen,sliced,Addr.add,h0]
theorem behind(g n c k:Nat)(h1:k+1<=n)(a:n<=c):∃off:Nat,(∀W:World,(Instr.slice 41 (g,n,c) (some (.int .i64 ((k:Int)+1))) none none).run prog W=.ok (.slice (some ⟨g,off,none⟩) (n-(k+1)) (c-(k+1))) W) /\
  ∀(w:World) (H:Nat) (ys:List Int),IntsZ w H (g,n,c) ys->News w 1 (.slice (some ⟨g,off,none⟩) (n-(k+1)) (c-(k+1))) (n-(k+1)) (zcells (ys.drop (k+1))) :=
 ⟨_,λW=>y3O W g n c k h1,λ_ _ _ h=>h.newsDrop h1 a _⟩
theorem y5d{M:List (List Int)}(h:y1U 9 M)(a:n<=3):(y1C n M).natAbs<=4374/\∀c,(y1O n M c).natAbs<=39366:=by
 constructor;refine Zl (Dz.detZ_abs h) ?_;rcases(show n=0\/n=1\/n=2\/n=3 by omega)with rfl | rfl | rfl | rfl<;>decide
 intro c;refine Zl (Dz.detAt_abs h c) ?_;rcases(show n=0\/n=1\/n=2\/n=3 by omega)with rfl | rfl | rfl | rfl<;>decide
theorem y3N{M:List (List Int)}(h:M[k+1]? = some row):(M.tail.take (k+1)).map (y2h c)=(M.tail.take k).map (y2h c)++[y2h c row]:=map_take (by rw[List.getElem?_tail];exact h)
namespace Zr
theorem y5U(aA:OA)(nA cA:Nat)(lA:List Value)(A:List (List Int))(L:OA)(a N:Nat)(rs:List Nat)(aC:OA)(nC cC:Nat)(cols:List Nat)(w:World)(P:TabZ w 0 (aA,nA,cA) lA A)(D:IntsZ w 0 (L,a,N) (zN rs))(B:IntsZ w 0 (aC,nC,cC) (zN cols))
  (h1:∀r∈rs,r<A.length/\∀c∈cols,c<(A.getD r []).length) (y:a<=1000) (h3:nC<=1000):Calls prog 78 #[(aA,nA,cA),(L,a,N),(aC,nC,cC)] w (y5c w (y1p A rs cols)):=by
 refine μ6 P D B h1 (show a=rs.length by rw[D.len,y1y]) (show nC=cols.length by rw[B.len,y1y]) λY HR HC W x v=>?_;clear P D B h1;go_enter func78,ntmps78;go_wp2_with fail
 go_loopw [7,8] (λov E wr=>∃(i:Nat) (O:OA) (cO:Nat) (l:List Value),E=.int .i64 i/\ov=(O,i,cO)/\i<=a/\TabZ wr w.heap.size (O,i,cO) l (y1p A (rs.take i) cols)/\Below w w wr)
  (λ_ E _=>a-(intOf E).toNat)
 case atStart=>exact⟨0,none,0,[],rfl,rfl,Zb _,TabZ.nil _ _,Zj _ _⟩
 obtain⟨i,O,cO,l,rfl,rfl,hi,n,e⟩:=hrel;have I:=un n;have s:=un e;by_cases ax:i<a
 ·obtain⟨r,hr⟩:∃r,rs[i]? = some r:=⟨rs[i]'(by rw[<-x.o];exact ax),Ze _⟩
  have aE:=un hr;have aj:=un (y4b (A:=A) (cols:=cols) hr);have o:=W.o r (Zz hr);obtain⟨row,p⟩:∃row,A[r]? = some row:=⟨A[r]'(o.1),Ze _⟩
  refine μ5 p (show ∀c∈cols,c<row.length by have h:=o.2;rw[Zg,p]at h;exact h) (Y.o.below e) (HR.o.below e) (HC.o.below e) λal ab m J G=>?_;obtain⟨bR,rfl,_,aJ⟩:=J.o.has ω;obtain⟨bA,rfl,_,aH⟩:=m.o.has (by rw[m.o.nlen];omega);have aS:r<nA:=by rw[m.o.nlen];exact o.1
  have aT:(r:Int)<(nA:Int):=ω;have aQ:(0:Int)<=(r:Int):=Zf _;have ai:=un n.nlen;have aN:(i:Int)<(a:Int):=ω;have aM:(0:Int)<=(i:Int):=Zf _;have R:=J.o.at_ (y49 hr);obtain⟨aX,cx,av,T,Q⟩:=m.o.at_ p;have H:=un Q;clear n e hr p o av Q;go_wp2_with fail
  go_loopw [9,10] (λxv F q=>∃(j:Nat) (X:OA) (cX:Nat),F=.int .i64 j/\xv=(X,j,cX)/\j<=nC/\IntsZ q wr.heap.size (X,j,cX) ((cols.take j).map λc=>ez A r c)/\Below wr.heap.size wr q)
   (λ_ F _=>nC-(intOf F).toNat)
  case atStart=>exact⟨0,none,0,rfl,rfl,Zb _,IntsZ.nil _ _,Zj _ _⟩
  rename World=>q
  obtain⟨j,X,cX,rfl,rfl,hj,k,b⟩:=hrel;have HX:=un k;have t:=un b;by_cases aw:j<nC
  ·obtain⟨c,hc⟩:∃c,cols[j]? = some c:=⟨cols[j]'(by rw[<-v.o];exact aw),Ze _⟩
   have au:=ab.o c (Zz hc);have ag:=un (map_take (f:=λc=>ez A r c) hc);obtain⟨M,rfl,_,_⟩:=H.o.has ω;obtain⟨bC,rfl,_,aI⟩:=G.o.has ω;have U:=G.o.at_ (y49 hc);have V:=H.o.at_ (y5R al.o au);have aL:(c:Int)<(row.length:Int):=ω;have aK:(0:Int)<=(c:Int):=Zf _;have aP:(j:Int)<(nC:Int):=ω;have aO:(0:Int)<=(j:Int):=Zf _;have ao:=un k.len;generalize ez A r c=z at *
   clear k hc;go_upto_region 9 with fail
   have y0:=zab b R;have aW:=zaa y0;have y1:=zab b T;have aZ:=zaa y1;have y2:=zab b U;have a1:=zaa y2;have y3:=zab b V;have a3:=zaa y3;refine zaS (S:=λw'=>χ w' bR i (.int .i64 (r:Int))/\χ w' bA r (.slice (some ⟨M,0,none⟩) row.length cx)/\χ w' bC j (.int .i64 (c:Int))/\χ w' M c (.int .i64 z)) [16] (h:=λhHeld=>?_);refine zaw [0,1,2,3,4,5,6,7,8,9,10,11,12,13] ?_;repeat refine tkL (hS:=hHeld) (h:=?_)
   refine zao ?_;refine zaB 14 (h:=λK d=>?_);go_simp;refine shutOn d λhHeld=>?_;clear d K;refine zaB 15 (h:=λK d=>?_);(refine wps rfl (λK C=>y1n _ _ rfl rfl (HX.o.drew.alloc _) rfl (ys:=[z]) (y19 (zal _ _ _) rfl) (by rw[<-ao.o]) ω (by have:=t.o.size;simp;omega) K C) ?_;rintro _ w6 ⟨X6,c6,rfl,hI6,hk6,hb6,hf6,ho6⟩;have ac:=un hI6;have g:=un ((bdrew (Xh t.o t.o.size _)).trans hb6);have aY:=zab g.o R;have a0:=zab g.o T;have a2:=zab g.o U;have a4:=zab g.o V;clear hI6 hk6 hb6 hf6 ho6);refine shutOn d λhHeld=>?_;clear d K;refine zay 16 (h:=λK d=>?_);go_simp;refine shutOff d ?_;clear d K;refine zaM (h:=?_);go_wp2;go_roundw
   case rel=>exact⟨j+1,X6,c6,by go_num,rfl,ω,by rw[ag.o];exact ac.o,g.o⟩
   case measure=>simp[intOf];omega
  obtain rfl:nC=j:=ω;refine μ3 (show IntsZ q 0 (X,nC,cX) (cols.map λc=>ez A r c)by have h:=k.base (Zb _);rw[v.o,XK]at h;rw[v.o];exact h) (I.o.below b) (s.o.trans (b.mono s.o.size)) λan ah u=>?_;clear k b;go_wp2_with (at_builtin;go_loud (refine wpl rfl (λK C=>y1Q _ _ rfl rfl (ah.o.alloc _) rfl (zal _ _ _) (an.o.alloc _) (by rw[<-ai.o]) ω (by have:=u.o.size;simp;omega) K C) ?_;rintro _ w7 ⟨A7,c7,rfl,hI7,hk7,hb7,hf7,ho7⟩;have ad:=un hI7;have Z:=un ((Xh u.o u.o.size _).trans hb7);clear hI7 hk7 hb7 hf7 ho7))
  go_roundw
  case rel=>exact⟨i+1,A7,c7,_,by go_num,rfl,ω,by rw[aj.o];exact ad.o,Z.o⟩
  case measure=>simp[intOf];omega
 obtain rfl:a=i:=ω;have HM:=un (show TabZ wr w.heap.size (.slice O (y1p A rs cols).length cO) l (y1p A rs cols)by have h:=I.o;have y:=h.nlen;rw[x.o,XK]at h y;rw[<-y];exact h);have HL:=un (show a=(y1p A rs cols).length by rw[x.o];unfold y1p;rw[ZK]);clear n e;go_wp2;go_ret;exact⟨O,cO,l,by rw[<-HL.o];rfl,HM.o,s.o⟩
theorem y6d:∀(n:Nat) (aA:OA) (cA:Nat) (lA:List Value) (M:List (List Int)) (w:World),TabZ w 0 (aA,n,cA) lA M->(∀r∈M,r.length=n)->y1U 9 M->n<=4->Calls prog 77 #[(aA,n,cA)] w λe w'=>e=.returned (.int .i64 (y1C n M))/\Below w w w':=by
 intro n
 induction n with
 | zero =>
  intro aA cA lA M w _ _ _ _;go_enter func77,ntmps77;go_wp2;go_ret;exact⟨rfl,Zj _ _⟩
 | succ n ih =>
  intro aA cA lA M w j F D hn;obtain⟨N,T⟩:∃N,N=n+1:=⟨_,rfl⟩
  have d:=un T;rw[<-T]at j F hn ⊢;have a1:0<N:=ω;have ak:n<=3:=ω;refine μ7 j F D j.nlen ih (y5d (n:=n) D ak) (λc=>(y5d (n:=n) (D.cut c) ak).1) λHA B HE P aG ay az=>?_;obtain⟨ar,G⟩:∃ar,M[0]? = some ar:=⟨M[0]'(by rw[<-P.o];omega),Ze _⟩
  have aP:=un G;have ad:=un (F _ (Zz G));obtain⟨bA,rfl,_,_⟩:=j.has ω;obtain⟨a0,ai,_,V,E⟩:=j.at_ G;rw[ad.o]at V E;obtain⟨C,rfl,_,_⟩:=E.has ω;have aD:=un E;have a7:((N:Int) == 0)=false:=by simp;omega
  clear j F D ih G E T;go_enter func77,ntmps77;go_wp2_with fail
  go_loopw [3,4] (λsv cv wr=>∃c:Nat,cv=.int .i64 c/\c<=N/\sv=.int .i64 (y2u c (y1O n M))/\Below w w wr)
   (λ_ cv _=>N-(intOf cv).toNat)
  case atStart=>exact⟨0,rfl,Zb _,rfl,Zj _ _⟩
  obtain⟨c,rfl,hc,rfl,q⟩:=hrel;have o:=un q;by_cases aj:c<N
  ·have HS:=un (Zl (Dz.sumZ_abs (f:=y1O n M) (n:=c) λi _=>ay.o.2 i) (ZV 39366 (show c<=4 by omega)));have R:=un (show y2u (c+1) (y1O n M)=y2u c (y1O n M)+y1O n M c from rfl);have q1:=aD.o.at_ (y5R aP.o (by rw[ad.o];exact aj));refine μ3 (HE.o.ez 0 c) (show y1O n M c=if ez M 0 c=0 then 0 else if c%2=0 then ez M 0 c*y1C n (M.tail.map (y2h c))else -(ez M 0 c*y1C n (M.tail.map (y2h c)))from rfl) (az.o c) λaC L aB=>?_
   generalize y1O n M c=dc at *
   generalize ez M 0 c=z at *
   generalize y2u c (y1O n M)=s at *
   have p0:=zab q V;have p1:=zab q q1;have a3:(c:Int)<(N:Int):=ω;have a2:(0:Int)<=(c:Int):=Zf _;clear q;by_cases U:z=0
   ·have g:=un (show y2u (c+1) (y1O n M)=s by rw[R.o,L.o,if_pos U,Int.add_zero]);go_wp2;go_roundw
    case rel=>exact⟨c+1,by go_num,ω,by rw[g.o],o.o⟩
    case measure=>simp[intOf];omega
   have af:=un U;have bd:(z == 0)=false:=by simpa using U
   have aw:=un (HA.o.below o.o);go_wp2_with fail
   go_loopw [5,6] (λmv Y x=>∃(k:Nat) (O:OA) (cO:Nat) (l:List Value),Y=.int .i64 ((k:Int)+1)/\mv=(O,k,cO)/\k<=n/\TabZ x wr.heap.size (O,k,cO) l ((M.tail.take k).map (y2h c))/\Below wr.heap.size wr x)
    (λ_ Y _=>N-(intOf Y).toNat)
   case atStart=>exact⟨0,none,0,[],rfl,rfl,Zb _,TabZ.nil _ _,Zj _ _⟩
   rename World=>x
   obtain⟨k,O,cO,l,rfl,rfl,hk,u,b⟩:=hrel;refine μ3 u b u.nlen λHO H aO=>?_;by_cases a8:k<n
   ·obtain⟨row,v⟩:∃row,M[k+1]? = some row:=⟨M[k+1]'(by rw[<-P.o];have:=d.o;omega),Ze _⟩
    have aJ:=un (y3N (c:=c) v);obtain⟨aX,cx,_,Z,m⟩:=aw.o.at_ v;rw[B.o _ (Zz v)]at Z m;have aQ:=un (B.o _ (Zz v));have aK:=un (show N-1=n by have:=d.o;omega);obtain⟨bX,rfl,_,_⟩:=m.has ω;have aR:=un m;have aH:=un (m.below b);have y1:=zab b Z;have aT:N<=cx:=m.form.2.1;obtain⟨off,bc,al⟩:=behind bX N cx c ω aT;have aL:=un al;clear al;have a5:(k:Int)+1<(N:Int):=by have:=d.o;omega
    have a4:(0:Int)<=(k:Int)+1:=ω;have a6:(k:Int)<(n:Int):=ω;clear u v m b;go_upto_region 14 with (at_builtin;go_loud (refine wpl rfl (λK t=>y1n (N:=c) _ _ rfl rfl (IntsZ.nil _ x.heap.size) rfl (aH.o.newsTake (hi:=c) ω _) σ ω (Za _) K t) ?_;rintro _ w6 ⟨X6,c6,rfl,hI6,hk6,hb6,hf6,ho6⟩;refine μ3 hI6 (H.o.trans (hb6.mono H.o.size)) hb6 λaE I aa=>?_;have y2:=zab I.o Z;have aI:=un (aR.o.below I.o);clear hI6 hk6 hb6 hf6 ho6))
    go_upto_region 15 with (at_builtin;go_loud (refine wpl rfl (λK t=>y1n (N:=n) _ _ rfl rfl aE.o rfl (aL.o _ _ _ aI.o) (by rw[XV,ZG,aQ.o];have:=aK.o;omega) ω (by have:=aa.o.size;omega) K t) ?_;rintro _ w7 ⟨X7,c7,rfl,hI7,hk7,hb7,hf7,ho7⟩;refine μ3 hI7 (I.o.trans (hb7.mono H.o.size)) (aa.o.trans hb7) λaF J ax=>?_;clear hI7 hk7 hb7 hf7 ho7))
    go_wp2_with (at_builtin;go_loud (refine wpl rfl (λK t=>y1Q (N:=k+1) _ _ rfl rfl ((HO.o.below ax.o).alloc _) rfl (zal _ _ _) ((aF.o.base (Zb _)).alloc _) (by rw[<-aO.o]) ω (by have:=J.o.size;simp;omega) K t) ?_;rintro _ w8 ⟨O8,c8,rfl,hO8,hk8,hb8,hf8,ho8⟩;have aN:=un hO8;have p:=un ((Xh J.o J.o.size _).trans hb8);clear hO8 hk8 hb8 hf8 ho8))
    go_roundw
    case rel=>exact⟨k+1,O8,c8,_,by go_num,rfl,ω,by rw[aJ.o];exact aN.o,p.o⟩
    case measure=>simp[intOf];omega
   obtain rfl:n=k:=ω;have ae:=un (show TabZ x 0 (O,n,cO) l (M.tail.map (y2h c))by have h:=u.base (Zb _);rw[ZZ (by rw[List.length_tail,<-P.o];have:=d.o;omega)]at h;exact h);have A:=un (o.o.trans (b.mono o.o.size));have W:=zab b p0;have be:=zaa W;have X:=zab b p1;have bf:=zaa X;have ab:=un (fun(w:World) (h:TabZ w 0 (O,n,cO) l (M.tail.map (y2h c)))=>aG.o O cO l (M.tail.map (y2h c)) w h (λr hr=>by obtain⟨y,hy,rfl⟩:=ZH.1 hr;rw[Dz.cutL_len c y (by rw[B.o y (List.mem_of_mem_tail hy)];exact aj),B.o y (List.mem_of_mem_tail hy)];have:=d.o;omega) (HE.o.cut c) ω);generalize y1C n (M.tail.map (y2h c))=dm at *
   have Q:=un (Zl (Nat.le_of_eq (XZ z dm)) (Xn aC.o aB.o));have w1:IntKind.i64.wrap (z*dm)=z*dm:=y1v (by have:=Q.o;omega);have w2:IntKind.i64.wrap (s+z*dm)=s+z*dm:=y1v (by have:=Q.o;have:=HS.o;omega);have w3:IntKind.i64.wrap (s-z*dm)=s-z*dm:=y1v (by have:=Q.o;have:=HS.o;omega);have a9:(c:Int).tmod 2=((c%2:Nat):Int):=rfl;have ba:¬((n:Int)+1<(N:Int)):=by have:=d.o;omega
   clear u b p0 p1 V q1;by_cases am:c%2=0
   ·have g:=un (show y2u (c+1) (y1O n M)=s+z*dm by rw[R.o,L.o,if_neg af.o,if_pos am]);go_upto_region 17 with fail
    refine zaS (S:=λw'=>χ w' bA 0 (.slice (some ⟨C,0,none⟩) N ai)/\χ w' C c (.int .i64 z)) [11] (h:=λhHeld=>?_);refine zaw [0,1,2,3,4,5,6,7] ?_;repeat refine tkL (hS:=hHeld) (h:=?_)
    refine zao ?_;refine zaB 8 (h:=λK a=>?_);go_simp;(go_at_call 77;(with_reducible refine(ab.o _ ae.o.drew).mono ?_);rintro e w8 ⟨rfl,hb8⟩;have p:=un (A.o.trans ((It.bdrew0' hb8).mono A.o.size));have t0:=zab (It.bdrew0' hb8) W;have t1:=zab (It.bdrew0' hb8) X;clear hb8);(try go_wp2_with fail);refine shutOn a λhHeld=>?_;clear a K;refine zaw [9,10] ?_;repeat refine tkL (hS:=hHeld) (h:=?_)
    refine zao ?_;refine zay 11 (h:=λK a=>?_);go_simp;refine shutOff a ?_;clear a K;refine zaM (h:=?_);go_wp2;go_roundw
    case rel=>exact⟨c+1,by go_num,ω,by rw[g.o],p.o⟩
    case measure=>simp[intOf];omega
   have g:=un (show y2u (c+1) (y1O n M)=s-z*dm by rw[R.o,L.o,if_neg af.o,if_neg am,Int.sub_eq_add_neg]);have bb:c%2=1:=ω;go_upto_region 18 with fail
   refine zaS (S:=λw'=>χ w' bA 0 (.slice (some ⟨C,0,none⟩) N ai)/\χ w' C c (.int .i64 z)) [11] (h:=λhHeld=>?_);refine zaw [0,1,2,3,4,5,6,7] ?_;repeat refine tkL (hS:=hHeld) (h:=?_)
   refine zao ?_;refine zaB 8 (h:=λK a=>?_);go_simp;(go_at_call 77;(with_reducible refine(ab.o _ ae.o.drew).mono ?_);rintro e w8 ⟨rfl,hb8⟩;have p:=un (A.o.trans ((It.bdrew0' hb8).mono A.o.size));have t0:=zab (It.bdrew0' hb8) W;have t1:=zab (It.bdrew0' hb8) X;clear hb8);(try go_wp2_with fail);refine shutOn a λhHeld=>?_;clear a K;refine zaw [9,10] ?_;repeat refine tkL (hS:=hHeld) (h:=?_)
   refine zao ?_;refine zay 11 (h:=λK a=>?_);go_simp;refine shutOff a ?_;clear a K;refine zaM (h:=?_);go_wp2;go_roundw
   case rel=>exact⟨c+1,by go_num,ω,by rw[g.o],p.o⟩
   case measure=>simp[intOf];omega
  obtain rfl:c=N:=ω;have g:=un (show y2u c (y1O n M)=y1C c M by rw[d.o];rfl);generalize y2u c (y1O n M)=s at *
  clear q;go_wp2;go_ret;exact⟨by rw[<-g.o];rfl,o.o⟩
end Zr
open Dz (y1l)
theorem y3E:∀ {n k:Nat},n<k->y1l n k=[]
 | _,0,h=>absurd h (ZM _)
 | 0,_+1,_=>rfl
 | n+1,k+1,h=>by unfold y1l;rw[if_pos h]
theorem y4R(h:k<=n):y1l (n+1) (k+1)=y1l n (k+1)++(y1l n k).map λx=>x++[n]:=by
 conv=>lhs;unfold y1l
 rw[if_neg ω]
theorem y1H:∀(n k:Nat),(y1l n k).length<=2^n
 | n,0=>by rw[show y1l n 0=[[]]by unfold y1l;rfl];grind
 | 0,_+1=>Zb _
 | n+1,k+1=>by
  unfold y1l;split
  exact Zb _;rw[ZD,ZK,Xd];have:=y1H n (k+1);have:=y1H n k;omega
theorem TabZ.one(c:w.heap.size=b):TabZ (w.alloc (.cells #[()] 41)) w.heap.size (.slice (some ⟨b,0,none⟩) 1 1) [.slice none 0 0] [[]]:=by subst c;refine⟨rfl,λk s r h1 a=>?_,YW (e:=41) (size:=1) (base:=w.heap.size) w #[()] 1 (Za _) δ rfl⟩;grind[IntsZ.nil]
theorem TabZ.other{w':World}{v u:Value}{l:List Value}{M:List (List Int)}(h:TabZ w H v l M)(hk:TKeep 41 w w')(hf:∀j,j<w.heap.size->u.ownBlock≠some j->w'.heap[j]? = w.heap[j]?)(b:∀g,u.ownBlock=some g->v.ownBlock≠some g):TabZ w' H v l M :=
 h.keepAll (λk a=>hf k (h.own.lt k a).2 λe=>b k e a) λ_ _ _ r=>r.tk hk δ
theorem y5j(l m:List Nat):zN (l++m)=zN l++zN m:=by simp[zN]
namespace Zr
theorem y5g:∀(n k:Nat) (w:World),n<=8->k<=8->Calls prog 102 #[(n:Int),(k:Int)] w (y5c w ((y1l n k).map zN)):=by
 intro n
 induction n with
 | zero =>
  intro k w _ t;by_cases hk:k=0
  ·subst hk;go_enter func102,ntmps102;go_wp2;go_ret
   exact⟨_,_,_,rfl,TabZ.one rfl,zae _ _⟩
  have a:=un (show(y1l 0 k).map zN=[]by rw[y3E ω];rfl);have ak:(0:Int)<(k:Int):=ω;go_enter func102,ntmps102;go_wp2;go_ret;rw[a.o];exact⟨_,_,_,rfl,TabZ.nil _ _,Zj _ _⟩
 | succ n ih =>
  intro k w hn t;obtain⟨N,A⟩:∃N,N=n+1:=⟨_,rfl⟩
  have f:=un A;rw[<-A]at hn ⊢;have av:(N:Int)-1=(n:Int):=ω;clear A;by_cases hk:k=0
  ·subst hk;have a:=un (show(y1l N 0).map zN=[[]]by unfold y1l;rfl);go_enter func102,ntmps102;go_wp2;go_ret
   rw[a.o];exact⟨_,_,_,rfl,TabZ.one rfl,zae _ _⟩
  have ay:((k:Int) == 0)=false:=by simp;omega
  by_cases C:N<k
  ·have a:=un (show(y1l N k).map zN=[]by rw[y3E C];rfl);have al:(N:Int)<(k:Int):=ω
   go_enter func102,ntmps102;go_wp2;go_ret;rw[a.o];exact⟨_,_,_,rfl,TabZ.nil _ _,Zj _ _⟩
  obtain⟨j,hj⟩:∃j,k=j+1:=⟨k-1,ω⟩
  have HJ:=un hj;have ak:(k:Int)-1=(j:Int):=ω;have al:¬(N:Int)<(k:Int):=ω;refine μ6 (show(y1l N k).map zN=(y1l n k).map zN++((y1l n j).map λx=>x++[n]).map zN by rw[f.o,hj,y4R (by have:=f.o;omega),Ye]) (fun(w:World)=>ih k w (by have:=f.o;omega) t) (fun(w:World)=>ih j w (by have:=f.o;omega) ω) (Zl (y1H n k) (Xm δ (show n<=8 by have:=f.o;omega))) (Zl (y1H n j) (Xm δ (show n<=8 by have:=f.o;omega))) (show ∀x∈y1l n j,x.length<=8 from λx o=>by obtain⟨P,_,h⟩:=Dz.picks_pl o;omega) λa M Q ab ac ai=>?_;clear hj ih C hk;generalize y1l n k=pk at *
  generalize y1l n j=pj at *
  go_enter func102,ntmps102;go_wp2_with fail
  refine(M.o _).mono ?_;rintro e w1 ⟨O,cO,l,rfl,b,hb1⟩;have HP:=un (show(pk.map zN).length<=256 by rw[ZK];exact ab.o);generalize hp:(pk.map zN).length=p at *
  refine μ3 hp b hb1 λad r F=>?_;clear b hb1 hp;go_wp2_with fail
  refine(Q.o _).mono ?_;rintro e w2 ⟨S,cS,ls,rfl,hS,hb2⟩;have HQ:=un (show(pj.map zN).length<=256 by rw[ZK];exact ac.o);generalize hq:(pj.map zN).length=q at *
  refine μ5 hq (hS.base (Zb _)) (r.o.below hb2) (F.o.trans (hb2.mono F.o.size)) (show ∀g,(Value.slice O p cO).ownBlock=some g->(Value.slice S q cS).ownBlock≠some g from λg h1 m=>by have:=(r.o.own.lt g h1).2;have:=(hS.own.lt g m).1;omega) λv af X J H=>?_;clear hS hb2 hq;go_wp2_with fail
  go_loopw [5,7] (λov D wr=>∃(i:Nat) (O:OA) (cO:Nat) (l:List Value),D=.int .i64 i/\ov=(O,p+i,cO)/\i<=q/\TabZ wr w.heap.size (O,p+i,cO) l (pk.map zN++((pj.take i).map λx=>x++[n]).map zN)/\TabZ wr 0 (S,q,cS) ls (pj.map zN)/\(∀g,(Value.slice O (p+i) cO).ownBlock=some g->(Value.slice S q cS).ownBlock≠some g)/\Below w w wr)
   (λ_ D _=>q-(intOf D).toNat)
  case atStart=>exact⟨0,O,cO,l,rfl,rfl,Zb _,by show TabZ _ _ _ _ (_++[]);rw[XS];exact X.o,af.o,H.o,J.o⟩
  rename World=>wr
  obtain⟨i,O,cO,l,rfl,rfl,hi,b,hS,B,y⟩:=hrel;refine μ5 b hS B y b.nlen λr G E d Z=>?_;have az:=HP.o;have aA:=HQ.o;by_cases C:i<q
  ·obtain⟨x,o⟩:∃x,pj[i]? = some x:=⟨pj[i]'(by have:=v.o;rw[ZK]at this;omega),Ze _⟩
   have HT:=un (show((pj.take (i+1)).map λx=>x++[n]).map zN=((pj.take i).map λx=>x++[n]).map zN++[zN x++[(n:Int)]]by rw[map_take o,Ye];show _++[zN (x++[n])]=_;rw[y5j];rfl);obtain⟨bS,rfl,_,_⟩:=hS.has ω;obtain⟨aX,cx,_,z1,z⟩:=hS.at_ (show(pj.map zN)[i]? = some (zN x)by rw[Z2,o];rfl);rw[y1y]at z1 z;have U:=un z;have aB:=ai.o x (Zz o);have ax:(i:Int)<(q:Int):=ω;have aw:(0:Int)<=(i:Int):=Zf _;clear b hS B y z o;go_upto_region 12 with (at_builtin;go_loud (refine wpl rfl (λK s=>y1n (N:=x.length) _ _ rfl rfl (IntsZ.nil _ wr.heap.size) rfl (by have h:=U.o.news;rw[y1y]at h;exact h) (Z6 _) ω (Za _) K s) ?_;rintro _ w6 ⟨X6,c6,rfl,hI6,hk6,hb6,hf6,ho6⟩;have R:=un hI6;have u:=un hb6;clear hI6 hk6 hb6 hf6 ho6))
   go_upto_region 13 with (at_builtin;go_loud (refine wpl rfl (λK s=>y1n (N:=x.length+1) _ _ rfl rfl (R.o.alloc _) rfl (ys:=[(n:Int)]) (y19 (zal _ _ _) rfl) (by rw[XV,y1y]) ω (by have:=u.o.size;simp;omega) K s) ?_;rintro _ w7 ⟨X7,c7,rfl,hI7,hk7,hb7,hf7,ho7⟩;have T:=un hI7;have c:=un ((Xh u.o u.o.size _).trans hb7);clear hI7 hk7 hb7 hf7 ho7))
   go_wp2_with (at_builtin;go_loud (refine wpl rfl (λK s=>y1Q (N:=p+i+1) _ _ rfl rfl ((r.o.below c.o).alloc _) rfl (zal _ _ _) ((T.o.base (Zb _)).alloc _) (by rw[<-Z.o]) ω (by have:=c.o.size;have:=d.o.size;simp;omega) K s) ?_;rintro _ w8 ⟨O8,c8,rfl,hO8,t,hb8,hf8,ho8⟩;refine μ4 hO8 (((G.o.below c.o).alloc _).other t hf8 E.o) (show ∀g,(Value.slice O8 (p+i+1) c8).ownBlock=some g->(Value.slice (some ⟨bS,0,none⟩) q cS).ownBlock≠some g from λg hg m=>ho8.elim (λe=>E.o g (e▸hg) m) λe=>by have h3:=((G.o.below c.o).own.lt g m).2;rw[hg]at e;injection e with e;simp at e;omega) ((Xh (d.o.trans (c.o.mono d.o.size)) (d.o.trans (c.o.mono d.o.size)).size _).trans hb8) λY ag I L=>?_;clear hO8 t hb8 hf8 ho8))
   go_roundw
   case rel=>exact⟨i+1,O8,c8,_,by go_num,rfl,ω,by rw[HT.o,<-XT];exact Y.o,ag.o,I.o,L.o⟩
   case measure=>simp[intOf];omega
  obtain rfl:i=q:=ω;have W:=un (show TabZ wr w.heap.size (.slice O ((y1l N k).map zN).length cO) l ((y1l N k).map zN)by have h:=r.o;rw[ZZ (by have:=v.o;rw[ZK]at this;omega),<-a.o]at h;have m:=h.nlen;rw[<-m];exact h);have V:=un (show p+i=((y1l N k).map zN).length by rw[a.o,ZD,ad.o,ZK,ZK,<-v.o,ZK]);clear b hS B y;go_wp2;go_ret;exact⟨O,cO,l,by rw[<-V.o];rfl,W.o,d.o⟩
end Zr
open Dz (y1l y1p y1C y1U y1J y1i)
theorem y3D(h:p∈y1l n k):p.length=k/\∀c∈p,c<n:=by grind[Dz.picks_pl,Dz.pl_mem]
theorem y4n{A:List (List Int)}(a:∀x∈A,x.length=N)(h:r<A.length):(A.getD r []).length=N:=by rw[Zg,Ze h];exact a _ (Xj h)
theorem y4a{A:List (List Int)}:(y1p A rs p).length=rs.length/\∀r∈y1p A rs p,r.length=p.length:=by unfold y1p;exact⟨ZK ..,λr hr=>by obtain⟨x,_,rfl⟩:=ZH.1 hr;exact ZK ..⟩
namespace Zr
theorem y51(aA:OA)(nA cA:Nat)(lA:List Value)(A:List (List Int))(t:OA)(a u:Nat)(rs:List Nat)(N:Nat)(w:World)(K:TabZ w 0 (aA,nA,cA) lA A)(m:IntsZ w 0 (t,a,u) (zN rs))(P:∀x∈A,x.length=N)(L:y1U 9 A)(hr:∀r∈rs,r<A.length)(hn:a<=4)(hN:N<=8) :
  Calls prog 178 #[(aA,nA,cA),(t,a,u),(N:Int)] w λe w'=>e=.returned (.bool (y1J A rs N))/\Below w w w':=by
 refine μ10 K m P L hr (show rs.length=a by rw[m.len,y1y]) (show y1J A rs N=(y1l N a).any λp=>decide (y1C a (y1p A rs p)≠0)by unfold y1J;rw[<-m.len.trans (y1y rs)]) (λp (h:p∈y1l N a)=>y3D h) (Zl (y1H N a) (Xm δ hN)) (fun(w:World)=>y5g N a w hN ω) λT HR W V F Y I E ab HP=>?_;generalize y1J A rs N=wb at *
 generalize y1l N a=ps at *
 clear K m P L hr;go_enter func178,ntmps178;go_wp2_with fail
 refine(HP.o _).mono ?_;rintro e w1 ⟨S,cS,ls,rfl,hS,hb1⟩;generalize hq:(ps.map zN).length=q at *
 have s:=un (show ps.length=q by rw[<-hq,ZK]);have av:q<=256:=by rw[<-s.o];exact ab.o
 have HS:=un (hS.base (Zb _));have f:=un hb1;clear hS hb1 hq;go_wp2_with fail
 go_loopw [8] (λz wr=>∃i:Nat,z=.int .i64 i/\i<=q/\(∀p∈ps.take i,y1C a (y1p A rs p)=0)/\Below w1 w1 wr)
  (λz _=>q-(intOf z).toNat)
 case atStart=>exact⟨0,rfl,Zb _,(λp h=>by cases h),Zj _ _⟩
 rename World=>wr
 obtain⟨i,rfl,hi,y,g⟩:=hrel;have J:=un y;have n:=un g;by_cases al:i<q
 ·obtain⟨p,j⟩:∃p,ps[i]? = some p:=⟨ps[i]'(by rw[s.o];exact al),Ze _⟩
  refine μ3 (Zz j) (show ps.take (i+1)=ps.take i++[p]by rw[Xb,j];rfl) (HS.o.below g) λo HT G=>?_;obtain⟨bS,rfl,_,_⟩:=G.o.has ω;obtain⟨aX,cx,_,R,k⟩:=G.o.at_ (show(ps.map zN)[i]? = some (zN p)by rw[Z2,j];rfl);rw[y1y]at R k;have v:=(E.o p o.o).1;rw[v]at R k;refine μ4 (y5U aA nA cA lA A t a u rs aX a cx p wr ((T.o.below f.o).below g) ((HR.o.below f.o).below g) k (λr hr=>⟨F.o r hr,λc hc=>by rw[y4n W.o (F.o r hr)];exact(E.o p o.o).2 c hc⟩) ω ω) (y4a (A:=A) (rs:=rs) (p:=p)) (V.o.part rs p) v λad H U ac=>?_;generalize hMM:y1p A rs p=M at *
  have D:=un hMM;clear hMM;have ar:(i:Int)<(q:Int):=ω;have aq:(0:Int)<=(i:Int):=Zf _;clear y g k j v;go_wp2_with fail
  refine ad.o.mono ?_;rintro e w2 ⟨O,cO,l,rfl,hO,hb2⟩;rw[H.o.1,Y.o]at hO ⊢;have Z:=un (hO.base (Zb _));have B:=un (n.o.trans (hb2.mono n.o.size));clear hO hb2;go_wp2_with fail
  refine(y6d a O cO l M _ Z.o (λr hr=>by rw[H.o.2 r hr,ac.o]) U.o ω).mono ?_;rintro e w3 ⟨rfl,hb3⟩;have C:=un (B.o.trans (hb3.mono B.o.size));clear hb3;by_cases b:y1C a M=0
  ·rw[b];have HD:=un b;have ai:=un (show ∀p∈ps.take (i+1),y1C a (y1p A rs p)=0 from λx Q=>by rw[HT.o]at Q;rcases ZU.1 Q with h | h;exact J.o x h;rw[XE.1 h,D.o];exact b)
   clear b;go_wp2;go_roundw
   case rel=>exact⟨i+1,by go_num,ω,ai.o,C.o⟩
   case measure=>simp[intOf];omega
  have HY:=un (show wb=true by rw[I.o];exact List.any_eq_true.2 ⟨p,o.o,ZT (by rw[D.o];exact b)⟩);generalize y1C a M=d at *
  have ao:(d == 0)=false:=by simpa using b
  have ap:(d != 0)=true:=by simpa using b
  clear b;go_wp2;go_ret;exact⟨by rw[HY.o];rfl,f.o.trans (C.o.mono f.o.size)⟩
 obtain rfl:i=q:=ω;have X:=un (show wb=false by rw[I.o,VA];intro p j;have h:=J.o p (by rw[ZZ (Nat.le_of_eq s.o)];exact j);simpa using h);clear y g;go_wp2;go_ret;exact⟨by rw[X.o];rfl,f.o.trans (n.o.mono f.o.size)⟩
theorem y5Y(aA:OA)(nA cA:Nat)(lA:List Value)(A:List (List Int))(N:Nat)(w:World)(j:TabZ w 0 (aA,nA,cA) lA A)(v:∀x∈A,x.length=N)(u:y1U 9 A)(R:nA<=4)(hN:N<=8) :
  Calls prog 152 #[(aA,nA,cA),(N:Int)] w (zv3 w (zN (y1i A N nA))):=by
 refine μ4 j v u j.nlen λz F C n=>?_;clear j v u;go_enter func152,ntmps152;go_wp2_with fail
 go_loopw [5,6] (λM m wr=>∃(r k:Nat) (O:OA) (cO:Nat),m=.int .i64 r/\M=(O,k,cO)/\r<=nA/\IntsZ wr w (O,k,cO) (zN (y1i A N r))/\Below w w wr)
  (λ_ m _=>nA-(intOf m).toNat)
 case atStart=>exact⟨0,0,none,0,rfl,rfl,Zb _,IntsZ.nil _ _,Zj _ _⟩
 rename World=>wr
 obtain⟨r,k,O,cO,rfl,rfl,hr,a,d⟩:=hrel;refine μ3 a d (show(y1i A N r).length=k by rw[a.len,y1y]) λg b s=>?_;have Q:k<=4:=by have:=Dz.rankTo_len A N r;rw[a.len,y1y];omega
 by_cases J:r<nA
 ·have B:=un (z.o.below d);have T:(r:Int)<(nA:Int):=ω
  have S:(0:Int)<=(r:Int):=Zf _;have P:k<=3:=by have:=Dz.rankTo_len A N r;rw[a.len,y1y];omega
  have H:=un (show ∀x∈y1i A N r++[r],x<A.length from λx L=>by rcases ZU.1 L with h | h;have:=Dz.rankTo_lt A N r x h;rw[<-n.o];omega;rw[XE.1 h,<-n.o];exact J);clear a d;go_upto_region 7 with (at_builtin;go_loud (refine wpl rfl (λK l=>y1n (N:=k) _ _ rfl rfl (IntsZ.nil _ wr.heap.size) rfl (by have h:=(g.o.base (Zb _)).news;rw[y1y,s.o]at h;exact h) (Z6 _) ω (Za _) K l) ?_;rintro _ U ⟨X6,c6,rfl,hI6,hk6,hb6,hf6,ho6⟩;have D:=un hI6;have f:=un hb6;clear hI6 hk6 hb6 hf6 ho6))
  go_upto_region 8 with (at_builtin;go_loud (refine wpl rfl (λK l=>y1n (N:=k+1) _ _ rfl rfl (D.o.alloc _) rfl (ys:=[(r:Int)]) (y19 (zal _ _ _) rfl) (by rw[XV,y1y,s.o]) ω (by have:=f.o.size;simp;omega) K l) ?_;rintro _ y ⟨X7,c7,rfl,hI7,hk7,hb7,hf7,ho7⟩;have p:=un (show IntsZ y wr.heap.size (X7,k+1,c7) (zN (y1i A N r++[r]))by rw[y5j];exact hI7);have c:=un ((Xh f.o f.o.size _).trans hb7);clear hI7 hk7 hb7 hf7 ho7))
  have I:=un (y51 aA nA cA lA A X7 (k+1) c7 (y1i A N r++[r]) N y (B.o.below c.o) (p.o.base (Zb _)) F.o C.o H.o ω hN);have t:=un (show y1i A N (r+1)=if y1J A (y1i A N r++[r]) N=true then y1i A N r++[r]else y1i A N r from rfl);generalize y1J A (y1i A N r++[r]) N=wb at *
  go_wp2_with fail
  refine I.o.mono ?_;rintro e V ⟨rfl,hb8⟩;refine μ3 ((b.o.trans (c.o.mono b.o.size)).trans (hb8.mono (Zl b.o.size c.o.size))) ((p.o.below hb8).base b.o.size) ((g.o.below c.o).below hb8) λo E G=>?_;clear hb8;cases wb
  ·have i:=un (show y1i A N (r+1)=y1i A N r from t.o);go_wp2;go_roundw
   case rel=>exact⟨r+1,k,O,cO,by go_num,rfl,ω,by rw[i.o];exact G.o,o.o⟩
   case measure=>simp[intOf];omega
  have i:=un (show y1i A N (r+1)=y1i A N r++[r]from t.o);go_wp2;go_roundw
  case rel=>exact⟨r+1,k+1,X7,c7,by go_num,rfl,ω,by rw[i.o];exact E.o,o.o⟩
  case measure=>simp[intOf];omega
 obtain rfl:r=nA:=ω;have q:=un (show k=(zN (y1i A N r)).length from a.len);clear a d;go_wp2;go_ret;exact⟨O,cO,by rw[<-q.o];rfl,by rw[<-q.o];exact g.o,b.o⟩
theorem y5C(aA:OA)(nA cA:Nat)(lA:List Value)(A:List (List Int))(N:Nat)(w:World)(a:TabZ w 0 (aA,nA,cA) lA A)(c:∀x∈A,x.length=N)(b:y1U 9 A)(i:nA<=4)(hN:N<=8) :
  Calls prog 153 #[(aA,nA,cA),(N:Int)] w λe w'=>e=.returned ((y1i A N nA).length:Int)/\Below w w w':=by
 have f:=un (y5Y aA nA cA lA A N w a c b i hN);clear a c b;go_enter func153,ntmps153;go_wp2_with fail
 refine f.o.mono ?_;rintro e w1 ⟨O,cO,rfl,hO,hb⟩;rw[y1y];have d:=un hb;clear hO hb;generalize hn9:(y1i A N nA).length=n at *
 have g:=un hn9;clear hn9;go_wp2;go_ret;exact⟨by rw[g.o];rfl,d.o⟩
end Zr
open Dz (y1U y1i y1q y2p)
theorem y4x{A:List (List Int)}{x:Int}(h:A[r]? = some row)(a:B[r]? = some x):(y1q A B).take (r+1)=(y1q A B).take r++[row++[x]]:=by unfold y1q;rw[Xb,List.getElem?_mapIdx,h,Zg,a];rfl
theorem y46{A:List (List Int)}(h:y1U 9 A)(a:∀x∈B,x.natAbs<=9):y1U 9 (y1q A B):=λr hr x b=>by unfold y1q at hr;obtain⟨i,hi,rfl⟩:=List.mem_mapIdx.1 hr;rcases ZU.1 b with q | q;exact h _ (Xj hi) x q;rw[XE.1 q];exact Dz.getD_abs a i
theorem y48{A:List (List Int)}(h:∀x∈A,x.length=N):∀x∈y1q A B,x.length=N+1:=λr hr=>by unfold y1q at hr;obtain⟨i,hi,rfl⟩:=List.mem_mapIdx.1 hr;rw[ZD,h _ (Xj hi)];rfl
theorem y47(A:List (List Int))(B:List Int):(y1q A B).length=A.length:=by unfold y1q;rw[List.length_mapIdx]
def y5k (w:World) (rs:List Nat) (b:Bool) (e:Ending) (w':World):Prop:=∃(O:OA) (cO:Nat),e=.returned (.tuple #[(O,rs.length,cO),b])/\IntsZ w' w (O,rs.length,cO) (zN rs)/\Below w w w'
namespace Zr
theorem y6l(aA:OA)(nA cA:Nat)(lA:List Value)(A:List (List Int))(aB:OA)(nB cB:Nat)(B:List Int)(aC:OA)(nC cC:Nat)(own:Int)(N:Nat)(w:World)(y:TabZ w 0 (aA,nA,cA) lA A)(b:IntsZ w 0 (aB,nB,cB) B)(C:∀x∈A,x.length=N)(M:y1U 9 A)(P:∀x∈B,x.natAbs<=9)(aw:nB=nA)(U:nA<=4)(hN:N<=7) :
  Calls prog 101 #[.agg #[(aA,nA,cA),(aB,nB,cB),(aC,nC,cC),.int .i64 own]] w (y5k w (y1i A N nA) (y2p A B N)):=by
 have f:=un y.nlen;have aa:=un b.len;subst aw;have L:=un (show ∃a,a<=7/\(nB=0/\a=0\/0<nB/\a=N)/\(∀x∈A,x.length=a)/\y1i A N nB=y1i A a nB/\y2p A B N=decide ((y1i (y1q A B) (a+1) nB).length=(y1i A a nB).length)from by rcases XY nB with h | h;refine⟨0,ω,.inl ⟨h,rfl⟩,λx m=>?_,by rw[h];rfl,?_⟩;have:=List.length_pos_of_mem m;have:=f.o;omega;unfold y2p;rw[<-f.o,h];rfl;exact⟨N,hN,.inr ⟨h,rfl⟩,C,rfl,by unfold y2p;rw[f.o]⟩);obtain⟨a,aR,ay,S,D,z⟩:=L.o;refine μ6 S D z M P C λp aL aI I ab aK=>?_;rw[D,z];clear S D z M P L C;obtain⟨W,k⟩:∃W,(w.alloc (.cells #[(aA,nB,cA),(aB,nB,cB),(aC,nC,cC),.int .i64 own] 73))=W:=⟨_,rfl⟩
 refine μ4 (show θ W w.heap.size #[(aA,nB,cA),(aB,nB,cB),(aC,nC,cC),.int .i64 own] 73by rw[<-k];exact zam σ) (show Below w w W by rw[<-k];exact zae w _) (show TabZ W 0 (aA,nB,cA) lA A by rw[<-k];exact(y).alloc _) (show IntsZ W 0 (aB,nB,cB) B by rw[<-k];exact(b).alloc _) λap q g G=>?_;obtain⟨aG,a3,aH,a2,a4,a5,a7,a6⟩:=bc4 ap.o;clear y b;go_enter func101,ntmps101;go_upto_if 12 with fail
 clear k;go_cut[4] (λnv wx=>nv=.int .i64 (a:Int)/\wx=W)
 case first =>
  rcases ay with ⟨h1,u⟩ | ⟨h1,u⟩
  ·subst h1 u;go_wp2;go_meet
   case rel=>exact⟨rfl,rfl⟩
  obtain⟨row,d⟩:∃row,A[0]? = some row:=⟨A[0]'(by rw[<-f.o];exact h1),Ze _⟩
  obtain⟨bA,rfl,_,_⟩:=g.o.has h1;obtain⟨aX,cx,_,F,_⟩:=g.o.at_ d;have V:row.length=a:=p.o row (Zz d);rw[V]at F;have h3:(0:Int)<(nB:Int):=ω;clear d V;go_wp2;go_meet
  case rel=>exact⟨by rw[u],rfl⟩
 rename World=>wc
 obtain⟨rfl,rfl⟩:=hcut;go_wp2_with fail
 go_loopw [5,6] (λov E wr=>∃(r:Nat) (O:OA) (cO:Nat) (l:List Value),E=.int .i64 r/\ov=(O,r,cO)/\r<=nB/\TabZ wr wc.heap.size (O,r,cO) l ((y1q A B).take r)/\Below wc wc wr)
  (λ_ E _=>nB-(intOf E).toNat)
 case atStart=>exact⟨0,none,0,[],rfl,rfl,Zb _,TabZ.nil _ _,Zj _ _⟩
 rename World=>wr
 obtain⟨r,O,cO,l,rfl,rfl,hr,j,b⟩:=hrel;refine μ3 j j.nlen b λHO aj c=>?_;have e0:=zab b aG;have e1:=zab b aH;by_cases T:r<nB
 ·obtain⟨row,d⟩:∃row,A[r]? = some row:=⟨A[r]'(by rw[<-f.o];exact T),Ze _⟩
  obtain⟨x,m⟩:∃x,B[r]? = some x:=⟨B[r]'(by rw[<-aa.o];exact T),Ze _⟩
  have HT:=un (y4x d m);have t:=un (p.o row (Zz d));obtain⟨bA,rfl,_,_⟩:=g.o.has ω;obtain⟨bB,rfl,_,_⟩:=G.o.has ω;obtain⟨aX,cx,_,F,R⟩:=(g.o.below b).at_ d;have ae:=un R;have z2:=(G.o.below b).at_ m;rw[t.o]at F;have aV:(r:Int)<(nB:Int):=ω;have aU:(0:Int)<=(r:Int):=Zf _;clear j b R d m;go_upto_region 10 with (at_builtin;go_loud (refine wpl rfl (λK i=>y1n (N:=a) _ _ rfl rfl (IntsZ.nil _ wr.heap.size) rfl (by have h:=ae.o.news;rw[t.o]at h;exact h) (Z6 _) ω (Za _) K i) ?_;rintro _ w6 ⟨X6,c6,rfl,hI6,hk6,hb6,hf6,ho6⟩;have ac:=un hI6;have s:=un hb6;have d0:=zab hb6 e0;have d1:=zab hb6 e1;have d2:=zab hb6 z2;clear hI6 hk6 hb6 hf6 ho6))
  go_upto_region 11 with (at_builtin;go_loud (refine wpl rfl (λK i=>y1n (N:=a+1) _ _ rfl rfl (ac.o.alloc _) rfl (ys:=[x]) (y19 (zal _ _ _) rfl) (by rw[XV,t.o]) ω (by have:=s.o.size;simp;omega) K i) ?_;rintro _ w7 ⟨X7,c7,rfl,hI7,hk7,hb7,hf7,ho7⟩;have ad:=un hI7;have o:=un ((Xh s.o s.o.size _).trans hb7);clear hI7 hk7 hb7 hf7 ho7))
  go_wp2_with (at_builtin;go_loud (refine wpl rfl (λK i=>y1Q (N:=r+1) _ _ rfl rfl ((HO.o.below o.o).alloc _) rfl (zal _ _ _) ((ad.o.base (Zb _)).alloc _) (by rw[<-aj.o]) ω (by have:=o.o.size;have:=c.o.size;simp;omega) K i) ?_;rintro _ w8 ⟨O8,c8,rfl,hO8,hk8,hb8,hf8,ho8⟩;have ai:=un hO8;have Z:=un ((Xh (c.o.trans (o.o.mono c.o.size)) (c.o.trans (o.o.mono c.o.size)).size _).trans hb8);clear hO8 hk8 hb8 hf8 ho8))
  go_roundw
  case rel=>exact⟨r+1,O8,c8,_,by go_num,rfl,ω,by rw[HT.o];exact ai.o,Z.o⟩
  case measure=>simp[intOf];omega
 obtain rfl:r=nB:=ω;have HW:=un (show TabZ wr 0 (O,r,cO) l (y1q A B)by have h:=j.base (Zb _);rw[ZZ (by rw[y47,<-f.o];exact Za _)]at h;exact h);have X:=un (g.o.below b);have ax:a+1<=8:=ω;have aT:IntKind.i64.wrap ((a:Int)+1)=((a+1:Nat):Int):=by rw[y1v ω];omega
 have af:=un (fun(w:World) (h:TabZ w 0 (aA,r,cA) lA A)=>y5Y aA r cA lA A a w h p.o I.o U ω);have ag:=un (fun(w:World) (h:TabZ w 0 (O,r,cO) l (y1q A B))=>y5C O r cO l (y1q A B) (a+1) w h (y48 p.o) (y46 I.o ab.o) U ax);clear j b;go_wp2_with fail
 refine(af.o _ X.o).mono ?_;rintro e w2 ⟨Q,cQ,rfl,hQ,hb2⟩;rw[y1y]at hQ ⊢;refine μ3 hQ (HW.o.below hb2) (c.o.trans (hb2.mono c.o.size)) λHQ ao H=>?_;clear hQ hb2;go_wp2_with fail
 refine(ag.o _ ao.o).mono ?_;rintro e w3 ⟨rfl,hb3⟩;have al:=un (HQ.o.below hb3);have Y:=un (H.o.trans (hb3.mono H.o.size));clear hb3;generalize hk1:(y1i A a r).length=n at *
 generalize hk2:(y1i (y1q A B) (a+1) r).length=k2 at *
 have J:=un hk1;have aJ:=un hk2;clear hk1 hk2;have aS:((k2:Int) == (n:Int))=decide (k2=n):=by by_cases e:k2=n<;>simp[e]<;>omega
 go_wp2;refine Zh (v:=.tuple #[(Q,n,cQ),.bool (decide (k2=n))]) (by simp[results,results101,go_sem]) rfl ?_;exact⟨Q,cQ,by rw[J.o],by rw[J.o];exact al.o.base (Zl q.o.size c.o.size),q.o.trans (Y.o.mono q.o.size)⟩
