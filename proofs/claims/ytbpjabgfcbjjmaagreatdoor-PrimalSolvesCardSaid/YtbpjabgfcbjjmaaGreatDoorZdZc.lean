/- Contracts and lemmas: Zd Zp Zk Zs. Conditions: as each says. -/
import Derived.Test.YtbpjabgfcbjjmaaGreatDoorTbzZc
import Derived.Deep.CutBlock
set_option linter.all false
set_option maxHeartbeats 4000000
set_option maxRecDepth 100000
namespace Go.Proofs.YtbpjabgfcbjjmaaGreatDoor
open Go.RowKit Am Go.Proofs.Tryz
open Dz (ez y1p y1C y1O y2h y1U y2u)
attribute [local go_sem ↓] Go.wp_at_zero Go.wp_at_succ
variable {B row ys:List Int}{p rs:List Nat}{H N b c i k n r:Nat}{w:World}
def zN (l:List Nat):List Int:=l.map fun(x:Nat)=>(x:Int)
theorem y1y(l:List Nat):(zN l).length=l.length:=by simp[zN]
theorem y49{l:List Nat}{x:Nat}(h:l[k]? = some x):(zN l)[k]? = some (x:Int):=by simp[zN,h]
def y5c (w:World) (M:List (List Int)) (e:Ending) (w':World):Prop:=∃(A':OA) (c':Nat) (l:List Value),e=.returned (A',M.length,c')/\TabZ w' w.heap.size (A',M.length,c') l M/\Below w w w'
theorem y4b{A:List (List Int)}{cols:List Nat}(h:rs[i]? = some r):y1p A (rs.take (i+1)) cols=y1p A (rs.take i) cols++[cols.map λc=>ez A r c]:=by unfold y1p;rw[Xd,h,X2];rfl
theorem y1D{α β:Type}{f:α->β}{l:List α}{r:α}(h:l[i]? = some r):(l.take (i+1)).map f=(l.take i).map f++[f r]:=by rw[Xd,h,X2];rfl
theorem y5R{A:List (List Int)}(h:A[r]? = some row)(hc:c<row.length):row[c]? = some (ez A r c):=by unfold ez;rw[Zf (l:=A),h];exact zaO hc
theorem IntsZ.newsTake(h:IntsZ w H (b,n,c) ys){hi:Nat}(a:hi<=n)(cc:Nat):News w 1 (b,hi,cc) hi (zcells (ys.take hi)):=by
 rcases h.newsCut 0 hi (Zb _) a with ⟨e,_⟩ | ⟨i,c',e,d,f,g⟩
 cases e;injection e with e1 e2 e3;injection e1 with e1;subst e1;exact .inr ⟨_,cc,rfl,d,f,g⟩
theorem IntsZ.newsDrop(h:IntsZ w H (b,n,c) ys){lo:Nat}(k:lo<=n)(a:n<=c)(cc:Nat):News w 1 (.slice (some ⟨b,if c=lo then 0 else lo,none⟩) (n-lo) cc) (n-lo) (zcells (ys.drop lo)):=by
 by_cases e:c=lo;have l:=h.len;have i:ys.drop lo=[]:=XF ω;rw[i];exact .inr ⟨_,cc,rfl,by simp[zcells];omega,λj x d=>by simp[zcells]at d,λx d=>by simp[zcells]at d⟩;rw[if_neg e];rcases h.newsCut lo n k (Za _)with ⟨e,_⟩ | ⟨m,c',e,a,f,g⟩
 cases e;injection e with e1 e2 e3;injection e1 with e1;subst e1;have l:=h.len;rw[ZW ω]at a f g;exact .inr ⟨_,cc,rfl,a,f,g⟩
theorem y3O(W:World)(g n c k:Nat)(h1:k+1<=n) :
  (Instr.slice 30 (g,n,c) (some (.int .i64 ((k:Int)+1))) none none).run prog W=.ok (.slice (some ⟨g,if c=k+1 then 0 else k+1,none⟩) (n-(k+1)) (c-(k+1))) W:=by
 have d:prog.underlying 30=some (.slice (prog.elem 30)):=by simp[Program.elem,underlying30]
 have a:prog.elem 30=3:=by simp[Program.elem,underlying30]
 have b:(Go.sizeOf 3).run prog W=.ok 1 W:=by simp[go_sem]
 have hk:((k:Int)+1).toNat=k+1:=ω;rw[run_slice_l W 30 _ _ _ d .i64 _ ω ω,a,b,hk];by_cases h0:c=k+1;simp[Result.andThen,sliced,h0];simp[Result.andThen,sliced,Addr.add,h0]
theorem behind(g n c k:Nat)(h1:k+1<=n)(a:n<=c):∃off:Nat,(∀W:World,(Instr.slice 30 (g,n,c) (some (.int .i64 ((k:Int)+1))) none none).run prog W=.ok (.slice (some ⟨g,off,none⟩) (n-(k+1)) (c-(k+1))) W) /\
  ∀(w:World) (H:Nat) (ys:List Int),IntsZ w H (g,n,c) ys->News w 1 (.slice (some ⟨g,off,none⟩) (n-(k+1)) (c-(k+1))) (n-(k+1)) (zcells (ys.drop (k+1))) :=
 ⟨_,λW=>y3O W g n c k h1,λ_ _ _ h=>h.newsDrop h1 a _⟩
theorem y5d{M:List (List Int)}(h:y1U 9 M)(a:n<=3):(y1C n M).natAbs<=4374/\∀c,(y1O n M c).natAbs<=39366:=by
 constructor;refine Zj (Dz.detZ_abs h) ?_;rcases(show n=0\/n=1\/n=2\/n=3 by omega)with rfl | rfl | rfl | rfl<;>decide
 intro c;refine Zj (Dz.detAt_abs h c) ?_;rcases(show n=0\/n=1\/n=2\/n=3 by omega)with rfl | rfl | rfl | rfl<;>decide
theorem y3N{M:List (List Int)}(h:M[k+1]? = some row):(M.tail.take (k+1)).map (y2h c)=(M.tail.take k).map (y2h c)++[y2h c row]:=by grind[y1D]
namespace Zr
theorem y5U(aA:OA)(nA cA:Nat)(lA:List Value)(A:List (List Int))(M:OA)(a P:Nat)(rs:List Nat)(aC:OA)(nC cC:Nat)(cols:List Nat)(w:World)(Q:TabZ w 0 (aA,nA,cA) lA A)(E:IntsZ w 0 (M,a,P) (zN rs))(C:IntsZ w 0 (aC,nC,cC) (zN cols))
  (h1:∀r∈rs,r<A.length/\∀c∈cols,c<(A.getD r []).length) (B:a<=1000) (h3:nC<=1000):Calls prog 33 #[(aA,nA,cA),(M,a,P),(aC,nC,cC)] w (y5c w (y1p A rs cols)):=by
 refine μ6 Q E C h1 (show a=rs.length by rw[E.len,y1y]) (show nC=cols.length by rw[C.len,y1y]) λZ HR HC Y y x=>?_;clear Q E C h1;go_enter func33,ntmps33;go_wp2_with fail
 go_loopw [7,8] (λov F wr=>∃(i:Nat) (O:OA) (k:Nat) (l:List Value),F=.int .i64 i/\ov=(O,i,k)/\i<=a/\TabZ wr w.heap.size (O,i,k) l (y1p A (rs.take i) cols)/\Below w w wr)
  (λ_ F _=>a-(intOf F).toNat)
 case atStart=>exact⟨0,none,0,[],rfl,rfl,Zb _,TabZ.nil _ _,Zh _ _⟩
 obtain⟨i,O,k,l,rfl,rfl,hi,o,e⟩:=hrel;have J:=un o;have t:=un e;by_cases ay:i<a
 ·obtain⟨r,hr⟩:∃r,rs[i]? = some r:=⟨rs[i]'(by rw[<-y.o];exact ay),Ze _⟩
  have aF:=un hr;have ak:=un (y4b (A:=A) (cols:=cols) hr);have p:=Y.o r (Zl hr);obtain⟨row,q⟩:∃row,A[r]? = some row:=⟨A[r]'(p.1),Ze _⟩
  refine μ5 q (show ∀c∈cols,c<row.length by have h:=p.2;rw[Zf,q]at h;exact h) (Z.o.below e) (HR.o.below e) (HC.o.below e) λam ac n L H=>?_;obtain⟨bR,rfl,_,aK⟩:=L.o.has ω;obtain⟨bA,rfl,_,aI⟩:=n.o.has (by rw[n.o.nlen];omega);have aT:r<nA:=by rw[n.o.nlen];exact p.1
  have aU:(r:Int)<(nA:Int):=ω;have aS:(0:Int)<=(r:Int):=Zg _;have aj:=un o.nlen;have aO:(i:Int)<(a:Int):=ω;have aN:(0:Int)<=(i:Int):=Zg _;have T:=L.o.at_ (y49 hr);obtain⟨aX,cx,aw,U,R⟩:=n.o.at_ q;have I:=un R;clear o e hr q p aw R;go_wp2_with fail
  go_loopw [9,10] (λxv G s=>∃(j:Nat) (X:OA) (cX:Nat),G=.int .i64 j/\xv=(X,j,cX)/\j<=nC/\IntsZ s wr.heap.size (X,j,cX) ((cols.take j).map λc=>ez A r c)/\Below wr.heap.size wr s)
   (λ_ G _=>nC-(intOf G).toNat)
  case atStart=>exact⟨0,none,0,rfl,rfl,Zb _,IntsZ.nil _ _,Zh _ _⟩
  rename World=>s
  obtain⟨j,X,cX,rfl,rfl,hj,m,b⟩:=hrel;have HX:=un m;have u:=un b;by_cases ax:j<nC
  ·obtain⟨c,hc⟩:∃c,cols[j]? = some c:=⟨cols[j]'(by rw[<-x.o];exact ax),Ze _⟩
   have av:=ac.o c (Zl hc);have ah:=un (y1D (f:=λc=>ez A r c) hc);obtain⟨N,rfl,_,_⟩:=I.o.has ω;obtain⟨bC,rfl,_,aJ⟩:=H.o.has ω;have V:=H.o.at_ (y49 hc);have W:=I.o.at_ (y5R am.o av);have aM:(c:Int)<(row.length:Int):=ω;have aL:(0:Int)<=(c:Int):=Zg _;have aQ:(j:Int)<(nC:Int):=ω;have aP:(0:Int)<=(j:Int):=Zg _;have ap:=un m.len;generalize ez A r c=z at *
   clear m hc;go_upto_region 9 with fail
   have y0:=zab b T;have aY:=zaa y0;have y1:=zab b U;have a0:=zaa y1;have y2:=zab b V;have a2:=zaa y2;have y3:=zab b W;have a4:=zaa y3;refine zaS (S:=λw'=>χ w' bR i (.int .i64 (r:Int))/\χ w' bA r (.slice (some ⟨N,0,none⟩) row.length cx)/\χ w' bC j (.int .i64 (c:Int))/\χ w' N c (.int .i64 z)) [16] (h:=λhHeld=>?_);refine zaw [0,1,2,3,4,5,6,7,8,9,10,11,12,13] ?_;repeat refine tkL (hS:=hHeld) (h:=?_)
   refine zao ?_;refine zaB 14 (h:=λK d=>?_);go_simp;refine shutOn d λhHeld=>?_;clear d K;refine zaB 15 (h:=λK d=>?_);(refine wps rfl (λK D=>y1n _ _ rfl rfl (HX.o.drew.alloc _) rfl (ys:=[z]) (y19 (zal _ _ _) rfl) (by rw[<-ap.o]) ω (by have:=u.o.size;simp;omega) K D) ?_;rintro _ w6 ⟨X6,c6,rfl,hI6,hk6,hb6,hf6,ho6⟩;have ad:=un hI6;have g:=un ((bdrew (Xe u.o u.o.size _)).trans hb6);have aZ:=zab g.o T;have a1:=zab g.o U;have a3:=zab g.o V;have a5:=zab g.o W;clear hI6 hk6 hb6 hf6 ho6);refine shutOn d λhHeld=>?_;clear d K;refine zay 16 (h:=λK d=>?_);go_simp;refine shutOff d ?_;clear d K;refine zaM (h:=?_);go_wp2;go_roundw
   case rel=>exact⟨j+1,X6,c6,by go_num,rfl,ω,by rw[ah.o];exact ad.o,g.o⟩
   case measure=>simp[intOf];omega
  obtain rfl:nC=j:=ω;refine μ3 (show IntsZ s 0 (X,nC,cX) (cols.map λc=>ez A r c)by have h:=m.base (Zb _);rw[x.o,XV]at h;rw[x.o];exact h) (J.o.below b) (t.o.trans (b.mono t.o.size)) λao ai v=>?_;clear m b;go_wp2_with (at_builtin;go_loud (refine wpl rfl (λK D=>y1Q _ _ rfl rfl (ai.o.alloc _) rfl (zal _ _ _) (ao.o.alloc _) (by rw[<-aj.o]) ω (by have:=v.o.size;simp;omega) K D) ?_;rintro _ w7 ⟨A7,c7,rfl,hI7,hk7,hb7,hf7,ho7⟩;have ae:=un hI7;have aa:=un ((Xe v.o v.o.size _).trans hb7);clear hI7 hk7 hb7 hf7 ho7))
  go_roundw
  case rel=>exact⟨i+1,A7,c7,_,by go_num,rfl,ω,by rw[ak.o];exact ae.o,aa.o⟩
  case measure=>simp[intOf];omega
 obtain rfl:a=i:=ω;have HM:=un (show TabZ wr w.heap.size (.slice O (y1p A rs cols).length k) l (y1p A rs cols)by have h:=J.o;have B:=h.nlen;rw[y.o,XV]at h B;rw[<-B];exact h);have HL:=un (show a=(y1p A rs cols).length by rw[y.o];unfold y1p;rw[ZH]);clear o e;go_wp2;go_ret;exact⟨O,k,l,by rw[<-HL.o];rfl,HM.o,t.o⟩
theorem y6d:∀(n:Nat) (aA:OA) (cA:Nat) (lA:List Value) (M:List (List Int)) (w:World),TabZ w 0 (aA,n,cA) lA M->(∀r∈M,r.length=n)->y1U 9 M->n<=4->Calls prog 32 #[(aA,n,cA)] w λe w'=>e=.returned (.int .i64 (y1C n M))/\Below w w w':=by
 intro n
 induction n with
 | zero =>
  intro aA cA lA M w _ _ _ _;go_enter func32,ntmps32;go_wp2;go_ret;exact⟨rfl,Zh _ _⟩
 | succ n ih =>
  intro aA cA lA M w m G E hn;obtain⟨N,U⟩:∃N,N=n+1:=⟨_,rfl⟩
  have d:=un U;rw[<-U]at m G hn ⊢;have a2:0<N:=ω;have al:n<=3:=ω;refine μ7 m G E m.nlen ih (y5d (n:=n) E al) (λc=>(y5d (n:=n) (E.cut c) al).1) λHA C HE Q aH az aB=>?_;obtain⟨au,H⟩:∃au,M[0]? = some au:=⟨M[0]'(by rw[<-Q.o];omega),Ze _⟩
  have aQ:=un H;have ae:=un (G _ (Zl H));obtain⟨bA,rfl,_,_⟩:=m.has ω;obtain⟨a1,aj,_,W,F⟩:=m.at_ H;rw[ae.o]at W F;obtain⟨D,rfl,_,_⟩:=F.has ω;have aE:=un F;have a8:((N:Int) == 0)=false:=by simp;omega
  clear m G E ih H F U;go_enter func32,ntmps32;go_wp2_with fail
  go_loopw [3,4] (λsv cv wr=>∃c:Nat,cv=.int .i64 c/\c<=N/\sv=.int .i64 (y2u c (y1O n M))/\Below w w wr)
   (λ_ cv _=>N-(intOf cv).toNat)
  case atStart=>exact⟨0,rfl,Zb _,rfl,Zh _ _⟩
  obtain⟨c,rfl,hc,rfl,t⟩:=hrel;have p:=un t;by_cases ak:c<N
  ·have HS:=un (Zj (Dz.sumZ_abs (f:=y1O n M) (n:=c) λi _=>az.o.2 i) (ZS 39366 (show c<=4 by omega)));have T:=un (show y2u (c+1) (y1O n M)=y2u c (y1O n M)+y1O n M c from rfl);have q1:=aE.o.at_ (y5R aQ.o (by rw[ae.o];exact ak));refine μ3 (HE.o.ez 0 c) (show y1O n M c=if ez M 0 c=0 then 0 else if c%2=0 then ez M 0 c*y1C n (M.tail.map (y2h c))else -(ez M 0 c*y1C n (M.tail.map (y2h c)))from rfl) (aB.o c) λaD P aC=>?_
   generalize y1O n M c=dc at *
   generalize ez M 0 c=z at *
   generalize y2u c (y1O n M)=s at *
   have p0:=zab t W;have p1:=zab t q1;have a4:(c:Int)<(N:Int):=ω;have a3:(0:Int)<=(c:Int):=Zg _;clear t;by_cases V:z=0
   ·have g:=un (show y2u (c+1) (y1O n M)=s by rw[T.o,P.o,if_pos V,Int.add_zero]);go_wp2;go_roundw
    case rel=>exact⟨c+1,by go_num,ω,by rw[g.o],p.o⟩
    case measure=>simp[intOf];omega
   have ag:=un V;have be:(z == 0)=false:=by simpa using V
   have ax:=un (HA.o.below p.o);go_wp2_with fail
   go_loopw [5,6] (λmv Z A=>∃(k:Nat) (O:OA) (j:Nat) (l:List Value),Z=.int .i64 ((k:Int)+1)/\mv=(O,k,j)/\k<=n/\TabZ A wr.heap.size (O,k,j) l ((M.tail.take k).map (y2h c))/\Below wr.heap.size wr A)
    (λ_ Z _=>N-(intOf Z).toNat)
   case atStart=>exact⟨0,none,0,[],rfl,rfl,Zb _,TabZ.nil _ _,Zh _ _⟩
   rename World=>A
   obtain⟨k,O,j,l,rfl,rfl,hk,v,b⟩:=hrel;refine μ3 v b v.nlen λHO I aP=>?_;by_cases a9:k<n
   ·obtain⟨row,x⟩:∃row,M[k+1]? = some row:=⟨M[k+1]'(by rw[<-Q.o];have:=d.o;omega),Ze _⟩
    have aK:=un (y3N (c:=c) x);obtain⟨aX,cx,_,z1,o⟩:=ax.o.at_ x;rw[C.o _ (Zl x)]at z1 o;have aR:=un (C.o _ (Zl x));have aL:=un (show N-1=n by have:=d.o;omega);obtain⟨bX,rfl,_,_⟩:=o.has ω;have aS:=un o;have aI:=un (o.below b);have y1:=zab b z1;have aU:N<=cx:=o.form.2.1;obtain⟨off,bd,am⟩:=behind bX N cx c ω aU;have aM:=un am;clear am;have a6:(k:Int)+1<(N:Int):=by have:=d.o;omega
    have a5:(0:Int)<=(k:Int)+1:=ω;have a7:(k:Int)<(n:Int):=ω;clear v x o b;go_upto_region 14 with (at_builtin;go_loud (refine wpl rfl (λK u=>y1n (N:=c) _ _ rfl rfl (IntsZ.nil _ A.heap.size) rfl (aI.o.newsTake (hi:=c) ω _) σ ω (Za _) K u) ?_;rintro _ w6 ⟨X6,c6,rfl,hI6,hk6,hb6,hf6,ho6⟩;refine μ3 hI6 (I.o.trans (hb6.mono I.o.size)) hb6 λaF J ab=>?_;have y2:=zab J.o z1;have aJ:=un (aS.o.below J.o);clear hI6 hk6 hb6 hf6 ho6))
    go_upto_region 15 with (at_builtin;go_loud (refine wpl rfl (λK u=>y1n (N:=n) _ _ rfl rfl aF.o rfl (aM.o _ _ _ aJ.o) (by rw[XU,ZF,aR.o];have:=aL.o;omega) ω (by have:=ab.o.size;omega) K u) ?_;rintro _ w7 ⟨X7,c7,rfl,hI7,hk7,hb7,hf7,ho7⟩;refine μ3 hI7 (J.o.trans (hb7.mono I.o.size)) (ab.o.trans hb7) λaG L ay=>?_;clear hI7 hk7 hb7 hf7 ho7))
    go_wp2_with (at_builtin;go_loud (refine wpl rfl (λK u=>y1Q (N:=k+1) _ _ rfl rfl ((HO.o.below ay.o).alloc _) rfl (zal _ _ _) ((aG.o.base (Zb _)).alloc _) (by rw[<-aP.o]) ω (by have:=L.o.size;simp;omega) K u) ?_;rintro _ w8 ⟨O8,c8,rfl,hO8,hk8,hb8,hf8,ho8⟩;have aO:=un hO8;have q:=un ((Xe L.o L.o.size _).trans hb8);clear hO8 hk8 hb8 hf8 ho8))
    go_roundw
    case rel=>exact⟨k+1,O8,c8,_,by go_num,rfl,ω,by rw[aK.o];exact aO.o,q.o⟩
    case measure=>simp[intOf];omega
   obtain rfl:n=k:=ω;have af:=un (show TabZ A 0 (O,n,j) l (M.tail.map (y2h c))by have h:=v.base (Zb _);rw[ZW (by rw[List.length_tail,<-Q.o];have:=d.o;omega)]at h;exact h);have B:=un (p.o.trans (b.mono p.o.size));have X:=zab b p0;have bf:=zaa X;have Y:=zab b p1;have bg:=zaa Y;have ac:=un (fun(w:World) (h:TabZ w 0 (O,n,j) l (M.tail.map (y2h c)))=>aH.o O j l (M.tail.map (y2h c)) w h (λr hr=>by obtain⟨y,hy,rfl⟩:=ZG.1 hr;rw[Dz.cutL_len c y (by rw[C.o y (List.mem_of_mem_tail hy)];exact ak),C.o y (List.mem_of_mem_tail hy)];have:=d.o;omega) (HE.o.cut c) ω);generalize y1C n (M.tail.map (y2h c))=dm at *
   have R:=un (Zj (Nat.le_of_eq (XX z dm)) (Xo aD.o aC.o));have w1:IntKind.i64.wrap (z*dm)=z*dm:=y1v (by have:=R.o;omega);have w2:IntKind.i64.wrap (s+z*dm)=s+z*dm:=y1v (by have:=R.o;have:=HS.o;omega);have w3:IntKind.i64.wrap (s-z*dm)=s-z*dm:=y1v (by have:=R.o;have:=HS.o;omega);have ba:(c:Int).tmod 2=((c%2:Nat):Int):=rfl;have bb:¬((n:Int)+1<(N:Int)):=by have:=d.o;omega
   clear v b p0 p1 W q1;by_cases an:c%2=0
   ·have g:=un (show y2u (c+1) (y1O n M)=s+z*dm by rw[T.o,P.o,if_neg ag.o,if_pos an]);go_upto_region 17 with fail
    refine zaS (S:=λw'=>χ w' bA 0 (.slice (some ⟨D,0,none⟩) N aj)/\χ w' D c (.int .i64 z)) [11] (h:=λhHeld=>?_);refine zaw [0,1,2,3,4,5,6,7] ?_;repeat refine tkL (hS:=hHeld) (h:=?_)
    refine zao ?_;refine zaB 8 (h:=λK a=>?_);go_simp;(go_at_call 32;(with_reducible refine(ac.o _ af.o.drew).mono ?_);rintro e w8 ⟨rfl,hb8⟩;have q:=un (B.o.trans ((It.bdrew0' hb8).mono B.o.size));have t0:=zab (It.bdrew0' hb8) X;have t1:=zab (It.bdrew0' hb8) Y;clear hb8);(try go_wp2_with fail);refine shutOn a λhHeld=>?_;clear a K;refine zaw [9,10] ?_;repeat refine tkL (hS:=hHeld) (h:=?_)
    refine zao ?_;refine zay 11 (h:=λK a=>?_);go_simp;refine shutOff a ?_;clear a K;refine zaM (h:=?_);go_wp2;go_roundw
    case rel=>exact⟨c+1,by go_num,ω,by rw[g.o],q.o⟩
    case measure=>simp[intOf];omega
   have g:=un (show y2u (c+1) (y1O n M)=s-z*dm by rw[T.o,P.o,if_neg ag.o,if_neg an,Int.sub_eq_add_neg]);have bc:c%2=1:=ω;go_upto_region 18 with fail
   refine zaS (S:=λw'=>χ w' bA 0 (.slice (some ⟨D,0,none⟩) N aj)/\χ w' D c (.int .i64 z)) [11] (h:=λhHeld=>?_);refine zaw [0,1,2,3,4,5,6,7] ?_;repeat refine tkL (hS:=hHeld) (h:=?_)
   refine zao ?_;refine zaB 8 (h:=λK a=>?_);go_simp;(go_at_call 32;(with_reducible refine(ac.o _ af.o.drew).mono ?_);rintro e w8 ⟨rfl,hb8⟩;have q:=un (B.o.trans ((It.bdrew0' hb8).mono B.o.size));have t0:=zab (It.bdrew0' hb8) X;have t1:=zab (It.bdrew0' hb8) Y;clear hb8);(try go_wp2_with fail);refine shutOn a λhHeld=>?_;clear a K;refine zaw [9,10] ?_;repeat refine tkL (hS:=hHeld) (h:=?_)
   refine zao ?_;refine zay 11 (h:=λK a=>?_);go_simp;refine shutOff a ?_;clear a K;refine zaM (h:=?_);go_wp2;go_roundw
   case rel=>exact⟨c+1,by go_num,ω,by rw[g.o],q.o⟩
   case measure=>simp[intOf];omega
  obtain rfl:c=N:=ω;have g:=un (show y2u c (y1O n M)=y1C c M by rw[d.o];rfl);generalize y2u c (y1O n M)=s at *
  clear t;go_wp2;go_ret;exact⟨by rw[<-g.o];rfl,p.o⟩
end Zr
open Dz (y1l)
theorem y3E:∀ {n k:Nat},n<k->y1l n k=[]
 | _,0,h=>absurd h (ZN _)
 | 0,_+1,_=>rfl
 | n+1,k+1,h=>by unfold y1l;rw[if_pos h]
theorem y4R(h:k<=n):y1l (n+1) (k+1)=y1l n (k+1)++(y1l n k).map λx=>x++[n]:=by
 conv=>lhs;unfold y1l
 rw[if_neg ω]
theorem y1H:∀(n k:Nat),(y1l n k).length<=2^n
 | n,0=>by rw[show y1l n 0=[[]]by unfold y1l;rfl];grind
 | 0,_+1=>Zb _
 | n+1,k+1=>by
  unfold y1l;split
  exact Zb _;rw[Zz,ZH,Xc];have:=y1H n (k+1);have:=y1H n k;omega
theorem TabZ.one(c:w.heap.size=b):TabZ (w.alloc (.cells #[()] 30)) w.heap.size (.slice (some ⟨b,0,none⟩) 1 1) [.slice none 0 0] [[]]:=by subst c;refine⟨rfl,λk s r h1 a=>?_,YR (e:=30) (size:=1) (base:=w.heap.size) w #[()] 1 (Za _) δ rfl⟩;grind[IntsZ.nil]
theorem TabZ.other{w':World}{v u:Value}{l:List Value}{M:List (List Int)}(h:TabZ w H v l M)(hk:TKeep 30 w w')(hf:∀j,j<w.heap.size->u.ownBlock≠some j->w'.heap[j]? = w.heap[j]?)(b:∀g,u.ownBlock=some g->v.ownBlock≠some g):TabZ w' H v l M :=
 h.keepAll (λk a=>hf k (h.own.lt k a).2 λe=>b k e a) λ_ _ _ r=>r.tk hk δ
theorem y5j(l m:List Nat):zN (l++m)=zN l++zN m:=by simp[zN]
namespace Zr
theorem y5g:∀(n k:Nat) (w:World),n<=8->k<=8->Calls prog 81 #[(n:Int),(k:Int)] w (y5c w ((y1l n k).map zN)):=by
 intro n
 induction n with
 | zero =>
  intro k w _ u;by_cases hk:k=0
  ·subst hk;go_enter func81,ntmps81;go_wp2;go_ret
   exact⟨_,_,_,rfl,TabZ.one rfl,zae _ _⟩
  have b:=un (show(y1l 0 k).map zN=[]by rw[y3E ω];rfl);have al:(0:Int)<(k:Int):=ω;go_enter func81,ntmps81;go_wp2;go_ret;rw[b.o];exact⟨_,_,_,rfl,TabZ.nil _ _,Zh _ _⟩
 | succ n ih =>
  intro k w hn u;obtain⟨N,B⟩:∃N,N=n+1:=⟨_,rfl⟩
  have m:=un B;rw[<-B]at hn ⊢;have aw:(N:Int)-1=(n:Int):=ω;clear B;by_cases hk:k=0
  ·subst hk;have b:=un (show(y1l N 0).map zN=[[]]by unfold y1l;rfl);go_enter func81,ntmps81;go_wp2;go_ret
   rw[b.o];exact⟨_,_,_,rfl,TabZ.one rfl,zae _ _⟩
  have az:((k:Int) == 0)=false:=by simp;omega
  by_cases D:N<k
  ·have b:=un (show(y1l N k).map zN=[]by rw[y3E D];rfl);have am:(N:Int)<(k:Int):=ω
   go_enter func81,ntmps81;go_wp2;go_ret;rw[b.o];exact⟨_,_,_,rfl,TabZ.nil _ _,Zh _ _⟩
  obtain⟨j,hj⟩:∃j,k=j+1:=⟨k-1,ω⟩
  have HJ:=un hj;have al:(k:Int)-1=(j:Int):=ω;have am:¬(N:Int)<(k:Int):=ω;refine μ6 (show(y1l N k).map zN=(y1l n k).map zN++((y1l n j).map λx=>x++[n]).map zN by rw[m.o,hj,y4R (by have:=m.o;omega),X2]) (fun(w:World)=>ih k w (by have:=m.o;omega) u) (fun(w:World)=>ih j w (by have:=m.o;omega) ω) (Zj (y1H n k) (Xn δ (show n<=8 by have:=m.o;omega))) (Zj (y1H n j) (Xn δ (show n<=8 by have:=m.o;omega))) (show ∀x∈y1l n j,x.length<=8 from λx r=>by obtain⟨P,_,h⟩:=Dz.picks_pl r;omega) λb Q R ac ad aj=>?_;clear hj ih D hk;generalize y1l n k=pk at *
  generalize y1l n j=pj at *
  go_enter func81,ntmps81;go_wp2_with fail
  refine(Q.o _).mono ?_;rintro e w1 ⟨O,a,l,rfl,c,hb1⟩;have HP:=un (show(pk.map zN).length<=256 by rw[ZH];exact ac.o);generalize hp:(pk.map zN).length=p at *
  refine μ3 hp c hb1 λae s G=>?_;clear c hb1 hp;go_wp2_with fail
  refine(R.o _).mono ?_;rintro e w2 ⟨S,cS,ls,rfl,hS,hb2⟩;have HQ:=un (show(pj.map zN).length<=256 by rw[ZH];exact ad.o);generalize hq:(pj.map zN).length=q at *
  refine μ5 hq (hS.base (Zb _)) (s.o.below hb2) (G.o.trans (hb2.mono G.o.size)) (show ∀g,(Value.slice O p a).ownBlock=some g->(Value.slice S q cS).ownBlock≠some g from λg h1 o=>by have:=(s.o.own.lt g h1).2;have:=(hS.own.lt g o).1;omega) λy ag Y L I=>?_;clear hS hb2 hq;go_wp2_with fail
  go_loopw [5,7] (λov E wr=>∃(i:Nat) (O:OA) (a:Nat) (l:List Value),E=.int .i64 i/\ov=(O,p+i,a)/\i<=q/\TabZ wr w.heap.size (O,p+i,a) l (pk.map zN++((pj.take i).map λx=>x++[n]).map zN)/\TabZ wr 0 (S,q,cS) ls (pj.map zN)/\(∀g,(Value.slice O (p+i) a).ownBlock=some g->(Value.slice S q cS).ownBlock≠some g)/\Below w w wr)
   (λ_ E _=>q-(intOf E).toNat)
  case atStart=>exact⟨0,O,a,l,rfl,rfl,Zb _,by show TabZ _ _ _ _ (_++[]);rw[XO];exact Y.o,ag.o,I.o,L.o⟩
  rename World=>wr
  obtain⟨i,O,a,l,rfl,rfl,hi,c,hS,C,z⟩:=hrel;refine μ5 c hS C z c.nlen λs H F f aa=>?_;have aA:=HP.o;have aB:=HQ.o;by_cases D:i<q
  ·obtain⟨x,r⟩:∃x,pj[i]? = some x:=⟨pj[i]'(by have:=y.o;rw[ZH]at this;omega),Ze _⟩
   have HT:=un (show((pj.take (i+1)).map λx=>x++[n]).map zN=((pj.take i).map λx=>x++[n]).map zN++[zN x++[(n:Int)]]by rw[y1D r,X2];show _++[zN (x++[n])]=_;rw[y5j];rfl);obtain⟨bS,rfl,_,_⟩:=hS.has ω;obtain⟨aX,cx,_,z1,A⟩:=hS.at_ (show(pj.map zN)[i]? = some (zN x)by rw[ZV,r];rfl);rw[y1y]at z1 A;have V:=un A;have aC:=aj.o x (Zl r);have ay:(i:Int)<(q:Int):=ω;have ax:(0:Int)<=(i:Int):=Zg _;clear c hS C z A r;go_upto_region 12 with (at_builtin;go_loud (refine wpl rfl (λK t=>y1n (N:=x.length) _ _ rfl rfl (IntsZ.nil _ wr.heap.size) rfl (by have h:=V.o.news;rw[y1y]at h;exact h) (Z8 _) ω (Za _) K t) ?_;rintro _ w6 ⟨X6,c6,rfl,hI6,hk6,hb6,hf6,ho6⟩;have T:=un hI6;have v:=un hb6;clear hI6 hk6 hb6 hf6 ho6))
   go_upto_region 13 with (at_builtin;go_loud (refine wpl rfl (λK t=>y1n (N:=x.length+1) _ _ rfl rfl (T.o.alloc _) rfl (ys:=[(n:Int)]) (y19 (zal _ _ _) rfl) (by rw[XU,y1y]) ω (by have:=v.o.size;simp;omega) K t) ?_;rintro _ w7 ⟨X7,c7,rfl,hI7,hk7,hb7,hf7,ho7⟩;have U:=un hI7;have d:=un ((Xe v.o v.o.size _).trans hb7);clear hI7 hk7 hb7 hf7 ho7))
   go_wp2_with (at_builtin;go_loud (refine wpl rfl (λK t=>y1Q (N:=p+i+1) _ _ rfl rfl ((s.o.below d.o).alloc _) rfl (zal _ _ _) ((U.o.base (Zb _)).alloc _) (by rw[<-aa.o]) ω (by have:=d.o.size;have:=f.o.size;simp;omega) K t) ?_;rintro _ w8 ⟨O8,c8,rfl,hO8,u,hb8,hf8,ho8⟩;refine μ4 hO8 (((H.o.below d.o).alloc _).other u hf8 F.o) (show ∀g,(Value.slice O8 (p+i+1) c8).ownBlock=some g->(Value.slice (some ⟨bS,0,none⟩) q cS).ownBlock≠some g from λg hg o=>ho8.elim (λe=>F.o g (e▸hg) o) λe=>by have h3:=((H.o.below d.o).own.lt g o).2;rw[hg]at e;injection e with e;simp at e;omega) ((Xe (f.o.trans (d.o.mono f.o.size)) (f.o.trans (d.o.mono f.o.size)).size _).trans hb8) λZ ah J M=>?_;clear hO8 u hb8 hf8 ho8))
   go_roundw
   case rel=>exact⟨i+1,O8,c8,_,by go_num,rfl,ω,by rw[HT.o,<-XP];exact Z.o,ah.o,J.o,M.o⟩
   case measure=>simp[intOf];omega
  obtain rfl:i=q:=ω;have X:=un (show TabZ wr w.heap.size (.slice O ((y1l N k).map zN).length a) l ((y1l N k).map zN)by have h:=s.o;rw[ZW (by have:=y.o;rw[ZH]at this;omega),<-b.o]at h;have o:=h.nlen;rw[<-o];exact h);have W:=un (show p+i=((y1l N k).map zN).length by rw[b.o,Zz,ae.o,ZH,ZH,<-y.o,ZH]);clear c hS C z;go_wp2;go_ret;exact⟨O,a,l,by rw[<-W.o];rfl,X.o,f.o⟩
end Zr
open Dz (y1l y1p y1C y1U y1J y1i)
theorem y3D(h:p∈y1l n k):p.length=k/\∀c∈p,c<n:=by grind[Dz.picks_pl,Dz.pl_mem]
theorem y4n{A:List (List Int)}(a:∀x∈A,x.length=N)(h:r<A.length):(A.getD r []).length=N:=by rw[Zf,Ze h];exact a _ (Xi h)
theorem y4a{A:List (List Int)}:(y1p A rs p).length=rs.length/\∀r∈y1p A rs p,r.length=p.length:=by unfold y1p;exact⟨ZH ..,λr hr=>by obtain⟨x,_,rfl⟩:=ZG.1 hr;exact ZH ..⟩
namespace Zr
theorem y51(aA:OA)(nA cA:Nat)(lA:List Value)(A:List (List Int))(t:OA)(a u:Nat)(rs:List Nat)(N:Nat)(w:World)(K:TabZ w 0 (aA,nA,cA) lA A)(m:IntsZ w 0 (t,a,u) (zN rs))(P:∀x∈A,x.length=N)(L:y1U 9 A)(hr:∀r∈rs,r<A.length)(hn:a<=4)(hN:N<=8) :
  Calls prog 153 #[(aA,nA,cA),(t,a,u),(N:Int)] w λe w'=>e=.returned (.bool (y1J A rs N))/\Below w w w':=by
 refine μ10 K m P L hr (show rs.length=a by rw[m.len,y1y]) (show y1J A rs N=(y1l N a).any λp=>decide (y1C a (y1p A rs p)≠0)by unfold y1J;rw[<-m.len.trans (y1y rs)]) (λp (h:p∈y1l N a)=>y3D h) (Zj (y1H N a) (Xn δ hN)) (fun(w:World)=>y5g N a w hN ω) λT HR W V F Y I E ab HP=>?_;generalize y1J A rs N=wb at *
 generalize y1l N a=ps at *
 clear K m P L hr;go_enter func153,ntmps153;go_wp2_with fail
 refine(HP.o _).mono ?_;rintro e w1 ⟨S,cS,ls,rfl,hS,hb1⟩;generalize hq:(ps.map zN).length=q at *
 have s:=un (show ps.length=q by rw[<-hq,ZH]);have av:q<=256:=by rw[<-s.o];exact ab.o
 have HS:=un (hS.base (Zb _));have f:=un hb1;clear hS hb1 hq;go_wp2_with fail
 go_loopw [8] (λz wr=>∃i:Nat,z=.int .i64 i/\i<=q/\(∀p∈ps.take i,y1C a (y1p A rs p)=0)/\Below w1 w1 wr)
  (λz _=>q-(intOf z).toNat)
 case atStart=>exact⟨0,rfl,Zb _,(λp h=>by cases h),Zh _ _⟩
 rename World=>wr
 obtain⟨i,rfl,hi,y,g⟩:=hrel;have J:=un y;have n:=un g;by_cases al:i<q
 ·obtain⟨p,j⟩:∃p,ps[i]? = some p:=⟨ps[i]'(by rw[s.o];exact al),Ze _⟩
  refine μ3 (Zl j) (show ps.take (i+1)=ps.take i++[p]by rw[Xd,j];rfl) (HS.o.below g) λo HT G=>?_;obtain⟨bS,rfl,_,_⟩:=G.o.has ω;obtain⟨aX,cx,_,R,k⟩:=G.o.at_ (show(ps.map zN)[i]? = some (zN p)by rw[ZV,j];rfl);rw[y1y]at R k;have v:=(E.o p o.o).1;rw[v]at R k;refine μ4 (y5U aA nA cA lA A t a u rs aX a cx p wr ((T.o.below f.o).below g) ((HR.o.below f.o).below g) k (λr hr=>⟨F.o r hr,λc hc=>by rw[y4n W.o (F.o r hr)];exact(E.o p o.o).2 c hc⟩) ω ω) (y4a (A:=A) (rs:=rs) (p:=p)) (V.o.part rs p) v λad H U ac=>?_;generalize hMM:y1p A rs p=M at *
  have D:=un hMM;clear hMM;have ar:(i:Int)<(q:Int):=ω;have aq:(0:Int)<=(i:Int):=Zg _;clear y g k j v;go_wp2_with fail
  refine ad.o.mono ?_;rintro e w2 ⟨O,cO,l,rfl,hO,hb2⟩;rw[H.o.1,Y.o]at hO ⊢;have Z:=un (hO.base (Zb _));have B:=un (n.o.trans (hb2.mono n.o.size));clear hO hb2;go_wp2_with fail
  refine(y6d a O cO l M _ Z.o (λr hr=>by rw[H.o.2 r hr,ac.o]) U.o ω).mono ?_;rintro e w3 ⟨rfl,hb3⟩;have C:=un (B.o.trans (hb3.mono B.o.size));clear hb3;by_cases b:y1C a M=0
  ·rw[b];have HD:=un b;have ai:=un (show ∀p∈ps.take (i+1),y1C a (y1p A rs p)=0 from λx Q=>by rw[HT.o]at Q;rcases ZO.1 Q with h | h;exact J.o x h;rw[Xv.1 h,D.o];exact b)
   clear b;go_wp2;go_roundw
   case rel=>exact⟨i+1,by go_num,ω,ai.o,C.o⟩
   case measure=>simp[intOf];omega
  have HY:=un (show wb=true by rw[I.o];exact List.any_eq_true.2 ⟨p,o.o,Z0 (by rw[D.o];exact b)⟩);generalize y1C a M=d at *
  have ao:(d == 0)=false:=by simpa using b
  have ap:(d != 0)=true:=by simpa using b
  clear b;go_wp2;go_ret;exact⟨by rw[HY.o];rfl,f.o.trans (C.o.mono f.o.size)⟩
 obtain rfl:i=q:=ω;have X:=un (show wb=false by rw[I.o,Yp];intro p j;have h:=J.o p (by rw[ZW (Nat.le_of_eq s.o)];exact j);simpa using h);clear y g;go_wp2;go_ret;exact⟨by rw[X.o];rfl,f.o.trans (n.o.mono f.o.size)⟩
theorem y5Y(aA:OA)(nA cA:Nat)(lA:List Value)(A:List (List Int))(N:Nat)(w:World)(l:TabZ w 0 (aA,nA,cA) lA A)(y:∀x∈A,x.length=N)(v:y1U 9 A)(S:nA<=4)(hN:N<=8) :
  Calls prog 125 #[(aA,nA,cA),(N:Int)] w (zv3 w (zN (y1i A N nA))):=by
 refine μ4 l y v l.nlen λB G D o=>?_;clear l y v;go_enter func125,ntmps125;go_wp2_with fail
 go_loopw [5,6] (λP n wr=>∃(r k:Nat) (O:OA) (c:Nat),n=.int .i64 r/\P=(O,k,c)/\r<=nA/\IntsZ wr w (O,k,c) (zN (y1i A N r))/\Below w w wr)
  (λ_ n _=>nA-(intOf n).toNat)
 case atStart=>exact⟨0,0,none,0,rfl,rfl,Zb _,IntsZ.nil _ _,Zh _ _⟩
 rename World=>wr
 obtain⟨r,k,O,c,rfl,rfl,hr,a,f⟩:=hrel;refine μ3 a f (show(y1i A N r).length=k by rw[a.len,y1y]) λi b t=>?_;have R:k<=4:=by have:=Dz.rankTo_len A N r;rw[a.len,y1y];omega
 by_cases L:r<nA
 ·have C:=un (B.o.below f);have U:(r:Int)<(nA:Int):=ω
  have T:(0:Int)<=(r:Int):=Zg _;have Q:k<=3:=by have:=Dz.rankTo_len A N r;rw[a.len,y1y];omega
  have I:=un (show ∀x∈y1i A N r++[r],x<A.length from λx M=>by rcases ZO.1 M with h | h;have:=Dz.rankTo_lt A N r x h;rw[<-o.o];omega;rw[Xv.1 h,<-o.o];exact L);clear a f;go_upto_region 7 with (at_builtin;go_loud (refine wpl rfl (λK m=>y1n (N:=k) _ _ rfl rfl (IntsZ.nil _ wr.heap.size) rfl (by have h:=(i.o.base (Zb _)).news;rw[y1y,t.o]at h;exact h) (Z8 _) ω (Za _) K m) ?_;rintro _ V ⟨X6,c6,rfl,hI6,hk6,hb6,hf6,ho6⟩;have E:=un hI6;have g:=un hb6;clear hI6 hk6 hb6 hf6 ho6))
  go_upto_region 8 with (at_builtin;go_loud (refine wpl rfl (λK m=>y1n (N:=k+1) _ _ rfl rfl (E.o.alloc _) rfl (ys:=[(r:Int)]) (y19 (zal _ _ _) rfl) (by rw[XU,y1y,t.o]) ω (by have:=g.o.size;simp;omega) K m) ?_;rintro _ z ⟨X7,c7,rfl,hI7,hk7,hb7,hf7,ho7⟩;have q:=un (show IntsZ z wr.heap.size (X7,k+1,c7) (zN (y1i A N r++[r]))by rw[y5j];exact hI7);have d:=un ((Xe g.o g.o.size _).trans hb7);clear hI7 hk7 hb7 hf7 ho7))
  have J:=un (y51 aA nA cA lA A X7 (k+1) c7 (y1i A N r++[r]) N z (C.o.below d.o) (q.o.base (Zb _)) G.o D.o I.o ω hN);have u:=un (show y1i A N (r+1)=if y1J A (y1i A N r++[r]) N=true then y1i A N r++[r]else y1i A N r from rfl);generalize y1J A (y1i A N r++[r]) N=wb at *
  go_wp2_with fail
  refine J.o.mono ?_;rintro e W ⟨rfl,hb8⟩;refine μ3 ((b.o.trans (d.o.mono b.o.size)).trans (hb8.mono (Zj b.o.size d.o.size))) ((q.o.below hb8).base b.o.size) ((i.o.below d.o).below hb8) λp F H=>?_;clear hb8;cases wb
  ·have j:=un (show y1i A N (r+1)=y1i A N r from u.o);go_wp2;go_roundw
   case rel=>exact⟨r+1,k,O,c,by go_num,rfl,ω,by rw[j.o];exact H.o,p.o⟩
   case measure=>simp[intOf];omega
  have j:=un (show y1i A N (r+1)=y1i A N r++[r]from u.o);go_wp2;go_roundw
  case rel=>exact⟨r+1,k+1,X7,c7,by go_num,rfl,ω,by rw[j.o];exact F.o,p.o⟩
  case measure=>simp[intOf];omega
 obtain rfl:r=nA:=ω;have s:=un (show k=(zN (y1i A N r)).length from a.len);clear a f;go_wp2;go_ret;exact⟨O,c,by rw[<-s.o];rfl,by rw[<-s.o];exact i.o,b.o⟩
theorem y5C(aA:OA)(nA cA:Nat)(lA:List Value)(A:List (List Int))(N:Nat)(w:World)(a:TabZ w 0 (aA,nA,cA) lA A)(c:∀x∈A,x.length=N)(b:y1U 9 A)(i:nA<=4)(hN:N<=8) :
  Calls prog 126 #[(aA,nA,cA),(N:Int)] w λe w'=>e=.returned ((y1i A N nA).length:Int)/\Below w w w':=by
 have f:=un (y5Y aA nA cA lA A N w a c b i hN);clear a c b;go_enter func126,ntmps126;go_wp2_with fail
 refine f.o.mono ?_;rintro e w1 ⟨O,cO,rfl,hO,hb⟩;rw[y1y];have d:=un hb;clear hO hb;generalize hn9:(y1i A N nA).length=n at *
 have g:=un hn9;clear hn9;go_wp2;go_ret;exact⟨by rw[g.o];rfl,d.o⟩
end Zr
open Dz (y1U y1i y1q y2p)
theorem y4x{A:List (List Int)}{x:Int}(h:A[r]? = some row)(a:B[r]? = some x):(y1q A B).take (r+1)=(y1q A B).take r++[row++[x]]:=by unfold y1q;rw[Xd,List.getElem?_mapIdx,h,Zf,a];rfl
theorem y46{A:List (List Int)}(h:y1U 9 A)(a:∀x∈B,x.natAbs<=9):y1U 9 (y1q A B):=λr hr x b=>by unfold y1q at hr;obtain⟨i,hi,rfl⟩:=List.mem_mapIdx.1 hr;rcases ZO.1 b with q | q;exact h _ (Xi hi) x q;rw[Xv.1 q];exact Dz.getD_abs a i
theorem y48{A:List (List Int)}(h:∀x∈A,x.length=N):∀x∈y1q A B,x.length=N+1:=λr hr=>by unfold y1q at hr;obtain⟨i,hi,rfl⟩:=List.mem_mapIdx.1 hr;rw[Zz,h _ (Xi hi)];rfl
theorem y47(A:List (List Int))(B:List Int):(y1q A B).length=A.length:=by unfold y1q;rw[List.length_mapIdx]
def y5k (w:World) (rs:List Nat) (b:Bool) (e:Ending) (w':World):Prop:=∃(O:OA) (cO:Nat),e=.returned (.tuple #[(O,rs.length,cO),b])/\IntsZ w' w (O,rs.length,cO) (zN rs)/\Below w w w'
namespace Zr
theorem y6l(aA:OA)(nA cA:Nat)(lA:List Value)(A:List (List Int))(aB:OA)(nB cB:Nat)(B:List Int)(aC:OA)(nC cC:Nat)(own:Int)(N:Nat)(w:World)(z:TabZ w 0 (aA,nA,cA) lA A)(b:IntsZ w 0 (aB,nB,cB) B)(D:∀x∈A,x.length=N)(P:y1U 9 A)(R:∀x∈B,x.natAbs<=9)(ax:nB=nA)(V:nA<=4)(hN:N<=7) :
  Calls prog 80 #[.agg #[(aA,nA,cA),(aB,nB,cB),(aC,nC,cC),.int .i64 own]] w (y5k w (y1i A N nA) (y2p A B N)):=by
 have f:=un z.nlen;have ab:=un b.len;subst ax;have M:=un (show ∃a,a<=7/\(nB=0/\a=0\/0<nB/\a=N)/\(∀x∈A,x.length=a)/\y1i A N nB=y1i A a nB/\y2p A B N=decide ((y1i (y1q A B) (a+1) nB).length=(y1i A a nB).length)from by rcases XT nB with h | h;refine⟨0,ω,.inl ⟨h,rfl⟩,λx n=>?_,by rw[h];rfl,?_⟩;have:=List.length_pos_of_mem n;have:=f.o;omega;unfold y2p;rw[<-f.o,h];rfl;exact⟨N,hN,.inr ⟨h,rfl⟩,D,rfl,by unfold y2p;rw[f.o]⟩);obtain⟨a,aS,az,T,E,C⟩:=M.o;refine μ6 T E C P R D λq aM aJ J ac aL=>?_;rw[E,C];clear T E C P R M D;obtain⟨W,m⟩:∃W,(w.alloc (.cells #[(aA,nB,cA),(aB,nB,cB),(aC,nC,cC),.int .i64 own] 32))=W:=⟨_,rfl⟩
 refine μ4 (show θ W w.heap.size #[(aA,nB,cA),(aB,nB,cB),(aC,nC,cC),.int .i64 own] 32by rw[<-m];exact zam σ) (show Below w w W by rw[<-m];exact zae w _) (show TabZ W 0 (aA,nB,cA) lA A by rw[<-m];exact(z).alloc _) (show IntsZ W 0 (aB,nB,cB) B by rw[<-m];exact(b).alloc _) λaq s i H=>?_;obtain⟨aH,a4,aI,a3,a5,a6,a8,a7⟩:=bc4 aq.o;clear z b;go_enter func80,ntmps80;go_upto_if 12 with fail
 clear m;go_cut[4] (λnv wx=>nv=.int .i64 (a:Int)/\wx=W)
 case first =>
  rcases az with ⟨h1,y⟩ | ⟨h1,y⟩
  ·subst h1 y;go_wp2;go_meet
   case rel=>exact⟨rfl,rfl⟩
  obtain⟨row,d⟩:∃row,A[0]? = some row:=⟨A[0]'(by rw[<-f.o];exact h1),Ze _⟩
  obtain⟨bA,rfl,_,_⟩:=i.o.has h1;obtain⟨aX,cx,_,G,_⟩:=i.o.at_ d;have X:row.length=a:=q.o row (Zl d);rw[X]at G;have h3:(0:Int)<(nB:Int):=ω;clear d X;go_wp2;go_meet
  case rel=>exact⟨by rw[y],rfl⟩
 rename World=>wc
 obtain⟨rfl,rfl⟩:=hcut;go_wp2_with fail
 go_loopw [5,6] (λov F wr=>∃(r:Nat) (O:OA) (g:Nat) (l:List Value),F=.int .i64 r/\ov=(O,r,g)/\r<=nB/\TabZ wr wc.heap.size (O,r,g) l ((y1q A B).take r)/\Below wc wc wr)
  (λ_ F _=>nB-(intOf F).toNat)
 case atStart=>exact⟨0,none,0,[],rfl,rfl,Zb _,TabZ.nil _ _,Zh _ _⟩
 rename World=>wr
 obtain⟨r,O,g,l,rfl,rfl,hr,k,b⟩:=hrel;refine μ3 k k.nlen b λHO ak c=>?_;have e0:=zab b aH;have e1:=zab b aI;by_cases U:r<nB
 ·obtain⟨row,d⟩:∃row,A[r]? = some row:=⟨A[r]'(by rw[<-f.o];exact U),Ze _⟩
  obtain⟨x,n⟩:∃x,B[r]? = some x:=⟨B[r]'(by rw[<-ab.o];exact U),Ze _⟩
  have HT:=un (y4x d n);have u:=un (q.o row (Zl d));obtain⟨bA,rfl,_,_⟩:=i.o.has ω;obtain⟨bB,rfl,_,_⟩:=H.o.has ω;obtain⟨aX,cx,_,G,S⟩:=(i.o.below b).at_ d;have af:=un S;have z2:=(H.o.below b).at_ n;rw[u.o]at G;have aW:(r:Int)<(nB:Int):=ω;have aV:(0:Int)<=(r:Int):=Zg _;clear k b S d n;go_upto_region 10 with (at_builtin;go_loud (refine wpl rfl (λK j=>y1n (N:=a) _ _ rfl rfl (IntsZ.nil _ wr.heap.size) rfl (by have h:=af.o.news;rw[u.o]at h;exact h) (Z8 _) ω (Za _) K j) ?_;rintro _ w6 ⟨X6,c6,rfl,hI6,hk6,hb6,hf6,ho6⟩;have ad:=un hI6;have t:=un hb6;have d0:=zab hb6 e0;have d1:=zab hb6 e1;have d2:=zab hb6 z2;clear hI6 hk6 hb6 hf6 ho6))
  go_upto_region 11 with (at_builtin;go_loud (refine wpl rfl (λK j=>y1n (N:=a+1) _ _ rfl rfl (ad.o.alloc _) rfl (ys:=[x]) (y19 (zal _ _ _) rfl) (by rw[XU,u.o]) ω (by have:=t.o.size;simp;omega) K j) ?_;rintro _ w7 ⟨X7,c7,rfl,hI7,hk7,hb7,hf7,ho7⟩;have ae:=un hI7;have p:=un ((Xe t.o t.o.size _).trans hb7);clear hI7 hk7 hb7 hf7 ho7))
  go_wp2_with (at_builtin;go_loud (refine wpl rfl (λK j=>y1Q (N:=r+1) _ _ rfl rfl ((HO.o.below p.o).alloc _) rfl (zal _ _ _) ((ae.o.base (Zb _)).alloc _) (by rw[<-ak.o]) ω (by have:=p.o.size;have:=c.o.size;simp;omega) K j) ?_;rintro _ w8 ⟨O8,c8,rfl,hO8,hk8,hb8,hf8,ho8⟩;have aj:=un hO8;have aa:=un ((Xe (c.o.trans (p.o.mono c.o.size)) (c.o.trans (p.o.mono c.o.size)).size _).trans hb8);clear hO8 hk8 hb8 hf8 ho8))
  go_roundw
  case rel=>exact⟨r+1,O8,c8,_,by go_num,rfl,ω,by rw[HT.o];exact aj.o,aa.o⟩
  case measure=>simp[intOf];omega
 obtain rfl:r=nB:=ω;have HW:=un (show TabZ wr 0 (O,r,g) l (y1q A B)by have h:=k.base (Zb _);rw[ZW (by rw[y47,<-f.o];exact Za _)]at h;exact h);have Y:=un (i.o.below b);have ay:a+1<=8:=ω;have aU:IntKind.i64.wrap ((a:Int)+1)=((a+1:Nat):Int):=by rw[y1v ω];omega
 have ag:=un (fun(w:World) (h:TabZ w 0 (aA,r,cA) lA A)=>y5Y aA r cA lA A a w h q.o J.o V ω);have ah:=un (fun(w:World) (h:TabZ w 0 (O,r,g) l (y1q A B))=>y5C O r g l (y1q A B) (a+1) w h (y48 q.o) (y46 J.o ac.o) V ay);clear k b;go_wp2_with fail
 refine(ag.o _ Y.o).mono ?_;rintro e w2 ⟨Q,cQ,rfl,hQ,hb2⟩;rw[y1y]at hQ ⊢;refine μ3 hQ (HW.o.below hb2) (c.o.trans (hb2.mono c.o.size)) λHQ ap I=>?_;clear hQ hb2;go_wp2_with fail
 refine(ah.o _ ap.o).mono ?_;rintro e w3 ⟨rfl,hb3⟩;have am:=un (HQ.o.below hb3);have Z:=un (I.o.trans (hb3.mono I.o.size));clear hb3;generalize hk1:(y1i A a r).length=o at *
 generalize hk2:(y1i (y1q A B) (a+1) r).length=k2 at *
 have L:=un hk1;have aK:=un hk2;clear hk1 hk2;have aT:((k2:Int) == (o:Int))=decide (k2=o):=by by_cases e:k2=o<;>simp[e]<;>omega
 go_wp2;refine Zi (v:=.tuple #[(Q,o,cQ),.bool (decide (k2=o))]) (by simp[results,results80,go_sem]) rfl ?_;exact⟨Q,cQ,by rw[L.o],by rw[L.o];exact am.o.base (Zj s.o.size c.o.size),s.o.trans (Z.o.mono s.o.size)⟩
