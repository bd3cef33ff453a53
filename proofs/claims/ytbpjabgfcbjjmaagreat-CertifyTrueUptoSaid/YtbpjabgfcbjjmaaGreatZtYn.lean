/- Contracts and lemmas: Zt Zc Zv Zw Zx Zy. Conditions: as each says. -/
import Derived.Test.YtbpjabgfcbjjmaaGreatCan1Yn
set_option linter.all false
set_option maxHeartbeats 4000000
set_option maxRecDepth 100000
namespace Go.Proofs.YtbpjabgfcbjjmaaGreat
open Go.RowKit Am Go.Proofs.Tryz
open Dz (y1U y1p y1C y17 y6y y6w y6v)
attribute [local go_sem ↓] Go.wp_at_zero Go.wp_at_succ
variable {j:Nat}
def y4o{P:List (List Int)}{r:Nat}{b:Nat->Int}{row:List Int}(h:P[r]? = some row):(y17 P j b).take (r+1)=(y17 P j b).take r++[row.set j (b r)]:=by unfold y17;rw[Xe,List.getElem?_mapIdx,h];rfl
def y4W(P:List (List Int))(j:Nat)(b:Nat->Int):(y17 P j b).length=P.length:=by unfold y17;rw[List.length_mapIdx]
def y4X{P:List (List Int)}{k:Nat}{b:Nat->Int}(h:∀r∈P,r.length=k):∀r∈y17 P j b,r.length=k:=λr hr=>by unfold y17 at hr;obtain⟨i,hi,rfl⟩:=List.mem_mapIdx.1 hr;rw[ZW];exact h _ (Xk hi)
def y4A (w:World) (d:Int) (N:Nat) (z:List Rat) (e:Ending) (w':World):Prop:=((d=0/\e=.returned (.tuple #[(),false]))\/(d≠0/\∃(Z:OA) (cZ:Nat),e=.returned (.tuple #[(Z,N,cZ),true])/\FracsZ w' w.heap.size (Z,N,cZ) z))/\Below w w w'
namespace Zr
def y5W(aA:OA)(nA cA:Nat)(lA:List Value)(A:List (List Int))(aB:OA)(cB:Nat)(B:List Int)(aC:OA)(N cC:Nat)(own:Int)(Q:OA)(a T:Nat)(rs:List Nat)(R:OA)(U:Nat)(cols:List Nat)(w:World)(s:TabZ w 0 (aA,nA,cA) lA A)(d:IntsZ w 0 (aB,nA,cB) B)(hR:IntsZ w 0 (Q,a,T) (zN rs))(X:IntsZ w 0 (R,a,U) (zN cols))
  (hl:∀x∈A,x.length=N) (hE:y1U 9 A) (ay:∀x∈B,x.natAbs<=9) (hr:∀r∈rs,r<nA) (hc:∀c∈cols,c<N) (hn:a<=4) (hN:N<=8) :
  Calls prog 103 #[.agg #[(aA,nA,cA),(aB,nA,cB),(aC,N,cC),.int .i64 own],(Q,a,T),(R,a,U)] w (y4A w (y1C a (y1p A rs cols)) N (y6w A B N rs cols)):=by
 refine μ8 s.nlen d.len (show rs.length=a by rw[hR.len,y1y]) (show cols.length=a by rw[X.len,y1y]) hr hc ay (fun(w:World) (s:TabZ w 0 (aA,nA,cA) lA A) (hR:IntsZ w 0 (Q,a,T) (zN rs)) (X:IntsZ w 0 (R,a,U) (zN cols))=>y5U aA nA cA lA A Q a T rs R a U cols w s hR X (λr h=>⟨by have:=hr r h;rw[<-s.nlen];exact this,λc h2=>by rw[y4n hl (by have:=hr r h;rw[<-s.nlen];exact this)];exact hc c h2⟩) ω ω) λcD bn au ao bG bp cE aT=>?_;obtain⟨P,hP⟩:∃P,y1p A rs cols=P:=⟨_,rfl⟩
 have F:=un (show P.length=a/\∀r∈P,r.length=a by rw[<-hP];have h:=y4a (A:=A) (rs:=rs) (p:=cols);rw[au.o,ao.o]at h;exact h);have af:=un (show y1U 9 P by rw[<-hP];exact hE.part rs cols);obtain⟨f,ai⟩:∃f:Nat->Int,f=λr=>B.getD (rs.getD r 0) 0:=⟨_,rfl⟩
 have aM:=un (show ∀i,(f i).natAbs<=9 by intro i;rw[ai];exact Dz.getD_abs ay _);have bo:=un (show ∀r x,rs[r]? = some x->B[x]? = some (f r)by
  intro r x h;have H:=hr x (Zj h);rw[ai];show _=some (B.getD (rs.getD r 0) 0)
  rw[show rs.getD r 0=x by rw[Zh,h];rfl];exact zaO (by rw[<-bn.o];exact H))
 obtain⟨D,hD⟩:∃D,y1C a P=D:=⟨_,rfl⟩
 refine μ3 (show y6w A B N rs cols=y6y N cols (λt=>Rat.divInt (y1C a (y17 P t f)) D) a by unfold y6w;rw[au.o,ao.o,hP,hD,ai]) (Dz.det_small (n:=a) af.o hn) hD λbE aQ br=>?_;rw[hP]at aT ⊢;rw[hD]at aQ ⊢;generalize y6w A B N rs cols=zz at *
 clear hP ai hD hl hE ay hr hc;obtain⟨W,u⟩:∃W,(w.alloc (.cells #[(aA,nA,cA),(aB,nA,cB),(aC,N,cC),.int .i64 own] 73))=W:=⟨_,rfl⟩
 refine μ6 (show θ W w.heap.size #[(aA,nA,cA),(aB,nA,cB),(aC,N,cC),.int .i64 own] 73by rw[<-u];exact zam σ) (show Below w w W by rw[<-u];exact zae w _) (show TabZ W 0 (aA,nA,cA) lA A by rw[<-u];exact(s).alloc _) (show IntsZ W 0 (aB,nA,cB) B by rw[<-u];exact(d).alloc _) (show IntsZ W 0 (Q,a,T) (zN rs)by rw[<-u];exact(hR).alloc _) (show IntsZ W 0 (R,a,U) (zN cols)by rw[<-u];exact(X).alloc _) λa0 BB HA HB HR HC=>?_;obtain⟨ca,cg,cb,b5,ci,cl,cy,cs⟩:=bc4 a0.o;clear s d hR X;go_enter func103,ntmps103;go_wp2_with fail
 clear u;with_reducible refine(aT.o _ HA.o HR.o HC.o).mono ?_
 rintro e w1 ⟨O,cO,l,rfl,hO,hb⟩;refine μ6 (zad hb a0.o) (HB.o.below hb) (HR.o.below hb) (HC.o.below hb) (show TabZ w1 0 (.slice O P.length cO) l P from hO.base (Zb _)) (BB.o.trans ((hb).mono BB.o.size)) λbi b4 cq cw HO bh=>?_;obtain⟨b8,ce,b9,cf,ch,cj,cz,ct⟩:=bc4 bi.o;clear hO hb;rw[F.o.1]at HO ⊢;go_wp2_with fail
 with_reducible refine(y6d a O cO l P _ HO.o F.o.2 af.o hn).mono ?_
 rintro e m ⟨rfl,hb⟩;refine μ6 (zad hb bi.o) (b4.o.below hb) (cq.o.below hb) (cw.o.below hb) (HO.o.below hb) (bh.o.trans ((hb).mono bh.o.size)) λbg b1 cv b3 b2 an=>?_;obtain⟨cc,b6,cd,b7,bj,cn,cr,cp⟩:=bc4 bg.o;clear hb;rw[br.o];clear ca cg cb b5 ci cl cy cs b8 ce b9 cf ch cj cz ct;by_cases ak:D=0
 ·subst ak;go_wp2;refine Zi (v:=.tuple #[(),false]) (by simp[results,results103,go_sem]) rfl ?_;exact⟨.inl ⟨rfl,rfl⟩,an.o⟩
 have cK:(D == 0)=false:=by simpa using ak
 have aP:=un ak;clear ak;go_wp2_with fail
 go_loopw [10,11] (λzv jv wr=>∃(j:Nat) (Z:OA) (k:Nat),jv=.int .i64 j/\zv=(Z,j,k)/\j<=N/\FracsZ wr m.heap.size (Z,j,k) (List.replicate j 0)/\Below m m wr)
  (λ_ jv _=>N-(intOf jv).toNat)
 case atStart=>exact⟨0,none,0,rfl,rfl,Zb _,FracsZ.nil _ _,Zl _ _⟩
 rename World=>wr
 obtain⟨j,Z,k,rfl,rfl,hj,y,d⟩:=hrel;have av:=un y;have I:=un d;have e2:=zab d bj;clear y d;by_cases cN:j<N
 ·have cL:(j:Int)<(N:Int):=ω
  go_wp2_with (at_builtin;go_loud (refine wpl rfl (λK Y=>y4B (N:=j+1) _ _ rfl rfl (av.o.alloc _) rfl (q:=0) (zal _ _ _) (by rw[ZQ]) ω (by have:=I.o.size;simp;omega) K Y) ?_;rintro _ w7 ⟨Z7,c7,rfl,hZ7,hk7,hb7⟩;have bI:=un hZ7;have E:=un ((Xn I.o I.o.size _).trans hb7);clear hZ7 hk7 hb7))
  go_roundw
  case rel=>exact⟨j+1,Z7,c7,by go_num,rfl,ω,by rw[Yi];exact bI.o,E.o⟩
  case measure=>simp[intOf];omega
 obtain rfl:j=N:=ω;have aW:=un (show FracsZ wr m.heap.size (Z,j,k) (y6y j cols (λt=>Rat.divInt (y1C a (y17 P t f)) D) 0)from av.o);go_wp2_with fail
 go_loopw [12] (λtv z=>∃t:Nat,tv=.int .i64 t/\t<=a/\FracsZ z m.heap.size (Z,j,k) (y6y j cols (λt=>Rat.divInt (y1C a (y17 P t f)) D) t)/\Below m m z)
  (λtv _=>a-(intOf tv).toNat)
 case atStart=>exact⟨0,rfl,Zb _,aW.o,I.o⟩
 rename World=>z
 obtain⟨t,rfl,ht,y,d⟩:=hrel;have aY:=un y;have aL:=un d;clear av aW I e2;refine μ6 (zad d bg.o) (b1.o.below d) (cv.o.below d) (b3.o.below d) (b2.o.below d) (an.o.trans ((d).mono an.o.size)) λck bd bc be bb cm=>?_;obtain⟨dl,dj,co,dk,dn,dm,di,dp⟩:=bc4 ck.o;clear cc b6 cd b7 bj cn cr cp;by_cases a6:t<a
 ·obtain⟨col,aj⟩:∃col,cols[t]? = some col:=⟨cols[t]'(by rw[ao.o];exact a6),Ze _⟩
  have bq:=un (show cols.getD t 0=col by rw[Zh,aj];rfl);have aD:=bp.o col (Zj aj);obtain⟨bS,rfl,_,_⟩:=be.o.has ω;obtain⟨bR,rfl,_,_⟩:=bc.o.has ω;obtain⟨bO,rfl,_,_⟩:=bb.o.has ω;obtain⟨bZ,rfl,a4,_⟩:=aY.o.has ω;have s0:=be.o.at_ (y49 aj);have cV:(t:Int)<(a:Int):=ω;have cU:(0:Int)<=(t:Int):=Zg _;have cJ:(col:Int)<(j:Int):=ω;have cI:(0:Int)<=(col:Int):=Zg _;clear y d aj;go_wp2_with fail
  go_loopw [13,14] (λmv rv C=>∃(r:Nat) (M:OA) (G:Nat) (lm:List Value),rv=.int .i64 r/\mv=.slice M r G/\r<=a/\TabZ C z.heap.size (.slice M r G) lm ((y17 P t f).take r)/\Below z.heap.size z C)
   (λ_ rv _=>a-(intOf rv).toNat)
  case atStart=>exact⟨0,none,0,[],rfl,rfl,Zb _,TabZ.nil _ _,Zl _ _⟩
  rename World=>C
  obtain⟨r,M,G,lm,rfl,rfl,hr,hM,d⟩:=hrel;refine μ3 hM hM.nlen d λHM bC L=>?_;by_cases a7:r<a
  ·obtain⟨row,am⟩:∃row,P[r]? = some row:=⟨P[r]'(by rw[F.o.1];exact a7),Ze _⟩
   obtain⟨x,H⟩:∃x,rs[r]? = some x:=⟨rs[r]'(by rw[au.o];exact a7),Ze _⟩
   have cX:=bG.o x (Zj H);have az:=bo.o r x H;have HT:=un (y4o (j:=t) (b:=f) am);have ar:=un (F.o.2 row (Zj am));generalize f r=bv at az HT;obtain⟨bB,rfl,_,_⟩:=bd.o.has ω;have q1:=bd.o.at_ az;have q2:=bc.o.at_ (y49 H);obtain⟨aX,cx,_,q3,a3⟩:=bb.o.at_ am;have bw:=un (a3.below d);rw[ar.o]at q3;have q0:=co;have y0:=zab d q0;have y1:=zab d q1;have y2:=zab d q2;have y3:=zab d q3;have cQ:(r:Int)<(a:Int):=ω;have cP:(0:Int)<=(r:Int):=Zg _;have cY:(x:Int)<(nA:Int):=ω;have cW:(0:Int)<=(x:Int):=Zg _;clear hM d am H az a3;go_upto_region 19 with (at_builtin;go_loud (refine wpl rfl (λK Y=>y1n (N:=a) _ _ rfl rfl (IntsZ.nil _ C.heap.size) rfl (by have h:=bw.o.news;rw[ar.o]at h;exact h) (Xc _) ω (Za _) K Y) ?_;rintro _ w6 ⟨X6,c6,rfl,hI6,hk6,hb6,hf6,ho6⟩;have ae:=un hI6;have bm:=un hb6;have u0:=zab hb6 y0;have u1:=zab hb6 y1;have u2:=zab hb6 y2;clear hI6 hk6 hb6 hf6 ho6))
   obtain⟨bX,rfl,bN,_⟩:=ae.o.has ω;have v0:=ae.o.at_ (show([]++row)[t]? = some (row[t]'(by rw[ar.o];exact a6))from Ze _);have df:=ae.o.fro t;have dc:=zaa u0;have dd:=zaa u1;have de:=zaa u2;refine zaS (S:=λw'=>χ w' w 1 (bB,nA,cB)/\χ w' bR r (.int .i64 (x:Int))/\χ w' bB x (.int .i64 bv)) [11] (h:=λhHeld=>?_);refine zaw [0,1,2,3,4,5,6,7,8,9,10] ?_;repeat refine tkL hHeld ?_
   refine zao ?_;refine zay 11 (h:=λK g=>?_);go_simp;refine shutOff g ?_;clear g K;refine zaM (h:=?_);have bu:=un ((ae.o.store t bv).drew);have E:=un (show Below C.heap.size C (w6.setCell ⟨bX,t,none⟩ (.int .i64 bv)).drew from bdrew (bsc (p:=⟨bX,t,none⟩) bm.o bN));generalize (w6.setCell ⟨bX,t,none⟩ (.int .i64 bv)).drew=w7 at *
   go_wp2_with (at_builtin;go_loud (refine wpl rfl (λK Y=>y1Q (N:=r+1) _ _ rfl rfl ((HM.o.below E.o).alloc _) rfl (zal _ _ _) ((bu.o.base (Zb _)).alloc _) (by rw[<-bC.o]) ω (by have:=E.o.size;have:=L.o.size;simp;omega) K Y) ?_;rintro _ w8 ⟨M8,c8,rfl,hM8,hk8,hb8,hf8,ho8⟩;have bA:=un hM8;have o:=un ((Xn (L.o.trans (E.o.mono L.o.size)) (L.o.trans (E.o.mono L.o.size)).size _).trans hb8);clear hM8 hk8 hb8 hf8 ho8))
   go_roundw
   case rel=>exact⟨r+1,M8,c8,_,by go_num,rfl,ω,by rw[HT.o];exact bA.o,o.o⟩
   case measure=>simp[intOf];omega
  obtain rfl:r=a:=ω;refine μ4 (show TabZ C 0 (.slice M r G) lm (y17 P t f)by have h:=hM.base (Zb _);rw[Z2 (by rw[y4W,F.o.1];exact Za _)]at h;exact h) (fun(w:World) (h:TabZ w 0 (.slice M r G) lm (y17 P t f))=>y6d r M G lm (y17 P t f) w h (y4X F.o.2) (af.o.set t aM.o) hn) (Dz.det_small (n:=r) (af.o.set t aM.o) hn) (show y6y j cols (λt=>Rat.divInt (y1C r (y17 P t f)) D) (t+1)=(y6y j cols (λt=>Rat.divInt (y1C r (y17 P t f)) D) t).set col (Rat.divInt (y1C r (y17 P t f)) D)by rw[<-bq.o];rfl) λbz bs bH bF=>?_;have bD:=un (fun(w:World)=>y6j (y1C r (y17 P t f)) D w (by have:=bH.o;omega) (by have:=aQ.o;omega) aP.o);have aq:=un (y6v j cols (λt=>Rat.divInt (y1C r (y17 P t f)) D) t);generalize y6y j cols (λt=>Rat.divInt (y1C r (y17 P t f)) D) t=z0 at *
  generalize y1C r (y17 P t f)=V at *
  generalize Rat.divInt V D=q at *
  have aZ:=un (aY.o.below d);have t0:=zab d s0;have c9:=zaa t0;have aN:=un (aL.o.trans (d.mono aL.o.size));have bP:=aZ.o.at_ (show z0[col]? = some (z0[col]'(by rw[aq.o];exact aD))from Ze _);obtain⟨k0,k1⟩:=bP;clear hM d s0;go_upto_region 21 with fail
  have c0:=zaa k0;have c1:=zaa k1;generalize (z0[col]'(by rw[aq.o];exact aD)).num=zn at *
  generalize ((z0[col]'(by rw[aq.o];exact aD)).den:Int)=zd at *
  refine zaS (S:=λw'=>χ w' bS t (.int .i64 (col:Int))/\χ w' bZ (col*2) (.int .i64 zn)/\χ w' bZ (col*2+1) (.int .i64 zd)) [10] (h:=λhHeld=>?_);refine zaw [0,1,2,3,4,5,7] ?_;repeat refine tkL hHeld ?_
  refine zao ?_;refine zaB 6 (h:=λK g=>?_);go_simp;(go_at_call 77;(with_reducible refine(bs.o _ bz.o.drew).mono ?_);rintro e w8 ⟨rfl,hb8⟩;have o:=un (It.bdrew0' hb8);have t1:=zab o.o t0;have k2:=zab o.o k0;have k3:=zab o.o k1;clear hb8);(try go_wp2_with fail);refine shutOn g λhHeld=>?_;clear g K;refine zaB 8 (h:=λK g=>?_);go_simp;(go_at_call 154;(with_reducible refine(bD.o _).mono ?_);rintro e w9 ⟨rfl,hb9⟩;have J:=un (o.o.trans (hb9.mono o.o.size));have t2:=zab J.o t0;have k4:=zab J.o k0;have k5:=zab J.o k1;have aw:=un (aZ.o.below J.o);have c4:=aw.o.fro (col*2);have c5:=aw.o.fro (col*2+1);clear hb9);(try go_wp2_with fail);refine shutOn g λhHeld=>?_;clear g K;refine zaw [9] ?_;repeat refine tkL hHeld ?_
  refine zao ?_;refine zay 10 (h:=λK g=>?_);go_simp;refine shutOff g ?_;clear g K;refine zaM (h:=?_);go_wp2_with fail
  go_roundw
  case rel=>exact⟨t+1,by go_num,ω,by rw[bF.o];exact aw.o.store col q,bsc (p:=⟨bZ,col*2+1,none⟩) (bsc (p:=⟨bZ,col*2,none⟩) (aN.o.trans (J.o.mono aN.o.size)) a4) a4⟩
  case measure=>simp[intOf];omega
 obtain rfl:t=a:=ω;have bt:=un (show FracsZ z m.heap.size (Z,j,k) zz by rw[bE.o];exact y);clear y d;go_wp2;refine Zi (v:=.tuple #[(Z,j,k),true]) (by simp[results,results103,go_sem]) rfl ?_;exact⟨.inr ⟨aP.o,Z,k,rfl,bt.o.base (Zf an.o.size (Za _))⟩,cm.o⟩
end Zr
open Dz (Fz y14 y1j y1G y2x kTo y28)
def cf (cs:List Int) (j:Nat):Rat:=((cs.getD j 0:Int):Rat)
namespace Zr
def y6s(c:Int)(b:Rat)(w:World)(hc:c.natAbs<=100000000)(a:Fz b):Calls prog 107 #[.agg #[.int .i64 c,.int .i64 1],.agg #[.int .i64 b.num,(b.den:Int)]] w (y5M w ((c:Rat)*b)):=y6t (c:Rat) b w ⟨hc,by simp_all⟩ a
def y4F(aC:OA)(n cC:Nat)(cs:List Int)(s:OA)(t:Nat)(z:List Rat)(w:World)(u:IntsZ w 0 (aC,n,cC) cs)(y:FracsZ w 0 (s,n,t) z)(hc:∀x∈cs,x.natAbs<=9)(l:y14 z)(hn:n<=8) :
  Calls prog 43 #[(aC,n,cC),(s,n,t)] w (y5M w (y1j n (cf cs) (el z))):=by
 refine μ7 u.len y.len (λj (hj:j<=8)=>l.sum (c:=λj=>cs.getD j 0) (λj=>Dz.getD_abs hc j) (n:=j) ω) (λj (h:j<n)=>l.mul (c:=cs.getD j 0) (Dz.getD_abs hc j) j) (λj=>l.at_ j) (λj=>Dz.getD_abs hc j) (show ∀j,y1j j (cf cs) (el z)=zai j λi=>((cs.getD i 0:Int):Rat)*el z i from λj=>rfl) λP ab Z Y Q O X=>?_;clear hc l;obtain⟨W,k⟩:∃W,(w.alloc (.cells #[.int .i64 0,.int .i64 0] 36))=W:=⟨_,rfl⟩
 refine μ4 (show θ W w.heap.size #[.int .i64 0,.int .i64 0] 36by rw[<-k];exact zam σ) (show Below w w W by rw[<-k];exact zae w _) (show IntsZ W 0 (aC,n,cC) cs by rw[<-k];exact(u).alloc _) (show FracsZ W 0 (s,n,t) z by rw[<-k];exact(y).alloc _) λF D N aa=>?_;obtain⟨ah,an,aq,ao,ai,ae,ar,ap⟩:=bf2 F.o;clear u y;go_enter func43,ntmps43;go_wp2_with fail
 clear k
 go_loopw [6] (λB wr=>∃(j:Nat) (q:Rat),B=.int .i64 j/\j<=n/\q=y1j j (cf cs) (el z)/\θ wr W.heap.size #[.int .i64 q.num,(q.den:Int)] 36/\Below W.heap.size W wr)
  (λB _=>n-(intOf B).toNat)
 case atStart=>exact⟨0,0,rfl,Zb _,rfl,by first | exact zar _ (zar _ (zal _ _ _)) | exact zal _ _ _,by first | exact bsc (p:=⟨W.heap.size,1,none⟩) (bsc (p:=⟨W.heap.size,0,none⟩) (zae W _) (Za _)) (Za _) | exact zae W _⟩
 rename World=>wr
 obtain⟨j,q,rfl,hj,I,hk,g⟩:=hrel;refine μ3 I g hk λm E r=>?_;clear I hk;refine μ4 (zad g F.o) (N.o.below g) (aa.o.below g) (D.o.trans ((g).mono D.o.size)) λak M L aj=>?_;obtain⟨af,al,a7,a9,ag,am,a8,ba⟩:=bf2 ak.o;clear ah an aq ao ai ae ar ap;obtain⟨s0,aL,au,av,s1,aQ,aA,aB⟩:=bf2 r.o;by_cases A:j<n
 ·obtain⟨bC,rfl,_,_⟩:=M.o.has ω;obtain⟨H,rfl,_,_⟩:=L.o.has ω;have y0:=M.o.at_ (show cs[j]? = some (cs.getD j 0)from zaO (by rw[<-P.o];exact A));obtain⟨y1,C⟩:=L.o.at_ (show z[j]? = some (el z j)from zaH (by rw[<-ab.o];exact A));refine μ5 (Y.o j A) (Q.o j) (O.o j) (show Fz q by rw[m.o,X.o];exact Z.o j ω) (show y1j (j+1) (cf cs) (el z)=q+((cs.getD j 0:Int):Rat)*el z j by rw[m.o];rfl) λU T R V o=>?_
  generalize cs.getD j 0=c at *
  generalize el z j=b at *
  have aI:(j:Int)<(n:Int):=ω;have aH:(0:Int)<=(j:Int):=Zg _;go_upto_region 5 with fail
  have aX:=zaa y0;have a1:=zaa y1;have a4:=zaa C;refine zaS (S:=λw'=>χ w' W.heap.size 0 (.int .i64 q.num)/\χ w' W.heap.size 1 (.int .i64 (q.den:Int))/\χ w' bC j (.int .i64 c)/\χ w' H (j*2) (.int .i64 b.num)/\χ w' H (j*2+1) (.int .i64 (b.den:Int))) [12] (h:=λhHeld=>?_);refine zaw [0,1,2,3,4,5,6,7,8,9] ?_;repeat refine tkL hHeld ?_
  refine zao ?_;refine zaB 10 (h:=λK a=>?_);go_simp;(go_at_call 107;(with_reducible refine(y6s c b _ (by have:=R.o;omega) T.o).mono ?_);rintro e w5 ⟨rfl,hb⟩;have d:=un (It.bdrew0' hb);have ac:=un (zad d.o r.o);obtain⟨aM,aN,aw,ax,aR,aS,aD,aE⟩:=bf2 ac.o;have aY:=zab d.o y0;have a2:=zab d.o y1;have a5:=zab d.o C;clear hb);(try go_wp2_with fail);refine shutOn a λhHeld=>?_;clear a K;refine zaB 11 (h:=λK a=>?_);go_simp;(go_at_call 106;(with_reducible refine(y6r q ((c:Rat)*b) _ V.o U.o).mono ?_);rintro e w6 ⟨rfl,hb⟩;have f:=un (d.o.trans (hb.mono d.o.size));have G:=un (zad f.o r.o);obtain⟨aO,aP,ay,az,aT,aU,aF,aG⟩:=bf2 G.o;have a0:=zab f.o y0;have a3:=zab f.o y1;have a6:=zab f.o C;clear hb);(try go_wp2_with fail);refine shutOn a λhHeld=>?_;clear a K;refine zay 12 (h:=λK a=>?_);go_simp;refine shutOff a ?_;clear a K;refine zaM (h:=?_);go_wp2_with fail
  go_roundw
  case rel=>exact⟨j+1,q+(c:Rat)*b,by go_num,ω,by rw[o.o],zar _ (zar _ G.o),bsc (p:=⟨W.heap.size,1,none⟩) (bsc (p:=⟨W.heap.size,0,none⟩) (E.o.trans (f.o.mono E.o.size)) (Za _)) (Za _)⟩
  case measure=>simp[intOf];omega
 obtain rfl:j=n:=ω;have J:y1j j (cf cs) (el z)=q:=m.o.symm;have o:=un J;clear J;go_wp2;refine Zi (v:=.agg #[.int .i64 q.num,(q.den:Int)]) (by simp[results,results43,go_sem,af,al,ag,am]) rfl ?_;exact⟨by rw[o.o],bsc (bsc aj.o)⟩
def y5N(p:OA)(n r:Nat)(z:List Rat)(w:World)(k:FracsZ w 0 (p,n,r) z)(D:n<=8) :
  Calls prog 104 #[(p,n,r)] w λe w'=>e=.returned (.bool (y1G z))/\Below w w w':=by
 have f:=un k.len;have x:=un k;clear k;go_enter func104,ntmps104;go_wp2_with fail
 go_loopw [3] (λl wr=>∃j:Nat,l=.int .i64 j/\j<=n/\(∀i,i<j->¬el z i<0)/\Below w w wr)
  (λl _=>n-(intOf l).toNat)
 case atStart=>exact⟨0,rfl,Zb _,(λi h=>absurd h (ZS _)),Zl _ _⟩
 rename World=>wr
 obtain⟨j,rfl,hj,c,a⟩:=hrel;have y:=un c;have d:=un a;by_cases s:j<n
 ·have o:=un (x.o.below a);obtain⟨A,rfl,_,_⟩:=o.o.has ω;obtain⟨y1,_⟩:=o.o.at_ (show z[j]? = some (el z j)from zaH (by rw[<-f.o];exact s));have C:(j:Int)<(n:Int):=ω
  have B:(0:Int)<=(j:Int):=Zg _;refine μ3 (show el z j∈z from Zj (zaH (by rw[<-f.o];exact s))) (zeh (q:=el z j)) (fun(h:¬el z j<0) i (hi:i<j+1)=>show ¬el z i<0 from by by_cases e:i=j;rw[e];exact h;exact y.o i ω) λt m u=>?_;clear c a;generalize el z j=q at *
  by_cases b:q.num<0
  ·have g:=un (show y1G z=true from List.any_eq_true.2 ⟨q,t.o,ZG (m.o.1 b)⟩);go_wp2;go_ret
   exact⟨by rw[g.o];rfl,d.o⟩
  have v:=un (u.o λh=>b (m.o.2 h));go_wp2;go_roundw
  case rel=>exact⟨j+1,by go_num,ω,v.o,d.o⟩
  case measure=>simp[intOf];omega
 obtain rfl:j=n:=ω;have g:=un (show y1G z=false by unfold y1G;rw[Ya];intro q b;obtain⟨i,hi,e⟩:=List.mem_iff_getElem.1 b;have h:=c i (by rw[f.o];exact hi);rw[show el z i=q by unfold el;rw[Zh,Ze hi];exact e]at h;simpa using h);clear c a;go_wp2;go_ret;exact⟨by rw[g.o];rfl,d.o⟩
def y4O{k:List Rat->Rat}{x y:List Rat}(h:kTo k x y j≠0):∀i,j<=i->kTo k x y i=kTo k x y j:=λi=>by
 induction i with
 | zero=>intro hi;rw[show j=0 by omega]
 | succ i ih =>
  intro hi;by_cases e:j=i+1;rw[e];have a:=ih ω
  conv=>lhs;unfold kTo
  rw[if_neg (by rw[a];exact h),a]
def y6h(aC:OA)(n cC:Nat)(cs:List Int)(own:Nat)(q:OA)(cX:Nat)(x:List Rat)(r:OA)(s:Nat)(y:List Rat)(w:World)(t:IntsZ w 0 (aC,n,cC) cs)(m:FracsZ w 0 (q,n,cX) x)(o:FracsZ w 0 (r,n,s) y)(hc:∀x∈cs,x.natAbs<=9)(k:y14 x)(l:y14 y)(ho:own<=n)(M:n<=8) :
  Calls prog 42 #[(aC,n,cC),(own:Int),(q,n,cX),(r,n,s)] w λe w'=>e=.returned (.bool (y2x (λz=>y1j n (cf cs) (el z)) own x y))/\Below w w w':=by
 refine μ10 m o m.len o.len k l (show Fz (y1j n (cf cs) (el x))from k.sum (c:=λj=>cs.getD j 0) (λj=>Dz.getD_abs hc j) (n:=n) ω) (show Fz (y1j n (cf cs) (el y))from l.sum (c:=λj=>cs.getD j 0) (λj=>Dz.getD_abs hc j) (n:=n) ω) (y4F aC n cC cs q cX x w t m hc k M) (λw1 (f:Below w w w1)=>y4F aC n cC cs r s y w1 (t.below f) (o.below f) hc l M) λHX HY Z aa T U C D A B=>?_;obtain⟨K,d⟩:∃K:List Rat->Rat,K=λz=>y1j n (cf cs) (el z):=⟨_,rfl⟩
 have HK:=un d;rw[<-d];have J:y1j n (cf cs) (el x)=K x:=by rw[d]
 have L:y1j n (cf cs) (el y)=K y:=by rw[d]
 rw[J]at A C;rw[L]at B D;have V:=un (show kTo K x y 0=y28 (K x) (K y)from rfl);have E:=un (show y2x K own x y=decide (kTo K x y own<0)from rfl);clear J L d t m o hc k l;generalize y2x K own x y=ls at *
 go_enter func42,ntmps42;go_wp2_with fail
 refine A.o.mono ?_;rintro e w1 ⟨rfl,hb1⟩;have p:=un hb1;clear hb1;go_wp2_with fail
 refine(B.o _ p.o).mono ?_;rintro e w2 ⟨rfl,hb2⟩;have v:=un (p.o.trans (hb2.mono p.o.size));clear hb2;go_wp2_with fail
 refine(y5P (K x) (K y) _ C.o D.o).mono ?_;rintro e w3 ⟨rfl,hb3⟩;have P:=un (v.o.trans (hb3.mono v.o.size));rw[<-V.o];clear hb3;go_wp2_with fail
 go_loopw [9,10] (λkv u wr=>∃j:Nat,u=.int .i64 j/\j<=own/\kv=.int .i64 (kTo K x y j)/\Below w w wr)
  (λ_ u _=>own-(intOf u).toNat)
 case atStart=>exact⟨0,rfl,Zb _,rfl,P.o⟩
 rename World=>wr
 obtain⟨j,rfl,hj,rfl,g⟩:=hrel;have i:=un g;by_cases aj:j<own
 ·by_cases hk:kTo K x y j=0
  ·have F:=un (HX.o.below g);have G:=un (HY.o.below g);obtain⟨H,rfl,_,_⟩:=F.o.has ω;obtain⟨I,rfl,_,_⟩:=G.o.has ω;obtain⟨y0,y1⟩:=F.o.at_ (show x[j]? = some (el x j)from zaH (by rw[<-Z.o];omega));obtain⟨N,O⟩:=G.o.at_ (show y[j]? = some (el y j)from zaH (by rw[<-aa.o];omega));have W:=un (show kTo K x y (j+1)=y28 (el x j) (el y j)from if_pos hk);have R:=un (fun(w:World)=>y5P (el x j) (el y j) w (T.o.at_ j) (U.o.at_ j));generalize kTo K x y j=kj at *
   generalize y28 (el x j) (el y j)=kc at *
   generalize el x j=a at *
   generalize el y j=b at *
   subst hk;have ad:(j:Int)<(own:Int):=ω;have ah:(j:Int)<(n:Int):=ω;have ag:(0:Int)<=(j:Int):=Zg _;clear g;go_upto_region 5 with fail
   have ap:=zaa y0;have aq:=zaa y1;have ar:=zaa N;have au:=zaa O;refine zaS (S:=λw'=>χ w' H (j*2) (.int .i64 a.num)/\χ w' H (j*2+1) (.int .i64 (a.den:Int))/\χ w' I (j*2) (.int .i64 b.num)/\χ w' I (j*2+1) (.int .i64 (b.den:Int))) [9] (h:=λhHeld=>?_);refine zaw [0,1,2,3,4,5,6,7] ?_;repeat refine tkL hHeld ?_
   refine zao ?_;refine zaB 8 (h:=λK d=>?_);go_simp;(go_at_call 105;(with_reducible refine(R.o _).mono ?_);rintro e w5 ⟨rfl,f⟩;have Q:=un (i.o.trans ((It.bdrew0' f).mono i.o.size));have u0:=zab (It.bdrew0' f) y0;have u1:=zab (It.bdrew0' f) y1;have u2:=zab (It.bdrew0' f) N;have u3:=zab (It.bdrew0' f) O;clear f);(try go_wp2_with fail);refine shutOn d λhHeld=>?_;clear d K;refine zay 9 (h:=λK d=>?_);go_simp;refine shutOff d ?_;clear d K;refine zaM (h:=?_);go_wp2_with fail
   go_roundw
   case rel=>exact⟨j+1,by go_num,ω,by rw[W.o],Q.o⟩
   case measure=>simp[intOf];omega
  have X:=un (y4O hk own ω);have Y:=un (show ls=decide (kTo K x y j<0)by rw[E.o,X.o]);generalize kTo K x y j=kj at *
  have ad:(j:Int)<(own:Int):=ω;have ai:(kj == 0)=false:=by simpa using hk
  clear g;go_wp2;go_ret;exact⟨by rw[Y.o];rfl,i.o⟩
 obtain rfl:j=own:=ω;generalize kTo K x y j=kj at *
 clear g;go_wp2;go_ret;exact⟨by rw[E.o];rfl,i.o⟩
end Zr
open Dz (y1U y1p y1C y6w y1k y1l y1i y2p y1G y6v rankTo_lt)
structure SmallZ (m N:Nat) (A:List (List Int)) (B cs:List Int):Prop where
  rows:∀x∈A,x.length=N
  ent:y1U 9 A
  bnd:∀x∈B,x.natAbs<=9
  cost:∀x∈cs,x.natAbs<=9
  m4:m<=4
  n7:N<=7
def y5L (w:World) (L:List (List Rat)) (e:Ending) (w':World):Prop:=∃(O:OA) (cO:Nat) (l:List Value),e=.returned (O,L.length,cO)/\PtsZ w' w.heap.size (O,L.length,cO) l L/\Below w w w'
def ptF (A:List (List Int)) (B:List Int) (N:Nat) (rs p:List Nat):Option (List Rat):=if y1C rs.length (y1p A rs p)=0 then none else if y1G (y6w A B N rs p)=true then none else some (y6w A B N rs p)
def y5w{α β:Type}{f:α->Option β}{l:List α}{i:Nat}{x:α}(h:l[i]? = some x):(l.take (i+1)).filterMap f=(l.take i).filterMap f++(f x).toList:=by rw[Xe,h,List.filterMap_append];cases e:f x<;>simp[e]
namespace Zr
def y4k(aA:OA)(m cA:Nat)(lA:List Value)(A:List (List Int))(aB:OA)(cB:Nat)(B:List Int)(aC:OA)(N cC:Nat)(cs:List Int)(own:Int)(w:World)(o:TabZ w 0 (aA,m,cA) lA A)(g:IntsZ w 0 (aB,m,cB) B)(j:SmallZ m N A B cs) :
  Calls prog 40 #[.agg #[(aA,m,cA),(aB,m,cB),(aC,N,cC),.int .i64 own]] w (y5L w (y1k A B N)):=by
 have HS:=un j;have bK:=un o.nlen;have bO:=j.m4;have a4:=j.n7;refine μ4 (show y1k A B N=if y2p A B N=true then (y1l N (y1i A N m).length).filterMap (ptF A B N (y1i A N m))else []by unfold y1k;rw[<-o.nlen];rfl) (fun(w:World) (o:TabZ w 0 (aA,m,cA) lA A) (g:IntsZ w 0 (aB,m,cB) B)=>y6l aA m cA lA A aB m cB B aC N cC own N w o g j.rows j.ent j.bnd rfl j.m4 j.n7) (show(y1i A N m).length<=4 from Zf (Dz.rankTo_len A N m) j.m4) (rankTo_lt A N m) λP aU am aT=>?_;generalize y1i A N m=rs at *
 obtain⟨k,hk⟩:∃k,rs.length=k:=⟨_,rfl⟩
 have aJ:=un hk;rw[hk]at P am;have a2:=am.o;refine μ3 (fun(w:World)=>y5g N k w ω ω) (λp (h:p∈y1l N k)=>y3D h) (Zf (y1H N k) (Xq δ a4)) λaK aj aM=>?_;generalize y1l N k=ps at *
 have aO:=un (fun(w:World) (o:TabZ w 0 (aA,m,cA) lA A) (g:IntsZ w 0 (aB,m,cB) B) (aR:OA) (cR:Nat) (hR:IntsZ w 0 (.slice aR k cR) (zN rs)) (aS:OA) (D:Nat) (p:List Nat) (hC:IntsZ w 0 (.slice aS k D) (zN p)) (s:p∈ps)=>y5W aA m cA lA A aB cB B aC N cC own aR k cR rs aS D p w o g hR hC j.rows j.ent j.bnd (λr h=>aT.o r h) (aj.o p s).2 a2 ω);have aL:=un (λp=>show ptF A B N rs p=if y1C k (y1p A rs p)=0 then none else if y1G (y6w A B N rs p)=true then none else some (y6w A B N rs p)by unfold ptF;rw[hk]);generalize ptF A B N rs=pf at *
 generalize y1k A B N=pz at *
 generalize y2p A B N=fb at *
 clear j hk;obtain⟨W,t⟩:∃W,(w.alloc (.cells #[(aA,m,cA),(aB,m,cB),(aC,N,cC),.int .i64 own] 73))=W:=⟨_,rfl⟩
 refine μ4 (show θ W w.heap.size #[(aA,m,cA),(aB,m,cB),(aC,N,cC),.int .i64 own] 73by rw[<-t];exact zam σ) (show Below w w W by rw[<-t];exact zae w _) (show TabZ W 0 (aA,m,cA) lA A by rw[<-t];exact(o).alloc _) (show IntsZ W 0 (aB,m,cB) B by rw[<-t];exact(g).alloc _) λao BB HA HB=>?_;obtain⟨bn,bt,bo,bi,bv,bA,bI,bG⟩:=bc4 ao.o;clear o g;go_enter func40,ntmps40;go_wp2_with fail
 clear t;with_reducible refine(aU.o _ HA.o HB.o).mono ?_
 rintro e w1 ⟨O,cO,rfl,hO,a⟩;refine μ5 (zad a ao.o) (HA.o.below a) (HB.o.below a) (show IntsZ w1 0 (O,rs.length,cO) (zN rs)from hO.base (Zb _)) (BB.o.trans ((a).mono BB.o.size)) λaD bg bh HO Y=>?_;obtain⟨bl,br,bm,bs,bu,bw,bJ,bH⟩:=bc4 aD.o;clear hO a;rw[aJ.o]at HO ⊢;cases fb
 ·have G:=un (show pz=[]from P.o);go_wp2;go_ret
  rw[G.o];exact⟨none,0,[],rfl,PtsZ.nil _ _,Y.o⟩
 have G:=un (show pz=ps.filterMap pf from P.o);go_wp2_with fail
 with_reducible refine(aK.o _).mono ?_
 rintro e u ⟨S,D,ls,rfl,hS,a⟩;refine μ6 (zad a aD.o) (bg.o.below a) (bh.o.below a) (HO.o.below a) (show TabZ u 0 (.slice S (ps.map zN).length D) ls (ps.map zN)from hS.base (Zb _)) (Y.o.trans ((a).mono Y.o.size)) λaz bc bb be aN aa=>?_;obtain⟨bp,bj,bq,bk,bD,bC,bF,bE⟩:=bc4 az.o;clear hS a;generalize hq:(ps.map zN).length=q at *
 have I:=un (show ps.length=q by rw[<-hq,ZK]);have bQ:q<=128:=by rw[<-I.o];exact aM.o
 clear hq;clear bn bt bo bi bv bA bI bG bl br bm bs bu bw bJ bH;go_wp2_with fail
 go_loopw [5,7] (λov X wr=>∃(i n:Nat) (O:OA) (cO:Nat) (l:List Value),X=.int .i64 i/\ov=(O,n,cO)/\i<=q/\n<=i/\PtsZ wr u.heap.size (O,n,cO) l ((ps.take i).filterMap pf)/\Below u u wr)
  (λ_ X _=>q-(intOf X).toNat)
 case atStart=>exact⟨0,0,none,0,[],rfl,rfl,Zb _,Za _,PtsZ.nil _ _,Zl _ _⟩
 rename World=>wr
 obtain⟨i,n,Q,C,l,rfl,rfl,hi,bP,V,g⟩:=hrel;refine μ9 V V.nlen g (zad g az.o) (bc.o.below g) (bb.o.below g) (be.o.below g) (aN.o.below g) (aa.o.trans ((g).mono aa.o.size)) λL aQ y bx bd bf ba ax bB=>?_;obtain⟨aE,bV,aF,bW,aG,bX,ay,bY⟩:=bc4 bx.o;clear bp bj bq bk bD bC bF bE;clear V g;by_cases a3:i<q
 ·obtain⟨p,s⟩:∃p,ps[i]? = some p:=⟨ps[i]'(by rw[I.o];exact a3),Ze _⟩
  have ak:=un (Zj s);have M:=un (y5w (f:=pf) s);obtain⟨bS,rfl,_,_⟩:=ax.o.has ω;obtain⟨R,T,_,F,U⟩:=ax.o.at_ (show(ps.map zN)[i]? = some (zN p)by rw[Z1,s];rfl);rw[y1y,(aj.o p ak.o).1]at F U;have HC:=un (aO.o _ bd.o.drew bf.o.drew O cO ba.o.drew R T p U.drew ak.o);have ag:=un (aL.o p);generalize y6w A B N rs p=zp at *
  generalize y1C k (y1p A rs p)=d at *
  generalize pf p=fp at *
  have bN:(i:Int)<(q:Int):=ω;have bM:(0:Int)<=(i:Int):=Zg _;clear U s;go_upto_region 9 with fail
  have bU:=zaa F;by_cases E:d=0
  ·have z:=un (show fp=none by rw[ag.o,if_pos E]);refine zaS (S:=λw'=>χ w' w 0 (aA,m,cA)/\χ w' w 1 (aB,m,cB)/\χ w' w 2 (aC,N,cC)/\χ w' w 3 (.int .i64 own)/\χ w' bS i (.slice R k T)) [10,11] (h:=λhHeld=>?_);refine zaw [0,1,2,3,4,5] ?_;repeat refine tkL hHeld ?_
   refine zao ?_;refine zaB 6 (h:=λK b=>?_);go_simp;(go_at_call 103;(with_reducible refine HC.o.mono ?_);rintro e w5 ⟨⟨_,rfl⟩ | ⟨a1,_⟩,a⟩;rotate_left;(exact absurd E a1);have c:=un (It.bdrew0' a);have v0:=zab c.o aE;have v1:=zab c.o aF;have v2:=zab c.o aG;have v3:=zab c.o ay;have v4:=zab c.o F;clear a);(try go_wp2_with fail);refine shutOn b λhHeld=>?_;clear b K;refine zaw [7,8] ?_;repeat refine tkL hHeld ?_
   refine zao ?_;refine zaw [9] ?_;repeat refine tkX (h:=?_)
   refine zao ?_;refine zay 10 (h:=λK b=>?_);go_simp;refine shutOff b ?_;clear b K;refine zay 11 (h:=λK b=>?_);go_simp;refine shutOff b ?_;clear b K;refine zaM (h:=?_);have v:=un (y.o.trans (c.o.mono y.o.size));have J:=un (L.o.below c.o);go_wp2_with fail
   go_roundw
   case rel=>exact⟨i+1,n,Q,C,l,by go_num,rfl,ω,ω,by rw[M.o,z.o];show PtsZ _ _ _ _ (_++[]);rw[XT];exact J.o,v.o⟩
   case measure=>simp[intOf];omega
  have z:=un (show fp=if y1G zp=true then none else some zp by rw[ag.o,if_neg E]);refine zaS (S:=λw'=>χ w' w 0 (aA,m,cA)/\χ w' w 1 (aB,m,cB)/\χ w' w 2 (aC,N,cC)/\χ w' w 3 (.int .i64 own)/\χ w' bS i (.slice R k T)) [10,11] (h:=λhHeld=>?_);refine zaw [0,1,2,3,4,5] ?_;repeat refine tkL hHeld ?_
  refine zao ?_;refine zaB 6 (h:=λK b=>?_);go_simp;(go_at_call 103;(with_reducible refine HC.o.mono ?_);rintro e w5 ⟨⟨a0,_⟩ | ⟨_,Z,cZ,rfl,hz⟩,a⟩;(exact absurd a0 E);have c:=un (It.bdrew0' a);have an:=un (hz.base (Zb _));have v0:=zab c.o aE;have v1:=zab c.o aF;have v2:=zab c.o aG;have v3:=zab c.o ay;have v4:=zab c.o F;clear a hz);(try go_wp2_with fail);refine shutOn b λhHeld=>?_;clear b K;refine zaw [7,8] ?_;repeat refine tkL hHeld ?_
  refine zao ?_;refine zaw [9] ?_;repeat refine tkX (h:=?_)
  refine zao ?_;refine zay 10 (h:=λK b=>?_);go_simp;refine shutOff b ?_;clear b K;refine zay 11 (h:=λK b=>?_);go_simp;refine shutOff b ?_;clear b K;refine zaM (h:=?_);refine μ3 (y.o.trans (c.o.mono y.o.size)) (L.o.below c.o) (fun(w:World) (h:FracsZ w 0 (Z,N,cZ) zp)=>y5N Z N cZ zp w h ω) λv J aI=>?_;generalize y1G zp=bz at *
  go_wp2_with fail
  refine(aI.o _ an.o).mono ?_;rintro e w7 ⟨rfl,a⟩;refine μ3 (v.o.trans (a.mono v.o.size)) (J.o.below a) (an.o.below a) λx al aV=>?_;clear a;cases bz
  ·have H:=un (show fp=some zp from z.o);go_wp2_with (at_builtin;go_loud (refine wpl rfl (λK aY=>y5l (N:=n+1) _ _ rfl rfl (al.o.alloc _) rfl (zal _ _ _) (aV.o.alloc _) (by rw[<-aQ.o]) ω (by have:=x.o.size;simp;omega) K aY) ?_;rintro _ w8 ⟨Q8,c8,rfl,hQ8,hk8,hb8⟩;have aP:=un hQ8;have aH:=un ((Xn x.o x.o.size _).trans hb8);clear hQ8 hk8 hb8))
   go_roundw
   case rel=>exact⟨i+1,n+1,Q8,c8,_,by go_num,rfl,ω,ω,by rw[M.o,H.o];exact aP.o,aH.o⟩
   case measure=>simp[intOf];omega
  have H:=un (show fp=none from z.o);go_wp2_with fail
  go_roundw
  case rel=>exact⟨i+1,n,Q,C,l,by go_num,rfl,ω,ω,by rw[M.o,H.o];show PtsZ _ _ _ _ (_++[]);rw[XT];exact al.o,x.o⟩
  case measure=>simp[intOf];omega
 obtain rfl:i=q:=ω;have HF:=un (show PtsZ wr u.heap.size (Q,n,C) l pz by rw[G.o];have h:=L.o;rw[Z2 (Nat.le_of_eq I.o)]at h;exact h);have ah:=un HF.o.nlen;go_wp2;go_ret;exact⟨Q,C,l,by rw[<-ah.o];rfl,by rw[<-ah.o];exact HF.o.base aa.o.size,bB.o⟩
end Zr
end Go.Proofs.YtbpjabgfcbjjmaaGreat
namespace Go.Proofs.YtbpjabgfcbjjmaaGreat
open Go.RowKit Am Go.Proofs.Tryz
open Dz (y1U y14 y1A y1B y1E y1k y1j y1w)
attribute [local go_sem ↓] Go.wp_at_zero Go.wp_at_succ
variable {xs ys:List Int}{l:List Value}{H bA c' k:Nat}{a:OA}{s v:Value}{w w':World}
def y1Z{m N:Nat}{A:List (List Int)}{B cs:List Int}(h:SmallZ m N A B cs)(hm:m<=3):SmallZ (m+1) N (y1A A N) (y1B m) cs:=by refine⟨λx a=>?_,λr hr x a=>?_,λx a=>?_,h.cost,ω,h.n7⟩;unfold y1A at a;rcases ZT.1 a with q | q;exact h.rows x q;rw[XF.1 q,ZQ];unfold y1A at hr;rcases ZT.1 hr with q | q;exact h.ent r q x a;rw[XF.1 q]at a;rw[(Yv.1 a).2];decide;unfold y1B at a;rcases ZT.1 a with q | q;rw[(Yv.1 q).2];decide;rw[XF.1 q];decide
def TabZ.rerow{M:List (List Int)}(h:TabZ w H v l M)(hk:TKeep 3 w w')(hr:∀(k:Nat) (s:Value) (r:List Int),l[k]? = some s->M[k]? = some r->IntsZ w' 0 s r):TabZ w' H v l M :=
 ⟨h.len,hr,zc9 h.own λk a=>hk k (h.own.lt k a).2 λcs e=>za6 h.own e δ a⟩
def TabZ.rowsTk{M:List (List Int)}(h:TabZ w H v l M)(r:Nat):∀(k:Nat) (s:Value) (x:List Int),(l.take r)[k]? = some s->(M.take r)[k]? = some x->IntsZ w 0 s x:=λk s x h1 a=>by
 rw[Ys]at h1 a;split at h1
 rename_i e;rw[if_pos e]at a;exact h.each k s x h1 a;cases h1
def y6m(W:World)(x y:Int):(Instr.field 36 (.agg #[.int .i64 x,.int .i64 y]) 0).run prog W=.ok (.int .i64 x) W:=by rfl
namespace Zr
def y5S(aA:OA)(m cA:Nat)(lA:List Value)(A:List (List Int))(aB:OA)(cB:Nat)(B:List Int)(aC:OA)(N cC:Nat)(cs:List Int)(own:Int)(w:World)(hA:TabZ w 0 (aA,m,cA) lA A)(hC:IntsZ w 0 (aC,N,cC) cs)(J:SmallZ m N A B cs)(hm:m<=3) :
  Calls prog 41 #[.agg #[(aA,m,cA),(aB,m,cB),(aC,N,cC),.int .i64 own]] w λe w'=>e=.returned (.bool (y1E A (cf cs) N))/\Below w w w':=by
 have ae:=un hA.nlen;have av:=un hA.len;have c2:=J.n7;refine μ5 (fun(w:World) (y:OA) (D:Nat) (lW:List Value) (n:OA) (t:Nat) (hA:TabZ w 0 (y,m+1,D) lW (y1A A N)) (a:IntsZ w 0 (n,m+1,t) (y1B m))=>y4k y (m+1) D lW (y1A A N) n t (y1B m) aC N cC cs own w hA a (y1Z J hm)) (λz (E:z∈y1k (y1A A N) (y1B m) N)=>y1w (y1Z J hm).ent (y1Z J hm).bnd (by unfold y1A;rw[Zz,<-ae.o];show m+1<=4;omega) E) (λz (E:z∈y1k (y1A A N) (y1B m) N)=>(show z.length=N from(Dz.points_fit (y1Z J hm).rows E).1)) (show y1E A (cf cs) N=(y1k (y1A A N) (y1B m) N).any λz=>decide (y1j N (cf cs) (el z)<0)by unfold y1E;rw[<-ae.o]) J.cost λce b6 b7 HW b3=>?_;generalize y1k (y1A A N) (y1B m) N=pz at *
 generalize y1E A (cf cs) N=fb at *
 obtain⟨W,hW⟩:∃W,(w.alloc (.cells #[(aA,m,cA),(aB,m,cB),(aC,N,cC),.int .i64 own] 73))=W:=⟨_,rfl⟩
 refine μ4 (show θ W w.heap.size #[(aA,m,cA),(aB,m,cB),(aC,N,cC),.int .i64 own] 73by rw[<-hW];exact zam σ) (show Below w w W by rw[<-hW];exact zae w _) (show TabZ W 0 (aA,m,cA) lA A by rw[<-hW];exact(hA).alloc _) (show IntsZ W 0 (aC,N,cC) cs by rw[<-hW];exact(hC).alloc _) λbp BB HA HC=>?_;obtain⟨bY,cK,cI,cG,bZ,cM,cP,cN⟩:=bc4 bp.o;go_enter func41,ntmps41;go_wp2_with fail
 go_loopw [5] (λrv wr=>∃(r:Nat) (y:OA) (D:Nat) (n:OA) (t:Nat),rv=.int .i64 r/\r<=m/\θ wr W.heap.size #[(y,r,D),(n,r,t),(aC,N,cC),.int .i64 own] 73/\TabZ wr W.heap.size (y,r,D) (lA.take r) (A.take r)/\IntsZ wr W.heap.size (n,r,t) (List.replicate r 0)/\Below W.heap.size W wr)
  (λrv _=>m-(intOf rv).toNat)
 case atStart=>exact⟨0,none,0,none,0,rfl,Zb _,zal _ _ _,TabZ.nil _ _,IntsZ.nil _ _,zae W _⟩
 rename World=>wr
 obtain⟨r,y,D,n,t,rfl,hr,hk,hT,hI,a⟩:=hrel;refine μ6 hk hT hI hT.nlen hI.len a λKW HT HI bm cQ ag=>?_;have q1:=bY;have q0:=bZ;have b5:=HC;have cJ:=un (zad a bp.o);have cF:=un (HA.o.below a);obtain⟨cH,de,dd,df,cL,dg,di,dh⟩:=bc4 cJ.o;have cS:W.heap.size<wr.heap.size:=(ZU.1 hk).1;obtain⟨L,M,T,U,c,P,V,Y,k2,Q,Z,aa,k3,R,ab,ac⟩:=bf4 KW.o;by_cases cv:r<m
 ·obtain⟨row,bb⟩:∃row,A[r]? = some row:=⟨A[r]'(by rw[<-ae.o];exact cv),Ze _⟩
  obtain⟨bA,rfl,_,_⟩:=cF.o.has ω;obtain⟨aX,cx,bB,q2,ax⟩:=HA.o.at_ bb;have z1:=zab ag.o q2
  replace ax:=ax.below ag.o
  refine μ3 ax (show lA.take (r+1)=lA.take r++[.slice aX row.length cx]by rw[Xe,bB];rfl) (show A.take (r+1)=A.take r++[row]by rw[Xe,bb];rfl) λca bh bi=>?_;have c5:(r:Int)<(m:Int):=ω;have c4:(0:Int)<=(r:Int):=Zg _;go_upto_region 6 with fail
  have db:=zaa z1;have z2:=cH;have dc:=zaa z2;refine zaS (S:=λw'=>χ w' W.heap.size 0 (y,r,D)/\χ w' w 0 (bA,m,cA)/\χ w' bA r (.slice aX row.length cx)) [10] (h:=λhHeld=>?_);refine zaw [0,1,2,3,4,5,6] ?_;repeat refine tkL hHeld ?_
  refine zao ?_;refine zaB 7 (h:=λK b=>?_);go_simp;refine shutOn b λhHeld=>?_;refine zaB 8 (h:=λK b=>?_);(refine wps rfl (λK u=>y1Q (N:=r+1) _ _ rfl rfl (HT.o.drew.alloc _) rfl (zal _ _ _) ((ca.o.drew).alloc _) (by rw[<-bm.o]) ω (by simp;omega) K u) ?_;rintro _ w7 ⟨aW7,cW7,rfl,hT7,hk7,hb7,hf7,ho7⟩;refine μ4 hT7 ((bdrew (Xn ag.o ag.o.size _)).trans hb7) (hk7.blk (zak KW.o) δ) ((HI.o.drew.alloc _).tk hk7 δ) λa2 ak d aU=>?_;obtain⟨v0,az,aI,aJ,v1,aD,aK,aL,v2,aF,aM,aN,v3,aH,aO,aP⟩:=bf4 d.o;have u1:=zab ak.o q1;have u2:=zab ak.o q2);refine shutOn b λhHeld=>?_;refine zaw [9] ?_;repeat refine tkL hHeld ?_
  refine zao ?_;refine zay 10 (h:=λK b=>?_);go_simp;refine shutOff b ?_;refine zaM (h:=?_);refine μ4 (show θ (w7.setCell ⟨W.heap.size,0,none⟩ (aW7,r+1,cW7)) W.heap.size #[(aW7,r+1,cW7),(n,r,t),(aC,N,cC),.int .i64 own] 73from zar _ d.o) (a2.o.tk (TKeep.set d.o (o:=0) (aW7,r+1,cW7)) δ δ) (aU.o.tk (TKeep.set d.o (o:=0) (aW7,r+1,cW7)) δ) (show Below W.heap.size W (w7.setCell ⟨W.heap.size,0,none⟩ (aW7,r+1,cW7))from bsc (p:=⟨W.heap.size,0,none⟩) ak.o (Za _)) λG a3 aV al=>?_;generalize w7.setCell ⟨W.heap.size,0,none⟩ (aW7,r+1,cW7)=w8 at *
  obtain⟨v0,az,aI,aJ,v1,aD,aK,aL,v2,aF,aM,aN,v3,aH,aO,aP⟩:=bf4 G.o;have cr:W.heap.size<w8.heap.size:=(ZU.1 G.o).1;go_wp2_with (at_builtin;go_loud (refine wpl rfl (λK u=>y1n (N:=r+1) _ _ rfl rfl (aV.o.alloc _) rfl (ys:=[0]) (y19 (zal _ _ _) rfl) (by rw[ZQ]) ω (by simp;omega) K u) ?_;rintro _ v ⟨bW9,dW9,rfl,hI9,hk9,hb9,hf9,ho9⟩;refine μ3 hI9 ((Xn al.o al.o.size _).trans hb9) (hk9.blk (zak G.o) δ) λaY am f=>?_;have an:=un ((a3.o.alloc _).rerow hk9 (by rw[<-bh.o,<-bi.o];exact(HA.o.below am.o).rowsTk (r+1)));obtain⟨t0,bG,bN,bP,t1,bI,bQ,bR,t2,bK,bS,bT,t3,bM,bU,bV⟩:=bf4 f.o))
  go_roundw
  case rel=>exact⟨r+1,aW7,cW7,bW9,dW9,by go_num,ω,zar _ f.o,by rw[bh.o,bi.o];exact an.o.tk (TKeep.set f.o (o:=1) _) δ δ,by rw[Yi];exact aY.o.tk (TKeep.set f.o (o:=1) _) δ,bsc (p:=⟨W.heap.size,1,none⟩) am.o (Za _)⟩
  case measure=>simp[intOf];omega
 obtain rfl:r=m:=ω;have ci:=un (show TabZ wr W.heap.size (y,r,D) lA A by have h:=HT.o;rw[Z2 (by rw[av.o,<-ae.o];exact Za _),Z2 (by rw[<-ae.o];exact Za _)]at h;exact h);have q2:=cL;go_wp2_with fail
 go_loopw [4,6] (λxv jv wx=>∃(j:Nat) (X:OA) (cX:Nat),jv=.int .i64 j/\xv=(X,j,cX)/\j<=N/\IntsZ wx wr.heap.size (X,j,cX) (List.replicate j 1)/\Below wr.heap.size wr wx)
  (λ_ jv _=>N-(intOf jv).toNat)
 case atStart=>exact⟨0,none,0,rfl,rfl,Zb _,IntsZ.nil _ _,Zl _ _⟩
 rename World=>wx
 obtain⟨j,X,cX,rfl,rfl,hj,hX,a⟩:=hrel;have HX:=un hX;have F:=un a;have e2:=zab a q2;by_cases c1:j<N
 ·have c0:(j:Int)<(N:Int):=ω
  go_wp2_with (at_builtin;go_loud (refine wpl rfl (λK u=>y1n (N:=j+1) _ _ rfl rfl (HX.o.alloc _) rfl (ys:=[1]) (y19 (zal _ _ _) rfl) (by rw[ZQ]) ω (by have:=F.o.size;simp;omega) K u) ?_;rintro _ w6 ⟨X6,c6,rfl,hI6,hk6,hb6,hf6,ho6⟩;have b9:=un hI6;have b1:=un ((Xn F.o F.o.size _).trans hb6)))
  go_roundw
  case rel=>exact⟨j+1,X6,c6,by go_num,rfl,ω,by rw[Yi];exact b9.o,b1.o⟩
  case measure=>simp[intOf];omega
 obtain rfl:j=N:=ω;refine μ4 (zad F.o KW.o) (ci.o.below F.o) (HI.o.below F.o) (ag.o.trans (F.o.mono ag.o.size)) λa7 cj cb bf=>?_;have cT:W.heap.size<wx.heap.size:=(ZU.1 a7.o).1;obtain⟨L,M,T,U,c,P,V,Y,k2,Q,Z,aa,k3,R,ab,ac⟩:=bf4 a7.o;go_upto_region 13 with (at_builtin;go_loud (refine wpl rfl (λK u=>y1Q (N:=r+1) _ _ rfl rfl (cj.o.alloc _) rfl (zal _ _ _) ((HX.o.base (Zb _)).alloc _) (by rw[<-ae.o]) ω (by simp;omega) K u) ?_;rintro _ w7 ⟨aW7,cW7,rfl,hT7,hk7,hb7,hf7,ho7⟩;refine μ5 hT7 ((Xn bf.o bf.o.size _).trans hb7) (hk7.blk (zak a7.o) δ) ((cb.o.alloc _).tk hk7 δ) ((HX.o.alloc _).tk hk7 δ) λa2 ak d aU ck=>?_;obtain⟨v0,az,aI,aJ,v1,aD,aK,aL,v2,aF,aM,aN,v3,aH,aO,aP⟩:=bf4 d.o))
 refine μ5 (show θ (w7.setCell ⟨W.heap.size,0,none⟩ (aW7,r+1,cW7)) W.heap.size #[(aW7,r+1,cW7),(n,r,t),(aC,j,cC),.int .i64 own] 73from zar _ d.o) (a2.o.tk (TKeep.set d.o (o:=0) (aW7,r+1,cW7)) δ δ) (aU.o.tk (TKeep.set d.o (o:=0) (aW7,r+1,cW7)) δ) (ck.o.tk (TKeep.set d.o (o:=0) (aW7,r+1,cW7)) δ) (show Below W.heap.size W (w7.setCell ⟨W.heap.size,0,none⟩ (aW7,r+1,cW7))from bsc (p:=⟨W.heap.size,0,none⟩) ak.o (Za _)) λG a3 aV bo al=>?_;generalize w7.setCell ⟨W.heap.size,0,none⟩ (aW7,r+1,cW7)=w8 at *
 obtain⟨L,M,T,U,c,P,V,Y,k2,Q,Z,aa,k3,R,ab,ac⟩:=bf4 G.o;have cr:W.heap.size<w8.heap.size:=(ZU.1 G.o).1;have b0:=un (show ∀g,(Value.slice n r t).ownBlock=some g->(Value.slice X j cX).ownBlock≠some g from λg h1 h2=>by have:=(HI.o.own.lt g h1).2;have:=(HX.o.own.lt g h2).1;omega)
 have cg:=un (fun(v:World) (h1:Below W.heap.size W v) (h2:IntsZ v wr.heap.size (X,j,cX) (List.replicate j 1)) (k:Nat) (s:Value) (x:List Int) (I:(lA++[.slice X j cX])[k]? = some s) (h4:(A++[List.replicate j 1])[k]? = some x)=>show IntsZ v 0 s x from by
  by_cases bz:k<lA.length;rw[Z4 bz]at I;rw[Z4 (by rw[<-av.o];exact bz)]at h4;exact(HA.o.below h1).each k s x I h4;rw[ZN ω]at I;rw[ZN (by rw[<-av.o];omega),<-av.o]at h4;obtain⟨c,ct⟩:∃c,k-lA.length=c:=⟨_,rfl⟩
  rw[ct]at I h4;cases c with
  | zero=>simp at I h4;subst I h4;exact h2.base (Zb _)
  | succ=>simp at I)
 go_upto_region 14 with (at_builtin;go_loud (refine wpl rfl (λK u=>y1n (N:=r+1) _ _ rfl rfl (aV.o.alloc _) rfl (ys:=[1]) (y19 (zal _ _ _) rfl) (by rw[ZQ]) ω (by simp;omega) K u) ?_;rintro _ v ⟨bW9,dW9,rfl,hI9,hk9,hb9,hf9,ho9⟩;refine μ4 hI9 ((Xn al.o al.o.size _).trans hb9) (hk9.blk (zak G.o) δ) ((bo.o.alloc _).keep λg hg=>hf9 g (((bo.o.alloc _).own.lt g hg).2) λe=>b0.o g e hg) λaY am f cl=>?_;have an:=un ((a3.o.alloc _).rerow hk9 (cg.o v am.o cl.o));obtain⟨t0,bG,bN,bP,t1,bI,bQ,bR,t2,bK,bS,bT,t3,bM,bU,bV⟩:=bf4 f.o))
 refine μ4 (show θ (v.setCell ⟨W.heap.size,1,none⟩ (bW9,r+1,dW9)) W.heap.size #[(aW7,r+1,cW7),(bW9,r+1,dW9),(aC,j,cC),.int .i64 own] 73from zar _ f.o) (show TabZ _ 0 (aW7,r+1,cW7) _ (y1A A j)from(an.o.tk (TKeep.set f.o (o:=1) (bW9,r+1,dW9)) δ δ).base (Zb _)) (show IntsZ _ 0 (bW9,r+1,dW9) (y1B r)from(aY.o.tk (TKeep.set f.o (o:=1) (bW9,r+1,dW9)) δ).base (Zb _)) (show Below W.heap.size W (v.setCell ⟨W.heap.size,1,none⟩ (bW9,r+1,dW9))from bsc (p:=⟨W.heap.size,1,none⟩) am.o (Za _)) λco ch b8 aR=>?_;generalize v.setCell ⟨W.heap.size,1,none⟩ (bW9,r+1,dW9)=w10 at *
 obtain⟨L,M,T,U,c,P,V,Y,k2,Q,Z,aa,k3,R,ab,ac⟩:=bf4 co.o;have q3:=zab aR.o q0;go_wp2_with fail
 refine(ce.o _ aW7 cW7 _ bW9 dW9 ch.o b8.o).mono ?_;rintro e bX ⟨O,cO,l,rfl,hO,hb⟩;have af:=un (aR.o.trans (hb.mono aR.o.size));have HO:=un (hO.base (Zb _));generalize hq:pz.length=q at *
 have c3:q<=9223372036854775807:=by have h1:=HO.o.form.2.1;have h2:=HO.o.form.2.2.1;unfold maxLen at h2;omega
 have HQ:=un hq;go_wp2_with fail
 go_loopw [8] (λiv wy=>∃i:Nat,iv=.int .i64 i/\i<=q/\(∀z∈pz.take i,¬y1j j (cf cs) (el z)<0)/\Below bX bX wy)
  (λiv _=>q-(intOf iv).toNat)
 case atStart=>exact⟨0,rfl,Zb _,(λz h=>by cases h),Zl _ _⟩
 rename World=>wy
 obtain⟨i,rfl,hi,E,a⟩:=hrel;refine μ3 E a (af.o.trans (a.mono af.o.size)) λcn bu bg=>?_;have y0:=zab bg.o q0;by_cases cu:i<q
 ·obtain⟨z,aj⟩:∃z,pz[i]? = some z:=⟨pz[i]'(by rw[HQ.o];exact cu),Ze _⟩
  have a5:=un (Zj aj);have bk:=un (HO.o.below a);obtain⟨bO,rfl,_,_⟩:=bk.o.has ω;obtain⟨aZ,cZ,_,y1,a9⟩:=bk.o.at_ aj;rw[b7.o z a5.o]at y1 a9;refine μ4 (y4F aC j cC cs aZ cZ z wy.drew ((b5.o.below bg.o).drew) a9.drew b3.o (b6.o z a5.o) ω) (show pz.take (i+1)=pz.take i++[z]by rw[Xe,aj];rfl) (zeh (q:=y1j j (cf cs) (el z))) (fun(h:y1j j (cf cs) (el z)<0)=>show fb=true from by rw[HW.o];exact List.any_eq_true.2 ⟨z,a5.o,ZG h⟩) λb4 an bj cm=>?_;have cd:=un (fun(h:¬y1j j (cf cs) (el z)<0)=>show ∀z∈pz.take (i+1),¬y1j j (cf cs) (el z)<0 from λx hx=>by rw[an.o]at hx;rcases ZT.1 hx with h1 | h1;exact cn.o x h1;rw[XF.1 h1];exact h);generalize y1j j (cf cs) (el z)=cq at *
  have cY:(i:Int)<(q:Int):=ω;have cV:(0:Int)<=(i:Int):=Zg _;have cU:=fun(W:World)=>y6m W cq.num (cq.den:Int)
  go_upto_region 18 with fail
  have c9:=zaa y0;have da:=zaa y1;refine wp_region_noPanic ?_;refine wp_region_held_drew (S:=λw'=>χ w' w 2 (aC,j,cC)/\χ w' bO i (aZ,j,cZ)) ξ kp λhHeld=>?_;refine zaw [0,1,2,3,4,5] ?_;repeat refine tkH hHeld ?_
  refine zao ?_;refine wpAnyH_ready (rs:=[6]) ξ σ ?_;refine AllReadyH.cons rfl (λK b=>?_) AllReadyH.nil;go_simp;(go_at_call 43;(refine b4.o.mono ?_);rintro e c7 ⟨rfl,hb⟩;have aS:=un (It.bdrew0' hb);have u0:=zab aS.o y0;have u1:=zab aS.o y1);(try go_wp2_with fail);refine b.o _ _ kp λhHeld=>?_;try simp only[Act.put,pu1,pu2,pu3,pu4,pu5,pu6]
  refine zaw [7,8] ?_;repeat refine tkH hHeld ?_
  refine zao ?_;refine wpAnyH_done ξ ?_ _;refine NoPanic.normal ?_;have au:=un (bu.o.trans (aS.o.mono bu.o.size));by_cases bx:cq.num<0
  ·have HY:=un (cm.o (bj.o.1 bx));go_wp2;go_ret
   exact⟨by rw[HY.o];rfl,BB.o.trans ((af.o.trans (au.o.mono af.o.size)).mono BB.o.size)⟩
  have cc:=un (cd.o λh=>bx (bj.o.2 h));go_wp2;go_roundw
  case rel=>exact⟨i+1,by go_num,ω,cc.o,au.o⟩
  case measure=>simp[intOf];omega
 obtain rfl:i=q:=ω;have HY:=un (show fb=false by rw[HW.o,Ya];intro z aj;have h:=E z (by rw[Z2 (Nat.le_of_eq HQ.o)];exact aj);simpa using h);have au:=un (af.o.trans (a.mono af.o.size));go_wp2;go_ret;exact⟨by rw[HY.o];rfl,BB.o.trans (au.o.mono BB.o.size)⟩
end Zr
def y2q{e t:TypeId}{sz:Nat}{n:Nat}{xs:List Value}(h:w.ownsRow H e sz v n xs)(hk:TKeep t w w')(c:e≠t):w'.ownsRow H e sz v n xs :=
 zc9 h λk a=>hk k (h.lt k a).2 λcs b=>za6 h b c a
structure Apz (w:World) (H:Nat) (ls:List Value) (xss:List (List Int)):Prop where
  len:ls.length=xss.length
  each:∀(k:Nat) (s:Value) (r:List Int),ls[k]? = some s->xss[k]? = some r->IntsZ w H s r
  ap:zbG ls
namespace Apz
variable {w w':World} {H:Nat} {ls:List Value} {xss:List (List Int)}
def below(h:Apz w H ls xss)(c:Below w w w'):Apz w' H ls xss:=⟨h.len,λk s r a b=>(h.each k s r a b).below c,h.ap⟩
def tk{t:TypeId}(h:Apz w H ls xss)(hk:TKeep t w w')(h1:3≠t):Apz w' H ls xss:=⟨h.len,λk s r a b=>(h.each k s r a b).tk hk h1,h.ap⟩
def get(h:Apz w H ls xss)(a:ls[k]? = some s):∃r,xss[k]? = some r/\IntsZ w H s r:=by
 have hk:=(ZF.1 a).1;obtain⟨r,hr⟩:∃r,xss[k]? = some r:=⟨xss[k]'(by rw[<-h.len];exact hk),Ze _⟩
 exact⟨r,hr,h.each k s r a hr⟩
def push(h:Apz w H ls xss){s:Value}{r:List Int}(m:IntsZ w H s r)(f:∀(g:Nat) (b:Value),s.ownBlock=some g->b∈ls->b.ownBlock≠some g):Apz w H (ls++[s]) (xss++[r]):=by refine⟨by simp[h.len],λk q y a c=>?_,h.ap.push f⟩;by_cases e:k<ls.length;rw[Z4 e]at a;rw[Z4 (by rw[<-h.len];exact e)]at c;exact h.each k q y a c;rw[ZN ω]at a;rw[ZN (by rw[<-h.len];omega),<-h.len]at c;grind
def put(h:Apz w H ls xss){i:Nat}{c:Value}(hi:ls[i]? = some v)(p:IntsZ w' H c xs)(hf:∀j,j<w.heap.size->v.ownBlock≠some j->w'.heap[j]? = w.heap[j]?)(o:c.ownBlock=v.ownBlock\/c.ownBlock=some w.heap.size):Apz w' H (ls.set i c) (xss.set i xs):=by
 refine⟨by rw[ZW,ZW,h.len],λk s r a b=>?_,h.ap.set λg j b hg hj d f=>?_⟩;rw[Xy]at a b;by_cases e:i=k;rw[if_pos e]at a b;have hk:=(ZF.1 hi).1;rw[if_pos hk]at a;rw[if_pos (by rw[<-h.len];exact hk)]at b;grind;rw[if_neg e]at a b;have m:=h.each k s r a b;exact m.keep λj hj=>hf j (m.own.lt j hj).2 λn=>e (h.ap i k v s j hi a n hj)
 obtain⟨r,_,hr⟩:=h.get d;rcases o with e | e;exact hj (h.ap i j v b g hi d (e▸hg) f).symm;rw[hg]at e;injection e with e;have:=(hr.own.lt g f).2;omega
end Apz
structure StW (W w:World) (nA nB nC:Nat) (aA:OA) (cA:Nat) (aB:OA) (cB:Nat) (aC:OA) (cC:Nat) (own:Int) (l:List Value) (A:List (List Int)) (B C:List Int):Prop where
  blk:θ w W.heap.size #[(aA,nA,cA),(aB,nB,cB),(aC,nC,cC),.int .i64 own] 73
  tab:w.ownsRow W.heap.size 41 1 (aA,nA,cA) A.length l
  ap:Apz w W.heap.size (.slice aB nB cB::.slice aC nC cC::l) (B::C::A)
  bel:Below W W w
namespace StW
variable {W w w':World} {nA nB nC:Nat} {aA:OA} {cA:Nat} {aB:OA} {cB:Nat} {aC:OA} {cC:Nat} {own:Int} {l:List Value} {A:List (List Int)} {B C:List Int}
def below(h:StW W w nA nB nC aA cA aB cB aC cC own l A B C)(a:Below w w w'):StW W w' nA nB nC aA cA aB cB aC cC own l A B C :=
 ⟨zad a h.blk,zc9 h.tab λk hk=>a.block k (h.tab.lt k hk).2,h.ap.below a,h.bel.trans (a.mono h.bel.size)⟩
def tabZ(h:StW W w nA nB nC aA cA aB cB aC cC own l A B C):TabZ w W.heap.size (aA,nA,cA) l A :=
 ⟨by have:=h.ap.len;grind,λk s r a b=>(h.ap.each (k+2) s r ψ (by simpa using b)).base (Zb _),h.tab⟩
def b(h:StW W w nA nB nC aA cA aB cB aC cC own l A B C):IntsZ w W (aB,nB,cB) B:=h.ap.each 0 _ _ rfl rfl
def c(h:StW W w nA nB nC aA cA aB cB aC cC own l A B C):IntsZ w W (aC,nC,cC) C:=h.ap.each 1 _ _ rfl rfl
def stA(h:StW W w nA nB nC aA cA aB cB aC cC own l A B C){c:Nat}{r:List Int}(t:TabZ w' W.heap.size (a,c,c') (l++[s]) (A++[r]))(hk:TKeep 41 w w')(n:Below W w w'){d:Nat}(q:IntsZ w d s r)(j:W.heap.size<=d)
  (m:∀(g:Nat) (b:Value),s.ownBlock=some g->b∈.slice aB nB cB::.slice aC nC cC::l->b.ownBlock≠some g):StW W (w'.setCell ⟨W,0,none⟩ (a,c,c')) c nB nC a c' aB cB aC cC own (l++[s]) (A++[r]) B C:=by
 have e:=hk.blk h.blk (show 73≠41 by decide);have f:=TKeep.set e (o:=0) (a,c,c');exact⟨zar _ e,y2q t.own f δ,((h.ap.tk hk δ).push ((q.tk hk δ).base j) m).tk f δ,(h.bel.trans n).setCell (p:=⟨W,0,none⟩) (Za _) _⟩
def stB(h:StW W w nA nB nC aA cA aB cB aC cC own l A B C){b:Nat}(g:IntsZ w' W (a,b,c') (B++ys))(hk:TKeep 3 w w')(e:Below W w w')(hf:∀j,j<w.heap.size->(Value.slice aB nB cB).ownBlock≠some j->w'.heap[j]? = w.heap[j]?)(f:(Value.slice a b c').ownBlock=(Value.slice aB nB cB).ownBlock\/(Value.slice a b c').ownBlock=some w.heap.size) :
  StW W (w'.setCell ⟨W,1,none⟩ (a,b,c')) nA b nC aA cA a c' aC cC own l A (B++ys) C:=by
 have c:=hk.blk h.blk (show 73≠3 by decide);have d:=TKeep.set c (o:=1) (a,b,c');exact⟨zar _ c,y2q (y2q h.tab hk δ) d δ,(h.ap.put (i:=0) rfl g hf f).tk d δ,(h.bel.trans e).setCell (p:=⟨W,1,none⟩) (Za _) _⟩
def stC(h:StW W w nA nB nC aA cA aB cB aC cC own l A B C){b:Nat}(g:IntsZ w' W (a,b,c') (C++ys))(hk:TKeep 3 w w')(e:Below W w w')(hf:∀j,j<w.heap.size->(Value.slice aC nC cC).ownBlock≠some j->w'.heap[j]? = w.heap[j]?)(f:(Value.slice a b c').ownBlock=(Value.slice aC nC cC).ownBlock\/(Value.slice a b c').ownBlock=some w.heap.size) :
  StW W (w'.setCell ⟨W,2,none⟩ (a,b,c')) nA nB b aA cA aB cB a c' own l A B (C++ys):=by
 have c:=hk.blk h.blk (show 73≠3 by decide);have d:=TKeep.set c (o:=2) (a,b,c');exact⟨zar _ c,y2q (y2q h.tab hk δ) d δ,(h.ap.put (i:=1) rfl g hf f).tk d δ,(h.bel.trans e).setCell (p:=⟨W,2,none⟩) (Za _) _⟩
def keepTab(h:StW W w nA nB nC (some ⟨bA,0,none⟩) cA aB cB aC cC own l A B C)(hk:TKeep 3 w w'){o:Nat}(hc:χ w bA o v):χ w' bA o v:=by
 have e:=hk bA (h.tab.lt bA rfl).2 λcs e=>za6 h.tab e δ rfl
 rw[<-hc];unfold World.cell?;simp only[e]
def stR(h:StW W w nA nB nC (some ⟨bA,0,none⟩) cA aB cB aC cC own l A B C)(s:l[k]? = some v){b:Nat}(c:IntsZ w' W (a,b,c') xs)(hk:TKeep 3 w w')(f:Below W w w')(hf:∀j,j<w.heap.size->v.ownBlock≠some j->w'.heap[j]? = w.heap[j]?)(u:(Value.slice a b c').ownBlock=v.ownBlock\/(Value.slice a b c').ownBlock=some w.heap.size) :
  StW W (w'.setCell ⟨bA,k,none⟩ (a,b,c')) nA nB nC (some ⟨bA,0,none⟩) cA aB cB aC cC own (l.set k (a,b,c')) (A.set k xs) B C:=by
 have t:nA=A.length:=h.tabZ.nlen;subst t;have d:=y2q h.tab hk δ;have m:W.heap.size<=bA:=(d.lt bA rfl).1;obtain⟨cs,n⟩:∃cs,θ w' bA cs 41:=by
  rcases d.2 with ⟨c,_⟩ | ⟨g,cap,cur,c,_,q,_⟩
  cases c;grind
 have e:=TKeep.set n (o:=k) (a,b,c');have y:=(d.stored k (a,b,c')).1;refine⟨e.blk (hk.blk h.blk δ) δ,by rw[ZW];exact y,?_,(h.bel.trans f).setCell (p:=⟨bA,k,none⟩) m _⟩;have x:=(h.ap.put (i:=k+2) ψ c hf u).tk e δ;exact x
def out4(h:StW W w nA nB nC aA cA aB cB aC cC own l A B C){b:Nat}(g:b<W.heap.size)(a a1 a2 a3:Value){w':World}(hw:((((w.setCell ⟨b,0,none⟩ a).setCell ⟨b,1,none⟩ a1).setCell ⟨b,2,none⟩ a2).setCell ⟨b,3,none⟩ a3)=w') :
  TabZ w' W.heap.size (aA,nA,cA) l A/\IntsZ w' W (aB,nB,cB) B/\IntsZ w' W (aC,nC,cC) C:=by
 have hk:∀k,W.heap.size<=k->w'.heap[k]? = w.heap[k]?:=λk hk=>by have e:k≠b:=ω;rw[<-hw,ZE _ _ _ _ (by exact e),ZE _ _ _ _ (by exact e),ZE _ _ _ _ (by exact e),ZE _ _ _ _ (by exact e)]
 have hi:∀ {v:Value} {r:List Int},IntsZ w W v r->IntsZ w' W v r:=λq=>q.keep λk e=>hk k (q.own.lt k e).1
 exact⟨⟨by have:=h.ap.len;grind,λk s r d f=>(hi (h.ap.each (k+2) s r (by simpa using d) (by simpa using f))).base (Zb _),zc9 h.tab λk e=>hk k (h.tab.lt k e).1⟩,hi h.b,hi h.c⟩
end StW
open Dz (ez)
def y2O (rows:List ZRow) (k r:Nat):List (List Int):=(List.range rows.length).map λi=>(rows.getD i default).coef++y1P rows i (if i<r then k+1 else k)
section
variable {rows:List ZRow} {k r i:Nat}
def y1S:(y2O rows k r).length=rows.length:=by simp[y2O]
def y1L(h:i<rows.length):(y2O rows k r)[i]? = some ((rows.getD i default).coef++y1P rows i (if i<r then k+1 else k)):=by unfold y2O;rw[Z1,XH h];rfl
def y5z(h:r<rows.length):(y2O rows k r).set r ((rows.getD r default).coef++y1P rows r (k+1))=y2O rows k (r+1):=by apply Xf;intro i;rw[Xy];by_cases e:r=i;subst e;rw[if_pos rfl,if_pos (by rw[y1S];exact h),y1L h,if_pos ω];rw[if_neg e];rcases ZM i rows.length with q | q;rw[y1L q,y1L q];by_cases a:i<r;rw[if_pos a,if_pos ω];rw[if_neg a,if_neg ω];rw[Xl (by rw[y1S];exact q),Xl (by rw[y1S];exact q)]
def y4P:y2O rows k rows.length=y2O rows (k+1) 0:=by apply Xf;intro i;rcases ZM i rows.length with q | q;rw[y1L q,y1L q,if_pos q,if_neg ω];rw[Xl (by rw[y1S];exact q),Xl (by rw[y1S];exact q)]
def y4Q(h:(rows.getD k default).kind=3):y2O rows (k+1) 0=y2O rows k 0:=by
 apply Xf;intro i;rcases ZM i rows.length with q | q;rw[y1L q,y1L q,if_neg ω,if_neg ω];show some (_++(y1P rows i k++if (rows.getD k default).kind=3 then []else _))=_
 rw[if_pos h,XT];rw[Xl (by rw[y1S];exact q),Xl (by rw[y1S];exact q)]
def y38:y2O rows 0 0=rows.map λp=>p.coef:=by
 apply Xf;intro i;rcases ZM i rows.length with q | q;rw[y1L q,if_neg ω,Z1,zaO (L:=rows) (d:=default) q];show some (_++[])=_
 rw[XT];rfl;rw[Xl (by rw[y1S];exact q),Xl (by rw[ZK];exact q)]
def y5y:y2O rows rows.length 0=y2C rows:=by unfold y2O y2C;exact VH λi _=>by rw[if_neg ω]
def y36(h:(rows.getD k default).kind≠3):y1P rows r (k+1)=y1P rows r k++[if r=k then 3-2*(rows.getD k default).kind else 0]:=by
 conv=>lhs;unfold y1P
 rw[if_neg h]
def y4D(hk:k<rows.length)(h:(rows.getD k default).kind≠3):cnt (toP rows) (k+1)=cnt (toP rows) k+1:=by
 show cnt (toP rows) k+(if ((toP rows).getD k default).kind=3 then 0 else 1)=_
 rw[y1T hk,if_neg (show ¬(toR (rows.getD k default)).kind=3 from h)]
def y4E(hk:k<rows.length)(h:(rows.getD k default).kind=3):cnt (toP rows) (k+1)=cnt (toP rows) k:=by
 show cnt (toP rows) k+(if ((toP rows).getD k default).kind=3 then 0 else 1)=_
 rw[y1T hk,if_pos (show(toR (rows.getD k default)).kind=3 from h)];rfl
def y3U:cnt (toP rows) k<=k:=by
 induction k with
 | zero=>exact Za _
 | succ k ih =>
  show cnt (toP rows) k+(if ((toP rows).getD k default).kind=3 then 0 else 1)<=_
  split<;>omega
end
def y3c (w:World) (nC:Nat) (cost:List Int) (rows:List ZRow) (e:Ending) (w':World):Prop:=∃(aA:OA) (cA:Nat) (lA:List Value) (aB:OA) (cB:Nat) (aC:OA) (cC:Nat),e=.returned (.agg #[(aA,rows.length,cA),(aB,rows.length,cB),(aC,nC+cnt (toP rows) rows.length,cC),(nC:Int)]) /\
  TabZ w' w.heap.size (aA,rows.length,cA) lA (y2C rows)/\IntsZ w' w (aB,rows.length,cB) (y29 rows)/\IntsZ w' w (aC,nC+cnt (toP rows) rows.length,cC) (y3a cost rows)/\Below w w w'
namespace Zr
def y6u(aC:OA)(nC cC:Nat)(cost:List Int)(aR:OA)(m cR:Nat)(lR:List Value)(rows:List ZRow)(w:World)(hC:IntsZ w 0 (aC,nC,cC) cost)(hR:ZRows w 0 (aR,m,cR) lR rows)(ca:nC<=10)(hm:m<=10)(h1:∀p∈rows,p.coef.length<=10)(ad:∀p∈rows,p.kind=1\/p.kind=2\/p.kind=3) :
  Calls prog 21 #[.agg #[(aC,nC,cC),(aR,m,cR)]] w (y3c w nC cost rows):=by
 refine μ4 hC.len hR.nlen (λi (h:i<rows.length)=>show(rows.getD i default).coef.length<=10 from h1 _ (Zj (zaO h))) (λi (h:i<rows.length)=>ad _ (Zj (zaO (d:=default) h))) λa8 o H1 bo=>?_;clear h1 ad;obtain⟨W,hW⟩:∃W,((w.alloc (.cells #[(aC,nC,cC),(aR,m,cR)] 44)).alloc (.cells #[(),(),(),.int .i64 0] 73))=W:=⟨_,rfl⟩
 refine μ6 (show θ W w.heap.size #[(aC,nC,cC),(aR,m,cR)] 44by rw[<-hW];exact zak (zam σ)) (show θ W (w.heap.size+1) #[(),(),(),.int .i64 0] 73by rw[<-hW];exact zam σ) (show Below w w W by rw[<-hW];exact(zae w _).alloc σ _) (show w.heap.size+2<=W.heap.size by rw[<-hW];simp) (show IntsZ W 0 (aC,nC,cC) cost by rw[<-hW];exact((hC).alloc _).alloc _) (show ZRows W 0 (aR,m,cR) lR rows by rw[<-hW];exact((hR).alloc _).alloc _) λaK aL BB HZ HC HR=>?_;obtain⟨cr,cy,aq,cm⟩:=bc2 aK.o;obtain⟨cM,cK,c0,cH,cI,cP,cS,cD,cT,cW,c5,c2,df,dd,db,c9⟩:=bf4 aL.o;clear hC hR;go_enter func21,ntmps21;go_upto_region 2 with fail
 clear hW;have aa:=un (show StW W (W.alloc (.cells #[(),(),(),(nC:Int)] 73)) 0 0 0 none 0 none 0 none 0 (nC:Int) [] [] [] []from⟨zal _ _ _,Xs _ _ _ _,⟨rfl,λk s r h1 h2=>by rcases k with _ | _ | k<;>simp at h1 h2<;>subst h1 h2<;>exact IntsZ.nil _ _,λi j a b g h1 _ h3 _=>by rcases i with _ | _ | i<;>simp at h1<;>subst h1<;>cases h3⟩,zae W _⟩);have aQ:=zae W (.cells #[(),(),(),(nC:Int)] 73);refine μ3 (zad aQ aK.o) (zad aQ aL.o) (HC.o.below aQ) λbT bO b2=>?_;obtain⟨cp,cv,cq,cw⟩:=bc2 bT.o;obtain⟨cL,cu,cX,cF,cN,cl,cU,cJ,cE,cQ,c1,cV,dg,de,dc,da⟩:=bf4 bO.o;generalize W.alloc (.cells #[(),(),(),(nC:Int)] 73)=wa at *
 obtain⟨E,F,M,O,G,I,P,Q,k2,J,R,T,k3,L,U,V⟩:=bf4 aa.o.blk;go_upto_region 3 with (at_builtin;go_loud (refine wpl rfl (λK D=>y1n (N:=nC) _ _ rfl rfl aa.o.c rfl (by have h:=b2.o.news;rw[<-a8.o]at h;exact h) (Xc _) ω aa.o.bel.size K D) ?_;rintro _ w6 ⟨X6,c6,rfl,hI6,hk6,hb6,hf6,ho6⟩;have av:=un (aa.o.stC hI6 hk6 hb6 hf6 ho6);have v0:=zac (hk6.blk aa.o.blk δ) 2;have v1:=zag (hk6.blk aa.o.blk δ) 2;clear hI6 hk6 hb6 hf6 ho6))
 clear E F M O G I P Q k2 J R T k3 L U V v0 v1;generalize w6.setCell ⟨W.heap.size,2,none⟩ (X6,nC,c6)=w7 at *
 rw[XY]at av;have b3:=un av.o.bel;clear aa;go_wp2_with fail
 go_loopw [4] (λkv wr=>∃(k:Nat) (aA:OA) (cA:Nat) (aB:OA) (cB:Nat) (l:List Value),kv=.int .i64 k/\k<=m/\StW W wr k k nC aA cA aB cB X6 c6 (nC:Int) l ((rows.take k).map λp=>p.coef) ((rows.take k).map λp=>p.rhs) cost)
  (λkv _=>m-(intOf kv).toNat)
 case atStart=>exact⟨0,none,0,none,0,[],rfl,Zb _,av.o⟩
 rename World=>wr
 obtain⟨k,aA,cA,aB,cB,l,rfl,hk,hS⟩:=hrel;have x:=un hS;have af:=un hS.bel;clear hS av;have y0:=zab af.o aq;by_cases be:k<m
 ·obtain⟨p,X⟩:∃p,rows[k]? = some p:=⟨rows[k]'(by rw[<-o.o];exact be),Ze _⟩
  have Y:=un (show rows.getD k default=p by rw[Zh,X];rfl);have cb:p.coef.length<=10:=by have h:=H1.o k (by rw[<-o.o];exact be);rw[Y.o]at h;exact h
  have bt:=un (y1D (f:=λp:ZRow=>p.coef) X);have bu:=un (y1D (f:=λp:ZRow=>p.rhs) X);obtain⟨bR,rfl,_,_⟩:=HR.o.has ω;obtain⟨aX,cx,_,z0,z1,z2,bd⟩:=HR.o.at_ X;have bn:=un (bd.below af.o);have y1:=zab af.o z0;have y3:=zab af.o z2;have b7:(k:Int)<(m:Int):=ω;have b5:(0:Int)<=(k:Int):=Zg _;clear bd X;have bj:=un (fun(g:Nat) (b:Value) (hg:wr.heap.size<=g) (hb:b∈Value.slice aB k cB::Value.slice X6 nC c6::l)=>show b.ownBlock≠some g from λe=>by obtain⟨i,hi⟩:=Xh.1 hb;obtain⟨r,_,hr⟩:=x.o.ap.get hi;have:=(hr.own.lt g e).2;omega);go_upto_region 8 with (at_builtin;go_loud (refine wpl rfl (λK D=>y1n (N:=p.coef.length) _ _ rfl rfl (IntsZ.nil _ wr.heap.size) rfl bn.o.news (Xc _) ω (Za _) K D) ?_;rintro _ v6 ⟨Y6,d6,rfl,hI6,hk6,hb6,hf6,ho6⟩;have aH:=un hI6;have y:=un (x.o.below hb6);obtain⟨E,F,M,O,G,I,P,Q,k2,J,R,T,k3,L,U,V⟩:=bf4 y.o.blk;clear hI6 hk6 hb6 hf6 ho6))
  clear E F M O G I P Q k2 J R T k3 L U V;obtain⟨E,F,M,O,G,I,P,Q,k2,J,R,T,k3,L,U,V⟩:=bf4 y.o.blk;go_upto_region 9 with (at_builtin;go_loud (refine wpl rfl (λK D=>y1Q (N:=k+1) _ _ rfl rfl (y.o.tabZ.alloc _) rfl (zal _ _ _) ((aH.o.base (Zb _)).alloc _) (by rw[ZK,ZI,<-o.o];omega) ω (by have:=y.o.bel.size;simp;omega) K D) ?_;rintro _ v7 ⟨A7,e7,rfl,hT7,hk7,hb7,hf7,ho7⟩;have Z:=un ((y.o.below (zae v6 _)).stA hT7 hk7 hb7 (aH.o.alloc _) af.o.size λg b hg hb=>bj.o g b (aH.o.own.lt g hg).1 hb);have v0:=zac (hk7.blk (y.o.below (zae v6 _)).blk δ) 0;have v1:=zag (hk7.blk (y.o.below (zae v6 _)).blk δ) 0;clear hT7 hk7 hb7 hf7 ho7))
  rw[XY,<-bt.o]at Z;clear E F M O G I P Q k2 J R T k3 L U V v0 v1;generalize v7.setCell ⟨W.heap.size,0,none⟩ (.slice A7 (k+1) e7)=v8 at *
  have a5:=un Z.o.bel;have y3:=zab a5.o aq;have y4:=zab a5.o z2;obtain⟨E,F,M,O,G,I,P,Q,k2,J,R,T,k3,L,U,V⟩:=bf4 Z.o.blk;have cj:=zaa y3;have ck:=zaa y4;refine zaS (S:=λw'=>χ w' W.heap.size 1 (.slice aB k cB)/\χ w' w 1 (bR,m,cR)/\χ w' bR (k*3+2) (.int .i64 p.rhs)) [11] (h:=λhHeld=>?_);refine zaw [0,1,2,3,4,5,6,7] ?_;repeat refine tkL hHeld ?_
  refine zao ?_;refine zaB 8 (h:=λK u=>?_);go_simp;refine shutOn u λhHeld=>?_;clear u K;refine zaB 9 (h:=λK u=>?_);(refine wps rfl (λK D=>y1n (N:=k+1) _ _ rfl rfl (Z.o.b.drew.alloc _) rfl (ys:=[p.rhs]) (y19 (zal _ _ _) rfl) (by rw[ZK,ZI,<-o.o];omega) ω (by have:=Z.o.bel.size;simp;omega) K D) ?_;rintro _ v9 ⟨B9,f9,rfl,hI9,hk9,hb9,hf9,ho9⟩;have al:=un ((Z.o.below (bdrew (zae v8 _))).stB hI9 hk9 hb9 hf9 ho9);have bb:=un (hk9.blk (Z.o.below (bdrew (zae v8 _))).blk δ);have w0:χ v9 W.heap.size 1 (.slice aB k cB):=zac bb.o 1;have w1:=zag bb.o 1;have a6:=un ((Z.o.below (bdrew (zae v8 _))).bel.trans hb9);have w2:=zab a6.o aq;have w3:=zab a6.o z2;clear hI9 hk9 hb9 hf9 ho9);refine shutOn u λhHeld=>?_;clear u K;refine zaw [10] ?_;repeat refine tkL hHeld ?_
  refine zao ?_;refine zay 11 (h:=λK u=>?_);go_simp;refine shutOff u ?_;clear u K;refine zaM (h:=?_);rw[<-bu.o]at al;go_wp2_with fail
  go_roundw
  case rel=>exact⟨k+1,A7,e7,B9,f9,_,by go_num,ω,al.o⟩
  case measure=>simp[intOf];omega
 obtain rfl:k=m:=ω;have ba:=un (show StW W wr k k nC aA cA aB cB X6 c6 (nC:Int) l (y2O rows 0 0) (y29 rows) cost by have h:=x.o;rw[Z2 (Nat.le_of_eq o.o.symm)]at h;rw[y38];exact h);clear x;go_wp2_with fail
 go_loopw [6] (λtv wt=>∃(t n:Nat) (aA:OA) (cA:Nat) (aC:OA) (cC:Nat) (l:List Value),tv=.int .i64 t/\t<=k/\n=nC+cnt (toP rows) t/\StW W wt k k n aA cA aB cB aC cC (nC:Int) l (y2O rows t 0) (y29 rows) (cost++List.replicate (cnt (toP rows) t) 0))
  (λtv _=>k-(intOf tv).toNat)
 case atStart=>exact⟨0,nC,aA,cA,X6,c6,l,rfl,Zb _,rfl,by show StW _ _ _ _ _ _ _ _ _ _ _ _ _ _ _ (_++[]);rw[XT];exact ba.o⟩
 rename World=>wt
 obtain⟨t,n,aA,cA,ax,ay,l,rfl,ht,hn,hS⟩:=hrel;refine μ3 hn hS hS.bel λHN x aj=>?_;have y0:=zab aj.o aq;have b9:n<=20:=by rw[hn];have:=y3U (rows:=rows) (k:=t);omega
 clear hS ba hn af;by_cases az:t<k
 ·obtain⟨p,X⟩:∃p,rows[t]? = some p:=⟨rows[t]'(by rw[<-o.o];exact az),Ze _⟩
  have Y:=un (show rows.getD t default=p by rw[Zh,X];rfl);have bf:p.kind=1\/p.kind=2\/p.kind=3:=by have h:=bo.o t (by rw[<-o.o];exact az);rw[Y.o]at h;exact h
  have bs:=un bf;obtain⟨bR,rfl,_,_⟩:=HR.o.has ω;obtain⟨aX,cx,_,_,z1,_,_⟩:=HR.o.at_ X;have y1:=zab aj.o z1;have cg:(t:Int)<(k:Int):=ω;have cf:(0:Int)<=(t:Int):=Zg _;clear X bf;by_cases ac:p.kind=3
  ·have ak:=un (y4E (rows:=rows) (k:=t) (by rw[<-o.o];exact az) (by rw[Y.o];exact ac));have bq:=un (y4Q (rows:=rows) (k:=t) (by rw[Y.o];exact ac));rw[ac]at y1;go_wp2;go_roundw
   case rel=>exact⟨t+1,n,aA,cA,ax,ay,l,by go_num,ω,by rw[ak.o];exact HN.o,by rw[ak.o,bq.o];exact x.o⟩
   case measure=>simp[intOf];omega
  refine μ3 (y4D (rows:=rows) (k:=t) (by rw[<-o.o];exact az) (by rw[Y.o];exact ac)) (λr=>y36 (rows:=rows) (k:=t) (r:=r) (by rw[Y.o];exact ac)) (show(cost++List.replicate (cnt (toP rows) t) 0).length=n by rw[Zz,ZQ,<-a8.o];exact HN.o.symm) λak bp bl=>?_;have bm:=un (show cost++List.replicate (cnt (toP rows) (t+1)) 0=cost++List.replicate (cnt (toP rows) t) 0++[0]by rw[ak.o,Yi,XU]);obtain⟨kd,ad⟩:∃kd,p.kind=kd:=⟨_,rfl⟩
  have aI:=un ad;rw[ad]at y1;have b6:(kd == 3)=false:=by rw[<-ad];simpa using ac
  have b8:1<=kd/\kd<=2:=by have:=bs.o;omega
  clear ac ad;obtain⟨E,F,M,O,G,I,P,Q,k2,J,R,T,k3,L,U,V⟩:=bf4 x.o.blk;go_upto_region 15 with (at_builtin;go_loud (refine wpl rfl (λK D=>y1n (N:=n+1) _ _ rfl rfl (x.o.c.alloc _) rfl (ys:=[0]) (y19 (zal _ _ _) rfl) (by rw[bl.o]) ω (by have:=x.o.bel.size;simp;omega) K D) ?_;rintro _ v6 ⟨C6,e6,rfl,hI6,hk6,hb6,hf6,ho6⟩;have y:=un ((x.o.below (zae wt _)).stC hI6 hk6 hb6 hf6 ho6);have v0:=zac (hk6.blk (x.o.below (zae wt _)).blk δ) 2;have v1:=zag (hk6.blk (x.o.below (zae wt _)).blk δ) 2;clear hI6 hk6 hb6 hf6 ho6))
  rw[<-bm.o]at y;clear E F M O G I P Q k2 J R T k3 L U V v0 v1;generalize v6.setCell ⟨W.heap.size,2,none⟩ (C6,n+1,e6)=v7 at *
  go_wp2_with fail
  go_loopw [7] (λrv wx=>∃(r:Nat) (l:List Value),rv=.int .i64 r/\r<=k/\StW W wx k k (n+1) aA cA aB cB C6 e6 (nC:Int) l (y2O rows t r) (y29 rows) (cost++List.replicate (cnt (toP rows) (t+1)) 0))
   (λrv _=>k-(intOf rv).toNat)
  case atStart=>exact⟨0,l,rfl,Zb _,y.o⟩
  rename World=>wx
  obtain⟨r,l,rfl,hr,hS⟩:=hrel;have z:=un hS;have a7:=un hS.bel;have y0:=zab a7.o aq;have y1:=zab a7.o z1;rw[aI.o]at y1;clear hS y;obtain⟨E,F,M,O,G,I,P,Q,k2,J,R,T,k3,L,U,V⟩:=bf4 z.o.blk;by_cases aT:r<k
  ·have aD:=y1L (rows:=rows) (k:=t) (r:=r) (i:=r) (by rw[<-o.o];exact aT);rw[if_neg (X5 r)]at aD;have aJ:=un (y5z (rows:=rows) (k:=t) (r:=r) (by rw[<-o.o];exact aT));rw[bp.o,<-XU,Y.o]at aJ;obtain⟨bA,rfl,_,_⟩:=z.o.tabZ.has ω;obtain⟨aY,cY,aS,u0,bF⟩:=z.o.tabZ.at_ aD
   have bG:((rows.getD r default).coef++y1P rows r t).length<=20:=by rw[Zz,y1R rows r t (by rw[<-o.o];omega)];have:=H1.o r (by rw[<-o.o];exact aT);have:=y3U (rows:=rows) (k:=t);omega
   have a4:=un (z.o.ap.each (r+2) _ _ aS aD);have a9:=un aS;generalize (rows.getD r default).coef++y1P rows r t=row at *
   obtain⟨nr,aV⟩:∃nr,row.length=nr:=⟨_,rfl⟩
   rw[aV]at u0 bG a4 a9;have br:=un aV;have cd:(r:Int)<(k:Int):=ω;have cc:(0:Int)<=(r:Int):=Zg _;obtain⟨xv,aF⟩:∃xv:Int,xv=if r=t then 3-2*p.kind else 0:=⟨_,rfl⟩
   rw[aI.o]at aF;have bw:=un aF;rw[show(if r=t then 3-2*p.kind else 0)=xv by rw[aI.o];exact aF.symm]at aJ;clear aD aS bF aV aF;go_upto_if 79 with fail
   go_cut[8] (λnv wz=>nv=.int .i64 xv/\wz=wx)
   case first =>
    have hx:=bw.o;by_cases e:r=t
    ·subst e;rw[if_pos rfl]at hx;subst hx;go_wp2;go_meet
     case rel=>exact⟨by go_num,rfl⟩
    rw[if_neg e]at hx;subst hx;have e2:((r:Int) == (t:Int))=false:=by simpa using λq=>e ω
    go_wp2;go_meet
    case rel=>exact⟨rfl,rfl⟩
   rename World=>wz
   obtain⟨rfl,rfl⟩:=hcut;go_upto_region 21 with fail
   have ch:=zaa u0;have bv:=un (fun(w9:World) (hk:TKeep 3 (wz.alloc (.cells #[.int .i64 xv] 3)).drew w9)=>show w9.frozen? ⟨bA,r,none⟩=false from by have h:=y2q (z.o.below (bdrew (zae wz (.cells #[.int .i64 xv] 3)))).tab hk δ;rw[<-z.o.tabZ.nlen]at h;exact h.frozenAt r);refine zaS (S:=λw'=>χ w' W.heap.size 0 (.slice (some ⟨bA,0,none⟩) k cA)/\χ w' bA r (.slice aY nr cY)) [12] (h:=λhHeld=>?_);refine zaw [0,1,2,3,4,5,6,7,8] ?_;repeat refine tkL hHeld ?_
   refine zao ?_;refine zaB 9 (h:=λK u=>?_);go_simp;refine shutOn u λhHeld=>?_;clear u K;refine zaB 10 (h:=λK u=>?_);(refine wps rfl (λK D=>y1n (N:=nr+1) _ _ rfl rfl (a4.o.drew.alloc _) rfl (ys:=[xv]) (y19 (zal _ _ _) rfl) (by rw[br.o]) ω (by have:=z.o.bel.size;simp;omega) K D) ?_;rintro _ w9 ⟨Y9,e9,rfl,hI9,hk9,hb9,hf9,ho9⟩;have al:=un ((z.o.below (bdrew (zae wz _))).stR a9.o hI9 hk9 hb9 hf9 ho9);have w0:χ w9 W.heap.size 0 (.slice (some ⟨bA,0,none⟩) k cA):=zac (hk9.blk (z.o.below (bdrew (zae wz _))).blk δ) 0;have w1:=(z.o.below (bdrew (zae wz _))).keepTab hk9 (zab (bdrew (zae wz _)) u0);have w2:=bv.o w9 hk9;clear hI9 hk9 hb9 hf9 ho9);refine shutOn u λhHeld=>?_;clear u K;refine zaw [11] ?_;repeat refine tkL hHeld ?_
   refine zao ?_;refine zay 12 (h:=λK u=>?_);go_simp;refine shutOff u ?_;clear u K;refine zaM (h:=?_);rw[aJ.o]at al;go_wp2_with fail
   go_roundw
   case rel=>exact⟨r+1,_,by go_num,ω,al.o⟩
   case measure=>simp[intOf];omega
  obtain rfl:r=k:=ω;have aw:=un (show StW W wx r r (n+1) aA cA aB cB C6 e6 (nC:Int) l (y2O rows (t+1) 0) (y29 rows) (cost++List.replicate (cnt (toP rows) (t+1)) 0)by have h:=z.o;rw[show y2O rows t r=y2O rows (t+1) 0 by rw[o.o];exact y4P]at h;exact h);go_wp2_with fail
  go_roundw
  case rel=>exact⟨t+1,n+1,aA,cA,C6,e6,l,by go_num,ω,by rw[ak.o,HN.o];omega,aw.o⟩
  case measure=>simp[intOf];omega
 obtain rfl:t=k:=ω;have aw:=un (show StW W wt t t n aA cA aB cB ax ay (nC:Int) l (y2C rows) (y29 rows) (y3a cost rows)by have h:=x.o;rw[o.o,y5y,<-o.o]at h;unfold y3a;rw[<-o.o];exact h);obtain⟨E,F,M,O,G,I,P,Q,k2,J,R,T,k3,L,U,V⟩:=bf4 aw.o.blk;refine μ3 (zad aj.o aK.o) (zad aj.o aL.o) (BB.o.trans ((aj.o).mono BB.o.size)) λbQ bV bX=>?_;obtain⟨cs,cn,ct,co⟩:=bc2 bQ.o;obtain⟨bW,bS,cz,cO,bY,bP,cZ,cG,bZ,bU,c7,c3,b1,b0,c8,c4⟩:=bf4 bV.o;go_wp2;refine Zi (v:=.agg #[(aA,t,cA),(aB,t,cB),(ax,n,ay),(nC:Int)]) (by simp[results,results21,go_sem,bW,bS,bY,bP,bZ,bU,b1,b0]) rfl ?_;obtain⟨r1,r2,r3⟩:=aw.o.out4 (b:=w.heap.size+1) (by have:=HZ.o;omega) _ _ _ _ rfl;unfold y3c;rw[<-o.o,<-HN.o];exact⟨aA,cA,l,aB,cB,ax,ay,rfl,r1.base BB.o.size,r2.base BB.o.size,r3.base BB.o.size,bsc (bsc (bsc (bsc bX.o)))⟩
