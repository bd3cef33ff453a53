/- Contracts and lemmas: Zt Zc Zv. Conditions: as each says. -/
import Derived.Test.YtbpjabgfcbjjmaaGreatZdYe
set_option linter.all false
set_option maxHeartbeats 4000000
set_option maxRecDepth 100000
namespace Go.Proofs.YtbpjabgfcbjjmaaGreat
open Go.RowKit Am Go.Proofs.Tryz
open Dz (y1U y1p y1C y17 y6y y6w y6v)
attribute [local go_sem ↓] Go.wp_at_zero Go.wp_at_succ
variable {j:Nat}
theorem y4o{P:List (List Int)}{r:Nat}{b:Nat->Int}{row:List Int}(h:P[r]? = some row):(y17 P j b).take (r+1)=(y17 P j b).take r++[row.set j (b r)]:=by unfold y17;rw[Xb,List.getElem?_mapIdx,h];rfl
theorem y4W(P:List (List Int))(j:Nat)(b:Nat->Int):(y17 P j b).length=P.length:=by unfold y17;rw[List.length_mapIdx]
theorem y4X{P:List (List Int)}{k:Nat}{b:Nat->Int}(h:∀r∈P,r.length=k):∀r∈y17 P j b,r.length=k:=λr hr=>by unfold y17 at hr;obtain⟨i,hi,rfl⟩:=List.mem_mapIdx.1 hr;rw[ZQ];exact h _ (Xj hi)
def y4A (w:World) (d:Int) (N:Nat) (z:List Rat) (e:Ending) (w':World):Prop:=((d=0/\e=.returned (.tuple #[(),false]))\/(d≠0/\∃(Z:OA) (cZ:Nat),e=.returned (.tuple #[(Z,N,cZ),true])/\FracsZ w' w.heap.size (Z,N,cZ) z))/\Below w w w'
namespace Zr
theorem y5W(aA:OA)(nA cA:Nat)(lA:List Value)(A:List (List Int))(aB:OA)(cB:Nat)(B:List Int)(aC:OA)(N cC:Nat)(own:Int)(Q:OA)(a T:Nat)(rs:List Nat)(R:OA)(U:Nat)(cols:List Nat)(w:World)(s:TabZ w 0 (aA,nA,cA) lA A)(d:IntsZ w 0 (aB,nA,cB) B)(hR:IntsZ w 0 (Q,a,T) (zN rs))(X:IntsZ w 0 (R,a,U) (zN cols))
  (hl:∀x∈A,x.length=N) (hE:y1U 9 A) (ay:∀x∈B,x.natAbs<=9) (hr:∀r∈rs,r<nA) (hc:∀c∈cols,c<N) (hn:a<=4) (hN:N<=8) :
  Calls prog 103 #[.agg #[(aA,nA,cA),(aB,nA,cB),(aC,N,cC),.int .i64 own],(Q,a,T),(R,a,U)] w (y4A w (y1C a (y1p A rs cols)) N (y6w A B N rs cols)):=by
 refine μ8 s.nlen d.len (show rs.length=a by rw[hR.len,y1y]) (show cols.length=a by rw[X.len,y1y]) hr hc ay (fun(w:World) (s:TabZ w 0 (aA,nA,cA) lA A) (hR:IntsZ w 0 (Q,a,T) (zN rs)) (X:IntsZ w 0 (R,a,U) (zN cols))=>y5U aA nA cA lA A Q a T rs R a U cols w s hR X (λr h=>⟨by have:=hr r h;rw[<-s.nlen];exact this,λc h2=>by rw[y4n hl (by have:=hr r h;rw[<-s.nlen];exact this)];exact hc c h2⟩) ω ω) λcD bn au ao bG bp cE aT=>?_;obtain⟨P,hP⟩:∃P,y1p A rs cols=P:=⟨_,rfl⟩
 have F:=un (show P.length=a/\∀r∈P,r.length=a by rw[<-hP];have h:=y4a (A:=A) (rs:=rs) (p:=cols);rw[au.o,ao.o]at h;exact h);have af:=un (show y1U 9 P by rw[<-hP];exact hE.part rs cols);obtain⟨f,ai⟩:∃f:Nat->Int,f=λr=>B.getD (rs.getD r 0) 0:=⟨_,rfl⟩
 have aM:=un (show ∀i,(f i).natAbs<=9 by intro i;rw[ai];exact Dz.getD_abs ay _);have bo:=un (show ∀r x,rs[r]? = some x->B[x]? = some (f r)by
  intro r x h;have H:=hr x (Zz h);rw[ai];show _=some (B.getD (rs.getD r 0) 0)
  rw[show rs.getD r 0=x by rw[Zg,h];rfl];exact zaO (by rw[<-bn.o];exact H))
 obtain⟨D,hD⟩:∃D,y1C a P=D:=⟨_,rfl⟩
 refine μ3 (show y6w A B N rs cols=y6y N cols (λt=>Rat.divInt (y1C a (y17 P t f)) D) a by unfold y6w;rw[au.o,ao.o,hP,hD,ai]) (Dz.det_small (n:=a) af.o hn) hD λbE aQ br=>?_;rw[hP]at aT ⊢;rw[hD]at aQ ⊢;generalize y6w A B N rs cols=zz at *
 clear hP ai hD hl hE ay hr hc;obtain⟨W,u⟩:∃W,(w.alloc (.cells #[(aA,nA,cA),(aB,nA,cB),(aC,N,cC),.int .i64 own] 73))=W:=⟨_,rfl⟩
 refine μ6 (show θ W w.heap.size #[(aA,nA,cA),(aB,nA,cB),(aC,N,cC),.int .i64 own] 73by rw[<-u];exact zam σ) (show Below w w W by rw[<-u];exact zae w _) (show TabZ W 0 (aA,nA,cA) lA A by rw[<-u];exact(s).alloc _) (show IntsZ W 0 (aB,nA,cB) B by rw[<-u];exact(d).alloc _) (show IntsZ W 0 (Q,a,T) (zN rs)by rw[<-u];exact(hR).alloc _) (show IntsZ W 0 (R,a,U) (zN cols)by rw[<-u];exact(X).alloc _) λa0 BB HA HB HR HC=>?_;obtain⟨ca,cg,cb,b5,ci,cl,cy,cs⟩:=bc4 a0.o;clear s d hR X;go_enter func103,ntmps103;go_wp2_with fail
 clear u;with_reducible refine(aT.o _ HA.o HR.o HC.o).mono ?_
 rintro e w1 ⟨O,cO,l,rfl,hO,hb⟩;refine μ6 (zad hb a0.o) (HB.o.below hb) (HR.o.below hb) (HC.o.below hb) (show TabZ w1 0 (.slice O P.length cO) l P from hO.base (Zb _)) (BB.o.trans ((hb).mono BB.o.size)) λbi b4 cq cw HO bh=>?_;obtain⟨b8,ce,b9,cf,ch,cj,cz,ct⟩:=bc4 bi.o;clear hO hb;rw[F.o.1]at HO ⊢;go_wp2_with fail
 with_reducible refine(y6d a O cO l P _ HO.o F.o.2 af.o hn).mono ?_
 rintro e m ⟨rfl,hb⟩;refine μ6 (zad hb bi.o) (b4.o.below hb) (cq.o.below hb) (cw.o.below hb) (HO.o.below hb) (bh.o.trans ((hb).mono bh.o.size)) λbg b1 cv b3 b2 an=>?_;obtain⟨cc,b6,cd,b7,bj,cn,cr,cp⟩:=bc4 bg.o;clear hb;rw[br.o];clear ca cg cb b5 ci cl cy cs b8 ce b9 cf ch cj cz ct;by_cases ak:D=0
 ·subst ak;go_wp2;refine Zh (v:=.tuple #[(),false]) (by simp[results,results103,go_sem]) rfl ?_;exact⟨.inl ⟨rfl,rfl⟩,an.o⟩
 have cK:(D == 0)=false:=by simpa using ak
 have aP:=un ak;clear ak;go_wp2_with fail
 go_loopw [10,11] (λzv jv wr=>∃(j:Nat) (Z:OA) (k:Nat),jv=.int .i64 j/\zv=(Z,j,k)/\j<=N/\FracsZ wr m.heap.size (Z,j,k) (List.replicate j 0)/\Below m m wr)
  (λ_ jv _=>N-(intOf jv).toNat)
 case atStart=>exact⟨0,none,0,rfl,rfl,Zb _,FracsZ.nil _ _,Zj _ _⟩
 rename World=>wr
 obtain⟨j,Z,k,rfl,rfl,hj,y,d⟩:=hrel;have av:=un y;have I:=un d;have e2:=zab d bj;clear y d;by_cases cN:j<N
 ·have cL:(j:Int)<(N:Int):=ω
  go_wp2_with (at_builtin;go_loud (refine wpl rfl (λK Y=>y4B (N:=j+1) _ _ rfl rfl (av.o.alloc _) rfl (q:=0) (zal _ _ _) (by rw[ZO]) ω (by have:=I.o.size;simp;omega) K Y) ?_;rintro _ w7 ⟨Z7,c7,rfl,hZ7,hk7,hb7⟩;have bI:=un hZ7;have E:=un ((Xh I.o I.o.size _).trans hb7);clear hZ7 hk7 hb7))
  go_roundw
  case rel=>exact⟨j+1,Z7,c7,by go_num,rfl,ω,by rw[Yg];exact bI.o,E.o⟩
  case measure=>simp[intOf];omega
 obtain rfl:j=N:=ω;have aW:=un (show FracsZ wr m.heap.size (Z,j,k) (y6y j cols (λt=>Rat.divInt (y1C a (y17 P t f)) D) 0)from av.o);go_wp2_with fail
 go_loopw [12] (λtv z=>∃t:Nat,tv=.int .i64 t/\t<=a/\FracsZ z m.heap.size (Z,j,k) (y6y j cols (λt=>Rat.divInt (y1C a (y17 P t f)) D) t)/\Below m m z)
  (λtv _=>a-(intOf tv).toNat)
 case atStart=>exact⟨0,rfl,Zb _,aW.o,I.o⟩
 rename World=>z
 obtain⟨t,rfl,ht,y,d⟩:=hrel;have aY:=un y;have aL:=un d;clear av aW I e2;refine μ6 (zad d bg.o) (b1.o.below d) (cv.o.below d) (b3.o.below d) (b2.o.below d) (an.o.trans ((d).mono an.o.size)) λck bd bc be bb cm=>?_;obtain⟨dl,dj,co,dk,dn,dm,di,dp⟩:=bc4 ck.o;clear cc b6 cd b7 bj cn cr cp;by_cases a6:t<a
 ·obtain⟨col,aj⟩:∃col,cols[t]? = some col:=⟨cols[t]'(by rw[ao.o];exact a6),Ze _⟩
  have bq:=un (show cols.getD t 0=col by rw[Zg,aj];rfl);have aD:=bp.o col (Zz aj);obtain⟨bS,rfl,_,_⟩:=be.o.has ω;obtain⟨bR,rfl,_,_⟩:=bc.o.has ω;obtain⟨bO,rfl,_,_⟩:=bb.o.has ω;obtain⟨bZ,rfl,a4,_⟩:=aY.o.has ω;have s0:=be.o.at_ (y49 aj);have cV:(t:Int)<(a:Int):=ω;have cU:(0:Int)<=(t:Int):=Zf _;have cJ:(col:Int)<(j:Int):=ω;have cI:(0:Int)<=(col:Int):=Zf _;clear y d aj;go_wp2_with fail
  go_loopw [13,14] (λmv rv C=>∃(r:Nat) (M:OA) (G:Nat) (lm:List Value),rv=.int .i64 r/\mv=.slice M r G/\r<=a/\TabZ C z.heap.size (.slice M r G) lm ((y17 P t f).take r)/\Below z.heap.size z C)
   (λ_ rv _=>a-(intOf rv).toNat)
  case atStart=>exact⟨0,none,0,[],rfl,rfl,Zb _,TabZ.nil _ _,Zj _ _⟩
  rename World=>C
  obtain⟨r,M,G,lm,rfl,rfl,hr,hM,d⟩:=hrel;refine μ3 hM hM.nlen d λHM bC L=>?_;by_cases a7:r<a
  ·obtain⟨row,am⟩:∃row,P[r]? = some row:=⟨P[r]'(by rw[F.o.1];exact a7),Ze _⟩
   obtain⟨x,H⟩:∃x,rs[r]? = some x:=⟨rs[r]'(by rw[au.o];exact a7),Ze _⟩
   have cX:=bG.o x (Zz H);have az:=bo.o r x H;have HT:=un (y4o (j:=t) (b:=f) am);have ar:=un (F.o.2 row (Zz am));generalize f r=bv at az HT;obtain⟨bB,rfl,_,_⟩:=bd.o.has ω;have q1:=bd.o.at_ az;have q2:=bc.o.at_ (y49 H);obtain⟨aX,cx,_,q3,a3⟩:=bb.o.at_ am;have bw:=un (a3.below d);rw[ar.o]at q3;have q0:=co;have y0:=zab d q0;have y1:=zab d q1;have y2:=zab d q2;have y3:=zab d q3;have cQ:(r:Int)<(a:Int):=ω;have cP:(0:Int)<=(r:Int):=Zf _;have cY:(x:Int)<(nA:Int):=ω;have cW:(0:Int)<=(x:Int):=Zf _;clear hM d am H az a3;go_upto_region 19 with (at_builtin;go_loud (refine wpl rfl (λK Y=>y1n (N:=a) _ _ rfl rfl (IntsZ.nil _ C.heap.size) rfl (by have h:=bw.o.news;rw[ar.o]at h;exact h) (Z6 _) ω (Za _) K Y) ?_;rintro _ w6 ⟨X6,c6,rfl,hI6,hk6,hb6,hf6,ho6⟩;have ae:=un hI6;have bm:=un hb6;have u0:=zab hb6 y0;have u1:=zab hb6 y1;have u2:=zab hb6 y2;clear hI6 hk6 hb6 hf6 ho6))
   obtain⟨bX,rfl,bN,_⟩:=ae.o.has ω;have v0:=ae.o.at_ (show([]++row)[t]? = some (row[t]'(by rw[ar.o];exact a6))from Ze _);have df:=ae.o.fro t;have dc:=zaa u0;have dd:=zaa u1;have de:=zaa u2;refine zaS (S:=λw'=>χ w' w 1 (bB,nA,cB)/\χ w' bR r (.int .i64 (x:Int))/\χ w' bB x (.int .i64 bv)) [11] (h:=λhHeld=>?_);refine zaw [0,1,2,3,4,5,6,7,8,9,10] ?_;repeat refine tkL (hS:=hHeld) (h:=?_)
   refine zao ?_;refine zay 11 (h:=λK g=>?_);go_simp;refine shutOff g ?_;clear g K;refine zaM (h:=?_);have bu:=un ((ae.o.store t bv).drew);have E:=un (show Below C.heap.size C (w6.setCell ⟨bX,t,none⟩ (.int .i64 bv)).drew from bdrew (bsc (p:=⟨bX,t,none⟩) bm.o bN));generalize (w6.setCell ⟨bX,t,none⟩ (.int .i64 bv)).drew=w7 at *
   go_wp2_with (at_builtin;go_loud (refine wpl rfl (λK Y=>y1Q (N:=r+1) _ _ rfl rfl ((HM.o.below E.o).alloc _) rfl (zal _ _ _) ((bu.o.base (Zb _)).alloc _) (by rw[<-bC.o]) ω (by have:=E.o.size;have:=L.o.size;simp;omega) K Y) ?_;rintro _ w8 ⟨M8,c8,rfl,hM8,hk8,hb8,hf8,ho8⟩;have bA:=un hM8;have o:=un ((Xh (L.o.trans (E.o.mono L.o.size)) (L.o.trans (E.o.mono L.o.size)).size _).trans hb8);clear hM8 hk8 hb8 hf8 ho8))
   go_roundw
   case rel=>exact⟨r+1,M8,c8,_,by go_num,rfl,ω,by rw[HT.o];exact bA.o,o.o⟩
   case measure=>simp[intOf];omega
  obtain rfl:r=a:=ω;refine μ4 (show TabZ C 0 (.slice M r G) lm (y17 P t f)by have h:=hM.base (Zb _);rw[ZZ (by rw[y4W,F.o.1];exact Za _)]at h;exact h) (fun(w:World) (h:TabZ w 0 (.slice M r G) lm (y17 P t f))=>y6d r M G lm (y17 P t f) w h (y4X F.o.2) (af.o.set t aM.o) hn) (Dz.det_small (n:=r) (af.o.set t aM.o) hn) (show y6y j cols (λt=>Rat.divInt (y1C r (y17 P t f)) D) (t+1)=(y6y j cols (λt=>Rat.divInt (y1C r (y17 P t f)) D) t).set col (Rat.divInt (y1C r (y17 P t f)) D)by rw[<-bq.o];rfl) λbz bs bH bF=>?_;have bD:=un (fun(w:World)=>y6j (y1C r (y17 P t f)) D w (by have:=bH.o;omega) (by have:=aQ.o;omega) aP.o);have aq:=un (y6v j cols (λt=>Rat.divInt (y1C r (y17 P t f)) D) t);generalize y6y j cols (λt=>Rat.divInt (y1C r (y17 P t f)) D) t=z0 at *
  generalize y1C r (y17 P t f)=V at *
  generalize Rat.divInt V D=q at *
  have aZ:=un (aY.o.below d);have t0:=zab d s0;have c9:=zaa t0;have aN:=un (aL.o.trans (d.mono aL.o.size));have bP:=aZ.o.at_ (show z0[col]? = some (z0[col]'(by rw[aq.o];exact aD))from Ze _);obtain⟨k0,k1⟩:=bP;clear hM d s0;go_upto_region 21 with fail
  have c0:=zaa k0;have c1:=zaa k1;generalize (z0[col]'(by rw[aq.o];exact aD)).num=zn at *
  generalize ((z0[col]'(by rw[aq.o];exact aD)).den:Int)=zd at *
  refine zaS (S:=λw'=>χ w' bS t (.int .i64 (col:Int))/\χ w' bZ (col*2) (.int .i64 zn)/\χ w' bZ (col*2+1) (.int .i64 zd)) [10] (h:=λhHeld=>?_);refine zaw [0,1,2,3,4,5,7] ?_;repeat refine tkL (hS:=hHeld) (h:=?_)
  refine zao ?_;refine zaB 6 (h:=λK g=>?_);go_simp;(go_at_call 77;(with_reducible refine(bs.o _ bz.o.drew).mono ?_);rintro e w8 ⟨rfl,hb8⟩;have o:=un (It.bdrew0' hb8);have t1:=zab o.o t0;have k2:=zab o.o k0;have k3:=zab o.o k1;clear hb8);(try go_wp2_with fail);refine shutOn g λhHeld=>?_;clear g K;refine zaB 8 (h:=λK g=>?_);go_simp;(go_at_call 154;(with_reducible refine(bD.o _).mono ?_);rintro e w9 ⟨rfl,hb9⟩;have J:=un (o.o.trans (hb9.mono o.o.size));have t2:=zab J.o t0;have k4:=zab J.o k0;have k5:=zab J.o k1;have aw:=un (aZ.o.below J.o);have c4:=aw.o.fro (col*2);have c5:=aw.o.fro (col*2+1);clear hb9);(try go_wp2_with fail);refine shutOn g λhHeld=>?_;clear g K;refine zaw [9] ?_;repeat refine tkL (hS:=hHeld) (h:=?_)
  refine zao ?_;refine zay 10 (h:=λK g=>?_);go_simp;refine shutOff g ?_;clear g K;refine zaM (h:=?_);go_wp2_with fail
  go_roundw
  case rel=>exact⟨t+1,by go_num,ω,by rw[bF.o];exact aw.o.store col q,bsc (p:=⟨bZ,col*2+1,none⟩) (bsc (p:=⟨bZ,col*2,none⟩) (aN.o.trans (J.o.mono aN.o.size)) a4) a4⟩
  case measure=>simp[intOf];omega
 obtain rfl:t=a:=ω;have bt:=un (show FracsZ z m.heap.size (Z,j,k) zz by rw[bE.o];exact y);clear y d;go_wp2;refine Zh (v:=.tuple #[(Z,j,k),true]) (by simp[results,results103,go_sem]) rfl ?_;exact⟨.inr ⟨aP.o,Z,k,rfl,bt.o.base (Zl an.o.size (Za _))⟩,cm.o⟩
end Zr
open Dz (Fz y14 y1j y1G y2x kTo y28)
def cf (cs:List Int) (j:Nat):Rat:=((cs.getD j 0:Int):Rat)
namespace Zr
theorem y6s(c:Int)(b:Rat)(w:World)(hc:c.natAbs<=100000000)(a:Fz b):Calls prog 107 #[.agg #[.int .i64 c,.int .i64 1],.agg #[.int .i64 b.num,(b.den:Int)]] w (y5M w ((c:Rat)*b)):=y6t (c:Rat) b w ⟨hc,by simp_all⟩ a
theorem y4F(aC:OA)(n cC:Nat)(cs:List Int)(s:OA)(t:Nat)(z:List Rat)(w:World)(u:IntsZ w 0 (aC,n,cC) cs)(y:FracsZ w 0 (s,n,t) z)(hc:∀x∈cs,x.natAbs<=9)(l:y14 z)(hn:n<=8) :
  Calls prog 43 #[(aC,n,cC),(s,n,t)] w (y5M w (y1j n (cf cs) (el z))):=by
 refine μ7 u.len y.len (λj (hj:j<=8)=>l.sum (c:=λj=>cs.getD j 0) (λj=>Dz.getD_abs hc j) (n:=j) ω) (λj (h:j<n)=>l.mul (c:=cs.getD j 0) (Dz.getD_abs hc j) j) (λj=>l.at_ j) (λj=>Dz.getD_abs hc j) (show ∀j,y1j j (cf cs) (el z)=zai j λi=>((cs.getD i 0:Int):Rat)*el z i from λj=>rfl) λP ab Z Y Q O X=>?_;clear hc l;obtain⟨W,k⟩:∃W,(w.alloc (.cells #[.int .i64 0,.int .i64 0] 36))=W:=⟨_,rfl⟩
 refine μ4 (show θ W w.heap.size #[.int .i64 0,.int .i64 0] 36by rw[<-k];exact zam σ) (show Below w w W by rw[<-k];exact zae w _) (show IntsZ W 0 (aC,n,cC) cs by rw[<-k];exact(u).alloc _) (show FracsZ W 0 (s,n,t) z by rw[<-k];exact(y).alloc _) λF D N aa=>?_;obtain⟨ah,an,aq,ao,ai,ae,ar,ap⟩:=bf2 F.o;clear u y;go_enter func43,ntmps43;go_wp2_with fail
 clear k
 go_loopw [6] (λB wr=>∃(j:Nat) (q:Rat),B=.int .i64 j/\j<=n/\q=y1j j (cf cs) (el z)/\θ wr W.heap.size #[.int .i64 q.num,(q.den:Int)] 36/\Below W.heap.size W wr)
  (λB _=>n-(intOf B).toNat)
 case atStart=>exact⟨0,0,rfl,Zb _,rfl,by first | exact zar _ (zar _ (zal _ _ _)) | exact zal _ _ _,by first | exact bsc (p:=⟨W.heap.size,1,none⟩) (bsc (p:=⟨W.heap.size,0,none⟩) (zae W _) (Za _)) (Za _) | exact zae W _⟩
 rename World=>wr
 obtain⟨j,q,rfl,hj,I,hk,g⟩:=hrel;refine μ3 I g hk λm E r=>?_;clear I hk;refine μ4 (zad g F.o) (N.o.below g) (aa.o.below g) (D.o.trans ((g).mono D.o.size)) λak M L aj=>?_;obtain⟨af,al,a8,ba,ag,am,a9,bb⟩:=bf2 ak.o;clear ah an aq ao ai ae ar ap;obtain⟨s0,aL,au,av,s1,aR,aA,aB⟩:=bf2 r.o;by_cases A:j<n
 ·obtain⟨bC,rfl,_,_⟩:=M.o.has ω;obtain⟨H,rfl,_,_⟩:=L.o.has ω;have y0:=M.o.at_ (show cs[j]? = some (cs.getD j 0)from zaO (by rw[<-P.o];exact A));obtain⟨y1,C⟩:=L.o.at_ (show z[j]? = some (el z j)from zaH (by rw[<-ab.o];exact A));refine μ5 (Y.o j A) (Q.o j) (O.o j) (show Fz q by rw[m.o,X.o];exact Z.o j ω) (show y1j (j+1) (cf cs) (el z)=q+((cs.getD j 0:Int):Rat)*el z j by rw[m.o];rfl) λU T R V o=>?_
  generalize cs.getD j 0=c at *
  generalize el z j=b at *
  have aI:(j:Int)<(n:Int):=ω;have aH:(0:Int)<=(j:Int):=Zf _;go_upto_region 5 with fail
  have aY:=zaa y0;have a2:=zaa y1;have a5:=zaa C;refine zaS (S:=λw'=>χ w' W.heap.size 0 (.int .i64 q.num)/\χ w' W.heap.size 1 (.int .i64 (q.den:Int))/\χ w' bC j (.int .i64 c)/\χ w' H (j*2) (.int .i64 b.num)/\χ w' H (j*2+1) (.int .i64 (b.den:Int))) [12] (h:=λhHeld=>?_);refine zaw [0,1,2,3,4,5,6,7,8,9] ?_;repeat refine tkL (hS:=hHeld) (h:=?_)
  refine zao ?_;refine zaB 10 (h:=λK a=>?_);go_simp;(go_at_call 107;(with_reducible refine(y6s c b _ (by have:=R.o;omega) T.o).mono ?_);rintro e w5 ⟨rfl,hb⟩;have d:=un (It.bdrew0' hb);have ac:=un (zad d.o r.o);obtain⟨aM,aN,aw,ax,aS,aT,aD,aE⟩:=bf2 ac.o;have a0:=zab d.o y0;have a3:=zab d.o y1;have a6:=zab d.o C;clear hb);(try go_wp2_with fail);refine shutOn a λhHeld=>?_;clear a K;refine zaB 11 (h:=λK a=>?_);go_simp;(go_at_call 106;(with_reducible refine(y6r q ((c:Rat)*b) _ V.o U.o).mono ?_);rintro e w6 ⟨rfl,hb⟩;have f:=un (d.o.trans (hb.mono d.o.size));have G:=un (zad f.o r.o);obtain⟨aO,aP,ay,az,aU,aV,aF,aG⟩:=bf2 G.o;have a1:=zab f.o y0;have a4:=zab f.o y1;have a7:=zab f.o C;clear hb);(try go_wp2_with fail);refine shutOn a λhHeld=>?_;clear a K;refine zay 12 (h:=λK a=>?_);go_simp;refine shutOff a ?_;clear a K;refine zaM (h:=?_);go_wp2_with fail
  go_roundw
  case rel=>exact⟨j+1,q+(c:Rat)*b,by go_num,ω,by rw[o.o],zar _ (zar _ G.o),bsc (p:=⟨W.heap.size,1,none⟩) (bsc (p:=⟨W.heap.size,0,none⟩) (E.o.trans (f.o.mono E.o.size)) (Za _)) (Za _)⟩
  case measure=>simp[intOf];omega
 obtain rfl:j=n:=ω;have J:y1j j (cf cs) (el z)=q:=m.o.symm;have o:=un J;clear J;go_wp2;refine Zh (v:=.agg #[.int .i64 q.num,(q.den:Int)]) (by simp[results,results43,go_sem,af,al,ag,am]) rfl ?_;exact⟨by rw[o.o],bsc (bsc aj.o)⟩
theorem y5N(p:OA)(n r:Nat)(z:List Rat)(w:World)(k:FracsZ w 0 (p,n,r) z)(D:n<=8) :
  Calls prog 104 #[(p,n,r)] w λe w'=>e=.returned (.bool (y1G z))/\Below w w w':=by
 have f:=un k.len;have x:=un k;clear k;go_enter func104,ntmps104;go_wp2_with fail
 go_loopw [3] (λl wr=>∃j:Nat,l=.int .i64 j/\j<=n/\(∀i,i<j->¬el z i<0)/\Below w w wr)
  (λl _=>n-(intOf l).toNat)
 case atStart=>exact⟨0,rfl,Zb _,(λi h=>absurd h (ZM _)),Zj _ _⟩
 rename World=>wr
 obtain⟨j,rfl,hj,c,a⟩:=hrel;have y:=un c;have d:=un a;by_cases s:j<n
 ·have o:=un (x.o.below a);obtain⟨A,rfl,_,_⟩:=o.o.has ω;obtain⟨y1,_⟩:=o.o.at_ (show z[j]? = some (el z j)from zaH (by rw[<-f.o];exact s));have C:(j:Int)<(n:Int):=ω
  have B:(0:Int)<=(j:Int):=Zf _;refine μ3 (show el z j∈z from Zz (zaH (by rw[<-f.o];exact s))) (zeh (q:=el z j)) (fun(h:¬el z j<0) i (hi:i<j+1)=>show ¬el z i<0 from by by_cases e:i=j;rw[e];exact h;exact y.o i ω) λt m u=>?_;clear c a;generalize el z j=q at *
  by_cases b:q.num<0
  ·have g:=un (show y1G z=true from List.any_eq_true.2 ⟨q,t.o,ZT (m.o.1 b)⟩);go_wp2;go_ret
   exact⟨by rw[g.o];rfl,d.o⟩
  have v:=un (u.o λh=>b (m.o.2 h));go_wp2;go_roundw
  case rel=>exact⟨j+1,by go_num,ω,v.o,d.o⟩
  case measure=>simp[intOf];omega
 obtain rfl:j=n:=ω;have g:=un (show y1G z=false by unfold y1G;rw[VA];intro q b;obtain⟨i,hi,e⟩:=List.mem_iff_getElem.1 b;have h:=c i (by rw[f.o];exact hi);rw[show el z i=q by unfold el;rw[Zg,Ze hi];exact e]at h;simpa using h);clear c a;go_wp2;go_ret;exact⟨by rw[g.o];rfl,d.o⟩
theorem y4O{k:List Rat->Rat}{x y:List Rat}(h:kTo k x y j≠0):∀i,j<=i->kTo k x y i=kTo k x y j:=λi=>by
 induction i with
 | zero=>intro hi;rw[show j=0 by omega]
 | succ i ih =>
  intro hi;by_cases e:j=i+1;rw[e];have a:=ih ω
  conv=>lhs;unfold kTo
  rw[if_neg (by rw[a];exact h),a]
theorem y6h(aC:OA)(n cC:Nat)(cs:List Int)(own:Nat)(q:OA)(cX:Nat)(x:List Rat)(r:OA)(s:Nat)(y:List Rat)(w:World)(t:IntsZ w 0 (aC,n,cC) cs)(m:FracsZ w 0 (q,n,cX) x)(o:FracsZ w 0 (r,n,s) y)(hc:∀x∈cs,x.natAbs<=9)(k:y14 x)(l:y14 y)(ho:own<=n)(M:n<=8) :
  Calls prog 42 #[(aC,n,cC),(own:Int),(q,n,cX),(r,n,s)] w λe w'=>e=.returned (.bool (y2x (λz=>y1j n (cf cs) (el z)) own x y))/\Below w w w':=by
 refine μ10 m o m.len o.len k l (show Fz (y1j n (cf cs) (el x))from k.sum (c:=λj=>cs.getD j 0) (λj=>Dz.getD_abs hc j) (n:=n) ω) (show Fz (y1j n (cf cs) (el y))from l.sum (c:=λj=>cs.getD j 0) (λj=>Dz.getD_abs hc j) (n:=n) ω) (y4F aC n cC cs q cX x w t m hc k M) (λw1 (f:Below w w w1)=>y4F aC n cC cs r s y w1 (t.below f) (o.below f) hc l M) λHX HY Z aa T U C D A B=>?_;obtain⟨K,d⟩:∃K:List Rat->Rat,K=λz=>y1j n (cf cs) (el z):=⟨_,rfl⟩
 have HK:=un d;rw[<-d];have J:y1j n (cf cs) (el x)=K x:=by rw[d]
 have L:y1j n (cf cs) (el y)=K y:=by rw[d]
 rw[J]at A C;rw[L]at B D;have V:=un (show kTo K x y 0=y28 (K x) (K y)from rfl);have E:=un (show y2x K own x y=decide (kTo K x y own<0)from rfl);clear J L d t m o hc k l;generalize y2x K own x y=ls at *
 go_enter func42,ntmps42;go_wp2_with fail
 refine A.o.mono ?_;rintro e w1 ⟨rfl,hb1⟩;have p:=un hb1;clear hb1;go_wp2_with fail
 refine(B.o _ p.o).mono ?_;rintro e w2 ⟨rfl,hb2⟩;have v:=un (p.o.trans (hb2.mono p.o.size));clear hb2;go_wp2_with fail
 refine(y5P (K x) (K y) _ C.o D.o).mono ?_;rintro e w3 ⟨rfl,hb3⟩;have P:=un (v.o.trans (hb3.mono v.o.size));rw[<-V.o];clear hb3;go_wp2_with fail
 go_loopw [9,10] (λkv u wr=>∃j:Nat,u=.int .i64 j/\j<=own/\kv=.int .i64 (kTo K x y j)/\Below w w wr)
  (λ_ u _=>own-(intOf u).toNat)
 case atStart=>exact⟨0,rfl,Zb _,rfl,P.o⟩
 rename World=>wr
 obtain⟨j,rfl,hj,rfl,g⟩:=hrel;have i:=un g;by_cases aj:j<own
 ·by_cases hk:kTo K x y j=0
  ·have F:=un (HX.o.below g);have G:=un (HY.o.below g);obtain⟨H,rfl,_,_⟩:=F.o.has ω;obtain⟨I,rfl,_,_⟩:=G.o.has ω;obtain⟨y0,y1⟩:=F.o.at_ (show x[j]? = some (el x j)from zaH (by rw[<-Z.o];omega));obtain⟨N,O⟩:=G.o.at_ (show y[j]? = some (el y j)from zaH (by rw[<-aa.o];omega));have W:=un (show kTo K x y (j+1)=y28 (el x j) (el y j)from if_pos hk);have R:=un (fun(w:World)=>y5P (el x j) (el y j) w (T.o.at_ j) (U.o.at_ j));generalize kTo K x y j=kj at *
   generalize y28 (el x j) (el y j)=kc at *
   generalize el x j=a at *
   generalize el y j=b at *
   subst hk;have ad:(j:Int)<(own:Int):=ω;have ah:(j:Int)<(n:Int):=ω;have ag:(0:Int)<=(j:Int):=Zf _;clear g;go_upto_region 5 with fail
   have ap:=zaa y0;have aq:=zaa y1;have ar:=zaa N;have au:=zaa O;refine zaS (S:=λw'=>χ w' H (j*2) (.int .i64 a.num)/\χ w' H (j*2+1) (.int .i64 (a.den:Int))/\χ w' I (j*2) (.int .i64 b.num)/\χ w' I (j*2+1) (.int .i64 (b.den:Int))) [9] (h:=λhHeld=>?_);refine zaw [0,1,2,3,4,5,6,7] ?_;repeat refine tkL (hS:=hHeld) (h:=?_)
   refine zao ?_;refine zaB 8 (h:=λK d=>?_);go_simp;(go_at_call 105;(with_reducible refine(R.o _).mono ?_);rintro e w5 ⟨rfl,f⟩;have Q:=un (i.o.trans ((It.bdrew0' f).mono i.o.size));have u0:=zab (It.bdrew0' f) y0;have u1:=zab (It.bdrew0' f) y1;have u2:=zab (It.bdrew0' f) N;have u3:=zab (It.bdrew0' f) O;clear f);(try go_wp2_with fail);refine shutOn d λhHeld=>?_;clear d K;refine zay 9 (h:=λK d=>?_);go_simp;refine shutOff d ?_;clear d K;refine zaM (h:=?_);go_wp2_with fail
   go_roundw
   case rel=>exact⟨j+1,by go_num,ω,by rw[W.o],Q.o⟩
   case measure=>simp[intOf];omega
  have X:=un (y4O hk own ω);have Y:=un (show ls=decide (kTo K x y j<0)by rw[E.o,X.o]);generalize kTo K x y j=kj at *
  have ad:(j:Int)<(own:Int):=ω;have ai:(kj == 0)=false:=by simpa using hk
  clear g;go_wp2;go_ret;exact⟨by rw[Y.o];rfl,i.o⟩
 obtain rfl:j=own:=ω;generalize kTo K x y j=kj at *
 clear g;go_wp2;go_ret;exact⟨by rw[E.o];rfl,i.o⟩
end Zr
open Dz (y1U y1p y1C y6w y1k y1l y1i y2p y1G y6v rankTo_lt)
structure SmallZ (m N:Nat) (A:List (List Int)) (B cs:List Int):Prop where
  rows:∀x∈A,x.length=N
  ent:y1U 9 A
  bnd:∀x∈B,x.natAbs<=9
  cost:∀x∈cs,x.natAbs<=9
  m4:m<=4
  n7:N<=7
def y5L (w:World) (L:List (List Rat)) (e:Ending) (w':World):Prop:=∃(O:OA) (cO:Nat) (l:List Value),e=.returned (O,L.length,cO)/\PtsZ w' w.heap.size (O,L.length,cO) l L/\Below w w w'
def ptF (A:List (List Int)) (B:List Int) (N:Nat) (rs p:List Nat):Option (List Rat):=if y1C rs.length (y1p A rs p)=0 then none else if y1G (y6w A B N rs p)=true then none else some (y6w A B N rs p)
theorem y5w{α β:Type}{f:α->Option β}{l:List α}{i:Nat}{x:α}(h:l[i]? = some x):(l.take (i+1)).filterMap f=(l.take i).filterMap f++(f x).toList:=by rw[Xb,h,List.filterMap_append];cases e:f x<;>simp[e]
namespace Zr
theorem y4k(aA:OA)(m cA:Nat)(lA:List Value)(A:List (List Int))(aB:OA)(cB:Nat)(B:List Int)(aC:OA)(N cC:Nat)(cs:List Int)(own:Int)(w:World)(o:TabZ w 0 (aA,m,cA) lA A)(g:IntsZ w 0 (aB,m,cB) B)(j:SmallZ m N A B cs) :
  Calls prog 40 #[.agg #[(aA,m,cA),(aB,m,cB),(aC,N,cC),.int .i64 own]] w (y5L w (y1k A B N)):=by
 have HS:=un j;have bK:=un o.nlen;have bO:=j.m4;have a4:=j.n7;refine μ4 (show y1k A B N=if y2p A B N=true then (y1l N (y1i A N m).length).filterMap (ptF A B N (y1i A N m))else []by unfold y1k;rw[<-o.nlen];rfl) (fun(w:World) (o:TabZ w 0 (aA,m,cA) lA A) (g:IntsZ w 0 (aB,m,cB) B)=>y6l aA m cA lA A aB m cB B aC N cC own N w o g j.rows j.ent j.bnd rfl j.m4 j.n7) (show(y1i A N m).length<=4 from Zl (Dz.rankTo_len A N m) j.m4) (rankTo_lt A N m) λP aU am aT=>?_;generalize y1i A N m=rs at *
 obtain⟨k,hk⟩:∃k,rs.length=k:=⟨_,rfl⟩
 have aJ:=un hk;rw[hk]at P am;have a2:=am.o;refine μ3 (fun(w:World)=>y5g N k w ω ω) (λp (h:p∈y1l N k)=>y3D h) (Zl (y1H N k) (Xm δ a4)) λaK aj aM=>?_;generalize y1l N k=ps at *
 have aO:=un (fun(w:World) (o:TabZ w 0 (aA,m,cA) lA A) (g:IntsZ w 0 (aB,m,cB) B) (aR:OA) (cR:Nat) (hR:IntsZ w 0 (.slice aR k cR) (zN rs)) (aS:OA) (D:Nat) (p:List Nat) (hC:IntsZ w 0 (.slice aS k D) (zN p)) (s:p∈ps)=>y5W aA m cA lA A aB cB B aC N cC own aR k cR rs aS D p w o g hR hC j.rows j.ent j.bnd (λr h=>aT.o r h) (aj.o p s).2 a2 ω);have aL:=un (λp=>show ptF A B N rs p=if y1C k (y1p A rs p)=0 then none else if y1G (y6w A B N rs p)=true then none else some (y6w A B N rs p)by unfold ptF;rw[hk]);generalize ptF A B N rs=pf at *
 generalize y1k A B N=pz at *
 generalize y2p A B N=fb at *
 clear j hk;obtain⟨W,t⟩:∃W,(w.alloc (.cells #[(aA,m,cA),(aB,m,cB),(aC,N,cC),.int .i64 own] 73))=W:=⟨_,rfl⟩
 refine μ4 (show θ W w.heap.size #[(aA,m,cA),(aB,m,cB),(aC,N,cC),.int .i64 own] 73by rw[<-t];exact zam σ) (show Below w w W by rw[<-t];exact zae w _) (show TabZ W 0 (aA,m,cA) lA A by rw[<-t];exact(o).alloc _) (show IntsZ W 0 (aB,m,cB) B by rw[<-t];exact(g).alloc _) λao BB HA HB=>?_;obtain⟨bn,bt,bo,bi,bv,bA,bI,bG⟩:=bc4 ao.o;clear o g;go_enter func40,ntmps40;go_wp2_with fail
 clear t;with_reducible refine(aU.o _ HA.o HB.o).mono ?_
 rintro e w1 ⟨O,cO,rfl,hO,a⟩;refine μ5 (zad a ao.o) (HA.o.below a) (HB.o.below a) (show IntsZ w1 0 (O,rs.length,cO) (zN rs)from hO.base (Zb _)) (BB.o.trans ((a).mono BB.o.size)) λaD bg bh HO Y=>?_;obtain⟨bl,br,bm,bs,bu,bw,bJ,bH⟩:=bc4 aD.o;clear hO a;rw[aJ.o]at HO ⊢;cases fb
 ·have G:=un (show pz=[]from P.o);go_wp2;go_ret
  rw[G.o];exact⟨none,0,[],rfl,PtsZ.nil _ _,Y.o⟩
 have G:=un (show pz=ps.filterMap pf from P.o);go_wp2_with fail
 with_reducible refine(aK.o _).mono ?_
 rintro e u ⟨S,D,ls,rfl,hS,a⟩;refine μ6 (zad a aD.o) (bg.o.below a) (bh.o.below a) (HO.o.below a) (show TabZ u 0 (.slice S (ps.map zN).length D) ls (ps.map zN)from hS.base (Zb _)) (Y.o.trans ((a).mono Y.o.size)) λaz bc bb be aN aa=>?_;obtain⟨bp,bj,bq,bk,bD,bC,bF,bE⟩:=bc4 az.o;clear hS a;generalize hq:(ps.map zN).length=q at *
 have I:=un (show ps.length=q by rw[<-hq,ZK]);have bQ:q<=128:=by rw[<-I.o];exact aM.o
 clear hq;clear bn bt bo bi bv bA bI bG bl br bm bs bu bw bJ bH;go_wp2_with fail
 go_loopw [5,7] (λov X wr=>∃(i n:Nat) (O:OA) (cO:Nat) (l:List Value),X=.int .i64 i/\ov=(O,n,cO)/\i<=q/\n<=i/\PtsZ wr u.heap.size (O,n,cO) l ((ps.take i).filterMap pf)/\Below u u wr)
  (λ_ X _=>q-(intOf X).toNat)
 case atStart=>exact⟨0,0,none,0,[],rfl,rfl,Zb _,Za _,PtsZ.nil _ _,Zj _ _⟩
 rename World=>wr
 obtain⟨i,n,Q,C,l,rfl,rfl,hi,bP,V,g⟩:=hrel;refine μ9 V V.nlen g (zad g az.o) (bc.o.below g) (bb.o.below g) (be.o.below g) (aN.o.below g) (aa.o.trans ((g).mono aa.o.size)) λL aQ y bx bd bf ba ax bB=>?_;obtain⟨aE,bV,aF,bW,aG,bX,ay,bY⟩:=bc4 bx.o;clear bp bj bq bk bD bC bF bE;clear V g;by_cases a3:i<q
 ·obtain⟨p,s⟩:∃p,ps[i]? = some p:=⟨ps[i]'(by rw[I.o];exact a3),Ze _⟩
  have ak:=un (Zz s);have M:=un (y5w (f:=pf) s);obtain⟨bS,rfl,_,_⟩:=ax.o.has ω;obtain⟨R,T,_,F,U⟩:=ax.o.at_ (show(ps.map zN)[i]? = some (zN p)by rw[Z2,s];rfl);rw[y1y,(aj.o p ak.o).1]at F U;have HC:=un (aO.o _ bd.o.drew bf.o.drew O cO ba.o.drew R T p U.drew ak.o);have ag:=un (aL.o p);generalize y6w A B N rs p=zp at *
  generalize y1C k (y1p A rs p)=d at *
  generalize pf p=fp at *
  have bN:(i:Int)<(q:Int):=ω;have bM:(0:Int)<=(i:Int):=Zf _;clear U s;go_upto_region 9 with fail
  have bU:=zaa F;by_cases E:d=0
  ·have z:=un (show fp=none by rw[ag.o,if_pos E]);refine zaS (S:=λw'=>χ w' w 0 (aA,m,cA)/\χ w' w 1 (aB,m,cB)/\χ w' w 2 (aC,N,cC)/\χ w' w 3 (.int .i64 own)/\χ w' bS i (.slice R k T)) [10,11] (h:=λhHeld=>?_);refine zaw [0,1,2,3,4,5] ?_;repeat refine tkL (hS:=hHeld) (h:=?_)
   refine zao ?_;refine zaB 6 (h:=λK b=>?_);go_simp;(go_at_call 103;(with_reducible refine HC.o.mono ?_);rintro e w5 ⟨⟨_,rfl⟩ | ⟨a1,_⟩,a⟩;rotate_left;(exact absurd E a1);have c:=un (It.bdrew0' a);have v0:=zab c.o aE;have v1:=zab c.o aF;have v2:=zab c.o aG;have v3:=zab c.o ay;have v4:=zab c.o F;clear a);(try go_wp2_with fail);refine shutOn b λhHeld=>?_;clear b K;refine zaw [7,8] ?_;repeat refine tkL (hS:=hHeld) (h:=?_)
   refine zao ?_;refine zaw [9] ?_;repeat refine tkX (h:=?_)
   refine zao ?_;refine zay 10 (h:=λK b=>?_);go_simp;refine shutOff b ?_;clear b K;refine zay 11 (h:=λK b=>?_);go_simp;refine shutOff b ?_;clear b K;refine zaM (h:=?_);have v:=un (y.o.trans (c.o.mono y.o.size));have J:=un (L.o.below c.o);go_wp2_with fail
   go_roundw
   case rel=>exact⟨i+1,n,Q,C,l,by go_num,rfl,ω,ω,by rw[M.o,z.o];show PtsZ _ _ _ _ (_++[]);rw[XS];exact J.o,v.o⟩
   case measure=>simp[intOf];omega
  have z:=un (show fp=if y1G zp=true then none else some zp by rw[ag.o,if_neg E]);refine zaS (S:=λw'=>χ w' w 0 (aA,m,cA)/\χ w' w 1 (aB,m,cB)/\χ w' w 2 (aC,N,cC)/\χ w' w 3 (.int .i64 own)/\χ w' bS i (.slice R k T)) [10,11] (h:=λhHeld=>?_);refine zaw [0,1,2,3,4,5] ?_;repeat refine tkL (hS:=hHeld) (h:=?_)
  refine zao ?_;refine zaB 6 (h:=λK b=>?_);go_simp;(go_at_call 103;(with_reducible refine HC.o.mono ?_);rintro e w5 ⟨⟨a0,_⟩ | ⟨_,Z,cZ,rfl,hz⟩,a⟩;(exact absurd a0 E);have c:=un (It.bdrew0' a);have an:=un (hz.base (Zb _));have v0:=zab c.o aE;have v1:=zab c.o aF;have v2:=zab c.o aG;have v3:=zab c.o ay;have v4:=zab c.o F;clear a hz);(try go_wp2_with fail);refine shutOn b λhHeld=>?_;clear b K;refine zaw [7,8] ?_;repeat refine tkL (hS:=hHeld) (h:=?_)
  refine zao ?_;refine zaw [9] ?_;repeat refine tkX (h:=?_)
  refine zao ?_;refine zay 10 (h:=λK b=>?_);go_simp;refine shutOff b ?_;clear b K;refine zay 11 (h:=λK b=>?_);go_simp;refine shutOff b ?_;clear b K;refine zaM (h:=?_);refine μ3 (y.o.trans (c.o.mono y.o.size)) (L.o.below c.o) (fun(w:World) (h:FracsZ w 0 (Z,N,cZ) zp)=>y5N Z N cZ zp w h ω) λv J aI=>?_;generalize y1G zp=bz at *
  go_wp2_with fail
  refine(aI.o _ an.o).mono ?_;rintro e w7 ⟨rfl,a⟩;refine μ3 (v.o.trans (a.mono v.o.size)) (J.o.below a) (an.o.below a) λx al aV=>?_;clear a;cases bz
  ·have H:=un (show fp=some zp from z.o);go_wp2_with (at_builtin;go_loud (refine wpl rfl (λK aY=>y5l (N:=n+1) _ _ rfl rfl (al.o.alloc _) rfl (zal _ _ _) (aV.o.alloc _) (by rw[<-aQ.o]) ω (by have:=x.o.size;simp;omega) K aY) ?_;rintro _ w8 ⟨Q8,c8,rfl,hQ8,hk8,hb8⟩;have aP:=un hQ8;have aH:=un ((Xh x.o x.o.size _).trans hb8);clear hQ8 hk8 hb8))
   go_roundw
   case rel=>exact⟨i+1,n+1,Q8,c8,_,by go_num,rfl,ω,ω,by rw[M.o,H.o];exact aP.o,aH.o⟩
   case measure=>simp[intOf];omega
  have H:=un (show fp=none from z.o);go_wp2_with fail
  go_roundw
  case rel=>exact⟨i+1,n,Q,C,l,by go_num,rfl,ω,ω,by rw[M.o,H.o];show PtsZ _ _ _ _ (_++[]);rw[XS];exact al.o,x.o⟩
  case measure=>simp[intOf];omega
 obtain rfl:i=q:=ω;have HF:=un (show PtsZ wr u.heap.size (Q,n,C) l pz by rw[G.o];have h:=L.o;rw[ZZ (Nat.le_of_eq I.o)]at h;exact h);have ah:=un HF.o.nlen;go_wp2;go_ret;exact⟨Q,C,l,by rw[<-ah.o];rfl,by rw[<-ah.o];exact HF.o.base aa.o.size,bB.o⟩
