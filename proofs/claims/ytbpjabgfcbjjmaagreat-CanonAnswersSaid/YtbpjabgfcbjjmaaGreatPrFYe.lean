/- Contracts and lemmas: PrF. Conditions: as each says. -/
import Derived.Test.YtbpjabgfcbjjmaaGreatTb4Ye
set_option linter.all false
set_option maxHeartbeats 2000000
set_option maxRecDepth 100000
namespace Go.Proofs.YtbpjabgfcbjjmaaGreat
open Go.RowKit Am Go.Proofs.Tryz
attribute [local go_sem ↓] Go.wp_at_zero Go.wp_at_succ
variable {A:List (List Rat)}{cols:List Nat}{N m:Nat}
theorem zVd{b:List Rat}(a:cols.length=m):dot (zJG N m) (zh1 (N+m) cols (za5 (zt0 A b) (zwh b) cols))=zSB N m A b cols:=by unfold dot ziw zSB;rw[zSD];grind[zaj,zvg]
theorem zTR(N m:Nat):∀q∈zJG N m,mw q<=1:=λq a=>by unfold zJG at a;grind[mw0,mw1]
theorem zVI(b:List Rat):∀z∈b.map sgI,z = -1\/z=1:=by grind[zTW]
theorem z0l{S:Nat}{xs:List Rat}(a:Basis m N A cols)(e:xs.length=m)(f:∀x∈xs,mw x<=S)(hS:1<=S):∀q∈zh1 N cols xs,mw q<=S:=λq d=>by obtain⟨j,hj⟩:=Xv.1 d;have c:=(ZF.1 hj).1;rw[zl8]at c;rw[<-znd hj,zvg c,a.len];by_cases b:Bas m (λk=>cols.getD k 0) j;obtain⟨k,hk,rfl⟩:=b;rw[zA7 a.inj _ hk];exact zrz f (by rw[e];exact hk);grind[zyz,Nat.le_trans,mw0]
theorem zSH{own N:Nat}{A:List (List Rat)}{B:Nat}:∀(f k:Nat) (a:List Nat × Nat),(zSz own N A B f k a).1.2<=a.2+f/\(a.2<=B->(zSz own N A B f k a).1.2<=B)
 | 0,_,a=>⟨Za _,λh=>h⟩
 | f+1,k,(cs,n)=>by
  by_cases h:own<=cs.getD k 0;cases e:zkZ (zk8 N A cs k) own 0 with
  | none =>
   rw[zS6 h e];obtain⟨h1,b⟩:=zSH f (k+1) (cs,n) (own:=own) (N:=N) (A:=A) (B:=B);exact⟨Zl h1 (by simp only;omega),b⟩
  | some j =>
   by_cases c:B<=n;rw[zS7 h e c];exact⟨Yu _ _,λh=>h⟩;rw[zTo h e c];obtain⟨h1,b⟩:=zSH f (k+1) (cs.set k j,n+1) (own:=own) (N:=N) (A:=A) (B:=B);exact⟨Zl h1 (by simp only;omega),λ_=>b (by simp only;omega)⟩
  rw[zTn h];obtain⟨h1,b⟩:=zSH f (k+1) (cs,n) (own:=own) (N:=N) (A:=A) (B:=B);exact⟨Zl h1 (by simp only;omega),b⟩
def Spent (w':World) (B:Nat) (ev:Value):Prop:=∃(fb num:Nat),ev=.iface 239 (.pointer (some ⟨fb,0,none⟩))/\num<=B/\θ w' fb #[.string zve,(num:Int),.iface 93 (.int .i64 180)] 241
def zXb (w:World) (rA:OA) (rc:Nat) (lA:List Value) (bA:OA) (bc_:Nat) (kA:OA) (kc:Nat) (eA:OA) (ec m N NN S own:Nat) (A0:List (List Rat)) (b0 c:List Rat) (left:List Int) (B:Nat) (r:RunOut) (d:(List Nat × Nat) × Bool) (e:Ending) (w':World):Prop :=
  Below w w w' /\
  ((r.err=true/\∃ev,e=.returned (.tuple #[.pointer none,(),(r.n:Int),ev])/\Spent w' B ev) \/
   (r.err=false/\0<zSB N m A0 b0 r.cols/\∃(Y:OA) (cY:Nat),e=.returned (.tuple #[.pointer none,(Y,m,cY),(r.n:Int),.nilIface])/\VecS w' w (Y,m,cY) (bkL (b0.map sgI) (zcl (zt0 A0 b0) r.cols (zJG N m)) m)) \/
   (r.err=false/\¬0<zSB N m A0 b0 r.cols/\d.2=true/\∃ev,e=.returned (.tuple #[.pointer none,(),((r.n+d.1.2:Nat):Int),ev])/\Spent w' B ev) \/
   (r.err=false/\¬0<zSB N m A0 b0 r.cols/\d.2=false/\∃(wn:World) (q:Nat) (tA:OA) (tc:Nat),e=.returned (.tuple #[.pointer (some ⟨q,0,none⟩),(),((r.n+d.1.2:Nat):Int),.nilIface]) /\
     zhi wn w' wn.heap.size q rA rc lA bA bc_ kA kc eA ec m NN S own (zt0 A0 b0) (zwh b0) c left tA tc d.1.1/\w.heap.size<=wn.heap.size/\Below w w wn))
namespace Pr
open Du (zCr)
theorem pfeasible(rA:OA)(rc:Nat)(bA:OA)(bc_:Nat)(kA:OA)(kc:Nat)(eA:OA)(ec:Nat)(i:OA)(j m b own N:Nat)(lA:List Value)(S:Nat)(f:List (List Rat))(a c:List Rat)(left:List Int)(R:Nat)(w:World)(hS:StdP w rA rc lA bA bc_ kA kc eA ec m b S (zt0 f a) (zwh a) c left)(hz:IntsZ w R (i,m,j) (a.map sgI))(u:N+m=b)(hA:Rect m N f)(a4:a.length=m)(an:zor m S<=LIM)(ao:sB m S S<=4000000)(B:Nat)(hB:B<=1000000) :
  Calls prog 47 #[.agg #[(rA,m,rc),(b:Int),(bA,m,bc_),(kA,b,kc),(own:Int),(eA,m,ec),(i,m,j),(N:Int)],(B:Int)] w (zXb w rA rc lA bA bc_ kA kc eA ec m N b S own f a c left B (pivs (zBX b (zt0 f a) (zwh a) (zJG N m) (zKc N m)) B (zKa N m)) (zSz N b (zt0 f a) (B-(pivs (zBX b (zt0 f a) (zwh a) (zJG N m) (zKc N m)) B (zKa N m)).n) m 0 ((pivs (zBX b (zt0 f a) (zwh a) (zJG N m) (zKc N m)) B (zKa N m)).cols,0))):=by
 refine μ6 u (show Basis m b (zt0 f a) (zKa N m)by rw[<-u];exact zSU hA) an ao hB (show 8*sB m S S+8<=LIM by rw[zaP];omega) λH aI G aY af aX=>?_;have a5:=hS.hm;have a6:=hS.hN;refine μ3 (show zsn b N=zKc N m by rw[<-u,zUB]) (show(zJG N m).length=b by rw[zSD,u]) (λq D=>Zl (zTR N m q D) hS.hS) λaS ah Q=>?_;obtain⟨r,hr⟩:∃r,pivs (zBX b (zt0 f a) (zwh a) (zJG N m) (zKc N m)) B (zKa N m)=r:=⟨_,rfl⟩
 have HR:=un hr;have ai:=un (show r.n<=B by rw[<-hr];exact zLj _ _ _);rw[hr];obtain⟨d,J⟩:∃d,zSz N b (zt0 f a) (B-r.n) m 0 (r.cols,0)=d:=⟨_,rfl⟩
 have HD:=un J;have ag:=un (show d.1.2<=m/\d.1.2<=B by have h:=zSH m 0 (r.cols,0) (own:=N) (N:=b) (A:=zt0 f a) (B:=B-r.n);rw[J]at h;have h2:=h.2 (Zb _);exact⟨by have:=h.1;simp only at this;omega,ω⟩);rw[J];clear u hA a4 an ao hB hr J;obtain⟨W,y⟩:∃W,(w.alloc (.cells #[(rA,m,rc),(b:Int),(bA,m,bc_),(kA,b,kc),(own:Int),(eA,m,ec),(i,m,j),(N:Int)] 118))=W:=⟨_,rfl⟩
 refine μ4 (show θ W w.heap.size #[(rA,m,rc),(b:Int),(bA,m,bc_),(kA,b,kc),(own:Int),(eA,m,ec),(i,m,j),(N:Int)] 118by rw[<-y];exact zam σ) (show Below w w W by rw[<-y];exact zae w _) (show StdP W rA rc lA bA bc_ kA kc eA ec m b S (zt0 f a) (zwh a) c left by rw[<-y];exact(hS).alloc _) (show IntsZ W R (i,m,j) (a.map sgI)by rw[<-y];exact(hz).alloc _) λT F HS HG=>?_;obtain⟨cj,_,ck,cd,ct,_,dk,_,dm,_,bE,_,bS,_,bJ,_⟩:=bc8 T.o;clear hS hz;go_enter func47,ntmps47;go_wp2_with fail
 clear y;refine(pfirst rA rc bA bc_ kA kc eA ec i j m b own N lA S (zt0 f a) (zwh a) c left _ HS.o H.o aI.o G.o).mono ?_;rintro e w1 ⟨wn,q,C,cC,tA,tc,rfl,hT,hC,hbn,hb⟩;refine μ3 (zad hb T.o) (hT) (hC) λaw HT HC=>?_;obtain⟨ch,_,ci,_,cs,_,dl,_,dn,_,bF,_,b6,_,b7,_⟩:=bc8 aw.o;refine μ3 (F.o.trans (hbn.mono F.o.size)) hbn hb λK aJ ad=>?_;clear hT hC hbn hb;go_wp2_with fail
 refine(pmay rA rc bA bc_ kA kc eA ec i j m b own N _ (by have:=H.o;omega) a6).mono ?_;rintro e w2 ⟨M,cM,rfl,hm,hb⟩;refine μ4 (HT.o.below hb) (HC.o.below hb) ((by have h:=hm;rw[aS.o]at h;exact h)) (ad.o.trans (hb.mono ad.o.size)) λbo ar HM aH=>?_;clear hm hb;go_wp2_with fail
 refine(prun bo.o C cC W.heap.size (zJG N m) ar.o Q.o M b cM w1.heap.size (zKc N m) HM.o G.o (B:Int) (by have:=af.o;omega)).mono ?_;rintro e U ⟨ev,rfl,hev,hT3,hb3,hk3⟩;rw[show((B:Int)).toNat=B from Ym B,HR.o]at hev hT3 ⊢;have aO:=un hev;have aj:=un hT3;have t:=aH.o.trans (hb3.mono aJ.o.size);have aL:=un (hk3.vec δ δ ar.o);clear hev hT3 hb3 hk3;clear cj ck cd ct dk dm bE bS bJ ch ci cs dl dn bF b6 b7;refine μ3 (zad t T.o) (HG.o.below t) (F.o.trans ((t).mono F.o.size)) λax bj ab=>?_;clear t;rcases aO.o with ⟨g,rfl⟩ | ⟨g,s,rfl,z⟩
 ·have p:=un g;clear g;go_wp2_with fail
  refine(Tb.point aj.o).mono ?_;rintro e w4 ⟨P,cP,rfl,hv,hb⟩;refine μ6 (zad hb ax.o) (bj.o.below hb) (aj.o.below hb) (aL.o.below hb) (hv) (ab.o.trans ((hb).mono ab.o.size)) λay bx Z av aU aB=>?_;clear hv hb;have l:=un Z.o.basis;have aT:=un (show ∀q∈zh1 b r.cols (za5 (zt0 f a) (zwh a) r.cols),mw q<=sB m S S by obtain⟨_,_,_,x⟩:=Z.o;exact z0l l.o (l.o.vals_ok _).2 (z0n l.o x.bas.good.2.2 x.std.blen x.std.zb) (zma _ _ _));have aG:=un (show dot (zJG N m) (zh1 b r.cols (za5 (zt0 f a) (zwh a) r.cols))=zSB N m f a r.cols by rw[<-H.o];exact zVd l.o.len);go_wp2_with fail
  refine(Vc.dot_ok C b cC (zJG N m) P b cP (zh1 b r.cols (za5 (zt0 f a) (zwh a) r.cols)) W.heap.size U.heap.size _ av.o aU.o (by rw[ah.o,zl8]) ω (λq D=>Zl (zTR N m q D) δ) (λq D=>Zl (aT.o q D) aY.o)).mono ?_;rintro e V ⟨g5,A5,m5,c5,D5,md5,cd5,rfl,hn,hb⟩;refine μ6 (zad hb ay.o) (bx.o.below hb) (Z.o.below hb) (av.o.below hb) ((by have h:=hn;rw[aG.o]at h;exact h)) (aB.o.trans ((hb).mono aB.o.size)) λaz bk bg cc aN aC=>?_;clear hn hb;have o:=zae V (.cells #[g5,(A5,m5,c5),(D5,md5,cd5)] 62);refine μ7 (zad o az.o) (bk.o.below o) (bg.o.below o) (cc.o.below o) (aN.o.below o) (aC.o.trans ((o).mono aC.o.size)) (zal V #[g5,(A5,m5,c5),(D5,md5,cd5)] 62) λaA bl bh bd bf aE KV=>?_;obtain⟨cV,_,cW,_,c3,_⟩:=bc3 KV.o;go_wp2_with fail
  refine(Rt.sign g5 A5 m5 c5 D5 md5 cd5 (zSB N m f a r.cols) _ bf.o).mono ?_;rintro e w6 ⟨rfl,hb⟩;refine μ5 (zad hb aA.o) (bl.o.below hb) (bh.o.below hb) (bd.o.below hb) (aE.o.trans ((hb).mono aE.o.size)) λaD bm aa be ac=>?_;obtain⟨ef,_,eg,_,dY,_,dT,_,dU,_,d5,_,ea,_,eb,_⟩:=bc8 aD.o;clear hb;clear cV cW c3;by_cases k:0<zSB N m f a r.cols
  ·have a7:decide (0<(zSB N m f a r.cols).num.sign)=true:=ZT (Y0 (zYp.2 k)▸by decide);have a8:=ZT (zYp.2 k);have I:=un k;clear k;go_wp2_with fail
   refine(Tb.duals aa.o C cC (zJG N m) W.heap.size be.o Q.o G.o).mono ?_;rintro e E ⟨Y,nY,cY,rfl,hv,hb⟩;refine μ5 (zad hb aD.o) (bm.o.below hb) (aa.o.below hb) (hv) (ac.o.trans ((hb).mono ac.o.size)) λaF bn bi HY X=>?_;obtain⟨eh,_,ej,_,el,_,em,_,en,_,d7,_,dP,_,dR,_⟩:=bc8 aF.o;obtain rfl:m=nY:=by rw[hv.len,(l.o.duals_ok _).2]
   clear hv hb;have a3:=un (show ∀q∈zcl (zt0 f a) r.cols (zJG N m),mw q<=sB m S S by obtain⟨_,_,_,x⟩:=bi.o;exact znb l.o x.bas.good.2.2 ah.o Q.o);go_wp2_with fail
   refine(pback rA rc bA bc_ kA kc eA ec i j m b own N (a.map sgI) R Y cY w6.heap.size (zcl (zt0 f a) r.cols (zJG N m)) (sB m S S) _ bn.o (zVI a) HY.o aX.o (zma _ _ _) a3.o a5).mono ?_;rintro e w8 ⟨Y2,nY2,cY2,rfl,hv,hb⟩;have a2:=un (hv);have au:=un (X.o.trans ((hb).mono X.o.size));obtain rfl:m=nY2:=by rw[hv.len,zSJ,(l.o.duals_ok _).2]
   have a9:=(X).o.size;clear hv hb;go_wp2;refine Zh (v:=.tuple #[.pointer none,(Y2,m,cY2),.int .i64 (r.n:Int),.nilIface]) (by simp[results,results47,go_sem]) rfl ?_;exact⟨au.o,.inr (.inl ⟨p.o,I.o,Y2,cY2,rfl,a2.o.base a9⟩)⟩
  have a7:=Z3 λh=>k (zYp.1 (Int.sign_pos_iff.1 h))
  have a8:=Z3 λh=>k (zYp.1 h)
  have I:=un k;have dD:=ai.o;have dA:=af.o;clear k;have dC:=ag.o.1;go_wp2_with fail
  rw[show(B:Int)-(r.n:Int)=((B-r.n:Nat):Int)by omega];refine(pdrive aa.o i j N (by have:=H.o;omega) G.o ((B-r.n:Nat):Int) ω).mono ?_;rintro e E ⟨ev,rfl,hev,hT7,hb7,hk7⟩;rw[show(((B-r.n:Nat):Int)).toNat=B-r.n from Ym _,HD.o]at hev hT7 ⊢;refine μ3 hev hT7 (ac.o.trans (hb7.mono K.o.size)) λaP a0 ae=>?_;clear hev hT7 hb7 hk7;rcases aP.o with ⟨g,rfl⟩ | ⟨g,s,rfl,z⟩
  ·have L:=un g;clear g;go_wp2;refine Zh (v:=.tuple #[.pointer (some ⟨q,0,none⟩),(),.int .i64 ((r.n+d.1.2:Nat):Int),.nilIface]) (by simp[results,results47,go_sem]) rfl ?_;exact⟨ae.o,.inr (.inr (.inr ⟨p.o,I.o,L.o,wn,q,tA,tc,rfl,a0.o,K.o.size,K.o⟩))⟩
  have L:=un g;have O:=un z;clear g z;go_wp2;refine Zh (v:=.tuple #[.pointer none,(),.int .i64 ((r.n+d.1.2:Nat):Int),.iface 239 (.pointer (some ⟨s,0,none⟩))]) (by simp[results,results47,go_sem]) rfl ?_;exact⟨ae.o,.inr (.inr (.inl ⟨p.o,I.o,L.o,_,rfl,s,d.1.2,rfl,ag.o.2,O.o⟩))⟩
 have p:=un g;have O:=un z;clear g z;go_wp2;refine Zh (v:=.tuple #[.pointer none,(),.int .i64 (r.n:Int),.iface 239 (.pointer (some ⟨s,0,none⟩))]) (by simp[results,results47,go_sem]) rfl ?_;exact⟨ab.o,.inl ⟨p.o,_,rfl,s,r.n,rfl,ai.o,O.o⟩⟩
