/- Contracts and lemmas: Cert7 Cert5 Law4 Law5. Conditions: as each says. -/
import Derived.Test.YtbpjabgfcbjjmaaGreatDuBYn
set_option linter.all false
set_option maxHeartbeats 8000000
set_option maxRecDepth 100000
namespace Go.Proofs.YtbpjabgfcbjjmaaGreat
open Go.RowKit Am Go.Proofs.Tryz
attribute [local go_sem ↓] Go.wp_at_zero Go.wp_at_succ
variable {rows:List PRow}{cost d x:List Rat}{q:Rat}
def yf7(h:znD cost rows x=false):yey cost rows x d=false:=by unfold yey;rw[h];rfl
def yf8(h:d.length≠x.length):yey cost rows x d=false:=by unfold yey;rw[ZJ h];simp
def yf9(h:(d.any λq=>decide (q<0))=true):yey cost rows x d=false:=by unfold yey;rw[h];simp
def yga(h:(rows.all λp=>zdH ⟨p.coef,p.kind,0⟩ d)=false):yey cost rows x d=false:=by unfold yey;rw[h];simp
def yf6(h1:znD cost rows x=true)(a:d.length=x.length)(b:(d.any λq=>decide (q<0))=false)(c:(rows.all λp=>zdH ⟨p.coef,p.kind,0⟩ d)=true):yey cost rows x d=decide (dot cost d<0):=by unfold yey;rw[h1,ZG a,b,c];simp
namespace Ct
open Pb (zPu)
def y0O(C:OA)(nc cc:Nat)(R:OA)(nr n:Nat)(cost:List Rat)(rows:List PRow)(X:OA)(r y:Nat)(x:List Rat)(E:OA)(o t:Nat)(d:List Rat)(w:World)(hc:VecS w 0 (C,nc,cc) cost)(hr:RowsS w 0 (R,nr,n) rows)(hx:VecS w 0 (X,r,y) x)(he:VecS w 0 (E,o,t) d)(hg:Good nc nr cost rows)(zx:Sm x)(zd:Sm d)(av:cost.length=nc) :
  Calls prog 16 #[.agg #[(C,nc,cc),(R,nr,n)],(X,r,y),(E,o,t)] w λe w'=>e=.returned (.bool (yey cost rows x d))/\Below w w w':=by
 refine μ8 hg zx zd av hx.len he.len hr.len hg.hr λj ZX ZD aI V U ak aP=>?_;generalize hob:yey cost rows x d=ob;have v:=un hob;clear hg zx zd av hob;obtain⟨W,s⟩:∃W,(w.alloc (.cells #[(C,nc,cc),(R,nr,n)] 33))=W:=⟨_,rfl⟩
 refine μ6 (show θ W w.heap.size #[(C,nc,cc),(R,nr,n)] 33by rw[<-s];exact zam σ) (show Below w w W by rw[<-s];exact zae w _) (show VecS W 0 (C,nc,cc) cost by rw[<-s];exact(hc).alloc _) (show RowsS W 0 (R,nr,n) rows by rw[<-s];exact(hr).alloc _) (show VecS W 0 (X,r,y) x by rw[<-s];exact(hx).alloc _) (show VecS W 0 (E,o,t) d by rw[<-s];exact(he).alloc _) λao BB HC HR HX HE=>?_;obtain⟨br,_,bs,bo⟩:=bc2 ao.o;clear hc hr hx he;go_enter func16,ntmps16;go_wp2_with fail
 clear s;with_reducible refine(Pb.may C nc cc R nr n cost rows _ HC.o HR.o j.o.hc (Zf j.o.hr δ) j.o.rw_ j.o.kd).mono ?_
 rintro e w1 ⟨rfl,hb⟩;refine μ6 (zad hb ao.o) (HC.o.below hb) (HR.o.below hb) (HX.o.below hb) (HE.o.below hb) (BB.o.trans ((hb).mono BB.o.size)) λae P O N ay M=>?_;obtain⟨bp,_,bq,bt⟩:=bc2 ae.o;clear hb;cases hf:znD cost rows x
 ·have l:=un (show ob=false by rw[<-v.o];exact yf7 hf);go_wp2_with fail
  with_reducible refine(yi8 C nc cc R nr n cost rows X r y x _ P.o O.o N.o j.o ZX.o false hf).mono ?_
  rintro e w2 ⟨rfl,hb⟩;refine μ6 (zad hb ae.o) (P.o.below hb) (O.o.below hb) (N.o.below hb) (ay.o.below hb) (M.o.trans ((hb).mono M.o.size)) λL aB aF be ad z=>?_;obtain⟨_,_,a6,a5⟩:=bc2 L.o;clear hb;go_wp2;go_ret;exact⟨by rw[l.o];first | done | rfl,z.o⟩
 have S:=un hf;go_wp2_with fail
 with_reducible refine(yi8 C nc cc R nr n cost rows X r y x _ P.o O.o N.o j.o ZX.o true hf).mono ?_
 rintro e w2 ⟨rfl,hb⟩;refine μ6 (zad hb ae.o) (P.o.below hb) (O.o.below hb) (N.o.below hb) (ay.o.below hb) (M.o.trans ((hb).mono M.o.size)) λL aB aF be ad z=>?_;obtain⟨_,_,a6,a5⟩:=bc2 L.o;clear hb hf;by_cases u:d.length=x.length
 ·have aZ:o=r:=by rw[U.o,V.o,u]
  subst aZ;have T:=un u;clear u;go_wp2_with fail
  with_reducible refine(Vc.below E o t d 0 _ ad.o).mono ?_
  rintro e w3 ⟨rfl,hb⟩;refine μ5 (zad hb L.o) (aB.o.below hb) (aF.o.below hb) (ad.o.below hb) (z.o.trans ((hb).mono z.o.size)) λaf aC K az B=>?_;obtain⟨_,_,bv,bu⟩:=bc2 af.o;clear hb;cases hneg:(d.any λq=>decide (q<0))
  ·skip
   have aO:=un hneg;clear hneg;have bk:=aP.o;go_wp2
   go_loopw [34] (λi wr=>∃k:Nat,i=.int .i64 k/\k<=nr/\Below w3 w3 wr/\(rows.take k).all (λp=>zdH ⟨p.coef,p.kind,0⟩ d)=true)
    (λi _=>nr-(intOf i).toNat)
   case atStart=>exact⟨0,rfl,Zb _,Zl _ _,rfl⟩
   obtain⟨k,rfl,hk,a,Z⟩:=hrel;have HT:=un Z;by_cases aY:k<nr
   ·obtain⟨p,I⟩:∃p,rows[k]? = some p:=⟨rows[k]'(by rw[<-ak.o];exact aY),Ze _⟩
    obtain⟨b,rfl,bg,bh⟩:=(K.o).has ω;obtain⟨Q,nq,H,g,A,m,c,D,md,cd,k0,k1,k2,k3,k4,hq,_⟩:=(K.o.below a).at_ I;have HP:=un I;have Y:=un (j.o.rw_ p (Zj I));generalize hkd:p.kind=kd at k1;refine μ8 hkd (zad a af.o) (aC.o.below a) (K.o.below a) (az.o.below a) (show VecS wr 0 (Q,nq,H) p.coef from hq) (show Bel w3 wr from Bel.mk a) (B.o.trans ((a).mono B.o.size)) λaN ag aD aG J HQ HW F=>?_;obtain⟨a7,_,a8,_⟩:=bc2 ag.o;clear a Z I hq hkd;have bi:(0:Int)<=(k:Int):=Zg _;have bj:(k:Int)<(nr:Int):=ω;go_upto_region 6 with fail
    have aU:=un (zal wr #[(Q,nq,H),.int .i64 kd,g,(A,m,c),(D,md,cd)] 101);obtain⟨_,_,_,_,_,_,_,_,r2,_,a2,_⟩:=bf5 aU.o;go_cut[] (λwy=>θ wy wr.heap.size #[(Q,nq,H),.int .i64 kd,false,(),()] 101/\Below wr.heap.size wr wy)
    case first =>
     go_wp2;go_meet
     case rel=>exact⟨zal _ _ _,zae _ _⟩
    rename World=>wy
    obtain⟨au,a⟩:=hcut;refine μ5 (J.o.below a) (HQ.o.below a) (HW.o.below a) (F.o.trans ((a).mono F.o.size)) au λaA ax bd G KN=>?_;obtain⟨ba,_,bb,_,bc,_,bw,_,bx,_⟩:=bc5 KN.o;clear au a r2 a2;go_wp2_with fail
    with_reducible refine(Pb.holds Q nq H false none 0 0 none 0 0 kd ⟨p.coef,p.kind,0⟩ aN.o E o t d _ ax.o (RatS.zero _) aA.o (by show p.coef.length=_;rw[Y.o.1,T.o,(ydT.1 S.o).1,aI.o]) (by have h:=(ax.o).len;rw[Y.o.1]at h;have:=j.o.hc;omega) Y.o.2.1 (by show mw 0<=_;decide +kernel) ZD.o).mono ?_
    rintro e v1 ⟨rfl,hb⟩;have a4:=un (bd.o.below hb);have ah:=un (G.o.trans ((hb).mono G.o.size));clear hb;cases hh:zdH ⟨p.coef,p.kind,0⟩ d
    ·have l:=un (show ob=false by rw[<-v.o];exact yga (ztT (f:=λp=>zdH ⟨p.coef,p.kind,0⟩ d) HP.o hh));go_wp2;go_ret
     exact⟨by rw[l.o];first | done | rfl,ah.o⟩
    have HF:=un (zv9 (f:=λp=>zdH ⟨p.coef,p.kind,0⟩ d) HT.o HP.o hh);go_wp2;go_roundw
    case rel=>exact⟨k+1,by go_num,ω,a4.o.b,HF.o⟩
    case measure=>simp[intOf];omega
   have aX:k=nr:=ω;have aH:=un (show(rows.all λp=>zdH ⟨p.coef,p.kind,0⟩ d)=true by have h:=HT.o;rw[aX,ak.o,XL]at h;exact h);refine μ7 (show decide (dot cost d<0)=ob by rw[<-v.o];exact(yf6 S.o T.o aO.o aH.o).symm) (show cost.length=d.length by rw[T.o];exact(ydT.1 S.o).1.symm) (zad a af.o) (aC.o.below a) (K.o.below a) (az.o.below a) (B.o.trans ((a).mono B.o.size)) λl aJ ag aD aG J F=>?_;obtain⟨a7,_,a8,_⟩:=bc2 ag.o;clear a Z;go_wp2_with fail
   with_reducible refine(zPu C nc cc R nr n cost rows E o t d _ aD.o aG.o J.o aJ.o (Zf j.o.hc δ) j.o.sc ZD.o).mono ?_
   rintro e v1 ⟨g3,A3,m3,c3,D3,md3,cd3,rfl,hn,hb⟩;have ar:=(hb).alloc (hb).size (.cells #[g3,(A3,m3,c3),(D3,md3,cd3)] 62);refine μ4 (J.o.below ar) (show RatS (v1.alloc (.cells #[g3,(A3,m3,c3),(D3,md3,cd3)] 62)) g3 (A3,m3,c3) (D3,md3,cd3) (dot cost d)from(hn).alloc _) (F.o.trans ((ar).mono F.o.size)) (zal v1 #[g3,(A3,m3,c3),(D3,md3,cd3)] 62) λaA HD G a9=>?_;obtain⟨ba,_,bb,_,bc,_⟩:=bc3 a9.o;clear hn hb;go_wp2_with fail
   have aR:=un (show decide ((dot cost d).num<0)=ob by rw[<-l.o];exact decide_eq_decide.2 (zvc _));with_reducible refine(Rt.sign g3 A3 m3 c3 D3 md3 cd3 (dot cost d) _ HD.o).mono ?_
   rintro e v2 ⟨rfl,hb⟩;have ah:=un (G.o.trans ((hb).mono G.o.size));clear hb;go_wp2;go_ret;exact⟨by show Ending.returned (Value.bool (decide ((dot cost d).num<0)))=_;rw[aR.o],ah.o⟩
  have l:=un (show ob=false by rw[<-v.o];exact yf9 hneg);go_wp2;go_ret;exact⟨by rw[l.o];first | done | rfl,B.o⟩
 have l:=un (show ob=false by rw[<-v.o];exact yf8 u);have h1:¬((o:Int)=(r:Int)):=by rw[U.o,V.o];omega
 have h2:¬o=r:=by rw[U.o,V.o];exact u
 clear u;go_wp2;go_ret;exact⟨by rw[l.o];first | done | rfl,z.o⟩
end Ct
def Rt.zero_is(g:Bool)(A:OA)(m c:Nat)(D:OA)(d a:Nat)(q:Rat)(w:World)(h:RatS w g (A,m,c) (D,d,a) q)(b:Bool)(f:zr q=b) :
  Calls prog 74 #[.agg #[g,(A,m,c),(D,d,a)]] w λe w'=>e=.returned b/\Below w w w':=by
 rw[<-f];exact Rt.zero g A m c D d a q w h
def ygb(h:q=0):zr q=true:=ZG h
def yfz(h:q≠0):zr q=false:=ZJ h
def yfy(g:Bool)(A:OA)(m c:Nat)(D:OA)(k i:Nat)(a:Rat)(g':Bool)(d:OA)(m' c':Nat)(f:OA)(l j:Nat)(b:Rat)(w:World)(h:RatS w g (A,m,c) (D,k,i) a)(n:RatS w g' (d,m',c') (f,l,j) b)(o:4*(mw a+mw b)+8<=LIM)(r:Bool)(hr:zA9 a b=r) :
  Calls prog 55 #[.agg #[g,(A,m,c),(D,k,i)],.agg #[g',(d,m',c'),(f,l,j)]] w λe w'=>e=.returned r/\Below w w w':=by
 rw[<-hr];exact Rt.same g A m c D k i a g' d m' c' f l j b w h n o
namespace Ct
open Pb (zPu)
def yfi(C:OA)(nc cc:Nat)(R:OA)(nr E:Nat)(cost:List Rat)(rows:List PRow)(X:OA)(nx cx:Nat)(x:List Rat)(Y:OA)(ny cy:Nat)(y:List Rat)(w:World)(hc:VecS w 0 (C,nc,cc) cost)(hr:RowsS w 0 (R,nr,E) rows)(hx:VecS w 0 (X,nx,cx) x)(hy:VecS w 0 (Y,ny,cy) y)(hg:Good nc nr cost rows)(zy:Sm y)(zx:Sm x)(hl:y.length=rows.length)(c3:x.length=cost.length) :
  Calls prog 39 #[.agg #[(C,nc,cc),(R,nr,E)],(X,nx,cx),(Y,ny,cy)] w λe w'=>e=.returned (.bool (ydZ nc cost rows x y))/\Below w w w':=by
 have cs:=hx.len;have ct:=hc.len;have en:nc=nx:=ω;subst en;have bp:=hr.len;have c4:=hy.len;have en:nr=ny:=ω;subst en;refine μ4 hl hg zy zx λHL HG ZY ZX=>?_;generalize hob:ydZ nc cost rows x y=ob;refine μ6 hob cs ct bp (show(sv nc y rows).length=nc from yee hg.rw_) (show ∀q∈sv nc y rows,mw q<=100000000 from yeT hg.rw_ zy (by rw[<-bp];exact hg.hr)) λbb b8 cP aI b7 cV=>?_;have dI:nc<=9223372036854775807:=Zf hg.hc δ;have dJ:nr<=9223372036854775807:=Zf hg.hr δ;clear hl hg zy zx c3 hob cs ct bp c4;obtain⟨W,hW⟩:∃W,(w.alloc (.cells #[(C,nc,cc),(R,nr,E)] 33))=W:=⟨_,rfl⟩
 refine μ6 (show θ W w.heap.size #[(C,nc,cc),(R,nr,E)] 33by rw[<-hW];exact zam σ) (show Below w w W by rw[<-hW];exact zae w _) (show VecS W 0 (C,nc,cc) cost by rw[<-hW];exact(hc).alloc _) (show RowsS W 0 (R,nr,E) rows by rw[<-hW];exact(hr).alloc _) (show VecS W 0 (X,nc,cx) x by rw[<-hW];exact(hx).alloc _) (show VecS W 0 (Y,nr,cy) y by rw[<-hW];exact(hy).alloc _) λcg BB HC HR HX HY=>?_;obtain⟨dR,dV,dS,dO⟩:=bc2 cg.o;clear hc hr hx hy;go_enter func39,ntmps39;go_wp2_with fail
 clear hW;with_reducible refine(yeN C nc cc R nr E cost rows Y nr cy y _ HC.o HR.o HY.o HL.o HG.o.hr (Zf HG.o.hc δ) HG.o.rw_ ZY.o).mono ?_
 rintro e w1 ⟨S2,ns2,cs2,g2,A2,m2,c2,D2,md2,cd2,rfl,hv,hn,hb⟩;have ap:=(hb).alloc (hb).size (.cells #[g2,(A2,m2,c2),(D2,md2,cd2)] 62);refine μ7 (zad ap cg.o) (HC.o.below ap) (HR.o.below ap) (HX.o.below ap) (HY.o.below ap) (show VecS (w1.alloc (.cells #[g2,(A2,m2,c2),(D2,md2,cd2)] 62)) 0 (S2,ns2,cs2) (sv nc y rows)from((hv.base (Zb _))).alloc _) (BB.o.trans ((ap).mono BB.o.size)) λbR cM cJ a5 cK HV aZ=>?_;obtain⟨dP,dT,dQ,dU⟩:=bc2 bR.o;clear hv hn hb;obtain rfl:nc=ns2:=by rw[HV.o.len,b7.o]
 go_wp2
 go_loopw [34] (λi wr=>∃k:Nat,i=.int .i64 k/\k<=nc/\Below (w1.alloc (.cells #[g2,(A2,m2,c2),(D2,md2,cd2)] 62)).heap.size (w1.alloc (.cells #[g2,(A2,m2,c2),(D2,md2,cd2)] 62)) wr/\(∀j,j<k->el x j=0\/el (sv nc y rows) j=el cost j))
  (λi _=>nc-(intOf i).toNat)
 case atStart=>exact⟨0,rfl,Zb _,Zl _ _,λj hj=>ω⟩
 obtain⟨k,rfl,hk,d,hT⟩:=hrel;have HT:=un hT;clear hT;by_cases L:k<nc
 ·obtain⟨a,ha⟩:∃a,x[k]? = some a:=⟨x[k]'(by rw[<-b8.o];exact L),Ze _⟩
  obtain⟨s,hs⟩:∃s,(sv nc y rows)[k]? = some s:=⟨(sv nc y rows)[k]'(by rw[b7.o];exact L),Ze _⟩
  obtain⟨t,aQ⟩:∃t,cost[k]? = some t:=⟨cost[k]'(by rw[<-cP.o];exact L),Ze _⟩
  obtain⟨l,rfl,dE,dF⟩:=(a5.o).has ω;obtain⟨f,rfl,dC,dD⟩:=(HV.o).has ω;obtain⟨bc,rfl,dA,dB⟩:=(cM.o).has ω;obtain⟨J,F,M,H,G,N,I,k0,k1,k2,cj⟩:=(a5.o.below d).at_ ha;obtain⟨gs,T,ms,ad,V,al,ac,l0,l1,l2,cm⟩:=(HV.o.below d).at_ hs;obtain⟨gc,P,mc,aa,U,ak,ab,o0,o1,o2,cl⟩:=(cM.o.below d).at_ aQ;refine μ9 (zad d bR.o) (cJ.o.below d) (a5.o.below d) (cK.o.below d) (show RatS wr J (F,M,H) (G,N,I) a from cj) (show RatS wr gs (T,ms,ad) (V,al,ac) s from cm) (show RatS wr gc (P,mc,aa) (U,ak,ab) t from cl) (show Bel (w1.alloc (.cells #[g2,(A2,m2,c2),(D2,md2,cd2)] 62)) wr from Bel.mk d) (aZ.o.trans ((d).mono aZ.o.size)) λO bX ay bP bd bf be HW o=>?_;obtain⟨df,_,dg,de⟩:=bc2 O.o;have dh:χ wr l (k*3) (.bool J):=k0;have bC:=zaa dh;have di:χ wr l (k*3+1) (F,M,H):=k1;have bE:=zaa di;have dj:χ wr l (k*3+2) (G,N,I):=k2;have bG:=zaa dj;have dk:χ wr f (k*3) (.bool gs):=l0;have bI:=zaa dk;have dm:χ wr f (k*3+1) (T,ms,ad):=l1;have bJ:=zaa dm;have dq:χ wr f (k*3+2) (V,al,ac):=l2;have bK:=zaa dq;have ds:χ wr bc (k*3) (.bool gc):=o0;have bL:=zaa ds;have dw:χ wr bc (k*3+1) (P,mc,aa):=o1;have bM:=zaa dw;have dx:χ wr bc (k*3+2) (U,ak,ab):=o2;have bN:=zaa dx;refine μ4 (znd ha) (znd hs) (znd aQ) (show 4*(mw s+mw t)+8<=LIM by have:=cV.o s (Zj hs);have:=HG.o.sc t (Zj aQ);have:=zaP;omega) λEA ES EC L1=>?_;clear d ha hs aQ k0 k1 k2 l0 l1 l2 o0 o1 o2 cj cm cl;have cY:(0:Int)<=(k:Int):=Zg _;have cZ:(k:Int)<(nc:Int):=ω;by_cases ah:a=0
  ·have aK:=un (ygb ah);have Z:=un (show ∀j,j<k+1->el x j=0\/el (sv nc y rows) j=el cost j from λj hj=>by by_cases e:j=k;(subst e;exact .inl (EA.o.trans ah));exact HT.o j ω);clear ah;go_wp2_with fail
   refine wp_region_noPanic ?_;refine wp_region_held_drew (S:=λw'=>χ w' w 0 (bc,nc,cc)/\χ w' w 1 (R,nr,E)/\χ w' l (k*3) (.bool J)/\χ w' l (k*3+1) (F,M,H)/\χ w' l (k*3+2) (G,N,I)/\χ w' f (k*3) (.bool gs)/\χ w' f (k*3+1) (T,ms,ad)/\χ w' f (k*3+2) (V,al,ac)/\χ w' bc (k*3) (.bool gc)/\χ w' bc (k*3+1) (P,mc,aa)/\χ w' bc (k*3+2) (U,ak,ab)) ξ kp λhHeld=>?_;refine zaw [0,1,2,3] ?_;repeat refine tkH hHeld ?_
   refine zao ?_;refine wpAnyH_ready (rs:=[4]) ξ σ ?_;refine AllReadyH.cons rfl (λK hK=>?_) AllReadyH.nil;go_simp;(go_at_call 74;(with_reducible refine(Rt.zero_is J F M H G N I a _ bd.o.drew true aK.o).mono ?_);rintro e v1 ⟨rfl,hb⟩;refine μ6 (zad hb O.o) (ay.o.drew.below hb) (bf.o.drew.below hb) (be.o.drew.below hb) (HW.o.drew.below hb) (o.o.trans ((It.bdrew0' hb).mono o.o.size)) λn an aY aX aF r=>?_;obtain⟨a0,_,a1,_⟩:=bc2 n.o;have v:=zab hb bC;have bD:=zaa v;have z:=zab hb bE;have bF:=zaa z;have B:=zab hb bG;have bH:=zaa B;have a3:=zab hb bI;have a4:=zab hb bJ;have a6:=zab hb bK;have a7:=zab hb bL;have a8:=zab hb bM;have a9:=zab hb bN;clear hb);(try go_wp2_with fail);refine hK.o _ _ kp λhHeld=>?_;clear hK K;try simp only[Act.put,pu1,pu2,pu3,pu4,pu5,pu6]
   refine zaw [5,6] ?_;repeat refine tkH hHeld ?_
   refine zao ?_;refine zaw [7,8,9,10,11,12,13,14,15,16,17] ?_;repeat refine skH hHeld ?_
   refine zao ?_;refine zaw [18] ?_;repeat refine tkH hHeld ?_
   refine zao ?_;refine wpAnyH_done ξ ?_ _;refine NoPanic.normal ?_
   all_goals
    go_wp2;go_roundw
    case rel=>exact⟨k+1,by go_num,ω,aF.o.b,Z.o⟩
    case measure=>simp[intOf];omega
  have aK:=un (yfz ah);by_cases ar:s=t
  ·have ba:=un (show zA9 s t=true from ZG ar);have Z:=un (show ∀j,j<k+1->el x j=0\/el (sv nc y rows) j=el cost j from λj hj=>by by_cases e:j=k;(subst e;exact .inr (by rw[ES.o,EC.o];exact ar));exact HT.o j ω);clear ah ar;go_wp2_with fail
   go_region_held3 (λw'=>χ w' w 0 (bc,nc,cc)/\χ w' w 1 (R,nr,E)/\χ w' l (k*3) (.bool J)/\χ w' l (k*3+1) (F,M,H)/\χ w' l (k*3+2) (G,N,I)/\χ w' f (k*3) (.bool gs)/\χ w' f (k*3+1) (T,ms,ad)/\χ w' f (k*3+2) (V,al,ac)/\χ w' bc (k*3) (.bool gc)/\χ w' bc (k*3+1) (P,mc,aa)/\χ w' bc (k*3+2) (U,ak,ab))
    (((try go_split_ands);(try simp only[Xi]);(repeat' apply And.intro)<;>(repeat(first | with_reducible assumption | with_reducible refine cell_set ω ?_ | with_reducible refine cell_al ?_))))
    (first
     | (go_at_call 74;(with_reducible refine(Rt.zero_is J F M H G N I a _ bd.o.drew false aK.o).mono ?_);rintro e v1 ⟨rfl,hb⟩;refine μ6 (zad hb O.o) (ay.o.drew.below hb) (bf.o.drew.below hb) (be.o.drew.below hb) (HW.o.drew.below hb) (o.o.trans ((It.bdrew0' hb).mono o.o.size)) λn an aY aX aF r=>?_;obtain⟨a0,_,a1,_⟩:=bc2 n.o;have v:=zab hb bC;have bD:=zaa v;have z:=zab hb bE;have bF:=zaa z;have B:=zab hb bG;have bH:=zaa B;have a3:=zab hb bI;have a4:=zab hb bJ;have a6:=zab hb bK;have a7:=zab hb bL;have a8:=zab hb bM;have a9:=zab hb bN;clear hb)
     | (go_at_call 55;(with_reducible refine(yfy gs T ms ad V al ac s gc P mc aa U ak ab t _ aY.o aX.o L1.o true ba.o).mono ?_);rintro e v2 ⟨rfl,hb⟩;refine μ4 (zad hb n.o) (an.o.below hb) (aF.o.below hb) (r.o.trans ((hb).mono r.o.size)) λaC bO cI aD=>?_;obtain⟨cG,_,cH,_⟩:=bc2 aC.o;have av:=zab hb v;have cA:=zaa av;have aw:=zab hb z;have cB:=zaa aw;have ax:=zab hb B;have cC:=zaa ax;have dn:=zab hb a3;have dp:=zab hb a4;have dr:=zab hb a6;have dt:=zab hb a7;have du:=zab hb a8;have dv:=zab hb a9;clear hb)
     | fail)
   all_goals
    go_wp2;go_roundw
    case rel=>exact⟨k+1,by go_num,ω,cI.o.b,Z.o⟩
    case measure=>simp[intOf];omega
  have ba:=un (show zA9 s t=false from ZJ ar);have az:=un (show ob=false by rw[<-bb.o];exact yeI L (by rw[EA.o];exact ah) (by rw[ES.o,EC.o];exact ar));clear ah ar;go_wp2_with fail
  go_region_held3 (λw'=>χ w' w 0 (bc,nc,cc)/\χ w' w 1 (R,nr,E)/\χ w' l (k*3) (.bool J)/\χ w' l (k*3+1) (F,M,H)/\χ w' l (k*3+2) (G,N,I)/\χ w' f (k*3) (.bool gs)/\χ w' f (k*3+1) (T,ms,ad)/\χ w' f (k*3+2) (V,al,ac)/\χ w' bc (k*3) (.bool gc)/\χ w' bc (k*3+1) (P,mc,aa)/\χ w' bc (k*3+2) (U,ak,ab))
   (((try go_split_ands);(try simp only[Xi]);(repeat' apply And.intro)<;>(repeat(first | with_reducible assumption | with_reducible refine cell_set ω ?_ | with_reducible refine cell_al ?_))))
   (first
    | (go_at_call 74;(with_reducible refine(Rt.zero_is J F M H G N I a _ bd.o.drew false aK.o).mono ?_);rintro e v1 ⟨rfl,hb⟩;refine μ6 (zad hb O.o) (ay.o.drew.below hb) (bf.o.drew.below hb) (be.o.drew.below hb) (HW.o.drew.below hb) (o.o.trans ((It.bdrew0' hb).mono o.o.size)) λn an aY aX aF r=>?_;obtain⟨a0,_,a1,_⟩:=bc2 n.o;have v:=zab hb bC;have bD:=zaa v;have z:=zab hb bE;have bF:=zaa z;have B:=zab hb bG;have bH:=zaa B;have a3:=zab hb bI;have a4:=zab hb bJ;have a6:=zab hb bK;have a7:=zab hb bL;have a8:=zab hb bM;have a9:=zab hb bN;clear hb)
    | (go_at_call 55;(with_reducible refine(yfy gs T ms ad V al ac s gc P mc aa U ak ab t _ aY.o aX.o L1.o false ba.o).mono ?_);rintro e v2 ⟨rfl,hb⟩;refine μ4 (zad hb n.o) (an.o.below hb) (aF.o.below hb) (r.o.trans ((hb).mono r.o.size)) λaC bO cI aD=>?_;obtain⟨cG,_,cH,_⟩:=bc2 aC.o;have av:=zab hb v;have cA:=zaa av;have aw:=zab hb z;have cB:=zaa aw;have ax:=zab hb B;have cC:=zaa ax;have dn:=zab hb a3;have dp:=zab hb a4;have dr:=zab hb a6;have dt:=zab hb a7;have du:=zab hb a8;have dv:=zab hb a9;clear hb)
    | fail)
  all_goals
   go_wp2;go_ret;exact⟨by rw[az.o];first | done | rfl,aD.o⟩
 obtain rfl:nc=k:=ω;refine μ6 HT.o (zad d bR.o) (cJ.o.below d) (a5.o.below d) (cK.o.below d) (aZ.o.trans ((d).mono aZ.o.size)) λH1 O bX ay bP o=>?_;obtain⟨df,_,dg,de⟩:=bc2 O.o;clear d;go_wp2
 go_loopw [60] (λi wz=>∃k:Nat,i=.int .i64 k/\k<=nr/\Below wr.heap.size wr wz/\(∀j,j<k->zdp (rows.getD j default) x=0\/el y j=0))
  (λi _=>nr-(intOf i).toNat)
 case atStart=>exact⟨0,rfl,Zb _,Zl _ _,λj hj=>ω⟩
 rename World=>wz
 obtain⟨k,rfl,hk,d,co⟩:=hrel;have bh:=un co;clear co;by_cases L:k<nr
 ·obtain⟨p,hp⟩:∃p,rows[k]? = some p:=⟨rows[k]'(by rw[<-aI.o];exact L),Ze _⟩
  obtain⟨q,hq⟩:∃q,y[k]? = some q:=⟨y[k]'(by rw[HL.o,<-aI.o];exact L),Ze _⟩
  obtain⟨b,rfl,dy,dz⟩:=(bX.o).has ω;obtain⟨by_,rfl,dG,dH⟩:=(bP.o).has ω;obtain⟨Q,nq,cq,g,A,m,c,D,md,cd,k0,k1,k2,k3,k4,br,cu⟩:=(bX.o.below d).at_ hp;obtain⟨gb,Ab,mb,cb,Db,aV,aM,l0,l1,l2,ck⟩:=(bP.o.below d).at_ hq;refine μ3 (HG.o.rw_ p (Zj hp)) (zfC hp) (znd hq) λaJ EP EQ=>?_;obtain rfl:nc=nq:=by rw[br.len,aJ.o.1]
  generalize hkd:p.kind=kd at k1;refine μ8 hkd (zad d O.o) (ay.o.below d) (show RatS wz gb (Ab,mb,cb) (Db,aV,aM) q from ck) (show VecS wz 0 (Q,nc,cq) p.coef from br) (show RatS wz g (A,m,c) (D,md,cd) p.rhs from cu) (show Bel wr wz from Bel.mk d) (o.o.trans ((d).mono o.o.size)) λcO n an cR cS cQ cT r=>?_;obtain⟨a0,_,a1,_⟩:=bc2 n.o;have v:χ wz by_ (k*3) (.bool gb):=l0;have bD:=zaa v;have z:χ wz by_ (k*3+1) (Ab,mb,cb):=l1;have bF:=zaa z;have B:χ wz by_ (k*3+2) (Db,aV,aM):=l2;have bH:=zaa B;clear d hp hq br cu ck hkd l0 l1 l2;have cY:(0:Int)<=(k:Int):=Zg _;have cZ:(k:Int)<(nr:Int):=ω;have u:=zae wz (.cells #[(Q,nc,cq),.int .i64 kd,g,(A,m,c),(D,md,cd)] 101);refine μ7 (zad u n.o) (an.o.below u) (cR.o.below u) (cS.o.below u) (cQ.o.below u) (cT.o.below u) (r.o.trans ((u).mono r.o.size)) λaC bO dd db da dc aD=>?_;obtain⟨cG,_,cH,_⟩:=bc2 aC.o;have av:=zab u v;have cA:=zaa av;have aw:=zab u z;have cB:=zaa aw;have ax:=zab u B;have cC:=zaa ax;go_wp2_with fail
  with_reducible refine(Pb.over Q nc cq g A m c D md cd kd p cO.o X nc cx x _ db.o da.o bO.o (by rw[aJ.o.1];exact b8.o) (Zf HG.o.hc δ) aJ.o.2.1 aJ.o.2.2 ZX.o).mono ?_
  rintro e v1 ⟨g5,A5,m5,c5,D5,md5,cd5,rfl,hn,hb⟩;have aq:=(hb).alloc (hb).size (.cells #[g5,(A5,m5,c5),(D5,md5,cd5)] 62);refine μ5 (dd.o.below aq) (dc.o.below aq) (show RatS (v1.alloc (.cells #[g5,(A5,m5,c5),(D5,md5,cd5)] 62)) g5 (A5,m5,c5) (D5,md5,cd5) (zdp p x)from(hn).alloc _) (aD.o.trans ((aq).mono aD.o.size)) (zal v1 #[g5,(A5,m5,c5),(D5,md5,cd5)] 62) λcF cD HO a2 dl=>?_;obtain⟨dW,_,dX,_,dY,_⟩:=bc3 dl.o;have bS:=zab aq av;have dL:=zaa bS;have bT:=zab aq aw;have dM:=zaa bT;have bU:=zab aq ax;have dN:=zaa bU;clear hn hb;go_wp2_with fail
  by_cases ai:zdp p x=0
  ·have bk:=un (ygb ai);have Z:=un (show ∀j,j<k+1->zdp (rows.getD j default) x=0\/el y j=0 from λj hj=>by by_cases e:j=k;(subst e;exact .inl (by rw[EP.o];exact ai));exact bh.o j ω);clear ai;with_reducible refine(Rt.zero_is g5 A5 m5 c5 D5 md5 cd5 (zdp p x) _ HO.o true bk.o).mono ?_
   rintro e v2 ⟨rfl,hb⟩;refine μ3 (cF.o.below hb) (cD.o.below hb) (a2.o.trans ((hb).mono a2.o.size)) λbQ aW aE=>?_;have bV:=zab hb bS;have c7:=zaa bV;have bW:=zab hb bT;have c8:=zaa bW;have bY:=zab hb bU;have c9:=zaa bY;clear hb;go_wp2;go_roundw
   case rel=>exact⟨k+1,by go_num,ω,aW.o.b,Z.o⟩
   case measure=>simp[intOf];omega
  have bk:=un (yfz ai);with_reducible refine(Rt.zero_is g5 A5 m5 c5 D5 md5 cd5 (zdp p x) _ HO.o false bk.o).mono ?_
  rintro e v2 ⟨rfl,hb⟩;refine μ3 (cF.o.below hb) (cD.o.below hb) (a2.o.trans ((hb).mono a2.o.size)) λbQ aW aE=>?_;have bV:=zab hb bS;have c7:=zaa bV;have bW:=zab hb bT;have c8:=zaa bW;have bY:=zab hb bU;have c9:=zaa bY;clear hb;go_wp2_with fail
  by_cases au:q=0
  ·have bl:=un (ygb au);have Z:=un (show ∀j,j<k+1->zdp (rows.getD j default) x=0\/el y j=0 from λj hj=>by by_cases e:j=k;(subst e;exact .inr (EQ.o.trans au));exact bh.o j ω);clear ai au;with_reducible refine(Rt.zero_is gb Ab mb cb Db aV aM q _ bQ.o true bl.o).mono ?_
   rintro e v3 ⟨rfl,hb⟩;have cE:=un (aW.o.below hb);have cL:=un (aE.o.trans ((hb).mono aE.o.size));clear hb;go_wp2;go_roundw
   case rel=>exact⟨k+1,by go_num,ω,cE.o.b,Z.o⟩
   case measure=>simp[intOf];omega
  have bl:=un (yfz au);have az:=un (show ob=false by rw[<-bb.o];exact yeJ (k:=k) (by rw[<-aI.o];exact L) (by rw[EP.o];exact ai) (by rw[EQ.o];exact au));clear ai au;with_reducible refine(Rt.zero_is gb Ab mb cb Db aV aM q _ bQ.o false bl.o).mono ?_
  rintro e v3 ⟨rfl,hb⟩;have cE:=un (aW.o.below hb);have cL:=un (aE.o.trans ((hb).mono aE.o.size));clear hb;go_wp2;go_ret;exact⟨by rw[az.o];first | done | rfl,cL.o⟩
 have c1:k=nr:=ω;refine μ3 (zad d O.o) (ay.o.below d) (o.o.trans ((d).mono o.o.size)) λn an r=>?_;obtain⟨a0,_,a1,_⟩:=bc2 n.o;clear d;have az:=un (show ob=true by rw[<-bb.o];exact yeL H1.o (by have:=bh.o;rw[c1,aI.o]at this;exact this));go_wp2;go_ret;exact⟨by rw[az.o];first | done | rfl,r.o⟩
def slack(C:OA)(nc cc:Nat)(R:OA)(nr b:Nat)(cost:List Rat)(rows:List PRow)(X:OA)(g d:Nat)(x:List Rat)(Y:OA)(i f:Nat)(y:List Rat)(w:World)(hc:VecS w 0 (C,nc,cc) cost)(hr:RowsS w 0 (R,nr,b) rows)(o:VecS w 0 (X,g,d) x)(r:VecS w 0 (Y,i,f) y)(n:y.length=rows.length)(hg:Good nc nr cost rows)(zy:Sm y)(zx:Sm x)(l:x.length=cost.length)(h1:∀(j:Nat) (a s c:Rat),x[j]? = some a->(sv nc y rows)[j]? = some s->cost[j]? = some c->a=0\/s=c)(m:∀(k:Nat) (p:PRow) (q:Rat),rows[k]? = some p->y[k]? = some q->zdp p x=0\/q=0) :
  Calls prog 39 #[.agg #[(C,nc,cc),(R,nr,b)],(X,g,d),(Y,i,f)] w λe w'=>e=.returned true/\Below w w w':=by
 have h:=yfi C nc cc R nr b cost rows X g d x Y i f y w hc hr o r hg zy zx n l;rw[yeL (λj hj=>h1 j _ _ _ (zaH (by rw[l,<-hc.len];exact hj)) (zaH (by rw[yee hg.rw_];exact hj)) (zaH (by rw[<-hc.len];exact hj))) (λk hk=>m k _ _ (zaO hk) (zaH ω))]at h;exact h
end Ct
open Ct (yeC)
def yeZ:List Rat:=rats [1,1]
def yeY:List PRow:=[⟨rats [1,2],2,((4:Int):Rat)⟩,⟨rats [3,1],1,((9:Int):Rat)⟩]
abbrev aQ:List Rat:=[Rat.divInt 1 4,((0:Int):Rat)]
abbrev aH:List Rat:=[Rat.divInt 1 2,((0:Int):Rat)]
def aCl:yeZ.length=2:=rfl
def aQl:aQ.length=yeY.length:=rfl
def aHl:aH.length=yeY.length:=rfl
def aNl:(rats [1,0]).length=yeY.length:=rfl
def aXl:yeZ.length=(rats [0,2]).length:=rfl
def yhX:(rats [0,2]).length=yeZ.length:=rfl
def a1:ydS 2 yeZ yeY aQ=true:=ξ
def a2:ydS 2 yeZ yeY (rats [1,0])=false:=ξ
def a3:sb aQ yeY=Rat.divInt 1 1:=ξ
def a4:ydS 2 yeZ yeY aH=true:=ξ
def a5:znD yeZ yeY (rats [0,2])=true:=ξ
def a6:sb aH yeY=dot yeZ (rats [0,2]):=ξ
def ye0{xs:List Int}(h:∀x∈xs,I64 x):Sm (rats xs):=by intro q a;obtain⟨x,b,rfl⟩:=ZH.1 a;exact Zf (zu9 x (h x b)) δ
def yfF:Good 2 2 yeZ yeY:=by
 have h1:I64 4:=by constructor<;>decide
 have b:I64 9:=by constructor<;>decide
 refine⟨δ,δ,ye0 δ,?_,?_⟩;intro p a;simp only[yeY,XI,Yr,or_false]at a;rcases a with rfl | rfl;exact⟨rfl,ye0 δ,Zf (zu9 4 h1) δ⟩;exact⟨rfl,ye0 δ,Zf (zu9 9 b) δ⟩;intro p a;simp only[yeY,XI,Yr,or_false]at a;rcases a with rfl | rfl<;>decide
def aSm(p d:Int)(f:I64 p)(e:I64 d)(b:d≠0):Sm [Rat.divInt p d,((0:Int):Rat)]:=by intro q a;simp only[XI,Yr,or_false]at a;rcases a with rfl | rfl;have h:=zhX p d b;have h1:=zdl (n:=p.natAbs) (by unfold B64;omega);have c:=zdl (n:=d.natAbs) (by unfold B64;omega);omega;exact Zf (zu9 0 (by constructor<;>decide)) δ
def Ct.bounds_nope(C:OA)(nc cc:Nat)(R:OA)(nr a:Nat)(cost:List Rat)(rows:List PRow)(Y:OA)(c b:Nat)(y:List Rat)(w:World)(hc:VecS w 0 (C,nc,cc) cost)(hr:RowsS w 0 (R,nr,a) rows)(g:VecS w 0 (Y,c,b) y)
  (f:y.length=rows.length) (hg:Good nc nr cost rows) (zy:Sm y) (e:cost.length=nc) (d:ydS nc cost rows y=false):Calls prog 38 #[.agg #[(C,nc,cc),(R,nr,a)],(Y,c,b)] w (zii w 0 false):=by
 have h:=yeC C nc cc R nr a cost rows Y c b y w hc hr g f hg zy e;rw[d]at h;exact h
def a7:mw (sb aQ yeY)<=1000000:=by rw[a3];have h:=zhX 1 1 δ;have h1:=zdl (n:=(1:Int).natAbs) δ;omega
def yg8:I64 1:=by constructor<;>decide
def yhY:(1:Int)≠0:=δ
def aQs:Sm aQ:=aSm 1 4 (by constructor<;>decide) (by constructor<;>decide) δ
def aHs:Sm aH:=aSm 1 2 (by constructor<;>decide) (by constructor<;>decide) δ
def aNs:Sm (rats [1,0]):=ye0 δ
def aXs:Sm (rats [0,2]):=ye0 δ
def yf5:List Rat:=rats [0]
def ye5:List PRow:=[⟨rats [1],1,((-1:Int):Rat)⟩]
def i1:zId ye5 (rats [-1])=true:=ξ
def i2:((scale ((-1:Int):Rat) (sv 1 (rats [-1]) ye5)).any λq=>decide (q<0))=false:=ξ
def i3:decide (0<sb (rats [-1]) ye5)=true:=ξ
def i4:0<sb (rats [-1]) ye5:=Xx i3
def iYl:(rats [-1]).length=ye5.length:=rfl
def iYs:Sm (rats [-1]):=ye0 δ
def yhP:Good 1 1 yf5 ye5:=by
 have h1:I64 (-1):=by constructor<;>decide
 refine⟨δ,δ,ye0 δ,?_,?_⟩;intro p a;simp only[ye5,XI,Yr,or_false]at a;subst a;exact⟨rfl,ye0 δ,Zf (zu9 (-1) h1) δ⟩;intro p a;simp only[ye5,XI,Yr,or_false]at a;subst a;decide
def s1:∀(j:Nat) (a s c:Rat),(rats [0,2])[j]? = some a->(sv 2 aH yeY)[j]? = some s->yeZ[j]? = some c->a=0\/s=c:=by
 intro j a s c h1 b d
 match j,h1,b,d with
 | 0,h1,_,_=>left;exact(Option.some.inj h1).symm
 | 1,_,b,d=>right;rw[<-Option.some.inj b,<-Option.some.inj d];kernel_rfl
 | j+2,h1,_,_=>cases h1
def s2:∀(k:Nat) (p:PRow) (q:Rat),yeY[k]? = some p->aH[k]? = some q->zdp p (rats [0,2])=0\/q=0:=by
 intro k p q h1 a
 match k,h1,a with
 | 0,h1,_=>left;rw[<-Option.some.inj h1];kernel_rfl
 | 1,_,a=>right;exact(Option.some.inj a).symm
 | k+2,h1,_=>cases h1
end Go.Proofs.YtbpjabgfcbjjmaaGreat
namespace Go.Proofs.YtbpjabgfcbjjmaaGreat
open Go.RowKit Am
attribute [local go_sem ↓] Go.wp_at_zero Go.wp_at_succ
namespace Lw
def awake(w:World):Calls Tryz.prog 8 #[] w λe w'=>e=.returned true/\Below w w w':=by
 have P:=un (Zl w.heap.size w);go_enter Tryz.func8,Tryz.ntmps8;go_wp2_with fail
 have bd:=zae w (.cells #[.int .i64 1,.int .i64 1] 3);have aA:=un (P.o.trans ((bd).mono P.o.size));refine(Vc.of w.heap.size 2 2 [1,1] _ rfl (zqg w (1) (1)) δ δ δ).mono ?_
 rintro e w1 ⟨S1,ns1,cs1,rfl,hv,hb⟩;have be:=(hb).alloc (hb).size (.cells #[.int .i64 1,.int .i64 2] 3);have aU:=un (show VecS (w1.alloc (.cells #[.int .i64 1,.int .i64 2] 3)) 0 (S1,ns1,cs1) (rats [1,1])from((hv.base (Zb _))).alloc _);have aB:=un (aA.o.trans ((be).mono aA.o.size));go_wp2_with fail
 refine(Vc.of w1.heap.size 2 2 [1,2] _ rfl (zqg w1 (1) (2)) δ δ δ).mono ?_
 rintro e w2 ⟨S2,ns2,cs2,rfl,hv,hb⟩;refine μ3 (aU.o.below hb) (show VecS w2 0 (S2,ns2,cs2) (rats [1,2])from(hv.base (Zb _))) (aB.o.trans ((hb).mono aB.o.size)) λc4 aY aC=>?_;go_wp2_with fail
 refine(Rt.int 4 δ δ _).mono ?_
 rintro e N ⟨g3,A3,m3,c3,D3,md3,cd3,rfl,hn,hb⟩;have K:=(hb).alloc (hb).size (.cells #[.int .i64 3,.int .i64 1] 3);refine μ4 (c4.o.below K) (aY.o.below K) (show RatS (N.alloc (.cells #[.int .i64 3,.int .i64 1] 3)) g3 (A3,m3,c3) (D3,md3,cd3) ((4:Int):Rat)from(hn).alloc _) (aC.o.trans ((K).mono aC.o.size)) λda cX aN aD=>?_;go_wp2_with fail
 refine(Vc.of N.heap.size 2 2 [3,1] _ rfl (zqg N (3) (1)) δ δ δ).mono ?_
 rintro e w4 ⟨S4,ns4,cs4,rfl,hv,hb⟩;refine μ5 (da.o.below hb) (cX.o.below hb) (aN.o.below hb) (show VecS w4 0 (S4,ns4,cs4) (rats [3,1])from(hv.base (Zb _))) (aD.o.trans ((hb).mono aD.o.size)) λdb cY c1 aZ aE=>?_;go_wp2_with fail
 refine(Rt.int 9 δ δ _).mono ?_
 rintro e b ⟨g5,A5,m5,c5,D5,md5,cd5,rfl,hn,hb⟩;refine μ6 (db.o.below hb) (cY.o.below hb) (c1.o.below hb) (aZ.o.below hb) (show RatS b g5 (A5,m5,c5) (D5,md5,cd5) ((9:Int):Rat)from hn) (aE.o.trans ((hb).mono aE.o.size)) λaG cZ c2 c0 aO aF=>?_;obtain rfl:2=ns1:=aG.o.len.symm;have T:=zae b (.cells #[(S2,ns2,cs2),.int .i64 2,g3,(A3,m3,c3),(D3,md3,cd3),(S4,ns4,cs4),.int .i64 1,g5,(A5,m5,c5),(D5,md5,cd5)] 101);refine μ3 (aG.o.below T) (show RowsS (b.alloc (.cells #[(S2,ns2,cs2),.int .i64 2,g3,(A3,m3,c3),(D3,md3,cd3),(S4,ns4,cs4),.int .i64 1,g5,(A5,m5,c5),(D5,md5,cd5)] 101)) 0 (.slice (some ⟨b,0,none⟩) 2 2) yeY from(zoX rfl (r:=⟨.slice S2 ns2 cs2,2,g3,.slice A3 m3 c3,.slice D3 md3 cd3⟩) (r':=⟨.slice S4 ns4 cs4,1,g5,.slice A5 m5 c5,.slice D5 md5 cd5⟩) (p:=⟨rats [1,2],2,((4:Int):Rat)⟩) (p':=⟨rats [3,1],1,((9:Int):Rat)⟩) ⟨cZ.o,rfl,c2.o⟩ ⟨c0.o,rfl,aO.o⟩)) (aF.o.trans ((T).mono aF.o.size)) λdc aS aI=>?_;have aL:=un (show VecS (b.alloc (.cells #[(S2,ns2,cs2),.int .i64 2,g3,(A3,m3,c3),(D3,md3,cd3),(S4,ns4,cs4),.int .i64 1,g5,(A5,m5,c5),(D5,md5,cd5)] 101)) 0 (.slice S1 2 cs1) yeZ from dc.o);have L:=zae (b.alloc (.cells #[(S2,ns2,cs2),.int .i64 2,g3,(A3,m3,c3),(D3,md3,cd3),(S4,ns4,cs4),.int .i64 1,g5,(A5,m5,c5),(D5,md5,cd5)] 101)) (.cells #[.slice S1 2 cs1,.slice (some ⟨b,0,none⟩) 2 2] 33);refine μ4 (aS.o.below L) (aL.o.below L) (aI.o.trans ((L).mono aI.o.size)) (show θ ((b.alloc (.cells #[(S2,ns2,cs2),.int .i64 2,g3,(A3,m3,c3),(D3,md3,cd3),(S4,ns4,cs4),.int .i64 1,g5,(A5,m5,c5),(D5,md5,cd5)] 101)).alloc (.cells #[.slice S1 2 cs1,.slice (some ⟨b,0,none⟩) 2 2] 33)) (b.heap.size+1) #[.slice S1 2 cs1,.slice (some ⟨b,0,none⟩) 2 2] 33from zam σ) λbs bt am a0=>?_;go_wp2_with fail
 refine(Rt.of 1 2 δ δ δ δ δ _).mono ?_
 rintro e u ⟨g6,A6,m6,c6,D6,md6,cd6,rfl,hn,hb⟩;have J:=(hb).alloc (hb).size (.cells #[g6,(A6,m6,c6),(D6,md6,cd6)] 62);refine μ6 (zad J a0.o) (bs.o.below J) (bt.o.below J) (show RatS (u.alloc (.cells #[g6,(A6,m6,c6),(D6,md6,cd6)] 62)) g6 (A6,m6,c6) (D6,md6,cd6) (Rat.divInt 1 2)from(hn).alloc _) (am.o.trans ((J).mono am.o.size)) (zal u #[g6,(A6,m6,c6),(D6,md6,cd6)] 62) λcx bv bu aP an cy=>?_;go_wp2_with fail
 refine(Rt.of 1 4 δ δ δ δ δ _).mono ?_
 rintro e o ⟨g7,A7,m7,c7,D7,md7,cd7,rfl,hn,hb⟩;have y:=(hb).alloc (hb).size (.cells #[g7,(A7,m7,c7),(D7,md7,cd7)] 62);refine μ8 (zad y cx.o) (zad y cy.o) (bv.o.below y) (bu.o.below y) (aP.o.below y) (show RatS (o.alloc (.cells #[g7,(A7,m7,c7),(D7,md7,cd7)] 62)) g7 (A7,m7,c7) (D7,md7,cd7) (Rat.divInt 1 4)from(hn).alloc _) (an.o.trans ((y).mono an.o.size)) (zal o #[g7,(A7,m7,c7),(D7,md7,cd7)] 62) λaz cO Z aa bJ aR ay cP=>?_;obtain⟨cI,_,cJ,_⟩:=bc2 az.o;obtain⟨cK,_,cL,_,cM,_⟩:=bc3 cP.o;go_wp2_with fail
 generalize hwa:(o.alloc (.cells #[g7,(A7,m7,c7),(D7,md7,cd7)] 62))=wa at *
 have v:=un (show ∀w',Below wa wa w'->((χ w' (b.heap.size+1) 0 (.slice S1 2 cs1)/\χ w' (b.heap.size+1) 1 (.slice (some ⟨b,0,none⟩) 2 2)/\χ w' o 0 (.bool g7)/\χ w' o 1 (A7,m7,c7)/\χ w' o 2 (D7,md7,cd7))/\Below wa wa w')from λw' h=>⟨⟨zab h cI,zab h cJ,zab h cK,zab h cL,zab h cM⟩,h⟩);go_cut[6,7] (λs6 s7 wr=>zcD wa s6 wr (sb aQ yeY)/\s7=true)
 case first =>
  go_region_held3 (λw'=>((χ w' (b.heap.size+1) 0 (.slice S1 2 cs1)/\χ w' (b.heap.size+1) 1 (.slice (some ⟨b,0,none⟩) 2 2)/\χ w' o 0 (.bool g7)/\χ w' o 1 (A7,m7,c7)/\χ w' o 2 (D7,md7,cd7))/\Below wa wa w'))
   ((refine v.o _ ?_;repeat(first | exact Zl _ _ | exact(by assumption:_/\Below _ _ _).2 | refine bdrew ?_ | refine al2 ?_ _ | refine set2 ?_ ω | refine zc1 ?_ (by assumption))))
   (first
    | (go_at_call 30;(refine(Rt.int 0 δ δ _).mono ?_);rintro e u1 ⟨g8,A8,m8,c8,D8,md8,cd8,rfl,hn,hb1⟩;have F:=hb1.size;(try simp at F);have W:wa.heap.size<=u1.heap.size:=ω;(try((first | (have a:=un (zbc (cs:=#[.bool false,.slice none 0 0,.slice none 0 0]) (t:=62) hb1 a.o)) | (have a:=un (zbc (cs:=#[.bool false,.slice none 0 0,.slice none 0 0]) (t:=62) hb1 (zal _ _ _))));have d:=zac a.o 0;have i:=zag a.o 0;have f:=zac a.o 1;have j:=zag a.o 1;have g:=zac a.o 2;have k:=zag a.o 2));have N8:=un hn)
    | (go_at_call 38;(refine(Ct.bounds_yes S1 2 cs1 (some ⟨b,0,none⟩) 2 2 yeZ yeY _ 2 2 aQ _ (aa.o.below (by assumption:_/\Below _ _ _).2) (Z.o.below (by assumption:_/\Below _ _ _).2) (by repeat(first | refine z6g rfl ?_ ?_ | refine z6g σ ?_ ?_ | refine VecS.alloc ?_ _ | exact N8.o | exact aR.o | refine RatS.alloc ?_ _ | refine RatS.below ?_ hb1 | refine RatS.drew ?_)) aQl yfF aQs aCl a1).mono ?_);rintro e u2 ⟨E,A,H,C,B,I,D,rfl,hn,hb2⟩;have G:=hb2.size;(try simp at G);have X:wa.heap.size<=u2.heap.size:=ω;(try((first | (have a:=un (zbc (cs:=#[.bool false,.slice none 0 0,.slice none 0 0]) (t:=62) hb2 a.o)) | (have a:=un (zbc (cs:=#[.bool false,.slice none 0 0,.slice none 0 0]) (t:=62) hb2 (zak a.o))) | (have a:=un (zbc (cs:=#[.bool false,.slice none 0 0,.slice none 0 0]) (t:=62) hb2 (zbD _ _ _ _))) | (have a:=un (zbc (cs:=#[.bool false,.slice none 0 0,.slice none 0 0]) (t:=62) hb2 (zak (zal _ _ _)))) | (have a:=un (zbc (cs:=#[.bool false,.slice none 0 0,.slice none 0 0]) (t:=62) hb2 (zal _ _ _))));have d:=zac a.o 0;have i:=zag a.o 0;have f:=zac a.o 1;have j:=zag a.o 1;have g:=zac a.o 2;have k:=zag a.o 2));have S:=un hn)
    | fail)
  all_goals
   go_wp2;go_meet
   case rel=>(have U:=(by assumption:_/\Below wa wa _).2;(first | (refine⟨zcD.of U ?_ a.o S.o,rfl⟩;omega) | (refine⟨zcD.al U ?_ S.o,rfl⟩;omega)))
 obtain⟨⟨z,E,A,H,C,B,I,D,rfl,c,bf,V,hi⟩,rfl⟩:=hcut;rename World=>wb
 refine μ7 (zad c az.o) (zad c cO.o) (Z.o.below c) (aa.o.below c) (bJ.o.below c) (show RatS wb E (A,H,C) (B,I,D) (sb aQ yeY)from hi) (ay.o.trans ((c).mono ay.o.size)) λO cF ae ab bK aJ ap=>?_;obtain⟨aw,_,ax,_⟩:=bc2 O.o;have a8:=un V;go_wp2_with fail
 have v:=un (show ∀w',Below wb wb w'->((χ w' (b.heap.size+1) 0 (.slice S1 2 cs1)/\χ w' (b.heap.size+1) 1 (.slice (some ⟨b,0,none⟩) 2 2))/\Below wb wb w')from λw' h=>⟨⟨zab h aw,zab h ax⟩,h⟩);go_cut[9] (λs9 wr=>s9=false/\Below wb wb wr)
 case first =>
  go_region_held3 (λw'=>((χ w' (b.heap.size+1) 0 (.slice S1 2 cs1)/\χ w' (b.heap.size+1) 1 (.slice (some ⟨b,0,none⟩) 2 2))/\Below wb wb w'))
   ((refine v.o _ ?_;repeat(first | exact Zl _ _ | exact(by assumption:_/\Below _ _ _).2 | refine bdrew ?_ | refine al2 ?_ _ | refine set2 ?_ ω | refine zc1 ?_ (by assumption))))
   (first
    | (go_at_call 37;(refine(Vc.of _ 2 2 [1,0] _ rfl (by repeat(first | exact zyt σ 1 0 | exact zyt rfl 1 0 | refine zuW ?_ | refine zAV ?_)) δ δ δ).mono ?_);rintro e u1 ⟨S10,ns10,cs10,rfl,hv,hb1⟩;have F:=hb1.size;(try simp at F);have W:wb.heap.size<=u1.heap.size:=ω;(try((first | (have a:=un (zbc (cs:=#[.bool false,.slice none 0 0,.slice none 0 0]) (t:=62) hb1 a.o)) | (have a:=un (zbc (cs:=#[.bool false,.slice none 0 0,.slice none 0 0]) (t:=62) hb1 (zak a.o))) | (have a:=un (zbc (cs:=#[.bool false,.slice none 0 0,.slice none 0 0]) (t:=62) hb1 (zbD _ _ _ _))) | (have a:=un (zbc (cs:=#[.bool false,.slice none 0 0,.slice none 0 0]) (t:=62) hb1 (zak (zal _ _ _)))) | (have a:=un (zbc (cs:=#[.bool false,.slice none 0 0,.slice none 0 0]) (t:=62) hb1 (zal _ _ _))));have d:=zac a.o 0;have i:=zag a.o 0;have f:=zac a.o 1;have j:=zag a.o 1;have g:=zac a.o 2;have k:=zag a.o 2));have a9:=un (hv.base (Zb _)))
    | (go_at_call 38;(refine(Ct.bounds_nope S1 2 cs1 (some ⟨b,0,none⟩) 2 2 yeZ yeY S10 ns10 cs10 (rats [1,0]) _ (ab.o.below (by assumption:_/\Below _ _ _).2) (ae.o.below (by assumption:_/\Below _ _ _).2) (by repeat(first | exact a9.o | refine VecS.alloc ?_ _ | refine VecS.drew ?_)) aNl yfF aNs aCl a2).mono ?_);rintro e u2 ⟨g19,A19,m19,c19,D19,md19,cd19,rfl,hn,hb2⟩;have G:=hb2.size;(try simp at G);have X:wb.heap.size<=u2.heap.size:=ω;(try((first | (have a:=un (zbc (cs:=#[.bool false,.slice none 0 0,.slice none 0 0]) (t:=62) hb2 a.o)) | (have a:=un (zbc (cs:=#[.bool false,.slice none 0 0,.slice none 0 0]) (t:=62) hb2 (zak a.o))) | (have a:=un (zbc (cs:=#[.bool false,.slice none 0 0,.slice none 0 0]) (t:=62) hb2 (zbD _ _ _ _))) | (have a:=un (zbc (cs:=#[.bool false,.slice none 0 0,.slice none 0 0]) (t:=62) hb2 (zak (zal _ _ _)))) | (have a:=un (zbc (cs:=#[.bool false,.slice none 0 0,.slice none 0 0]) (t:=62) hb2 (zal _ _ _))));have d:=zac a.o 0;have i:=zag a.o 0;have f:=zac a.o 1;have j:=zag a.o 1;have g:=zac a.o 2;have k:=zag a.o 2)))
    | fail)
  all_goals
   go_wp2;go_meet
   case rel=>exact⟨rfl,(by assumption:_/\Below wb wb _).2⟩
 obtain⟨rfl,c⟩:=hcut;rename World=>wc
 refine μ8 (zad c O.o) (zad c cF.o) (zad c a8.o) (ae.o.below c) (ab.o.below c) (bK.o.below c) (aJ.o.below c) (ap.o.trans ((c).mono ap.o.size)) λcA cB cQ bT cc bL b3 ar=>?_;go_wp2_with fail
 have q:=zae wc (.cells #[.int .i64 0] 3);refine μ8 (zad q cA.o) (zad q cB.o) (zad q cQ.o) (bT.o.below q) (cc.o.below q) (bL.o.below q) (b3.o.below q) (ar.o.trans ((q).mono ar.o.size)) λcC cz cN bU cd bM b4 au=>?_;refine(Vc.of wc.heap.size 1 1 [0] _ rfl (z6h wc (0)) δ δ δ).mono ?_
 rintro e M ⟨S11,ns11,cs11,rfl,hv,hb⟩;have s:=(hb).alloc (hb).size (.cells #[.int .i64 1] 3);refine μ9 (zad s cC.o) (zad s cz.o) (zad s cN.o) (bU.o.below s) (cd.o.below s) (bM.o.below s) (b4.o.below s) (show VecS (M.alloc (.cells #[.int .i64 1] 3)) 0 (S11,ns11,cs11) (rats [0])from((hv.base (Zb _))).alloc _) (au.o.trans ((s).mono au.o.size)) λcu cw bD bV ce bN b5 aV aq=>?_;go_wp2_with fail
 refine(Vc.of M.heap.size 1 1 [1] _ rfl (z6h M (1)) δ δ δ).mono ?_
 rintro e bp ⟨S12,ns12,cs12,rfl,hv,hb⟩;refine μ10 (zad hb cu.o) (zad hb cw.o) (zad hb bD.o) (bV.o.below hb) (ce.o.below hb) (bN.o.below hb) (b5.o.below hb) (aV.o.below hb) (show VecS bp 0 (S12,ns12,cs12) (rats [1])from(hv.base (Zb _))) (aq.o.trans ((hb).mono aq.o.size)) λcv cW cR bW cf bO b6 bG aW ak=>?_;go_wp2_with fail
 refine(Rt.int (-1) δ δ _).mono ?_
 rintro e x ⟨g13,A13,m13,c13,D13,md13,cd13,rfl,hn,hb⟩;refine μ11 (zad hb cv.o) (zad hb cW.o) (zad hb cR.o) (bW.o.below hb) (cf.o.below hb) (bO.o.below hb) (b6.o.below hb) (bG.o.below hb) (aW.o.below hb) (show RatS x g13 (A13,m13,c13) (D13,md13,cd13) ((-1:Int):Rat)from hn) (ak.o.trans ((hb).mono ak.o.size)) λcD cE cS bX cg bP b7 ag bC aM ao=>?_;obtain rfl:1=ns11:=ag.o.len.symm;have n:=zae x (.cells #[(S12,ns12,cs12),.int .i64 1,g13,(A13,m13,c13),(D13,md13,cd13)] 101);refine μ10 (zad n cD.o) (zad n cE.o) (zad n cS.o) (bX.o.below n) (cg.o.below n) (bP.o.below n) (b7.o.below n) (ag.o.below n) (show RowsS (x.alloc (.cells #[(S12,ns12,cs12),.int .i64 1,g13,(A13,m13,c13),(D13,md13,cd13)] 101)) 0 (.slice (some ⟨x,0,none⟩) 1 1) ye5 from(zMk rfl (r:=⟨.slice S12 ns12 cs12,1,g13,.slice A13 m13 c13,.slice D13 md13 cd13⟩) (p:=⟨rats [1],1,((-1:Int):Rat)⟩) ⟨bC.o,rfl,aM.o⟩)) (ao.o.trans ((n).mono ao.o.size)) λcG cH cV bY ch bQ b8 bH aT av=>?_;have l:=zae (x.alloc (.cells #[(S12,ns12,cs12),.int .i64 1,g13,(A13,m13,c13),(D13,md13,cd13)] 101)) (.cells #[.int .i64 (-1)] 3);refine μ10 (zad l cG.o) (zad l cH.o) (zad l cV.o) (bY.o.below l) (ch.o.below l) (bQ.o.below l) (b8.o.below l) (bH.o.below l) (aT.o.below l) (av.o.trans ((l).mono av.o.size)) λcU cT bE bZ ci bR b9 bA b1 ai=>?_;go_wp2_with fail
 refine(Vc.of (x.heap.size+1) 1 1 [-1] _ rfl (z6k σ (-1)) δ δ δ).mono ?_
 rintro e Y ⟨S14,ns14,cs14,rfl,hv,hb⟩;refine μ11 (zad hb cU.o) (zad hb cT.o) (zad hb bE.o) (bZ.o.below hb) (ci.o.below hb) (bR.o.below hb) (b9.o.below hb) (bA.o.below hb) (b1.o.below hb) (show VecS Y 0 (S14,ns14,cs14) (rats [-1])from(hv.base (Zb _))) (ai.o.trans ((hb).mono ai.o.size)) λck cn bF b0 cj bS ca bB b2 aX aj=>?_;go_wp2_with fail
 have aK:=un (show VecS Y 0 (.slice S11 1 cs11) yf5 from bB.o);refine(Ct.infeasible S11 1 cs11 (some ⟨x,0,none⟩) 1 1 yf5 ye5 S14 ns14 cs14 (rats [-1]) _ aK.o b2.o aX.o iYl yhP iYs i1 i2 i4).mono ?_
 rintro e m ⟨rfl,hb⟩;refine μ8 (zad hb ck.o) (zad hb cn.o) (zad hb bF.o) (b0.o.below hb) (cj.o.below hb) (bS.o.below hb) (ca.o.below hb) (aj.o.trans ((hb).mono aj.o.size)) λcl cm bI af ac ad cb ah=>?_;obtain⟨cp,_,cq,_⟩:=bc2 cl.o;obtain⟨cr,_,ct,_,co,_⟩:=bc3 cm.o;obtain⟨bw,_,bx,_,bz,_⟩:=bc3 bI.o;go_wp2_with fail
 have v:=un (show ∀w',Below m m w'->((χ w' (b.heap.size+1) 0 (.slice S1 2 cs1)/\χ w' (b.heap.size+1) 1 (.slice (some ⟨b,0,none⟩) 2 2)/\χ w' u 0 (.bool g6)/\χ w' u 1 (A6,m6,c6)/\χ w' u 2 (D6,md6,cd6)/\χ w' z 0 (.bool E)/\χ w' z 1 (A,H,C)/\χ w' z 2 (B,I,D))/\Below m m w')from λw' h=>⟨⟨zab h cp,zab h cq,zab h cr,zab h ct,zab h co,zab h bw,zab h bx,zab h bz⟩,h⟩)
 go_region_held3 (λw'=>((χ w' (b.heap.size+1) 0 (.slice S1 2 cs1)/\χ w' (b.heap.size+1) 1 (.slice (some ⟨b,0,none⟩) 2 2)/\χ w' u 0 (.bool g6)/\χ w' u 1 (A6,m6,c6)/\χ w' u 2 (D6,md6,cd6)/\χ w' z 0 (.bool E)/\χ w' z 1 (A,H,C)/\χ w' z 2 (B,I,D))/\Below m m w'))
  ((refine v.o _ ?_;repeat(first | exact Zl _ _ | exact(by assumption:_/\Below _ _ _).2 | refine bdrew ?_ | refine al2 ?_ _ | refine set2 ?_ ω | refine zc1 ?_ (by assumption))))
  (first
   | ((fail_if_success have bg:=Q.o);(go_at_call 37;(refine(Vc.of _ 2 2 [0,2] _ rfl (by repeat(first | exact zyt σ 0 2 | exact zyt rfl 0 2 | refine zuW ?_ | refine zAV ?_)) δ δ δ).mono ?_);rintro e u1 ⟨S20,ns20,cs20,rfl,hv,hb1⟩;have F:=hb1.size;(try simp at F);have W:m.heap.size<=u1.heap.size:=ω;(try((first | (have a:=un (zbc (cs:=#[.bool false,.slice none 0 0,.slice none 0 0]) (t:=62) hb1 a.o)) | (have a:=un (zbc (cs:=#[.bool false,.slice none 0 0,.slice none 0 0]) (t:=62) hb1 (zal _ _ _))));have d:=zac a.o 0;have i:=zag a.o 0;have f:=zac a.o 1;have j:=zag a.o 1;have g:=zac a.o 2;have k:=zag a.o 2));have Q:=un (hv.base (Zb _))))
   | ((fail_if_success have bg:=R.o);(go_at_call 30;(refine(Rt.int 0 δ δ _).mono ?_);rintro e u2 ⟨g21,A21,m21,c21,D21,md21,cd21,rfl,hn,hb2⟩;have G:=hb2.size;(try simp at G);have X:m.heap.size<=u2.heap.size:=ω;(try((first | (have a:=un (zbc (cs:=#[.bool false,.slice none 0 0,.slice none 0 0]) (t:=62) hb2 a.o)) | (have a:=un (zbc (cs:=#[.bool false,.slice none 0 0,.slice none 0 0]) (t:=62) hb2 (zal _ _ _))));have d:=zac a.o 0;have i:=zag a.o 0;have f:=zac a.o 1;have j:=zag a.o 1;have g:=zac a.o 2;have k:=zag a.o 2));have R:=un hn))
   | (go_at_call 14;(refine(Ct.optimal S1 2 cs1 (some ⟨b,0,none⟩) 2 2 yeZ yeY S20 ns20 cs20 (rats [0,2]) _ 2 2 aH _ (ac.o.below (by assumption:_/\Below _ _ _).2) (af.o.below (by assumption:_/\Below _ _ _).2) (by repeat(first | exact Q.o | refine VecS.alloc ?_ _ | refine VecS.drew ?_ | refine VecS.below ?_ hb2)) (by repeat(first | refine z6g rfl ?_ ?_ | refine z6g σ ?_ ?_ | refine VecS.alloc ?_ _ | exact R.o | exact ad.o | refine RatS.alloc ?_ _ | refine RatS.below ?_ hb2 | refine RatS.below ?_ hb1 | refine RatS.below ?_ hb2 | refine RatS.below ?_ hb1 | refine RatS.below ?_ hb2 | refine RatS.below ?_ hb1 | refine RatS.drew ?_)) aHl yfF aHs aXs aCl a4 a5 aXl a6).mono ?_);rintro e u3 ⟨rfl,hb3⟩;have bh:=hb3.size;(try simp at bh);(try((first | (have a:=un (zbc (cs:=#[.bool false,.slice none 0 0,.slice none 0 0]) (t:=62) hb3 a.o)) | (have a:=un (zbc (cs:=#[.bool false,.slice none 0 0,.slice none 0 0]) (t:=62) hb3 (zal _ _ _))));have d:=zac a.o 0;have i:=zag a.o 0;have f:=zac a.o 1;have j:=zag a.o 1;have g:=zac a.o 2;have k:=zag a.o 2)))
   | (go_at_call 18;(refine(z6u E A H C B I D (sb aQ yeY) 1 1 _ (cb.o.below (by assumption:_/\Below _ _ _).2) yhY yg8 yg8 a3 a7).mono ?_);rintro e u4 ⟨rfl,hb4⟩;have bi:=hb4.size;(try simp at bi);(try((first | (have a:=un (zbc (cs:=#[.bool false,.slice none 0 0,.slice none 0 0]) (t:=62) hb4 a.o)) | (have a:=un (zbc (cs:=#[.bool false,.slice none 0 0,.slice none 0 0]) (t:=62) hb4 (zal _ _ _))));have d:=zac a.o 0;have i:=zag a.o 0;have f:=zac a.o 1;have j:=zag a.o 1;have g:=zac a.o 2;have k:=zag a.o 2)))
   | (go_at_call 37;(refine(Vc.of _ 2 2 [0,2] _ rfl (by repeat(first | exact zyt σ 0 2 | exact zyt rfl 0 2 | refine zuW ?_ | refine zAV ?_)) δ δ δ).mono ?_);rintro e u5 ⟨S25,ns25,cs25,rfl,hv,hb5⟩;have bj:=hb5.size;(try simp at bj);(try((first | (have a:=un (zbc (cs:=#[.bool false,.slice none 0 0,.slice none 0 0]) (t:=62) hb5 a.o)) | (have a:=un (zbc (cs:=#[.bool false,.slice none 0 0,.slice none 0 0]) (t:=62) hb5 (zal _ _ _))));have d:=zac a.o 0;have i:=zag a.o 0;have f:=zac a.o 1;have j:=zag a.o 1;have g:=zac a.o 2;have k:=zag a.o 2));have ba:=un (hv.base (Zb _)))
   | (go_at_call 30;(refine(Rt.int 0 δ δ _).mono ?_);rintro e u6 ⟨g26,A26,m26,c26,D26,md26,cd26,rfl,hn,hb6⟩;have bk:=hb6.size;(try simp at bk);(try((first | (have a:=un (zbc (cs:=#[.bool false,.slice none 0 0,.slice none 0 0]) (t:=62) hb6 a.o)) | (have a:=un (zbc (cs:=#[.bool false,.slice none 0 0,.slice none 0 0]) (t:=62) hb6 (zal _ _ _))));have d:=zac a.o 0;have i:=zag a.o 0;have f:=zac a.o 1;have j:=zag a.o 1;have g:=zac a.o 2;have k:=zag a.o 2));have bb:=un hn)
   | (go_at_call 39;(refine(Ct.slack S1 2 cs1 (some ⟨b,0,none⟩) 2 2 yeZ yeY S25 ns25 cs25 (rats [0,2]) _ 2 2 aH _ (ac.o.below (by assumption:_/\Below _ _ _).2) (af.o.below (by assumption:_/\Below _ _ _).2) (by repeat(first | exact ba.o | refine VecS.alloc ?_ _ | refine VecS.drew ?_ | refine VecS.below ?_ hb6)) (by repeat(first | refine z6g rfl ?_ ?_ | refine z6g σ ?_ ?_ | refine VecS.alloc ?_ _ | exact bb.o | exact ad.o | refine RatS.alloc ?_ _ | refine RatS.below ?_ hb6 | refine RatS.below ?_ hb5 | refine RatS.below ?_ hb4 | refine RatS.below ?_ hb3 | refine RatS.below ?_ hb2 | refine RatS.below ?_ hb1 | refine RatS.drew ?_)) aHl yfF aHs aXs yhX s1 s2).mono ?_);rintro e u7 ⟨rfl,hb7⟩;have bl:=hb7.size;(try simp at bl);(try((first | (have a:=un (zbc (cs:=#[.bool false,.slice none 0 0,.slice none 0 0]) (t:=62) hb7 a.o)) | (have a:=un (zbc (cs:=#[.bool false,.slice none 0 0,.slice none 0 0]) (t:=62) hb7 (zal _ _ _))));have d:=zac a.o 0;have i:=zag a.o 0;have f:=zac a.o 1;have j:=zag a.o 1;have g:=zac a.o 2;have k:=zag a.o 2)))
   | fail)
 all_goals
  go_wp2;go_ret;exact⟨rfl,ah.o.trans (((by assumption:_/\Below m m _).2).mono ah.o.size)⟩
