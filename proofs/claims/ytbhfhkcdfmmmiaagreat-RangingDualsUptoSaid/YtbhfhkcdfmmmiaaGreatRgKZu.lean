/- Contracts and lemmas: C20 RgK RgM RgL. Conditions: as each says. -/
import Derived.Test.YtbhfhkcdfmmmiaaGreatRgFZu
import Derived.Test.YtbhfhkcdfmmmiaaGreatRgXZu
set_option linter.all false
set_option maxHeartbeats 4000000
set_option maxRecDepth 100000
namespace Go.Proofs.YtbhfhkcdfmmmiaaGreat
open Go.RowKit Am Go.Proofs.Tryz
variable {o:Int}{rows:List PRow}{X Y Z cost g:List Rat}{B S m nC:Nat}
theorem Good1.good{nc nr:Nat}(h:Good1 nc nr cost rows):Good nc nr cost rows :=
 ⟨Zc h.hc (by decide),h.hr,fun q b=>Zc (h.sc q b) (by decide),fun p a=>⟨(h.rw_ p a).1,fun q b=>Zc ((h.rw_ p a).2.1 q b) (by decide),Zc (h.rw_ p a).2.2 (by decide)⟩,h.kd⟩
theorem yfb{ps:List (Int × Int)}(h:∀q∈frs ps,mw q≤1):Sm (frs ps):=by grind
theorem Sol.sx(h:Sol nC m cost rows 1 o X Y Z)(hm:m≤4):∀q∈X,mw q≤1000000:=fun q a=>Zc (h.zx q a) (zVF m hm)
theorem Sol.sy(h:Sol nC m cost rows 1 o X Y Z)(hm:m≤4):∀q∈Y,mw q≤1000000:=fun q a=>Zc (h.zy q a) (zVF m hm)
theorem Sol.sz(h:Sol nC m cost rows 1 o X Y Z)(hm:m≤4):∀q∈Z,mw q≤1000002:=fun q a=>Zc (h.zz q a) (by have:=zVF m hm;omega)
theorem yZL{y:List Rat}(h:Rows nC rows)(hc:cost.length=nC)(c:yep nC cost rows y=true):Signs rows.length rows y∧∀j,j<nC→zai rows.length (fun i=>el y i*el (rows.getD i default).coef j)≤el cost j:=by
 obtain⟨f,d⟩:=yei c;obtain⟨h1,b⟩:=(ydU h hc).1 d;refine⟨⟨f,fun k hk e=>?_,fun k hk e=>?_⟩,h1⟩
 ·have:=b k hk;unfold zIc at this;rw[Ya,Y8,YD,Zs e]at this;grind
 ·have:=b k hk;unfold zIc at this;rw[Ya,Y8,YD (x:=decide ((rows.getD k default).kind=2)),Zs e]at this;grind
theorem yZM{lo hi:Option Rat}{x:Rat}(h1:∀a,lo=some a→a≤x)(b:∀a,hi=some a→x≤a):yJO lo.isSome hi.isSome (lo.getD 0) (hi.getD 0) x=true:=by
 unfold yJO;cases lo<;>cases hi<;>simp_all [Rat.not_lt]
theorem yZS{e:Nat}(c:e<2)(hg:GoodS S nC m g rows)(d:g.length=nC)(f:rows.length=m){q:Option Rat}(h:yVC nC g rows B e=.val q):mw (q.getD 0)≤8000002000:=by
 subst f;have G:=hg.sg (ySK c);have b:(scale (sgE e) g).length=nC:=by rw[zfH,d]
 unfold yVC at h;generalize hso:yJw nC (scale (sgE e) g) rows B=o at h;unfold yJw at hso;cases o with
 | spent n=>cases h
 | none cols n=>cases h
 | falls cols j n=>injection h with h;grind[Nat.le_trans,mw0]
 | best cols n =>
  injection h with h;subst h;have i:=yLR G b rfl hso;exact zDI (fun q a=>Zc (G.sc q a) G.hS) (fun q a=>Zc (i q a) G.sb) (by rw[b];have:=hg.hc;omega)
theorem yZT(hg:GoodS S nC m g rows)(c:g.length=nC)(d:rows.length=m){lo hi:Option Rat}(h:yJF nC g rows B=.ends lo hi):mw (lo.getD 0)≤8000002000∧mw (hi.getD 0)≤8000002000:=by
 have f:=fun q=>yZS (B:=B) (e:=0) (q:=q) (by decide) hg c d
 have i:=fun q=>yZS (B:=B) (e:=1) (q:=q) (by decide) hg c d
 unfold yJF at h;generalize yVC nC g rows B 0=a at *
 generalize yVC nC g rows B 1=b at *
 cases a with
 | spent=>cases h
 | none=>cases h
 | val p =>
  cases b with
  | spent=>cases h
  | none=>cases h
  | val q =>
   injection h with h1 h2;subst h1 h2;refine⟨f _ rfl,?_⟩;have:=i q rfl;cases q with
   | none=>exact this
   | some q=>grind[zhY]
structure Du22 (nC m:Nat) (cost:List Rat) (rows:List PRow) (X Y:List Rat):Prop where
  sx:Sm X
  sy:Sm Y
  lx:X.length=nC
  ly:Y.length=m
  fit:znD cost rows X=true
  bnd:yep nC cost rows Y=true
  val:sb Y rows=dot cost X
  s2:∀k cols nn,zSA (nC+cnt rows m) m (zc3 rows) (zg8 rows) (zjD cost rows) 4000=.best cols nn→GoodS 61 (yLD rows).length (nC+1) (yJH (yLD rows) k) (yJL (yLD rows) rows cost++[yJI (yLD rows) rows (dot cost (yJA nC rows cols))])
  range:∀k,k<m→∃lo hi:Option Rat,yWU nC cost rows k 4000=.range (.ends lo hi)∧mw (lo.getD 0)≤8000002000∧mw (hi.getD 0)≤8000002000∧∀y,yep nC cost rows y=true→sb y rows=dot cost X→yJO lo.isSome hi.isSome (lo.getD 0) (hi.getD 0) (el y k)=true
theorem yZR(hg:Good1 nC m cost rows)(a:cost.length=nC)(E:rows.length=m)(t:oO (sol nC m cost rows)=1) :
  Du22 nC m cost rows (oX nC m rows (sol nC m cost rows)) (oY nC m cost rows (sol nC m cost rows)):=by
 subst E;have u:=hg.hr;have L:=zVF _ u;have i:Rows nC rows:=fun p d=>⟨(hg.rw_ p d).1,fun q b=>Zc ((hg.rw_ p d).2.1 q b) (by decide),Zc (hg.rw_ p d).2.2 (by decide)⟩
 have A:Am.Ends rows.length (nC+cnt rows rows.length) (zc3 rows) (zg8 rows) (zjD cost rows) (sol nC rows.length cost rows):=(yxd hg.toS hg.few a rfl hg.few).1;have hS:=z6W hg.toS hg.few a rfl;have x:zSA (nC+cnt rows rows.length) rows.length (zc3 rows) (zg8 rows) (zjD cost rows) 4000=sol nC rows.length cost rows:=rfl;generalize sol nC rows.length cost rows=o at *
 cases A with
 | none h f s v=>exact absurd t (show ¬(2:Int)=1 by decide)
 | falls h s=>exact absurd t (show ¬(3:Int)=1 by decide)
 | @best cols n h s =>
  have c:mw (dot cost (yJA nC rows cols))≤61:=Zc (yBH hg.toS a rfl h.1) (yZH _ u);rcases hS.shows with ⟨_,⟨sg,lx,D,j,l⟩,_⟩ | ⟨e,_⟩ | ⟨e,_⟩
  ·have B:=yw3 i a rfl sg j;have C:yep nC cost rows (oY nC rows.length cost rows (.best cols n))=true:=by unfold yep;rw[Zs sg.ly,B];rfl
   refine⟨fun q b=>Zc (hS.zx q b) (by omega),fun q b=>Zc (hS.zy q b) (by omega),lx,sg.ly,D,C,l.symm,fun k K nn e=>?_,fun k hk=>?_⟩
   ·rw[x]at e;injection e with e1;subst e1;exact yZy hg rfl c k
   ·have F:yWU nC cost rows k 4000=.range (yJF (yLD rows).length (yJH (yLD rows) k) (yJL (yLD rows) rows cost++[yJI (yLD rows) rows (dot cost (yJA nC rows cols))]) 4000):=by
     unfold yWU yJw;rw[x];rfl
    have G:=yZy hg rfl c k;obtain⟨lo,hi,e,_,_⟩:=yZB hg a rfl c sg j l.symm hk;rw[F];have r:=yZT G (by simp[yJH]) (by rw[Zk,yKO,a];rfl) e;refine⟨lo,hi,by rw[e],r.1,r.2,fun y H I=>?_⟩;obtain⟨ys,J⟩:=yZL i a H;obtain⟨O,N,g,h1,z⟩:=yZB hg a rfl c ys J I hk;rw[e]at g;injection g with e1 e2;subst e1 e2;exact yZM h1 z
  ·exact absurd e (show ¬(1:Int)=2 by decide)
  omega
open Ct (yxe)
attribute [local go_sem ↓] Go.wp_at_zero Go.wp_at_succ
def yZK (nC:Nat) (cost:List Rat) (rows:List PRow) (v:Rat) (y:List Rat):Bool:=yep nC cost rows y&&decide (sb y rows=v)
namespace Ra
theorem right(C:OA)(nC d:Nat)(R:OA)(m f:Nat)(cost:List Rat)(rows:List PRow)(g:Bool)(A:OA)(k c:Nat)(D:OA)(j i:Nat)(v:Rat)(Y:OA)(n l:Nat)(y:List Rat)(w:World)(hc:VecS w 0 (C,nC,d) cost)(hr:RowsS w 0 (R,m,f) rows)(M:RatS w g (A,k,c) (D,j,i) v)(N:VecS w 0 (Y,n,l) y)(hg:Good nC m cost rows)(zy:Sm y)(K:cost.length=nC)(L:4*(mw (sb y rows)+mw v)+8≤LIM) :
  Calls prog 32 #[.agg #[(C,nC,d),(R,m,f)],.agg #[g,(A,k,c),(D,j,i)],(Y,n,l)] w fun e w'=>e=.returned (.bool (yZK nC cost rows v y))∧Below w w w':=by
 have G:=un hg;have J:=un zy;have F:=un K;have Q:=un L;generalize hob:yZK nC cost rows v y=ob;have H:=un hob;clear hg zy K hob L;obtain⟨W,b⟩:∃W,((w.alloc (.cells #[(C,nC,d),(R,m,f)] 31)).alloc (.cells #[g,(A,k,c),(D,j,i)] 41))=W:=⟨_,rfl⟩
 have B:=un (show W.heap[w.heap.size]? = some (.cells #[(C,nC,d),(R,m,f)] 31 (0,0))by rw[←b];exact zak (zam (by simp)));have E:=un (show W.heap[w.heap.size+1]? = some (.cells #[g,(A,k,c),(D,j,i)] 41 (0,0))by rw[←b];exact zam (by simp));have o:=un (show Below w w W by rw[←b];exact(zae w _).alloc (by simp) _);have p:=un (show VecS W 0 (C,nC,d) cost by rw[←b];exact((hc).alloc _).alloc _)
 have q:=un (show RowsS W 0 (R,m,f) rows by rw[←b];exact((hr).alloc _).alloc _);have I:=un (show RatS W g (A,k,c) (D,j,i) v by rw[←b];exact((M).alloc _).alloc _);have r:=un (show VecS W 0 (Y,n,l) y by rw[←b];exact((N).alloc _).alloc _);obtain⟨az,_,aA,_⟩:=bc2 B.o;clear hc hr M N;go_enter func32,ntmps32;go_wp2_with fail
 clear b;cases hbb:yep nC cost rows y
 ·have z:=un (show false=ob by rw[←H.o];unfold yZK;rw[hbb];rfl);refine(yxe C nC d R m f cost rows Y n l y _ p.o q.o r.o G.o J.o F.o false hbb).mono ?_
  rintro e w1 ⟨g2,A2,m2,c2,D2,md2,cd2,rfl,hn,hb⟩;have a:=(hb).alloc (hb).size (.cells #[g2,(A2,m2,c2),(D2,md2,cd2)] 41);have s:=un (zad a E.o);have O:=un (I.o.below a);have t:=un (o.o.trans ((a).mono o.o.size));have x:=un (zal w1 #[g2,(A2,m2,c2),(D2,md2,cd2)] 41);obtain⟨ae,_,ag,_,ac,_⟩:=bc3 s.o
  obtain⟨al,_,am,_,an,_⟩:=bc3 x.o;clear hn hb;go_wp2;go_ret
  exact⟨by rw[←z.o];first | done | rfl,t.o⟩
 ·have z:=un (show zA9 (sb y rows) v=ob by rw[←H.o];unfold yZK;rw[hbb];rfl);refine(yxe C nC d R m f cost rows Y n l y _ p.o q.o r.o G.o J.o F.o true hbb).mono ?_
  rintro e w1 ⟨g2,A2,m2,c2,D2,md2,cd2,rfl,hn,hb⟩;have a:=(hb).alloc (hb).size (.cells #[g2,(A2,m2,c2),(D2,md2,cd2)] 41);have s:=un (zad a E.o);have O:=un (I.o.below a);have P:=un (show RatS (w1.alloc (.cells #[g2,(A2,m2,c2),(D2,md2,cd2)] 41)) g2 (A2,m2,c2) (D2,md2,cd2) (sb y rows)from(hn).alloc _)
  have t:=un (o.o.trans ((a).mono o.o.size));have x:=un (zal w1 #[g2,(A2,m2,c2),(D2,md2,cd2)] 41);obtain⟨ae,_,ag,_,ac,_⟩:=bc3 s.o;obtain⟨al,_,am,_,an,_⟩:=bc3 x.o;clear hn hb;go_wp2_with fail
  refine(Rt.same g2 A2 m2 c2 D2 md2 cd2 (sb y rows) g A k c D j i v _ P.o O.o Q.o).mono ?_
  rintro e w2 ⟨rfl,hb⟩;have af:=un (t.o.trans ((hb).mono t.o.size));clear hb;go_wp2;go_ret
  exact⟨by rw[z.o];first | done | rfl,af.o⟩
end Ra
open Lw (yM7)
open Pr (z6X)
open Pb (zPu)
open Ct (yi7)
section
variable {nC m:Nat} {cost X Y y:List Rat} {rows:List PRow}
theorem Du22.own(D:Du22 nC m cost rows X Y):yZK nC cost rows (dot cost X) Y=true:=by unfold yZK;rw[D.bnd,Zs D.val];rfl
theorem Du22.off(D:Du22 nC m cost rows X Y):yZK nC cost rows (dot cost X+((1:Int):Rat)) Y=false:=by
 unfold yZK;rw[D.val,Zt (by grind),Bool.and_false]
theorem Du22.opt(D:Du22 nC m cost rows X Y)(y:List Rat):yeG nC cost rows X y=yZK nC cost rows (dot cost X) y:=by unfold yeG yZK;rw[D.fit,Bool.true_and]
theorem yZO{v:Rat}(h:yZK nC cost rows v y=true):yep nC cost rows y=true∧sb y rows=v:=by
 unfold yZK at h;rw[Xc]at h;grind
end
namespace Lw
theorem duals22(A:OA)(N cA:Nat)(L:OA)(O B:Nat)(cs:List (Int × Int))(ls:List LineV)(YY:OA)(ny cy:Nat)(ys:List (Int × Int))(w:World)(hf:zcs w A cs)(bs:zex w L ls)(hy:zcs w YY ys)(o:N=cs.length)(hm:O=ls.length)(a:N≤cA)(Z:O≤B)(hc:cA≤9223372036854775807)(bn:B≤9223372036854775807)(I:ny=ys.length)(bm:ny≤1048576) :
  Calls prog 6 #[.agg #[(A,N,cA),(L,O,B)],(YY,ny,cy)] w fun e w'=>e=.returned true∧Below w w w':=by
 have HN:=un o;have HM:=un hm;have dk:=un a;have dl:=un Z;have dm:=un hc;have dn:=un bn;have dA:=un I;have dp:=un bm;have ZY:=un (yfb (zyq hy));clear o hm a Z hc bn I bm;obtain⟨W,H⟩:∃W,(w.alloc (.cells #[(A,N,cA),(L,O,B)] 25))=W:=⟨_,rfl⟩
 have be:=un (show W.heap[w.heap.size]? = some (.cells #[(A,N,cA),(L,O,B)] 25 (0,0))by rw[←H];exact zam (by simp));have BB:=un (show Below w w W by rw[←H];exact zae w _);have HF:=un (show zcs W A cs by rw[←H];exact(hf).alloc _);have HL:=un (show zex W L ls by rw[←H];exact(bs).alloc _);have dv:=un (show zcs W YY ys by rw[←H];exact(hy).alloc _);clear hf bs hy;go_enter func6,ntmps6;go_wp2_with fail
 clear H;refine(yM7 _).mono ?_
 rintro e w1 ⟨rfl,a⟩;have cJ:=un (zad a be.o);have gH:=un (HF.o.below a);have gI:=un (HL.o.below a);have ex:=un (dv.o.below a);have cI:=un (BB.o.trans ((a).mono BB.o.size));obtain⟨iN,_,iO,_⟩:=bc2 cJ.o;clear a;go_wp2_with fail
 refine(zLD A N cA L O B cs ls _ gH.o gI.o HN.o HM.o dk.o dl.o dm.o dn.o).mono ?_
 rintro e T ⟨C,nC,cC,R,c,cR,l,cost,rows,rfl,hv,hl,_,_,hgd,a⟩;have ey:=un (ex.o.below a);have HC:=un (show VecS T 0 (C,nC,cC) cost from(hv.base (Zb _)));have HR:=un (show RowsS T 0 (R,c,cR) rows from(hl.toS.base (Zb _)));have cK:=un (cI.o.trans ((a).mono cI.o.size));have ac:=un hgd;have z:=un (show cost.length=nC from hv.len.symm);have ad:=un (show rows.length=c from hl.toS.len.symm)
 have dr:=un (yZR hgd hv.len.symm hl.toS.len.symm);have dE:=un (fun(w:World) (h1:VecS w 0 (C,nC,cC) cost) (h2:RowsS w 0 (R,c,cR) rows)=>z6X 1 C nC cC R c cR cost rows w h1 h2 hgd.toS hgd.few);generalize oO (sol nC c cost rows)=so,oX nC c rows (sol nC c cost rows)=sx,oY nC c cost rows (sol nC c cost rows)=sy,oZ nC c rows (sol nC c cost rows)=sz,(sol nC c cost rows).pivots=sn at *
 clear hv hl hgd a;have ai:=zae T (.cells #[(C,nC,cC),(R,c,cR)] 31);have ez:=un (ey.o.below ai);have bX:=un (HC.o.below ai);have bR:=un (HR.o.below ai);have cN:=un (cK.o.trans ((ai).mono cK.o.size));have KP:=un (zal T #[(C,nC,cC),(R,c,cR)] 31);obtain⟨i6,_,i7,_⟩:=bc2 KP.o;go_wp2_with fail
 refine(dE.o _ bX.o bR.o).mono ?_
 rintro e t ⟨P,nP,cP,Q,nQ,cQ,D,nD,cD,rfl,hp,hq,hd,a⟩;have cM:=un (zad a KP.o);have ec:=un (ez.o.below a);have gn:=un (bX.o.below a);have jE:=un (bR.o.below a);have HP:=un (show VecS t 0 (P,nP,cP) sx from hp);have HQ:=un (show VecS t 0 (Q,nQ,cQ) sy from hq);have cT:=un (cN.o.trans ((a).mono cN.o.size));have dy:=un hq.len;have dx:=un hp.len;clear hp hq hd a
 have r:=zae t (.cells #[.int .i64 so,(P,nP,cP),(Q,nQ,cQ),(D,nD,cD),(sn:Int)] 76);have cO:=un (zad r cM.o);have ed:=un (ec.o.below r);have cg:=un (gn.o.below r);have bS:=un (jE.o.below r);have cd:=un (HP.o.below r);have eq:=un (HQ.o.below r);have a4:=un (cT.o.trans ((r).mono cT.o.size));obtain⟨i4,i0,i5,i1⟩:=bc2 cO.o;have KR:=un (zal t #[.int .i64 so,(P,nP,cP),(Q,nQ,cQ),(D,nD,cD),(sn:Int)] 76)
 obtain⟨jj,i9,jk,ja,jl,jc,jr,jd,jt,je⟩:=bc5 KR.o;clear iN iO i6 i7;by_cases dM:so=1
 ·subst dM;have f:=un (dr.o rfl);obtain rfl:nC=nP:=by rw[dx.o,f.o.lx]
  obtain rfl:c=nQ:=by rw[dy.o,f.o.ly]
  have p:=un ac.o.good;have aM:=ac.o.hr;have jS:=ac.o.hc;have ae:=un (zDI p.o.sc f.o.sx (by rw[z.o];omega));have dK:=un f.o.val;have H1:=un f.o.own;have H2:=un f.o.off;have H3:=un f.o.opt;have dH:=un f.o.range;go_wp2_with fail
  refine(zPu C nC cC R c cR cost rows P nC cP sx _ cg.o bS.o cd.o (by rw[z.o,f.o.lx]) (by omega) p.o.sc f.o.sx).mono ?_
  rintro e U ⟨g5,A5,m5,c5,D5,md5,cd5,rfl,o,a⟩;have cS:=un (zad a cO.o);have cV:=un (zad a KR.o);have ee:=un (ed.o.below a);have gM:=un (cg.o.below a);have fU:=un (bS.o.below a);have gN:=un (cd.o.below a);have fv:=un (eq.o.below a);have HV:=un (show RatS U g5 (A5,m5,c5) (D5,md5,cd5) (dot cost sx)from o);have cW:=un (a4.o.trans ((a).mono a4.o.size));clear o a
  generalize dot cost sx=v at *
  have q:=zae U (.cells #[g5,(A5,m5,c5),(D5,md5,cd5)] 41);have cU:=un (zad q cS.o);have cY:=un (zad q cV.o);have ef:=un (ee.o.below q);have ch:=un (gM.o.below q);have b5:=un (fU.o.below q);have gL:=un (gN.o.below q);have b4:=un (fv.o.below q);have cH:=un (HV.o.below q);have c9:=un (cW.o.trans ((q).mono cW.o.size));obtain⟨jo,_,jp,_⟩:=bc2 cU.o;obtain⟨_,_,_,_,fA,jL,_⟩:=bc5 cY.o
  have KV:=un (zal U #[g5,(A5,m5,c5),(D5,md5,cd5)] 41);obtain⟨fG,_,fH,_,fI,_⟩:=bc3 KV.o;clear i4 i0 i5 i1 jj i9 jk ja jl jc jr jd jt je;go_upto_region 10 with fail
  refine zaS (S:=fun w'=>w'.cell? ⟨T,0,none⟩=some (C,nC,cC)∧w'.cell? ⟨T,1,none⟩=some (R,c,cR)∧w'.cell? ⟨U,0,none⟩=some (.bool g5)∧w'.cell? ⟨U,1,none⟩=some (A5,m5,c5)∧w'.cell? ⟨U,2,none⟩=some (D5,md5,cd5)∧w'.cell? ⟨t,2,none⟩=some (Q,c,cQ)) [] (h:=fun hHeld=>?_);refine zaw [0,1,2,3] ?_;repeat refine tkL (hS:=hHeld) (h:=?_)
  refine zao ?_;refine zaB 4 (h:=fun K d=>?_);go_simp
  (go_at_call 32;(refine(Ra.right C nC cC R c cR cost rows g5 A5 m5 c5 D5 md5 cd5 v Q c cQ sy _ ch.o.drew b5.o.drew cH.o.drew b4.o.drew p.o f.o.sy z.o (by have:=yeX p.o.rw_ f.o.sy (by rw[ad.o];exact aM);have:=ae.o;have:=zaP;omega)).mono ?_);rintro e v1 ⟨rfl,a⟩;have cX:=un (zad a cU.o);have bT:=un (zad a cY.o);have bU:=un (zad a KV.o);have eg:=un (ef.o.drew.below a);have gG:=un (ch.o.drew.below a);have gK:=un (b5.o.drew.below a);have gJ:=un (gL.o.drew.below a);have er:=un (b4.o.drew.below a);have ih:=un (cH.o.drew.below a);have b3:=un (c9.o.trans ((It.bdrew0' a).mono c9.o.size));obtain⟨jA,_,jC,_⟩:=bc2 cX.o;obtain⟨_,_,_,_,fB,jM,_⟩:=bc5 bT.o;obtain⟨gw,_,gy,_,gA,_⟩:=bc3 bU.o;rw[H1.o];clear a)
  (try go_wp2_with fail)
  refine shutOn d fun hHeld=>?_
  clear d K;refine zaw [5,6,7,8,11,12] ?_;repeat refine tkL (hS:=hHeld) (h:=?_)
  refine zao ?_;refine zaB 9 (h:=fun K d=>?_);go_simp
  (go_at_call 13;(refine(Rt.int 1 (by decide) (by decide) _).mono ?_);rintro e v2 ⟨g6,A6,m6,c6,D6,md6,cd6,rfl,o,a⟩;have bY:=un (zad a cX.o);have bZ:=un (zad a bT.o);have b0:=un (zad a bU.o);have eh:=un (eg.o.below a);have ic:=un (gG.o.below a);have ig:=un (gK.o.below a);have ie:=un (gJ.o.below a);have eu:=un (er.o.below a);have cG:=un (ih.o.below a);have HM:=un (show RatS v2 g6 (.slice A6 m6 c6) (D6,md6,cd6) ((1:Int):Rat)from o);have ce:=un (b3.o.trans ((a).mono b3.o.size));obtain⟨gp,_,gq,_⟩:=bc2 bY.o;obtain⟨_,_,_,_,gt,gd,_⟩:=bc5 bZ.o;obtain⟨gx,_,gz,_,gB,_⟩:=bc3 b0.o;clear o a)
  (try go_wp2_with fail)
  refine shutOn d fun hHeld=>?_
  clear d K;refine zaB 10 (h:=fun K d=>?_);go_simp
  (go_at_call 21;(refine(Rt.add g5 A5 m5 c5 D5 md5 cd5 v g6 A6 m6 c6 D6 md6 cd6 ((1:Int):Rat) _ cG.o HM.o (by have:=ae.o;have:=zu9 1 (by constructor<;>decide);have:=zaP;omega)).mono ?_);rintro e v3 ⟨g7,A7,m7,c7,D7,md7,cd7,rfl,o,a⟩;have ct:=un (zad a bY.o);have cu:=un (zad a bZ.o);have cv:=un (zad a b0.o);have ej:=un (eh.o.below a);have cz:=un (ic.o.below a);have cB:=un (ig.o.below a);have ik:=un (ie.o.below a);have bM:=un (eu.o.below a);have il:=un (cG.o.below a);have HW:=un (show RatS v3 g7 (A7,m7,c7) (D7,md7,cd7) (v+((1:Int):Rat))from o);have cr:=un (ce.o.trans ((a).mono ce.o.size));obtain⟨hV,_,hX,_⟩:=bc2 ct.o;obtain⟨_,_,_,_,iB,iE,_⟩:=bc5 cu.o;obtain⟨h0,_,h3,_,h4,_⟩:=bc3 cv.o;clear o a)
  (try go_wp2_with fail)
  refine shutOn d fun hHeld=>?_
  clear d K;refine zaB 13 (h:=fun K d=>?_);go_simp
  (go_at_call 32;(refine(Ra.right C nC cC R c cR cost rows g7 A7 m7 c7 D7 md7 cd7 (v+((1:Int):Rat)) Q c cQ sy _ cz.o cB.o HW.o bM.o p.o f.o.sy z.o (by have:=yeX p.o.rw_ f.o.sy (by rw[ad.o];exact aM);have:=ae.o;have:=zrI v ((1:Int):Rat);have:=zu9 1 (by constructor<;>decide);have:=zaP;omega)).mono ?_);rintro e v4 ⟨rfl,a⟩;have co:=un (zad a ct.o);have cp:=un (zad a cu.o);have cq:=un (zad a cv.o);have ek:=un (ej.o.below a);have ii:=un (cz.o.below a);have iq:=un (cB.o.below a);have ip:=un (ik.o.below a);have eB:=un (bM.o.below a);have io:=un (il.o.below a);have cj:=un (cr.o.trans ((a).mono cr.o.size));obtain⟨hx,_,hA,_⟩:=bc2 co.o;obtain⟨_,_,_,_,e4,eV,_⟩:=bc5 cp.o;obtain⟨ht,_,hu,_,hw,_⟩:=bc3 cq.o;rw[H2.o];clear a)
  (try go_wp2_with fail)
  refine shutOn d fun hHeld=>?_
  clear d K;refine zaw [14] ?_;repeat refine tkL (hS:=hHeld) (h:=?_)
  refine zao ?_;refine zaM (h:=?_);go_wp2_with fail
  refine(make YY ny cy ys _ dA.o ek.o dp.o).mono ?_
  rintro e w5 ⟨V0,m0,k0,rfl,hv,a⟩;have b8:=un (zad a co.o);have b9:=un (zad a cp.o);have cc:=un (zad a cq.o);have cw:=un (ii.o.below a);have cx:=un (iq.o.below a);have ij:=un (ip.o.below a);have em:=un (eB.o.below a);have ir:=un (io.o.below a);have HY:=un (show VecS w5 0 (V0,m0,k0) (frs ys)from(hv.base (Zb _)));have cm:=un (cj.o.trans ((a).mono cj.o.size));obtain⟨gW,_,gX,_⟩:=bc2 b8.o;obtain⟨_,_,_,_,e5,eW,_,_,fb,_⟩:=bc5 b9.o
  obtain⟨g0,_,g1,_,gO,_⟩:=bc3 cc.o;clear hv a;go_wp2_with fail
  generalize frs ys=y at *
  refine(Ra.right C nC cC R c cR cost rows g5 A5 m5 c5 D5 md5 cd5 v V0 m0 k0 y _ cw.o cx.o ir.o HY.o p.o ZY.o z.o (by have:=yeX p.o.rw_ ZY.o (by rw[ad.o];exact aM);have:=ae.o;have:=zaP;omega)).mono ?_
  rintro e w6 ⟨rfl,a⟩;have cf:=un (zad a b8.o);have b6:=un (zad a b9.o);have cE:=un (cw.o.below a);have cF:=un (cx.o.below a);have im:=un (ij.o.below a);have ep:=un (em.o.below a);have bK:=un (HY.o.below a);have cn:=un (cm.o.trans ((a).mono cm.o.size));obtain⟨g8,_,g9,_⟩:=bc2 cf.o;obtain⟨_,_,hg,_,eA,es,_,ev,_⟩:=bc5 b6.o;clear a;go_wp2_with fail
  refine(yi7 C nC cC R c cR cost rows P nC cP sx V0 m0 k0 y _ cE.o cF.o im.o bK.o p.o ZY.o f.o.sx z.o).mono ?_
  rintro e w7 ⟨rfl,a⟩;have aX:=un (zad a cf.o);have aY:=un (zad a b6.o);have bN:=un (cE.o.below a);have bO:=un (cF.o.below a);have aq:=un (ep.o.below a);have aR:=un (bK.o.below a);have aA:=un (cn.o.trans ((a).mono cn.o.size));obtain⟨_,_,_,_,gc,fO,_⟩:=bc5 aY.o;clear a;rw[H3.o];generalize hrt:yZK nC cost rows v y=rt;have dI:=un hrt;clear hrt;go_wp2_with fail
  have dz:=un aR.o.len
  go_loopw [12] (fun i wr=>∃k:Nat,i=.int .i64 k∧k≤c∧Below w7 w7 wr)
   (fun i _=>c-(intOf i).toNat)
  case atStart=>exact⟨0,rfl,Zb _,Zg _ _⟩
  case round =>
   obtain⟨k,rfl,hk,g⟩:=hrel;by_cases aj:k<c
   ·skip
    obtain⟨lo,hi,he,l1,l2,hh⟩:=dH.o k aj;have ba:=un hh;have aI:=un l1;have aJ:=un l2;have s:=zaH (show k<sy.length by rw[f.o.ly];exact aj);obtain⟨n,rfl,_,_⟩:=aq.o.has (by omega);obtain⟨G,u,J,E,x,M,F,q0,q1,q2,V⟩:=(aq.o.below g).at_ s;have af:=un (f.o.sy _ (Zh s));have HW:=un (Bel.mk g);have ay:=un (zad g aX.o);have aE:=un (zad g aY.o);have aS:=un (bN.o.below g);have aT:=un (bO.o.below g);have bL:=un (aR.o.below g)
    have HE:=un (show RatS wr G (u,J,E) (x,M,F) (el sy k)from V);have az:=un (aA.o.trans ((g).mono aA.o.size));obtain⟨b1,_,b2,_⟩:=bc2 ay.o;have aO:wr.cell? ⟨n,k*3,none⟩=some (.bool G):=q0;have aP:wr.cell? ⟨n,k*3+1,none⟩=some (u,J,E):=q1;have aQ:wr.cell? ⟨n,k*3+2,none⟩=some (x,M,F):=q2;clear l1 l2 hh s V q0 q1 q2 g
    clear jo jp fA jL fG fH fI jA jC fB jM gw gy gA gp gq gt gd gx gz gB hV hX iB iE h0 h3 h4 hx hA e4 eV ht hu hw gW gX e5 eW fb g0 g1 gO g8 g9 hg eA es ev gc fO
    have jT:(0:Int)≤(k:Int):=Zf _;have jU:(k:Int)<(c:Int):=by omega
    go_wp2_with fail
    refine(Ra.rhs 1 C nC cC R c cR cost rows _ aS.o aT.o ac.o.toS k 4000 61 aj (by decide) (f.o.s2 k)).mono ?_;rw[he];rintro e u1 ⟨a,gl,a1,m1,c1,d1,md1,cd1,gh,a2,m2,c2,d2,md2,cd2,rfl,hx1,hx2⟩;have cl:=un (zad a aE.o);have en:=un (bL.o.below a);have ea:=un (HE.o.below a);have eE:=un (HW.o.below a)
    have dh:=un (show RatS u1 gl (a1,m1,c1) (d1,md1,cd1) (lo.getD 0)from hx1);have dg:=un (show RatS u1 gh (a2,m2,c2) (d2,md2,cd2) (hi.getD 0)from hx2);have aU:=zab a aO;have aV:=zab a aP;have aW:=zab a aQ;clear a hx1 hx2 he
    have j:=zae u1 (.cells #[gl,(a1,m1,c1),(d1,md1,cd1),gh,(a2,m2,c2),(d2,md2,cd2),.bool lo.isSome,.bool hi.isSome] 62);have a0:=un (zad j cl.o);have ar:=un (en.o.below j);have ap:=un (ea.o.below j);have bP:=un (eE.o.below j);have ab:=un (dh.o.below j);have aa:=un (dg.o.below j)
    obtain⟨_,_,_,_,k1,_⟩:=bc5 a0.o;have eX:=zab j aU;have bB:=zaa eX;have eY:=zab j aV;have bC:=zaa eY;have eZ:=zab j aW;have bD:=zaa eZ;have KG:=un (zal u1 #[gl,(a1,m1,c1),(d1,md1,cd1),gh,(a2,m2,c2),(d2,md2,cd2),.bool lo.isSome,.bool hi.isSome] 62);obtain⟨kG,_,kH,_,kW,_,kX,_,kY,_,kZ,_,kg,_,kh,_⟩:=bc8 KG.o
    clear b1 b2 aO aP aQ aU aV aW;have bc:=un (ba.o sy f.o.bnd dK.o);cases rt
    ·skip
     go_upto_region 20 with fail
     refine wp_region_noPanic ?_
     refine wp_region_held_drew (S:=fun w'=>w'.cell? ⟨t,2,none⟩=some (n,c,cQ)∧w'.cell? ⟨u1,0,none⟩=some (.bool gl)∧w'.cell? ⟨u1,1,none⟩=some (a1,m1,c1)∧w'.cell? ⟨u1,2,none⟩=some (d1,md1,cd1)∧w'.cell? ⟨u1,3,none⟩=some (.bool gh)∧w'.cell? ⟨u1,4,none⟩=some (a2,m2,c2)∧w'.cell? ⟨u1,5,none⟩=some (d2,md2,cd2)∧w'.cell? ⟨u1,6,none⟩=some (.bool lo.isSome)∧w'.cell? ⟨u1,7,none⟩=some (.bool hi.isSome)∧w'.cell? ⟨n,k*3,none⟩=some (.bool G)∧w'.cell? ⟨n,k*3+1,none⟩=some (u,J,E)∧w'.cell? ⟨n,k*3+2,none⟩=some (x,M,F)) (by kernel_rfl) kp fun hHeld=>?_
     refine zaw [0,1,2,3,4,5,6,7,8] ?_;repeat refine tkH (hS:=hHeld) (h:=?_)
     refine zao ?_;refine wpAnyH_ready (rs:=[9]) (by kernel_rfl) (by simp) ?_;refine AllReadyH.cons rfl (fun K d=>?_) AllReadyH.nil;go_simp
     (go_at_call 22;(refine(Ra.holds gl a1 m1 c1 d1 md1 cd1 gh a2 m2 c2 d2 md2 cd2 lo.isSome hi.isSome G u J E x M F (lo.getD 0) (hi.getD 0) (el sy k) _ ab.o.drew aa.o.drew ap.o.drew (by have:=af.o;have:=aI.o;have:=zaP;omega) (by have:=af.o;have:=aJ.o;have:=zaP;omega)).mono ?_);rintro e u2 ⟨rfl,a⟩;have aC:=un (zad a a0.o);have ax:=un (zad a KG.o);have a3:=un (bP.o.drew.below a);have a9:=un (ab.o.drew.below a);have a8:=un (aa.o.drew.below a);obtain⟨_,_,_,_,e6,_⟩:=bc5 aC.o;obtain⟨fs,_,ft,_,fu,_,eG,_,eH,_,eI,_,d8,_,d9,_⟩:=bc8 ax.o;have au:=zab a bB;have av:=zab a bC;have aw:=zab a bD;rw[bc.o];clear a)
     (try go_wp2_with fail)
     refine d.o _ _ kp fun hHeld=>?_
     clear d K;try simp only[Act.put,pu1,pu2,pu3,pu4,pu5,pu6]
     refine zaw [10,11,12,13,14] ?_;repeat refine tkH (hS:=hHeld) (h:=?_)
     refine zao ?_;refine zaw [15,16,17,18,19,20,21] ?_;repeat refine skH (hS:=hHeld) (h:=?_)
     refine zao ?_;refine zaw [22,23] ?_;repeat refine tkH (hS:=hHeld) (h:=?_)
     refine zao ?_;refine wpAnyH_done (by kernel_rfl) ?_ _;refine NoPanic.normal ?_;go_wp2;go_roundw
     case rel=>exact⟨k+1,by go_num,by omega,a3.o.b⟩
     case measure=>simp[intOf];omega
    ·skip
     obtain⟨aL,Z⟩:=yZO dI.o;have dC:=un (ba.o y aL Z);have I:y.length=c:=by rw[(yei aL).1,ad.o]
     have s:=zaH (show k<y.length by rw[I];exact aj);obtain rfl:c=m0:=by rw[dz.o,I]
     obtain⟨bv,rfl,_,_⟩:=ar.o.has (by omega);obtain⟨gb,Ab,mb,cb,Db,bx,bj,q0,q1,q2,V⟩:=ar.o.at_ s;have bb:=un (ZY.o _ (Zh s));have dt:=un V;clear aL Z I s V;go_upto_region 20 with fail
     have dN:=zaa q0;have dO:=zaa q1;have dP:=zaa q2;refine wp_region_noPanic ?_
     refine wp_region_held_drew (S:=fun w'=>w'.cell? ⟨t,2,none⟩=some (n,c,cQ)∧w'.cell? ⟨u1,0,none⟩=some (.bool gl)∧w'.cell? ⟨u1,1,none⟩=some (a1,m1,c1)∧w'.cell? ⟨u1,2,none⟩=some (d1,md1,cd1)∧w'.cell? ⟨u1,3,none⟩=some (.bool gh)∧w'.cell? ⟨u1,4,none⟩=some (a2,m2,c2)∧w'.cell? ⟨u1,5,none⟩=some (d2,md2,cd2)∧w'.cell? ⟨u1,6,none⟩=some (.bool lo.isSome)∧w'.cell? ⟨u1,7,none⟩=some (.bool hi.isSome)∧w'.cell? ⟨n,k*3,none⟩=some (.bool G)∧w'.cell? ⟨n,k*3+1,none⟩=some (u,J,E)∧w'.cell? ⟨n,k*3+2,none⟩=some (x,M,F)∧w'.cell? ⟨bv,k*3,none⟩=some (.bool gb)∧w'.cell? ⟨bv,k*3+1,none⟩=some (Ab,mb,cb)∧w'.cell? ⟨bv,k*3+2,none⟩=some (Db,bx,bj)) (by kernel_rfl) kp fun hHeld=>?_
     refine zaw [0,1,2,3,4,5,6,7,8] ?_;repeat refine tkH (hS:=hHeld) (h:=?_)
     refine zao ?_;refine wpAnyH_ready (rs:=[9]) (by kernel_rfl) (by simp) ?_;refine AllReadyH.cons rfl (fun K d=>?_) AllReadyH.nil;go_simp
     (go_at_call 22;(refine(Ra.holds gl a1 m1 c1 d1 md1 cd1 gh a2 m2 c2 d2 md2 cd2 lo.isSome hi.isSome G u J E x M F (lo.getD 0) (hi.getD 0) (el sy k) _ ab.o.drew aa.o.drew ap.o.drew (by have:=af.o;have:=aI.o;have:=zaP;omega) (by have:=af.o;have:=aJ.o;have:=zaP;omega)).mono ?_);rintro e u2 ⟨rfl,a⟩;have aC:=un (zad a a0.o);have ax:=un (zad a KG.o);have a3:=un (bP.o.drew.below a);have a9:=un (ab.o.drew.below a);have a8:=un (aa.o.drew.below a);have ei:=un (dt.o.drew.below a);obtain⟨_,_,_,_,e6,_⟩:=bc5 aC.o;obtain⟨fs,_,ft,_,fu,_,eG,_,eH,_,eI,_,d8,_,d9,_⟩:=bc8 ax.o;have au:=zab a bB;have av:=zab a bC;have aw:=zab a bD;have bG:=zab a dN;have bH:=zab a dO;have bI:=zab a dP;rw[bc.o];clear a)
     (try go_wp2_with fail)
     refine d.o _ _ kp fun hHeld=>?_
     clear d K;try simp only[Act.put,pu1,pu2,pu3,pu4,pu5,pu6]
     refine zaw [10,11,12,13,14,15,16,17,18,19] ?_;repeat refine tkH (hS:=hHeld) (h:=?_)
     refine zao ?_;refine wpAnyH_ready (rs:=[20]) (by kernel_rfl) (by simp) ?_;refine AllReadyH.cons rfl (fun K d=>?_) AllReadyH.nil;go_simp
     (go_at_call 22;(refine(Ra.holds gl a1 m1 c1 d1 md1 cd1 gh a2 m2 c2 d2 md2 cd2 lo.isSome hi.isSome gb Ab mb cb Db bx bj (lo.getD 0) (hi.getD 0) (el y k) _ a9.o a8.o ei.o (by have:=bb.o;have:=aI.o;have:=zaP;omega) (by have:=bb.o;have:=aJ.o;have:=zaP;omega)).mono ?_);rintro e u3 ⟨rfl,a⟩;have fe:=un (zad a aC.o);have ff:=un (zad a ax.o);have eF:=un (a3.o.below a);obtain⟨_,_,_,_,kn,_⟩:=bc5 fe.o;obtain⟨kD,_,kE,_,kF,_,kc,_,kd,_,j7,_,j8,_,j9,_⟩:=bc8 ff.o;have fk:=zab a au;have fl:=zab a av;have fm:=zab a aw;have fn:=zab a bG;have fo:=zab a bH;have fp:=zab a bI;rw[dC.o];clear a)
     (try go_wp2_with fail)
     refine d.o _ _ kp fun hHeld=>?_
     clear d K;try simp only[Act.put,pu1,pu2,pu3,pu4,pu5,pu6]
     refine zaw [21,22,23] ?_;repeat refine tkH (hS:=hHeld) (h:=?_)
     refine zao ?_;refine wpAnyH_done (by kernel_rfl) ?_ _;refine NoPanic.normal ?_;go_wp2;go_roundw
     case rel=>exact⟨k+1,by go_num,by omega,eF.o.b⟩
     case measure=>simp[intOf];omega
   ·obtain rfl:c=k:=by omega
    have ay:=un (zad g aX.o);have aE:=un (zad g aY.o);have aS:=un (bN.o.below g);have aT:=un (bO.o.below g);have bL:=un (aR.o.below g);have az:=un (aA.o.trans ((g).mono aA.o.size));obtain⟨b1,_,b2,_⟩:=bc2 ay.o;go_wp2_with fail
    go_wp2;go_ret
    exact⟨rfl,az.o⟩
 ·skip
  go_wp2;go_ret
  exact⟨rfl,a4.o⟩
