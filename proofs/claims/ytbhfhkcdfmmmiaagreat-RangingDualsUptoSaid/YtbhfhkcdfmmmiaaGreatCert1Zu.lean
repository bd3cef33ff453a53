/- Contracts and lemmas: Bnd Dual Cs20 Cert1 Cert2 Cert3. Conditions: as each says. -/
import Derived.Test.YtbhfhkcdfmmmiaaGreatDuBZu
set_option linter.all false
set_option maxHeartbeats 4000000
set_option maxRecDepth 100000
namespace Go.Proofs.YtbhfhkcdfmmmiaaGreat
open Go.RowKit Am Go.Proofs.Tryz
variable {rows:List PRow}{cost x y ys:List Rat}{n:Nat}{p:PRow}
def yew (n:Nat) (cost:List Rat) (rows:List PRow) (ys:List Rat):Bool:=(zly cost ((-1:Int):Rat) (sv n ys rows)).any fun q=>decide (q<0)
def ydS (n:Nat) (cost:List Rat) (rows:List PRow) (ys:List Rat):Bool:=zId rows ys && !(yew n cost rows ys)
structure Good (nc nr:Nat) (cost:List Rat) (rows:List PRow):Prop where
  hc:nc≤24
  hr:nr≤4
  sc:Sm cost
  rw_:Rows nc rows
  kd:Kinds rows
theorem yee(h:Rows n rows):(sv n ys rows).length=n:=zPw h _ (Za _)
theorem yeT(h:Rows n rows)(zy:Sm ys)(hr:rows.length≤4):∀q∈sv n ys rows,mw q≤100000000:=fun q a=>Zc (zPD h zy _ (Za _) q a) (by omega)
theorem yeX(h:Rows n rows)(zy:Sm ys)(hr:rows.length≤4):mw (sb ys rows)≤100000000:=Zc (zQY h zy rows.length) (by omega)
open Am
def tj (rows:List PRow) (ys:List Rat) (j n:Nat):Rat:=zai n fun k=>el ys k*el (rows.getD k default).coef j
theorem yek{n:Nat}{rows:List PRow}(ys:List Rat)(h:Rows n rows){j:Nat}(hj:j<n):∀k,k≤rows.length→el (zPA n ys rows k) j=tj rows ys j k
 | 0,_=>zrm n j
 | k+1,hk=>by
  have f:=yek ys h hj k (by omega);obtain⟨p,a⟩:∃p,rows[k]? = some p:=⟨rows[k]'(by omega),Ze _⟩
  have g:=(h p (Zh a)).1;have i:=zPw (ys:=ys) h k (by omega);have b:(zPA n ys rows k)[j]? = some (el (zPA n ys rows k) j):=by
   rw[Ze (by omega)];unfold el;rw[Zi,Ze (by omega)];rfl
  have c:p.coef[j]? = some (el p.coef j):=by
   rw[Ze (by omega)];unfold el;rw[Zi,Ze (by omega)];rfl
  have e:=znd (zmR (r:=el ys k) b c);show el (zly (zPA n ys rows k) (el ys k) (rows.getD k default).coef) j=tj rows ys j (k+1)
  rw[zfC a,e,f];unfold tj;rw[zai,zfC a]
theorem yej(ys:List Rat)(h:Rows n rows){j:Nat}(hj:j<n):el (sv n ys rows) j=tj rows ys j rows.length:=yek ys h hj _ (Za _)
def yd6 (cost:List Rat) (rows:List PRow) (ys:List Rat) (j:Nat):Bool:=(List.range j).all fun i=>decide (tj rows ys i rows.length≤el cost i)
theorem yeg(h:Rows n rows)(hc:cost.length=n):yd6 cost rows ys n = !(yew n cost rows ys):=by
 have g:=yee (ys:=ys) h;have f:(zly cost ((-1:Int):Rat) (sv n ys rows)).length=n:=by rw[zdt (by omega),hc]
 have hg:∀j,j<n→(zly cost ((-1:Int):Rat) (sv n ys rows))[j]? = some (el cost j+((-1:Int):Rat)*tj rows ys j rows.length):=by
  intro j hj;rw[zmR (zaH (by omega)) (zaH (by omega)),yej ys h hj]
 have a:((-1:Int):Rat) = -1:=by rfl
 rw[Bool.eq_iff_iff];unfold yd6 yew;simp only[Xx,Xa,decide_eq_true_eq,Ya,YC];constructor
 ·grind[List.mem_iff_getElem?,List.getElem?_eq_some_iff,Option.some.inj]
 ·intro h1 j hj;have b:=h1 _ (Zh (hg j hj));rw[a]at b;grind
theorem yd8(h:Rows n rows)(hc:cost.length=n):ydS n cost rows ys=(yd6 cost rows ys n&&zxD rows ys rows.length):=by
 unfold ydS zId;rw[yeg h hc,Bool.and_comm]
theorem yed{q:Rat}(hk:1≤p.kind∧p.kind≤3)(c:zIc p q=true)(a:zdH p x=true):q*p.rhs≤q*dot p.coef x:=by
 have f:zdp p x=dot p.coef x-p.rhs:=rfl;rcases(by omega:p.kind=1∨p.kind=2∨p.kind=3)with e | e | e
 ·rw[yd3 e]at c
  rw[←zxh e]at a;have b:=(zsp _).1 (Xs a);rw[f]at b;have h0:0 ≤ -q:=by grind
  have h1:=Rat.mul_le_mul_of_nonneg_left (show dot p.coef x≤p.rhs by grind) h0;grind
 ·rw[yd4 e]at c
  rw[←zxg e]at a;have b:=Xs a;rw[f]at b;grind[Rat.mul_le_mul_of_nonneg_left]
 ·rw[←zxf e]at a;have b:zdp p x=0:=Xs a;rw[f]at b;grind
theorem weak(h:Rows n rows)(hk:Kinds rows)(hc:cost.length=n)(q:ydS n cost rows y=true)(b:znD cost rows x=true):sb y rows≤dot cost x:=by
 unfold znD at b;rw[Xc,Xc]at b;obtain⟨⟨u,g⟩,hr⟩:=b;have A:=Xs u;rw[Ya,YC]at g;rw[Xx]at hr;have e:=q;rw[yd8 h hc,Xc]at e;obtain⟨a,c⟩:=e;have r:∀j,j<n→tj rows y j rows.length≤el cost j:=by
  intro j hj;unfold yd6 at a;rw[Xx]at a;exact Xs (a j (Xa.2 hj))
 have t:∀k,k<rows.length→zIc (rows.getD k default) (el y k)=true:=by
  intro k hk;unfold zxD at c;rw[Xx]at c;exact c k (Xa.2 hk)
 have s:∀k,k<rows.length→rows.getD k default∈rows:=by
  intro k hk;rw[zfC (Ze hk)];exact XS hk
 have l:zai rows.length (fun k=>el y k*zai n (fun j=>el (rows.getD k default).coef j*el x j))=zai n (fun j=>tj rows y j rows.length*el x j):=by
  have m:∀k,el y k*zai n (fun j=>el (rows.getD k default).coef j*el x j)=zai n (fun j=>el y k*el (rows.getD k default).coef j*el x j):=by
   intro k;rw[←za7];exact zaj fun j _=>by grind
  rw[zaj (fun k _=>m k),zbq];refine zaj fun j _=>?_
  unfold tj;rw[X5,←za7];exact zaj fun k _=>by grind
 have h1:sb y rows≤zai rows.length (fun k=>el y k*zai n (fun j=>el (rows.getD k default).coef j*el x j)):=by
  refine zUD fun k f=>?_
  have hm:=s k f;have i:=yed (x:=x) (hk _ hm) (t k f) (hr _ hm);have o:dot (rows.getD k default).coef x=zai n (fun j=>el (rows.getD k default).coef j*el x j):=by
   unfold dot ziw;rw[(h _ hm).1]
  rw[o]at i;exact i
 have p:zai n (fun j=>tj rows y j rows.length*el x j)≤dot cost x:=by
  unfold dot ziw;rw[hc];refine zUD fun j hj=>?_
  have v:0≤el x j:=by
   have:=g _ (Zh (zaH (xs:=x) (j:=j) (by omega)))
   grind
  exact Ve (r j hj) v
 rw[l]at h1;grind
theorem yel(hk:1≤p.kind∧p.kind≤3):zdH p x=true↔(p.kind=1→zdp p x≤0)∧(p.kind=2→0≤zdp p x)∧(p.kind=3→zdp p x=0):=by
 unfold zdH;grind
section
variable {n:Nat} {cost x y d:List Rat} {rows:List PRow} (h:Rows n rows) (hc:cost.length=n)
include h hc in
theorem ydU:ydS n cost rows y=true↔(∀j,j<n→tj rows y j rows.length≤el cost j)∧∀k,k<rows.length→zIc (rows.getD k default) (el y k)=true:=by
 rw[yd8 h hc,Xc];unfold yd6 zxD;rw[Xx,Xx];exact⟨fun⟨a,b⟩=>⟨fun j hj=>Xs (a j (Xa.2 hj)),fun k hk=>b k (Xa.2 hk)⟩,fun⟨a,b⟩=>⟨fun j hj=>Zs (a j (Xa.1 hj)),fun k hk=>b k (Xa.1 hk)⟩⟩
theorem ydT:znD cost rows x=true↔x.length=cost.length∧(∀j,0≤el x j)∧∀p∈rows,zdH p x=true:=by
 unfold znD;rw[Xc,Xc,decide_eq_true_iff,Ya,YC,Xx];refine⟨fun⟨⟨a,b⟩,c⟩=>⟨a,fun j=>?_,c⟩,fun⟨a,b,c⟩=>⟨⟨a,fun q e=>?_⟩,c⟩⟩
 ·by_cases hj:j<x.length
  ·have:=b _ (Zh (zaH hj))
   grind
  grind[zDb,Rat.le_refl]
 ·obtain⟨j,hj⟩:=ZV.1 e;have:=b j;rw[znd hj]at this;grind
theorem yd2{k:Nat}(hk:k<rows.length):rows.getD k default∈rows:=by
 rw[zfC (Ze hk)];grind
end
def yep (n:Nat) (cost:List Rat) (rows:List PRow) (y:List Rat):Bool:=decide (y.length=rows.length)&&ydS n cost rows y
def yeG (n:Nat) (cost:List Rat) (rows:List PRow) (x y:List Rat):Bool:=yep n cost rows y&&(znD cost rows x&&decide (sb y rows=dot cost x))
theorem yei(h:yep n cost rows y=true):y.length=rows.length∧ydS n cost rows y=true:=by
 unfold yep at h;rw[Xc,decide_eq_true_iff]at h;exact h
theorem yeH(h:yep n cost rows y=false∨znD cost rows x=false):yeG n cost rows x y=false:=by
 unfold yeG;rcases h with h | h<;>rw[h]<;>simp
attribute [local go_sem ↓] Go.wp_at_zero Go.wp_at_succ
def yet (w:World) (v:List Rat) (q:Rat) (b:Bool) (e:Ending) (w':World):Prop:=∃(S:OA) (ns cs:Nat) (g:Bool) (A:OA) (m c:Nat) (D:OA) (md cd:Nat),
  e=.returned (.tuple #[(S,ns,cs),.agg #[g,(A,m,c),(D,md,cd)],b])∧VecS w' w (S,ns,cs) v∧RatS w' g (A,m,c) (D,md,cd) q∧Below w w w'
namespace Ct
theorem yeM(C:OA)(nc cc:Nat)(R:OA)(nr c:Nat)(cost:List Rat)(rows:List PRow)(Y:OA)(a e:Nat)(y:List Rat)(w:World)(hc:VecS w 0 (C,nc,cc) cost)(hr:RowsS w 0 (R,nr,c) rows)(b:VecS w 0 (Y,a,e) y)(f:y.length≠rows.length) :
  Calls prog 119 #[.agg #[(C,nc,cc),(R,nr,c)],(Y,a,e)] w (yet w [] 0 false):=by
 have h1:¬((a:Int)=(nr:Int)):=by rw[b.len,hr.len];omega
 have g:¬a=nr:=by rw[b.len,hr.len];omega
 clear hc hr b f;go_enter func119,ntmps119;go_wp2;refine Zd (v:=.tuple #[(),.agg #[false,(),()],false]) (by simp[results,results119,go_sem]) rfl ?_;exact⟨_,_,_,_,_,_,_,_,_,_,rfl,VecS.nil _ _,RatS.zero _,(zae w _).alloc (by simp) _⟩
theorem yeN(C:OA)(nc cc:Nat)(R:OA)(nr cr:Nat)(cost:List Rat)(rows:List PRow)(Y:OA)(ny cy:Nat)(y:List Rat)(w:World)(hc:VecS w 0 (C,nc,cc) cost)(hr:RowsS w 0 (R,nr,cr) rows)(hy:VecS w 0 (Y,ny,cy) y)(hl:y.length=rows.length)(bP:nr≤4)(cV:nc≤1000)(ba:Rows nc rows)(zy:Sm y) :
  Calls prog 119 #[.agg #[(C,nc,cc),(R,nr,cr)],(Y,ny,cy)] w (yet w (sv nc y rows) (sb y rows) true):=by
 have bO:=hy.len;have a7:=hr.len;have en:nr=ny:=by omega
 subst en;have HL:=un hl;have HN:=un a7;have aV:=un bP;have aU:=un (show nc≤1048576 by omega);have af:=un ba;have ZY:=un zy;clear hl bO a7 ba zy;obtain⟨W,I⟩:∃W,((w.alloc (.cells #[(C,nc,cc),(R,nr,cr)] 31)).alloc (.cells #[false,(),()] 41))=W:=⟨_,rfl⟩
 have a1:=un (show W.heap[w.heap.size]? = some (.cells #[(C,nc,cc),(R,nr,cr)] 31 (0,0))by rw[←I];exact zak (zam (by simp)));have a2:=un (show W.heap[w.heap.size+1]? = some (.cells #[false,(),()] 41 (0,0))by rw[←I];exact zam (by simp));have BB:=un (show Below w w W by rw[←I];exact(zae w _).alloc (by simp) _);have HZ:=un (show w.heap.size+2≤W.heap.size by rw[←I];simp)
 have HY:=un (show VecS W 0 (Y,nr,cy) y by rw[←I];exact((hy).alloc _).alloc _);have HR:=un (show RowsS W 0 (R,nr,cr) rows by rw[←I];exact((hr).alloc _).alloc _);obtain⟨dq,_,dr,dm⟩:=bc2 a1.o;clear hc hr hy;go_enter func119,ntmps119
 go_wp2_with (at_make;go_must (refine zdv rfl _ _ rfl nc _ rfl rfl rfl aU.o W.heap.size rfl ?_;intro w1 ho F;have cY:=F.size;have an:=un (zad F a1.o);have ad:=un (zad F a2.o);have aw:=un (HY.o.below F);have av:=un (HR.o.below F);have HO:=un (show VecS w1 W.heap.size (.slice (some ⟨W.heap.size,0,none⟩) nc nc) (List.replicate nc 0)from ho);have aa:=un (BB.o.trans ((F).mono BB.o.size));obtain⟨_,_,dp,du⟩:=bc2 an.o;have L:=zae w1 (.cells #[false,(),()] 41);have M:=un (zad L an.o);have G:=un (zad L ad.o);have be:=un (aw.o.below L);have bz:=un (av.o.below L);have aN:=un (aa.o.trans ((L).mono aa.o.size));obtain⟨_,_,aK,aI⟩:=bc2 M.o;obtain⟨ap,am,_,aO,aq,al,aP,_,ar,ao,aR,_⟩:=bf3 G.o;clear ho F))
 clear I
 go_loopw [7,27] (fun ov i wr=>∃(k:Nat) (S:OA) (cs:Nat) (u:Bool) (j:OA) (E s:Nat) (l:OA) (B r:Nat),i=.int .i64 k∧ov=(S,nc,cs)∧k≤nr∧VecS wr W.heap.size (S,nc,cs) (zPA nc y rows k)∧wr.heap[w1.heap.size]? = some (.cells #[u,(j,E,s),(l,B,r)] 41 (0,0))∧RatS wr u (j,E,s) (l,B,r) (zPV y rows k)∧Below w1 w1 wr)
  (fun _ i _=>nr-(intOf i).toNat)
 case atStart=>exact⟨0,_,_,_,_,_,_,_,_,_,rfl,rfl,Zb _,HO.o.alloc _,zal _ _ _,RatS.zero _,zae w1 _⟩
 case round =>
  obtain⟨k,S,cs,u,j,E,s,l,B,r,rfl,rfl,hk,hV,aj,hP,a⟩:=hrel;by_cases a6:k<nr
  ·obtain⟨p,hp⟩:∃p,rows[k]? = some p:=⟨rows[k]'(by rw[←HN.o];exact a6),Ze _⟩
   obtain⟨q,J⟩:∃q,y[k]? = some q:=⟨y[k]'(by rw[HL.o,←HN.o];exact a6),Ze _⟩
   obtain⟨b,rfl,cQ,F⟩:=HR.o.has (by omega);obtain⟨by_,rfl,cR,cS⟩:=HY.o.has (by omega);obtain⟨Q,nq,t,g,A,m,c,D,z,o,k0,k1,k2,k3,k4,aE,a9⟩:=(av.o.below a).at_ hp;obtain⟨V,N,X,T,O,Z,U,l0,l1,l2,a4⟩:=(aw.o.below a).at_ J;have HP:=un hp;have HQ:=un J;have P:=un (af.o p (Zh hp));have az:=un (ZY.o q (Zh J));obtain rfl:nc=nq:=by rw[aE.len,P.o.1]
   have M:=un (zad a an.o);have G:=un (zad a ad.o);have be:=un (aw.o.below a);have bz:=un (av.o.below a);have HV:=un (show VecS wr W.heap.size (S,nc,cs) (zPA nc y rows k)from hV);have ay:=un (show RatS wr u (j,E,s) (l,B,r) (zPV y rows k)from hP);have bG:=un (show RatS wr V (N,X,T) (O,Z,U) q from a4);have bI:=un (show VecS wr 0 (Q,nc,t) p.coef from aE)
   have bF:=un (show RatS wr g (A,m,c) (D,z,o) p.rhs from a9);have HW:=un (show Bel w1 wr from Bel.mk a);have aN:=un (aa.o.trans ((a).mono aa.o.size));obtain⟨_,_,aK,aI⟩:=bc2 M.o;obtain⟨ap,am,_,aO,aq,al,aP,_,ar,ao,aR,_⟩:=bf3 G.o;have bj:wr.cell? ⟨by_,k*3,none⟩=some (.bool V):=l0;have bm:wr.cell? ⟨by_,k*3+1,none⟩=some (N,X,T):=l1;have bn:wr.cell? ⟨by_,k*3+2,none⟩=some (O,Z,U):=l2;have ag:=un aj
   clear hV aj hP a hp J a4 aE a9 l0 l1 l2;have ax:=un (show(zPA nc y rows k).length=p.coef.length by rw[zPw af.o k (by rw[←HN.o];exact hk),P.o.1]);have bK:=un (show ∀q∈zPA nc y rows k,mw q≤100000000 from fun q J=>Zc (zPD af.o ZY.o k (by rw[←HN.o];exact hk) q J) (by have:=aV.o;omega));have L1:=un (show 4*(mw q+mw p.rhs)+8≤LIM by have:=az.o;have:=P.o.2.2;have:=zaP;omega)
   have L2:=un (show 4*(mw (zPV y rows k)+mw (q*p.rhs))+8≤LIM by have:=az.o;have:=P.o.2.2;have:=zaP;have:=zdI q p.rhs;have:=zQY af.o ZY.o k;have:=aV.o;omega);have cT:(0:Int)≤(k:Int):=Zf _;have cU:(k:Int)<(nr:Int):=by omega
   have f:=zae wr (.cells #[(Q,nc,t),.int .i64 p.kind,g,(A,m,c),(D,z,o)] 43);have bx:=un (zad f ag.o);have cH:=un (HV.o.below f);have b8:=un (ay.o.below f);have bB:=un (bG.o.below f);have cf:=un (bI.o.below f);have cg:=un (bF.o.below f);have cF:=un (HW.o.below f)
   have cl:=zab f bj;have bU:=zaa cl;have cn:=zab f bm;have bW:=zaa cn;have cp:=zab f bn;have bY:=zaa cp;have co:(wr.alloc (.cells #[(Q,nc,t),.int .i64 p.kind,g,(A,m,c),(D,z,o)] 43)).cell? ⟨wr.heap.size,0,none⟩=some (Q,nc,t):=zax rfl rfl;have b0:=zaa co;have cv:(wr.alloc (.cells #[(Q,nc,t),.int .i64 p.kind,g,(A,m,c),(D,z,o)] 43)).cell? ⟨wr.heap.size,2,none⟩=some (.bool g):=zax rfl rfl
   have b2:=zaa cv;have cA:(wr.alloc (.cells #[(Q,nc,t),.int .i64 p.kind,g,(A,m,c),(D,z,o)] 43)).cell? ⟨wr.heap.size,3,none⟩=some (A,m,c):=zax rfl rfl;have b4:=zaa cA;have cC:(wr.alloc (.cells #[(Q,nc,t),.int .i64 p.kind,g,(A,m,c),(D,z,o)] 43)).cell? ⟨wr.heap.size,4,none⟩=some (D,z,o):=zax rfl rfl;have b6:=zaa cC;go_wp2_with fail
   have bQ:w1.heap.size<wr.heap.size:=(ZI.1 ag.o).1
   go_region_held3 (fun w'=>w'.cell? ⟨by_,k*3,none⟩=some (.bool V)∧w'.cell? ⟨by_,k*3+1,none⟩=some (N,X,T)∧w'.cell? ⟨by_,k*3+2,none⟩=some (O,Z,U)∧w'.cell? ⟨wr.heap.size,0,none⟩=some (Q,nc,t)∧w'.cell? ⟨wr.heap.size,2,none⟩=some (.bool g)∧w'.cell? ⟨wr.heap.size,3,none⟩=some (A,m,c)∧w'.cell? ⟨wr.heap.size,4,none⟩=some (D,z,o))
    (((try go_split_ands);(try simp only[ZZ]);(repeat' apply And.intro)<;>(repeat(first | with_reducible assumption | with_reducible refine cell_set (by omega) ?_ | with_reducible refine cell_al ?_))))
    (first
     | (go_at_call 149;(refine(Vc.addTimes S nc cs (zPA nc y rows k) V N X T O Z U q Q nc t p.coef W.heap.size 0 _ cH.o.drew bB.o.drew cf.o.drew ax.o aU.o bK.o (Zc az.o (by decide)) (fun q J=>Zc (P.o.2.1 q J) (by decide))).mono ?_);rintro e v1 ⟨S2,ns2,cs2,rfl,hn,hb⟩;have bp:=un (zad hb bx.o);have b9:=un (b8.o.drew.below hb);have ci:=un (bB.o.drew.below hb);have ce:=un (cg.o.drew.below hb);have cx:=un (cF.o.drew.below hb);have aZ:=un (show VecS v1 wr.heap.size (S2,ns2,cs2) (zly (zPA nc y rows k) q p.coef)from(hn.base (by show wr.heap.size≤(wr.alloc _).heap.size;simp)));obtain⟨eY,_,_,_,eZ,_,_,_,e5,_⟩:=bf3 bp.o;have cj:=zab hb bU;have bV:=zaa cj;have cm:=zab hb bW;have bX:=zaa cm;have ct:=zab hb bY;have bZ:=zaa ct;have cu:=zab hb b0;have b1:=zaa cu;have cw:=zab hb b2;have b3:=zaa cw;have cB:=zab hb b4;have b5:=zaa cB;have cD:=zab hb b6;have b7:=zaa cD;clear hn hb)
     | fail)
   go_wp2_with fail
   obtain rfl:nc=ns2:=by rw[aZ.o.len,zdt ax.o,ax.o,P.o.1]
   refine za2 (S:=fun w'=>w'.cell? ⟨w1,0,none⟩=some (.bool u)∧w'.cell? ⟨w1,1,none⟩=some (j,E,s)∧w'.cell? ⟨w1,2,none⟩=some (l,B,r)∧w'.cell? ⟨by_,k*3,none⟩=some (.bool V)∧w'.cell? ⟨by_,k*3+1,none⟩=some (N,X,T)∧w'.cell? ⟨by_,k*3+2,none⟩=some (O,Z,U)∧w'.cell? ⟨wr.heap.size,0,none⟩=some (Q,nc,t)∧w'.cell? ⟨wr.heap.size,2,none⟩=some (.bool g)∧w'.cell? ⟨wr.heap.size,3,none⟩=some (A,m,c)∧w'.cell? ⟨wr.heap.size,4,none⟩=some (D,z,o)) 11 (h:=fun hHeld=>?_)
   refine zaw [0,1,2,3,4,5,6,7] ?_;repeat refine tkE (hS:=hHeld) (h:=?_)
   refine zao ?_;refine zaN 8 (h:=fun K H=>?_);go_simp
   (go_at_call 15;(refine(Rt.mul V N X T O Z U q g A m c D z o p.rhs _ ci.o.drew ce.o.drew L1.o).mono ?_);rintro e v2 ⟨g3,A3,m3,c3,D3,md3,cd3,rfl,hn,hb⟩;have bq:=un (zad hb bp.o);have ca:=un (b9.o.drew.below hb);have cG:=un (cx.o.drew.below hb);have cO:=un (aZ.o.drew.below hb);have HM:=un (show RatS v2 g3 (A3,m3,c3) (D3,md3,cd3) (q*p.rhs)from hn);obtain⟨fm,_,_,_,fn,_,_,_,fo,_⟩:=bf3 bq.o;have br:=zab hb bV;have bs:=zab hb bX;have bt:=zab hb bZ;have bu:=zab hb b1;have bv:=zab hb b3;have bw:=zab hb b5;have bA:=zab hb b7;clear hn hb)
   (try go_wp2_with fail)
   refine shutOn H fun hHeld=>?_
   clear H K
   refine zaN 9 (h:=fun K H=>?_);go_simp
   (go_at_call 21;(refine(Rt.add u j E s l B r (zPV y rows k) g3 A3 m3 c3 D3 md3 cd3 (q*p.rhs) _ ca.o HM.o L2.o).mono ?_);rintro e v3 ⟨g4,A4,m4,c4,D4,md4,cd4,rfl,hn,hb⟩;have au:=un (zad hb bq.o);have ch:=un (cG.o.below hb);have cP:=un (cO.o.below hb);have HS:=un (show RatS v3 g4 (A4,m4,c4) (D4,md4,cd4) (zPV y rows k+q*p.rhs)from hn);obtain⟨fr,_,fA,_,fs,_,fB,_,ft,_,fC,_⟩:=bf3 au.o;have cE:=zab hb br;have cI:=zab hb bs;have cJ:=zab hb bt;have cK:=zab hb bu;have cL:=zab hb bv;have cM:=zab hb bw;have cN:=zab hb bA;clear hn hb)
   (try go_wp2_with fail)
   refine shutOn H fun hHeld=>?_
   clear H K
   refine zaw [10] ?_;repeat refine tkE (hS:=hHeld) (h:=?_)
   refine zao ?_;refine zba (h:=fun K H=>?_);go_simp;refine shutOff H ?_;clear H K
   refine za1 (h:=?_)
   all_goals
    go_wp2;go_roundw
    case rel=>exact⟨k+1,S2,cs2,g4,A4,m4,c4,D4,md4,cd4,by go_num,rfl,by omega,by rw[zQg HP.o HQ.o];exact(VecS.set3 cP.o au.o (by decide) bQ 0 1 2 _ _ _).base (by omega),zar _ (zar _ (zar _ au.o)),by rw[zQd HP.o HQ.o];exact HS.o.set3 au.o (by decide) _ _ _,(Bel.set3 ch.o (Za _) _ _ _).b⟩
    case measure=>simp[intOf];omega
  ·have bN:k=nr:=by omega
   have M:=un (zad a an.o);have G:=un (zad a ad.o);have be:=un (aw.o.below a);have bz:=un (av.o.below a);have HV:=un (show VecS wr W.heap.size (S,nc,cs) (zPA nc y rows k)from hV);have ay:=un (show RatS wr u (j,E,s) (l,B,r) (zPV y rows k)from hP);have aN:=un (aa.o.trans ((a).mono aa.o.size));obtain⟨_,_,aK,aI⟩:=bc2 M.o;obtain⟨ap,am,_,aO,aq,al,aP,_,ar,ao,aR,_⟩:=bf3 G.o;have ag:=un aj
   obtain⟨_,ec,_,ed,_,d1⟩:=bc3 ag.o;clear hV aj hP a;go_wp2_with fail
   go_region
   all_goals
    go_wp2;refine Zd (v:=.tuple #[(S,nc,cs),.agg #[u,(j,E,s),(l,B,r)],true]) (by simp[results,results119,go_sem,ap,am,aq,al,ar,ao]) rfl ?_;have h1:=VecS.set3 HV.o G.o (by decide) (show w.heap.size+1<W.heap.size by have:=HZ.o;omega) 0 1 2 u (j,E,s) (l,B,r);have h2:=ay.o.set3 G.o (by decide) u (j,E,s) (l,B,r);rw[bN,HN.o]at h1 h2
    exact⟨_,_,_,_,_,_,_,_,_,_,rfl,(h1.base (by have:=HZ.o;omega)).drew,h2.drew,bdrew (bsc (bsc (bsc aN.o)))⟩
end Ct
theorem Vc.below_dear(A:OA)(n c:Nat)(nc:Nat)(cost:List Rat)(rows:List PRow)(y:List Rat)(H:Nat)(w:World)(h:VecS w H (A,n,c) (zly cost ((-1:Int):Rat) (sv nc y rows)))(b:Bool)(a:yew nc cost rows y=b) :
  Calls prog 70 #[(A,n,c)] w fun e w'=>e=.returned b∧Below w w w':=by
 rw[←a];exact Vc.below A n c _ H w h
namespace Ct
theorem yeB(C:OA)(nc cc:Nat)(R:OA)(nr a:Nat)(cost:List Rat)(rows:List PRow)(Y:OA)(g f:Nat)(y:List Rat)(w:World)(hc:VecS w 0 (C,nc,cc) cost)(hr:RowsS w 0 (R,nr,a) rows)(l:VecS w 0 (Y,g,f) y)(k:y.length≠rows.length) :
  Calls prog 79 #[.agg #[(C,nc,cc),(R,nr,a)],(Y,g,f)] w (zii w 0 false):=by
 have q:=un k;clear k;obtain⟨W,b⟩:∃W,((w.alloc (.cells #[(C,nc,cc),(R,nr,a)] 31)).alloc (.cells #[false,(),()] 41))=W:=⟨_,rfl⟩
 have i:=un (show W.heap[w.heap.size]? = some (.cells #[(C,nc,cc),(R,nr,a)] 31 (0,0))by rw[←b];exact zak (zam (by simp)));have j:=un (show W.heap[w.heap.size+1]? = some (.cells #[false,(),()] 41 (0,0))by rw[←b];exact zam (by simp));have c:=un (show Below w w W by rw[←b];exact(zae w _).alloc (by simp) _);have o:=un (show VecS W 0 (C,nc,cc) cost by rw[←b];exact((hc).alloc _).alloc _)
 have s:=un (show VecS W 0 (Y,g,f) y by rw[←b];exact((l).alloc _).alloc _);have r:=un (show RowsS W 0 (R,nr,a) rows by rw[←b];exact((hr).alloc _).alloc _);obtain⟨K,_,L,_⟩:=bc2 i.o;obtain⟨_,_,_,S,_⟩:=bf3 j.o;clear hc hr l;go_enter func79,ntmps79;go_wp2_with fail
 clear b;refine(yeM C nc cc R nr a cost rows Y g f y _ o.o r.o s.o q.o).mono ?_
 rintro e w1 ⟨S2,ns2,cs2,g2,A2,m2,c2,D2,md2,cd2,rfl,hv,hn,hb⟩;have A:=un (show(w1.alloc (.cells #[g2,(A2,m2,c2),(D2,md2,cd2)] 41)).heap[w.heap.size]? = some (.cells #[(C,nc,cc),(R,nr,a)] 31 (0,0))from zak (zad hb i.o));have m:=un (show(w1.alloc (.cells #[g2,(A2,m2,c2),(D2,md2,cd2)] 41)).heap[w.heap.size+1]? = some (.cells #[false,(),()] 41 (0,0))from zak (zad hb j.o))
 have u:=un (show Below w w (w1.alloc (.cells #[g2,(A2,m2,c2),(D2,md2,cd2)] 41))from((c.o.trans ((hb).mono c.o.size))).alloc ((c.o.trans ((hb).mono c.o.size))).size _);obtain⟨D,z,ai,_,E,t,af,_,B,F,ak,_⟩:=bf3 m.o
 clear hv hn hb;go_wp2;refine Zd (v:=.tuple #[.agg #[false,(),()],false]) (by simp[results,results79,go_sem,D,z,E,t,B,F]) rfl ?_;exact⟨_,_,_,_,_,_,_,rfl,(RatS.zero _).set3 m.o (by decide) _ _ _,bsc (bsc (bsc u.o))⟩
theorem yeC(C:OA)(nc cc:Nat)(R:OA)(nr b:Nat)(cost:List Rat)(rows:List PRow)(Y:OA)(i g:Nat)(y:List Rat)(w:World)(hc:VecS w 0 (C,nc,cc) cost)(hr:RowsS w 0 (R,nr,b) rows)(Z:VecS w 0 (Y,i,g) y)(X:y.length=rows.length)(hg:Good nc nr cost rows)(zy:Sm y)(V:cost.length=nc) :
  Calls prog 79 #[.agg #[(C,nc,cc),(R,nr,b)],(Y,i,g)] w (zii w (if ydS nc cost rows y then sb y rows else 0) (ydS nc cost rows y)):=by
 have O:=un X;have a:=un hg;have U:=un zy;have az:=un V;have aA:=un (show rows.length≤4 by rw[←hr.len];exact hg.hr);generalize hBB:ydS nc cost rows y=bb;generalize hBQ:(if bb=true then sb y rows else 0)=bq;have s:=un hBB;have t:=un hBQ;clear X hg zy V hBB hBQ;obtain⟨W,f⟩:∃W,((w.alloc (.cells #[(C,nc,cc),(R,nr,b)] 31)).alloc (.cells #[false,(),()] 41))=W:=⟨_,rfl⟩
 have S:=un (show W.heap[w.heap.size]? = some (.cells #[(C,nc,cc),(R,nr,b)] 31 (0,0))by rw[←f];exact zak (zam (by simp)));have T:=un (show W.heap[w.heap.size+1]? = some (.cells #[false,(),()] 41 (0,0))by rw[←f];exact zam (by simp));have m:=un (show Below w w W by rw[←f];exact(zae w _).alloc (by simp) _);have N:=un (show VecS W 0 (C,nc,cc) cost by rw[←f];exact((hc).alloc _).alloc _)
 have Q:=un (show VecS W 0 (Y,i,g) y by rw[←f];exact((Z).alloc _).alloc _);have P:=un (show RowsS W 0 (R,nr,b) rows by rw[←f];exact((hr).alloc _).alloc _);obtain⟨bn,_,bo,_⟩:=bc2 S.o;clear hc hr Z;go_enter func79,ntmps79;go_wp2_with fail
 clear f;refine(yeN C nc cc R nr b cost rows Y i g y _ N.o P.o Q.o O.o a.o.hr (Zc a.o.hc (by decide)) a.o.rw_ U.o).mono ?_
 rintro e w1 ⟨S2,ns2,cs2,g2,A2,m2,c2,D2,md2,cd2,rfl,hv,hn,hb⟩;have ak:=un (show(w1.alloc (.cells #[g2,(A2,m2,c2),(D2,md2,cd2)] 41)).heap[w.heap.size]? = some (.cells #[(C,nc,cc),(R,nr,b)] 31 (0,0))from zak (zad hb S.o));have ah:=un (show(w1.alloc (.cells #[g2,(A2,m2,c2),(D2,md2,cd2)] 41)).heap[w.heap.size+1]? = some (.cells #[false,(),()] 41 (0,0))from zak (zad hb T.o))
 have ax:=un (show VecS (w1.alloc (.cells #[g2,(A2,m2,c2),(D2,md2,cd2)] 41)) 0 (C,nc,cc) cost from(N.o.below hb).alloc _);have bd:=un (show VecS (w1.alloc (.cells #[g2,(A2,m2,c2),(D2,md2,cd2)] 41)) 0 (Y,i,g) y from(Q.o.below hb).alloc _);have ar:=un (show RowsS (w1.alloc (.cells #[g2,(A2,m2,c2),(D2,md2,cd2)] 41)) 0 (R,nr,b) rows from(P.o.below hb).alloc _)
 have HV:=un (show VecS (w1.alloc (.cells #[g2,(A2,m2,c2),(D2,md2,cd2)] 41)) 0 (S2,ns2,cs2) (sv nc y rows)from((hv.base (Zb _))).alloc _);have HS:=un (show RatS (w1.alloc (.cells #[g2,(A2,m2,c2),(D2,md2,cd2)] 41)) g2 (A2,m2,c2) (D2,md2,cd2) (sb y rows)from(hn).alloc _)
 have aj:=un (show Below w w (w1.alloc (.cells #[g2,(A2,m2,c2),(D2,md2,cd2)] 41))from((m.o.trans ((hb).mono m.o.size))).alloc ((m.o.trans ((hb).mono m.o.size))).size _);have ao:=un (show(w1.alloc (.cells #[g2,(A2,m2,c2),(D2,md2,cd2)] 41)).heap[w1.heap.size]? = some (.cells #[g2,(A2,m2,c2),(D2,md2,cd2)] 41 (0,0))from zam (by simp));obtain⟨bl,_,bm,_⟩:=bc2 ak.o
 clear hv hn hb;go_wp2_with fail
 refine(Pb.may C nc cc R nr b cost rows _ ax.o ar.o a.o.hc (Zc a.o.hr (by decide)) a.o.rw_ a.o.kd).mono ?_
 rintro e w2 ⟨rfl,hb⟩;have ai:=un (zad hb ak.o);have al:=un (zad hb ah.o);have aq:=un (zad hb ao.o);have ac:=un (ax.o.below hb);have aa:=un (bd.o.below hb);have aw:=un (ar.o.below hb);have bc:=un (HV.o.below hb);have aL:=un (HS.o.below hb);have am:=un (aj.o.trans ((hb).mono aj.o.size));obtain⟨bp,_,br,_⟩:=bc2 ai.o;obtain⟨_,_,_,_,_,cd⟩:=bc3 aq.o;clear hb;go_wp2_with fail
 refine(signed C nc cc R nr b cost rows Y i g y _ ac.o aw.o aa.o O.o (Zc a.o.hr (by decide))).mono ?_
 rintro e w3 ⟨rfl,hb⟩;have an:=un (zad hb ai.o);have G:=un (zad hb al.o);have au:=un (zad hb aq.o);have ad:=un (ac.o.below hb);have av:=un (bc.o.below hb);have aM:=un (aL.o.below hb);have A:=un (am.o.trans ((hb).mono am.o.size));obtain⟨cn,_⟩:=bc2 an.o;obtain⟨a4,aS,cO,_,a5,aT,cL,_,a6,aX,cM,_⟩:=bf3 G.o;clear hb;cases hsg:zId rows y
 ·have k:ydS nc cost rows y=false:=by unfold ydS;rw[hsg];rfl
  go_wp2;refine Zd (v:=.tuple #[.agg #[false,(),()],false]) (by simp[results,results79,go_sem,a4,aS,a5,aT,a6,aX]) rfl ?_;have c:bb=false:=s.o.symm.trans k;have j:bq=0:=by rw[←t.o,c];rfl
  subst c j;exact⟨_,_,_,_,_,_,_,rfl,(RatS.zero _).set3 G.o (by decide) _ _ _,bsc (bsc (bsc A.o))⟩
 ·skip
  go_wp2_with fail
  refine(Vc.sub C nc cc cost S2 ns2 cs2 (sv nc y rows) 0 0 _ ad.o av.o (by rw[yee a.o.rw_,az.o]) (Zc a.o.hc (by decide)) (fun q hq=>Zc (a.o.sc q hq) (by decide)) (yeT a.o.rw_ U.o aA.o)).mono ?_
  rintro e w4 ⟨T3,nt3,ct3,rfl,hv,hb⟩;have z:=un (zad hb G.o);have I:=un (zad hb au.o);have ae:=un (aM.o.below hb);have o:=un (show VecS w4 0 (T3,nt3,ct3) (zly cost ((-1:Int):Rat) (sv nc y rows))from(hv.base (Zb _)));have r:=un (A.o.trans ((hb).mono A.o.size))
  obtain⟨_,_,_,_,_,_,_,_,_,_,_,cs⟩:=bf3 z.o;clear hv hb;go_wp2_with fail
  cases hde:yew nc cost rows y
  ·have k:ydS nc cost rows y=true:=by unfold ydS;rw[hsg,hde];rfl
   refine(Vc.below_dear T3 nt3 ct3 nc cost rows y 0 _ o.o false hde).mono ?_
   rintro e w5 ⟨rfl,hb⟩;have l:=un (zad hb z.o);have J:=un (zad hb I.o);have ag:=un (ae.o.below hb);have D:=un (r.o.trans ((hb).mono r.o.size));obtain⟨K,E,a1,_,L,F,a2,_,M,H,a3,_⟩:=bf3 l.o;obtain⟨a7,_,a8,_,a9,_⟩:=bc3 J.o;clear hb;go_wp2
   refine Zd (v:=.tuple #[.agg #[g2,(A2,m2,c2),(D2,md2,cd2)],true]) (by simp[results,results79,go_sem,K,E,L,F,M,H]) rfl ?_;have c:bb=true:=s.o.symm.trans k;have j:bq=sb y rows:=by rw[←t.o,c];rfl
   subst c j;exact⟨_,_,_,_,_,_,_,rfl,ag.o.set3 l.o (by decide) _ _ _,bsc (bsc (bsc D.o))⟩
  ·have k:ydS nc cost rows y=false:=by unfold ydS;rw[hsg,hde];rfl
   refine(Vc.below_dear T3 nt3 ct3 nc cost rows y 0 _ o.o true hde).mono ?_
   rintro e w5 ⟨rfl,hb⟩;have l:=un (zad hb z.o);have J:=un (zad hb I.o);have ag:=un (ae.o.below hb);have D:=un (r.o.trans ((hb).mono r.o.size));obtain⟨K,E,a1,_,L,F,a2,_,M,H,a3,_⟩:=bf3 l.o;obtain⟨a7,_,a8,_,a9,_⟩:=bc3 J.o;clear hb;go_wp2
   refine Zd (v:=.tuple #[.agg #[false,(),()],false]) (by simp[results,results79,go_sem,K,E,L,F,M,H]) rfl ?_;have c:bb=false:=s.o.symm.trans k;have j:bq=0:=by rw[←t.o,c];rfl
   subst c j;exact⟨_,_,_,_,_,_,_,rfl,(RatS.zero _).set3 l.o (by decide) _ _ _,bsc (bsc (bsc D.o))⟩
end Ct
namespace Ct
open Pb (zPu)
theorem yxe(C:OA)(nc cc:Nat)(R:OA)(nr a:Nat)(cost:List Rat)(rows:List PRow)(Y:OA)(g c:Nat)(y:List Rat)(w:World)(hc:VecS w 0 (C,nc,cc) cost)(hr:RowsS w 0 (R,nr,a) rows)(j:VecS w 0 (Y,g,c) y)(hg:Good nc nr cost rows)(zy:Sm y)(k:cost.length=nc)(b:Bool)(i:yep nc cost rows y=b) :
  Calls prog 79 #[.agg #[(C,nc,cc),(R,nr,a)],(Y,g,c)] w (zii w (if b then sb y rows else 0) b):=by
 by_cases f:y.length=rows.length
 ·have h:=yeC C nc cc R nr a cost rows Y g c y w hc hr j f hg zy k;have e:ydS nc cost rows y=b:=by rw[←i];unfold yep;rw[Zs f];rfl
  rw[e]at h;exact h
 ·have e:b=false:=by rw[←i];unfold yep;rw[Zt f];rfl
  grind[yeB]
theorem yi8(C:OA)(nc cc:Nat)(R:OA)(nr a:Nat)(cost:List Rat)(rows:List PRow)(X:OA)(f c:Nat)(x:List Rat)(w:World)(hc:VecS w 0 (C,nc,cc) cost)(hr:RowsS w 0 (R,nr,a) rows)(i:VecS w 0 (X,f,c) x)(hg:Good nc nr cost rows)(zx:Sm x)(b:Bool)(g:znD cost rows x=b) :
  Calls prog 26 #[.agg #[(C,nc,cc),(R,nr,a)],(X,f,c)] w fun e w'=>e=.returned b∧Below w w w':=by
 rw[←g];exact Pb.fits C nc cc R nr a cost rows X f c x w hc hr i (Zc hg.hc (by decide)) hg.rw_ zx (Zc hg.hr (by decide))
theorem yi7(C:OA)(nc cc:Nat)(R:OA)(nr b:Nat)(cost:List Rat)(rows:List PRow)(X:OA)(i g:Nat)(x:List Rat)(Y:OA)(m l:Nat)(y:List Rat)(w:World)(hc:VecS w 0 (C,nc,cc) cost)(hr:RowsS w 0 (R,nr,b) rows)(M:VecS w 0 (X,i,g) x)(N:VecS w 0 (Y,m,l) y)(hg:Good nc nr cost rows)(zy:Sm y)(zx:Sm x)(E:cost.length=nc) :
  Calls prog 33 #[.agg #[(C,nc,cc),(R,nr,b)],(X,i,g),(Y,m,l)] w fun e w'=>e=.returned (.bool (yeG nc cost rows x y))∧Below w w w':=by
 have f:=un hg;have L:=un zy;have B:=un zx;have H:=un E;have L1:=un (show 4*(mw (sb y rows)+mw (dot cost x))+8≤LIM by have:=yeX hg.rw_ zy (by rw[←hr.len];exact hg.hr);have:=zDI hg.sc zx (by rw[E];have:=hg.hc;omega);have:=zaP;omega);generalize hob:yeG nc cost rows x y=ob;have z:=un hob;clear hg zy zx E hob;obtain⟨W,c⟩:∃W,(w.alloc (.cells #[(C,nc,cc),(R,nr,b)] 31))=W:=⟨_,rfl⟩
 have A:=un (show W.heap[w.heap.size]? = some (.cells #[(C,nc,cc),(R,nr,b)] 31 (0,0))by rw[←c];exact zam (by simp));have s:=un (show Below w w W by rw[←c];exact zae w _);have t:=un (show VecS W 0 (C,nc,cc) cost by rw[←c];exact(hc).alloc _);have u:=un (show RowsS W 0 (R,nr,b) rows by rw[←c];exact(hr).alloc _);have J:=un (show VecS W 0 (X,i,g) x by rw[←c];exact(M).alloc _);have K:=un (show VecS W 0 (Y,m,l) y by rw[←c];exact(N).alloc _)
 obtain⟨am,_,an,_⟩:=bc2 A.o;clear hc hr M N;go_enter func33,ntmps33;go_wp2_with fail
 clear c;cases hbb:yep nc cost rows y
 ·have k:=un (show ob=false by rw[←z.o];exact yeH (.inl hbb));refine(yxe C nc cc R nr b cost rows Y m l y _ t.o u.o K.o f.o L.o H.o false hbb).mono ?_
  rintro e w1 ⟨g2,A2,m2,c2,D2,md2,cd2,rfl,hn,hb⟩;have a:=(hb).alloc (hb).size (.cells #[g2,(A2,m2,c2),(D2,md2,cd2)] 41);have o:=un (zad a A.o);have r:=un (t.o.below a);have q:=un (u.o.below a);have p:=un (J.o.below a);have j:=un (s.o.trans ((a).mono s.o.size));have F:=un (zal w1 #[g2,(A2,m2,c2),(D2,md2,cd2)] 41);obtain⟨ae,_,af,_⟩:=bc2 o.o;clear hn hb;go_wp2;go_ret
  exact⟨by rw[k.o];first | done | rfl,j.o⟩
 ·skip
  refine(yxe C nc cc R nr b cost rows Y m l y _ t.o u.o K.o f.o L.o H.o true hbb).mono ?_
  rintro e w1 ⟨g2,A2,m2,c2,D2,md2,cd2,rfl,hn,hb⟩;have a:=(hb).alloc (hb).size (.cells #[g2,(A2,m2,c2),(D2,md2,cd2)] 41);have o:=un (zad a A.o);have r:=un (t.o.below a);have q:=un (u.o.below a);have p:=un (J.o.below a);have I:=un (show RatS (w1.alloc (.cells #[g2,(A2,m2,c2),(D2,md2,cd2)] 41)) g2 (A2,m2,c2) (D2,md2,cd2) (sb y rows)from(hn).alloc _);have j:=un (s.o.trans ((a).mono s.o.size))
  have F:=un (zal w1 #[g2,(A2,m2,c2),(D2,md2,cd2)] 41);obtain⟨ae,_,af,_⟩:=bc2 o.o;clear hn hb;go_wp2_with fail
  cases hf:znD cost rows x
  ·have k:=un (show ob=false by rw[←z.o];exact yeH (.inr hf));refine(yi8 C nc cc R nr b cost rows X i g x _ r.o q.o p.o f.o B.o false hf).mono ?_
   rintro e w2 ⟨rfl,hb⟩;have G:=un (zad hb o.o);have S:=un (zad hb F.o);have Q:=un (r.o.below hb);have U:=un (q.o.below hb);have V:=un (p.o.below hb);have P:=un (I.o.below hb);have v:=un (j.o.trans ((hb).mono j.o.size));obtain⟨ag,_,ah,_⟩:=bc2 G.o;clear hb;go_wp2;go_ret
   exact⟨by rw[k.o];first | done | rfl,v.o⟩
  ·have k:=un (show zA9 (sb y rows) (dot cost x)=ob by rw[←z.o];unfold yeG;rw[hbb,hf];rfl);have aa:=un (show cost.length=x.length from(ydT.1 hf).1.symm);refine(yi8 C nc cc R nr b cost rows X i g x _ r.o q.o p.o f.o B.o true hf).mono ?_
   rintro e w2 ⟨rfl,hb⟩;have G:=un (zad hb o.o);have S:=un (zad hb F.o);have Q:=un (r.o.below hb);have U:=un (q.o.below hb);have V:=un (p.o.below hb);have P:=un (I.o.below hb);have v:=un (j.o.trans ((hb).mono j.o.size));obtain⟨ag,_,ah,_⟩:=bc2 G.o;clear hb;go_wp2_with fail
   refine(zPu C nc cc R nr b cost rows X i g x _ Q.o U.o V.o aa.o (Zc f.o.hc (by decide)) f.o.sc B.o).mono ?_
   rintro e O ⟨g3,A3,m3,c3,D3,md3,cd3,rfl,hn,hb⟩;have D:=(hb).alloc (hb).size (.cells #[g3,(A3,m3,c3),(D3,md3,cd3)] 41);have aj:=un (zad D S.o);have ad:=un (P.o.below D);have Z:=un (show RatS (O.alloc (.cells #[g3,(A3,m3,c3),(D3,md3,cd3)] 41)) g3 (A3,m3,c3) (D3,md3,cd3) (dot cost x)from(hn).alloc _);have T:=un (v.o.trans ((D).mono v.o.size));have ak:=un (zal O #[g3,(A3,m3,c3),(D3,md3,cd3)] 41)
   obtain⟨ao,_,ap,_,aq,_⟩:=bc3 aj.o;obtain⟨ar,_,au,_,av,_⟩:=bc3 ak.o;clear hn hb;go_wp2_with fail
   refine(Rt.same g2 A2 m2 c2 D2 md2 cd2 (sb y rows) g3 A3 m3 c3 D3 md3 cd3 (dot cost x) _ ad.o Z.o L1.o).mono ?_
   rintro e w4 ⟨rfl,hb⟩;have ai:=un (T.o.trans ((hb).mono T.o.size));clear hb;go_wp2;go_ret
   exact⟨by rw[k.o];first | done | rfl,ai.o⟩
