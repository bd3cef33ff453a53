/- Contracts and lemmas: Tb5 Ng GdS Chp. Conditions: as each says. -/
import Derived.Test.YtbhfhkcdfmmmiaaGreatDoorBasTZd
import Derived.Test.YtbhfhkcdfmmmiaaGreatDoorLaw2Zd
import Derived.Test.YtbhfhkcdfmmmiaaGreatDoorBoolsZd
set_option linter.all false
set_option maxHeartbeats 4000000
set_option maxRecDepth 100000
namespace Go.Proofs.YtbhfhkcdfmmmiaaGreatDoor
open Go.RowKit Am
open Lib (hid)
attribute [local go_sem ↓] Go.wp_at_zero Go.wp_at_succ
variable {A:List (List Rat)}{cols:List Nat}{ps rows:List PRow}{l:List RR}{cost:List Rat}{N S k m nC pb:Nat}{R:Value}{w w0:World}
def zsF (N:Nat) (cols:List Nat) (xs:List Rat):Nat→List Rat
  | 0=>List.replicate N 0
  | k+1=>(zsF N cols xs k).set (cols.getD k 0) (el xs k)
theorem zh2(N:Nat)(cols:List Nat)(xs:List Rat):∀k,(zsF N cols xs k).length=N
 | 0=>by simp[zsF]
 | k+1=>by rw[zsF,List.length_set];exact zh2 N cols xs k
theorem zvi{m N:Nat}{A:List (List Rat)}{cols:List Nat}(d:Basis m N A cols)(xs:List Rat):∀k,k≤m→∀j,j<N→el (zsF N cols xs k) j=pt k (fun k=>cols.getD k 0) (el xs) j
 | 0,_,j,hj=>by rw[zsF,zrm];rfl
 | k+1,hk,j,hj=>by
  have g:=zvi d xs k (by omega) j hj;have f:=d.lt k (by omega);rw[zsF,ziZ (by rw[zh2];exact f),g];by_cases e:cols.getD k 0=j
  ·rw[if_pos e];subst e;exact(zA7 (m:=k+1) (β:=fun k=>cols.getD k 0) (fun a b i l=>d.inj a b (by omega) (by omega)) (el xs) (k:=k) (by omega)).symm
  ·rw[if_neg e];show _=pt (k+1) _ _ j
   unfold pt;rw[zai,if_neg e];grind
theorem zxy(a:Basis m N A cols)(xs:List Rat):zsF N cols xs m=zh1 N cols xs:=by
 apply List.ext_getElem?;intro j;by_cases hj:j<N
 ·rw[zaH (by rw[zh2];exact hj),zaH (by rw[zl8];exact hj),zvi a xs m (Nat.le_refl _) j hj,zvg hj,a.len]
 ·rw[List.getElem?_eq_none (by rw[zh2];omega),List.getElem?_eq_none (by rw[zl8];omega)]
section
variable {W0 w:World} {H q:Nat} {rA:OA} {rc:Nat} {lA:List Value} {bA:OA} {bc_:Nat} {kA:OA} {kc:Nat} {eA:OA} {ec m N S own:Nat} {A:List (List Rat)} {b c:List Rat} {left:List Int}
  {tA:OA} {tc:Nat} {cols:List Nat}
namespace Tb
theorem point(h:zhi W0 w H q rA rc lA bA bc_ kA kc eA ec m N S own A b c left tA tc cols) :
  Calls Tryz.prog 32 #[.pointer (some ⟨q,0,none⟩)] w fun e w'=>∃(s:OA) (c':Nat),e=.returned (s,N,c')∧VecS w' w.heap.size (s,N,c') (zh1 N cols (za5 A b cols))∧Below w.heap.size w w':=by
 obtain⟨qb,xA,xc,g⟩:=h;have d:=hid g;have an:=g.std.hm;have ai:=g.std.hN;have t:=hid (Below.refl w.heap.size w);obtain⟨k0,_,k1,_,_,_,_,_,_,_,_,_,T,aq,_,_,U,ar⟩:=bc9 g.blk;clear g;go_enter Tryz.func32,Tryz.ntmps32;go_wp2_with fail
 with_reducible refine(Mt.cols N m rc rA _).mono ?_
 rintro e w1 ⟨rfl,hb⟩;have r:=hid (d.out.below hb);have E:=hid (t.out.trans ((hb).mono t.out.size));have F:=zab hb T;have aL:=zaa F;have G:=zab hb U;have aM:=zaa G;clear hb;have v:=hid (E.out.size);have P:=hid (d.out.basis.vals_ok b).2;go_wp2_with (at_make;go_must (refine zdv rfl _ _ rfl N _ rfl rfl rfl (by omega) w1.heap.size rfl ?_;intro w2 C l;have L:=hid C;have J:=hid l;have m6:=zab l F;have m8:=zab l G;clear C l))
 go_loopw [18] (fun i wr=>∃k:Nat,i=.int .i64 k∧k≤m∧VecS wr w1.heap.size (w1.heap.size,N,N) (zsF N cols (za5 A b cols) k)∧Below w1.heap.size w1 wr)
  (fun i _=>m-(intOf i).toNat)
 case atStart=>exact⟨0,rfl,Nat.zero_le _,L.out,J.out⟩
 case round =>
  obtain⟨k,rfl,hk,a,f⟩:=hrel;by_cases o:k<m
  ·have hj:cols[k]? = some (cols.getD k 0):=zaO (by rw[d.out.basis.len];exact o);have B:=d.out.basis.lt k o;have u:=hid (show zsF N cols (za5 A b cols) (k+1)=(zsF N cols (za5 A b cols) k).set (cols.getD k 0) (el (za5 A b cols) k)from rfl);have p:=zaH (xs:=zsF N cols (za5 A b cols) k) (j:=cols.getD k 0) (by rw[zh2];exact B);generalize cols.getD k 0=j at hj B p u;have D:=zaH (xs:=za5 A b cols) (j:=k) (by rw[P.out];exact o);have y:=(r.out.below f).blk
   obtain⟨_,_,_,_,_,_,_,_,_,_,_,_,t6,aH,_,_,t8,aJ⟩:=bc9 y;obtain⟨bt,R,_,_⟩:=d.out.colsI.has (by omega);subst R;obtain⟨bs,Q,_,_⟩:=d.out.x.has (by omega);subst Q;have p0:=(r.out.colsI.below f).at_ hj;obtain⟨ga,V,ma,ca,X,ax,af,Z,a1,a2,z⟩:=(r.out.x.below f).at_ D;obtain⟨go,W,mo,co,Y,ay,ag,o0,o1,o2,_⟩:=a.at_ p;have aD:=a.fro (j*3);have of1:=a.fro (j*3+1);have aE:=a.fro (j*3+2);have n:=hid a;have K:=hid (Bel.mk f);have O:=hid z;clear a f z p D y hj;have aj:(0:Int)≤(k:Int):=Int.natCast_nonneg _
   have ak:(k:Int)<(m:Int):=by omega
   have al:(0:Int)≤(j:Int):=Int.natCast_nonneg _;have am:(j:Int)<(N:Int):=by omega
   go_wp2;go_roundw
   case rel=>exact⟨k+1,by go_num,by omega,by rw[u.out];exact n.out.store j O.out,(Bel.set3 K.out (Nat.le_refl _) _ _ _).b⟩
   case measure=>simp[intOf];omega
  ·obtain rfl:m=k:=by omega
   have n:=hid a;have I:=hid f;have M:=hid (zxy d.out.basis (za5 A b cols));clear a f;go_wp2;go_ret
   exact⟨_,_,rfl,by have h:=n.out.base v.out;rw[M.out]at h;exact h,E.out.trans (I.out.mono v.out)⟩
end Tb
end
theorem zNy{xs:List Rat}(h:∀k,k<xs.length→0≤el xs k):(xs.any fun q=>decide (q<0))=false:=by
 rw[List.any_eq_false];intro q a;obtain⟨k,hk⟩:=List.mem_iff_getElem?.1 a;have:=h k (List.getElem?_eq_some_iff.1 hk).1;rw[znd hk]at this;rw[decide_eq_false (Rat.not_lt.2 this)];decide
theorem zLu(a:Basis m N A cols)(zA:∀r∈A,∀q∈r,mw q≤S):zhg mw m S (bc A cols):=fun j hj i f=>by
 rw[ztZ (by rw[a.len];exact hj) (by rw[a.rect.len];exact f)];have e:=zaO (L:=A) (i:=i) (d:=[]) (by rw[a.rect.len];exact f);have hm:=List.mem_of_getElem? e;exact zA _ hm _ (List.mem_of_getElem? (zaH (by rw[a.rect.row i f];exact a.lt j hj)))
theorem zVF:∀n,n≤4→sB n 1 1≤1000000:=by decide +kernel
theorem zWc:∀n,n≤4→zor n 1≤LIM:=by unfold LIM;decide +kernel
structure Shape (nC:Nat) (rows:List PRow):Prop where
  co:∀p∈rows,p.coef.length=nC
  kd:Kinds rows
structure GoodS (S nC m:Nat) (cost:List Rat) (rows:List PRow):Prop where
  sc:∀q∈cost,mw q≤S
  rw_:∀p∈rows,p.coef.length=nC∧(∀q∈p.coef,mw q≤S)∧mw p.rhs≤S
  kd:Kinds rows
  h1:1≤S
  hS:S≤4000000
  hc:nC≤24
  hr:m≤20
  cap:zor m S≤LIM
  sb:sB m S S≤4000000
theorem Good1.toS(h:Good1 nC m cost rows):GoodS 1 nC m cost rows :=
 ⟨h.sc,h.rw_,h.kd,Nat.le_refl _,by decide,by have:=h.hc;omega,by have:=h.hr;omega,zWc m h.hr,Nat.le_trans (zVF m h.hr) (by decide)⟩
theorem GoodS.sh(h:GoodS S nC m cost rows):Shape nC rows:=⟨fun p a=>(h.rw_ p a).1,h.kd⟩
def mxL {α:Type} (f:α→α) (l:List α) (k:Nat):List α:=(l.take k).map f++l.drop k
theorem zK0{α:Type}(f:α→α)(l:List α):mxL f l 0=l:=by simp[mxL]
theorem zLh{α:Type}(f:α→α){l:List α}{n:Nat}(h:l.length=n):mxL f l n=l.map f:=by subst h;simp[mxL]
theorem zLY{α:Type}(f:α→α)(l:List α)(k:Nat):(mxL f l k).length=l.length:=by simp[mxL];omega
theorem zLi{α:Type}(f:α→α){l:List α}{x:α}(h:l[k]? = some x):mxL f l k=(l.take k).map f++x::l.drop (k+1):=by
 obtain⟨hk,e⟩:=List.getElem?_eq_some_iff.1 h;unfold mxL;rw[List.drop_eq_getElem_cons hk,e]
theorem zKu{α:Type}(f:α→α){l:List α}{x:α}(h:l[k]? = some x):(mxL f l k)[k]? = some x:=by
 have hk:=(List.getElem?_eq_some_iff.1 h).1;rw[zLi f h,List.getElem?_append_right (by simp;omega)];simp[Nat.min_eq_left (Nat.le_of_lt hk)]
theorem zKQ{α:Type}(f:α→α){l:List α}{x:α}(h:l[k]? = some x):(mxL f l k).set k (f x)=mxL f l (k+1):=by
 have hk:=(List.getElem?_eq_some_iff.1 h).1;rw[zLi f h,List.set_append,if_neg (by simp;omega)];unfold mxL;rw[List.take_add_one,h];simp[Nat.min_eq_left (Nat.le_of_lt hk)]
theorem zLA{α:Type}(f:α→α){l:List α}{x:α}(h:l[k]? = some x)(e:f x=x):mxL f l k=mxL f l (k+1):=by
 rw[←zKQ f h,e];apply List.ext_getElem?;intro i;rw[List.getElem?_set];split
 ·rename_i hi;subst hi;have:=zKu f h;rw[this];split
  ·rfl
  ·rename_i hn;rw[List.getElem?_eq_none (by omega)]at this;cases this
 ·rfl
theorem zK5{α:Type}(g:α→α){l:List α}{x:α}(h:l[k]? = some x):l.modify k g=l.set k (g x):=by
 apply List.ext_getElem?;intro i;rw[List.getElem?_modify,List.getElem?_set];by_cases e:k=i
 ·subst e;rw[if_pos rfl,if_pos (List.getElem?_eq_some_iff.1 h).1,h];simp
 ·rw[if_neg e];cases l[i]? <;> simp[e]
def geR (p:PRow):PRow:=if p.kind=3 then { p with kind:=2 }else p
theorem zLx(p:PRow):(geR p).coef=p.coef:=by unfold geR;split<;>rfl
theorem zLW(p:PRow):(geR p).rhs=p.rhs:=by unfold geR;split<;>rfl
theorem zKZ{p:PRow}(h:1≤p.kind∧p.kind≤3):1≤(geR p).kind∧(geR p).kind≤2:=by
 unfold geR;split
 ·exact⟨show(1:Int)≤2 by decide,show(2:Int)≤2 by decide⟩
 ·omega
structure Cheap (nc nr:Nat) (cost:List Rat) (rows:List PRow):Prop where
  g:Good1 nc nr cost rows
  lc:cost.length=nc
  lr:rows.length=nr
  nn:∀q∈cost,0≤q
  k3:∀p∈rows,p.kind≠3
theorem Good1.cheap{nc nr:Nat}(h:Good1 nc nr cost rows)(hc:cost.length=nc)(hr:rows.length=nr):Cheap nc nr (cost.map zKt) (rows.map geR):=by
 refine⟨⟨h.hc,h.hr,fun q e=>?_,fun p d=>?_,fun p d=>?_⟩,by simpa using hc,by simpa using hr,fun q e=>?_,fun p d=>?_⟩
 ·obtain⟨x,a,rfl⟩:=List.mem_map.1 e;rw[zLJ];exact h.sc x a
 ·obtain⟨x,a,rfl⟩:=List.mem_map.1 d;rw[zLx,zLW];exact h.rw_ x a
 ·obtain⟨x,a,rfl⟩:=List.mem_map.1 d;have:=zKZ (h.kd x a);omega
 ·obtain⟨x,a,rfl⟩:=List.mem_map.1 e;exact zLK x
 ·obtain⟨x,a,rfl⟩:=List.mem_map.1 d;have:=zKZ (h.kd x a);omega
theorem ROut.putC{f o:Nat}(h:ROut w0 w pb (f,nC,o) cost R l ps)(k:Nat){g:Bool}{s d:Value}{q:Rat}(v:RatS w g s d q) :
  ROut w0 (((w.setCell ⟨f,k*3,none⟩ g).setCell ⟨f,k*3+1,none⟩ s).setCell ⟨f,k*3+2,none⟩ d) pb (f,nC,o) (cost.set k q) R l ps:=by
 obtain⟨cs,hg⟩:=h.cost.ratBlk;have keep:∀j,j≠f→(((w.setCell ⟨f,k*3,none⟩ g).setCell ⟨f,k*3+1,none⟩ s).setCell ⟨f,k*3+2,none⟩ d).heap[j]? = w.heap[j]?:=fun j hj=>by
  rw[Below.heap_setCell _ _ _ _ (by exact hj),Below.heap_setCell _ _ _ _ (by exact hj),Below.heap_setCell _ _ _ _ (by exact hj)]
 have hk:TKeep 49 w (((w.setCell ⟨f,k*3,none⟩ g).setCell ⟨f,k*3+1,none⟩ s).setCell ⟨f,k*3+2,none⟩ d):=fun j _ u=>keep j (by rintro rfl;exact u _ hg)
 have n:w0.heap.size≤f:=(h.cost.lt rfl).1;refine⟨hk.blk h.res (by decide),hk.blk h.pbx (by decide),h.cost.store k v,⟨h.rows.len,fun i r p a b=>?_,zc9 h.rows.own fun j hj=>?_⟩,h.ap,h.fr,((h.bel.setCell n _).setCell n _).setCell n _⟩
 ·have e:=h.rows.each i r p a b;exact⟨e.coef.keepAll (fun j hj=>keep j fun t=>h.ap.2 i r j a hj (by rw[t];rfl)) fun _ _ _ _ x=>x.keepT hk,e.kind,e.rhs.keepT hk⟩
 ·exact hk j (h.rows.own.lt j hj).2 fun y e=>za6 h.rows.own e (by decide) hj
theorem ROut.tkI{w':World}{C:Value}(h:ROut w0 w pb C cost R l ps)(hk:TKeep 3 w w')(d:Below w0.heap.size w w'):ROut w0 w' pb C cost R l ps :=
 ⟨hk.blk h.res (by decide),hk.blk h.pbx (by decide),h.cost.tk hk (by decide) (by decide),⟨h.rows.len,fun i r p a b=>have e:=h.rows.each i r p a b;⟨e.coef.tk hk (by decide) (by decide),e.kind,e.rhs.tk hk (by decide)⟩,zc9 h.rows.own fun j hj=>hk j (h.rows.own.lt j hj).2 fun f e=>za6 h.rows.own e (by decide) hj⟩,h.ap,h.fr,h.bel.trans d⟩
theorem zKU(n k:Nat):zli n (k+1)=zli n k++[n+k]:=by unfold zli;rw[List.range_succ,List.map_append];rfl
def zLn (w:World) (e:Ending) (w':World):Prop:=∃(C:OA) (nC cC:Nat) (R:OA) (nR cR:Nat) (T:OA) (tc:Nat) (cost:List Rat) (rows:List PRow),e=.returned (.tuple #[.agg #[(C,nC,cC),(R,nR,cR)],(T,nR,tc)]) ∧
  VecS w' w.heap.size (C,nC,cC) cost∧RowsS w' w.heap.size (R,nR,cR) rows∧IntsS w' w.heap.size (T,nR,tc) (zli nC nR)∧Cheap nC nR cost rows∧Below w.heap.size w w'
namespace Lw
theorem zLV(A:OA)(u cA:Nat)(L:OA)(x t:Nat)(cs:List (Int × Int))(V:List LineV)(w:World)(hf:zcs w A cs)(aE:zex w L V)(E:u=cs.length)(hm:x=V.length)(f:u≤cA)(az:x≤t)(hc:cA≤9223372036854775807)(aB:t≤9223372036854775807) :
  Calls Tryz.prog 6 #[.agg #[(A,u,cA),(L,x,t)]] w (zLn w):=by
 have HN:=hid E;have HM:=hid hm;have aN:=hid f;have aO:=hid az;have aP:=hid hc;have aQ:=hid aB;clear E hm f az hc aB;obtain⟨W,g⟩:∃W,((w.alloc (.cells #[(A,u,cA),(L,x,t)] 25)).alloc (.cells #[(),()] 31))=W:=⟨_,rfl⟩
 have a4:=hid (show W.heap[w.heap.size]? = some (.cells #[(A,u,cA),(L,x,t)] 25 (0,0))by rw[←g];exact zak (zam (by simp)));have a5:=hid (show W.heap[w.heap.size+1]? = some (.cells #[(),()] 31 (0,0))by rw[←g];exact zam (by simp));have BB:=hid (show Below w.heap.size w W by rw[←g];exact(zae w _).alloc (by simp) _);have HZ:=hid (show w.heap.size+2≤W.heap.size by rw[←g];simp);have HF:=hid (show zcs W A cs by rw[←g];exact((hf).alloc _).alloc _)
 have HL:=hid (show zex W L V by rw[←g];exact((aE).alloc _).alloc _);obtain⟨bv,_,bw,_⟩:=bc2 a4.out;clear hf aE;go_enter Tryz.func6,Tryz.ntmps6;go_wp2_with fail
 clear g;with_reducible refine(zLD A u cA L x t cs V _ HF.out HL.out HN.out HM.out aN.out aO.out aP.out aQ.out).mono ?_
 rintro e w1 ⟨C,nC,cC,R,nR,cR,l,cost,rows,rfl,hv,hl,hap,hfr,hg,f⟩;have bf:=hid (zad f a5.out);have aL:=hid (BB.out.trans ((f).mono BB.out.size));have ab:=hid (show w.heap.size≤W.heap.size by have:=HZ.out;omega)
 have HO:=hid (show ROut w (w1.alloc (.cells #[(C,nC,cC),(R,nR,cR)] 31)) w1.heap.size (C,nC,cC) cost (R,nR,cR) l rows from⟨zak bf.out,zal _ _ _,(hv.base ab.out).alloc _,(hl.base' ab.out).alloc _,hap,fun i ri b hi a7=>Nat.le_trans ab.out (hfr i ri b hi a7),aL.out.alloc aL.out.size _⟩);have G:=hid hg;have Z:=hid (show cost.length=nC from hv.len.symm);have I:=hid (show rows.length=nR from hl.toS.len.symm);have bl:nC≤9223372036854775807:=by have:=hg.hc;omega
 have bn:nR≤9223372036854775807:=by have:=hg.hr;omega
 clear hv hl hap hfr hg f;go_wp2
 go_loopw [5] (fun i wr=>∃k:Nat,i=.int .i64 k∧k≤nC∧ROut w wr w1.heap.size (C,nC,cC) (mxL zKt cost k) (R,nR,cR) l rows)
  (fun i _=>nC-(intOf i).toNat)
 case atStart=>exact⟨0,rfl,Nat.zero_le _,by rw[zK0];exact HO.out⟩
 case round =>
  obtain⟨k,rfl,hk,d⟩:=hrel;have HR:=hid d;have F:=zac d.pbx 0;have X:=zac d.pbx 1;simp only[List.getElem?_toArray,List.getElem?_cons_zero,List.getElem?_cons_succ]at F X;by_cases P:k<nC
  ·have af:=zaH (xs:=cost) (j:=k) (by rw[Z.out];exact P);obtain⟨O,rfl,bg,bh⟩:=d.cost.has (by omega);obtain⟨ga,Aa,ma,ca,Da,aJ,ar,y0,y1,y2,ay⟩:=d.cost.at_ (zKu zKt af);have aR:=hid af;have a2:=hid ay;have a9:(0:Int)≤(k:Int):=Int.natCast_nonneg _;have ba:(k:Int)<(nC:Int):=by omega
   clear d af ay;go_wp2_with fail
   refine za2 (S:=fun w'=>w'.cell? ⟨w1.heap.size,0,none⟩=some (O,nC,cC)∧w'.cell? ⟨O,k*3,none⟩=some (.bool ga)∧w'.cell? ⟨O,k*3+1,none⟩=some (Aa,ma,ca)∧w'.cell? ⟨O,k*3+2,none⟩=some (Da,aJ,ar)) 10 (h:=fun hHeld=>?_);refine zaw [0,1,2,3,4,5,6,7] ?_;repeat refine tkE (hS:=hHeld) (h:=?_)
   refine zao ?_;refine zaN 8 (h:=fun K y=>?_);go_simp
   (go_at_call 24;(with_reducible refine(Rt.abs ga Aa ma ca Da aJ ar (el cost k) _ a2.out.drew).mono ?_);rintro e u1 ⟨g3,A3,m3,c3,D3,md3,cd3,rfl,E,f⟩;have aX:=hid E;have J:=hid (HR.out.drew.below f);have B:Below wr.heap.size wr u1:=It.bdrew0' f;have bo:=zab B F;have z0:=zab B y0;have z1:=zab B y1;have z2:=zab B y2;have bx:=J.out.cost.fro (k*3);have bz:=J.out.cost.fro (k*3+1);have bB:=J.out.cost.fro (k*3+2);clear E f B)
   (try go_wp2_with fail)
   refine y.out _ _ kp fun hHeld=>?_
   clear y K;try simp only[Act.put,pu1,pu2,pu3,pu4,pu5,pu6]
   refine zaw [9] ?_;repeat refine tkE (hS:=hHeld) (h:=?_)
   refine zao ?_;refine zba (h:=fun K y=>?_);go_simp;refine y.out _ _ ?_;clear y K;try simp only[Act.put,pu1,pu2,pu3,pu4,pu5,pu6]
   refine za1 (h:=?_);go_wp2;go_roundw
   case rel=>exact⟨k+1,by go_num,by omega,by rw[←zKQ zKt aR.out];exact J.out.putC k aX.out⟩
   case measure=>simp[intOf];omega
  ·obtain rfl:nC=k:=by omega
   have HQ:=hid (show ROut w wr w1.heap.size (C,nC,cC) (cost.map zKt) (R,nR,cR) l rows by have h:=HR.out;rw[zLh zKt Z.out]at h;exact h);clear d;go_wp2
   go_loopw [6,7] (fun cv kv wz=>∃(k:Nat) (T:OA) (tc:Nat) (U:List RR),kv=.int .i64 k∧cv=(T,k,tc)∧k≤nR∧ROut w wz w1.heap.size (C,nC,cC) (cost.map zKt) (R,nR,cR) U (mxL geR rows k)∧IntsS wz w.heap.size (T,k,tc) (zli nC k))
    (fun _ kv _=>nR-(intOf kv).toNat)
   case atStart=>exact⟨0,none,0,l,rfl,rfl,Nat.zero_le _,by rw[zK0];exact HQ.out,IntsS.nil _ _⟩
   case round =>
    rename World=>wz
    obtain⟨k,T,tc,U,rfl,rfl,hk,d,hI⟩:=hrel;have s:=hid d;have Y:=hid hI;have F:=zac d.pbx 0;have X:=zac d.pbx 1;simp only[List.getElem?_toArray,List.getElem?_cons_zero,List.getElem?_cons_succ]at F X;by_cases P:k<nR
    ·obtain⟨p,hp⟩:∃p,rows[k]? = some p:=⟨rows[k]'(by rw[I.out];exact P),List.getElem?_eq_getElem _⟩
     have Q:(mxL geR rows k).length=nR:=by rw[zLY];exact I.out
     have am:=hid Q;obtain⟨bR,rfl,bi,bj⟩:=d.rows.toS.has (by omega);obtain⟨r,hr⟩:∃r,U[k]? = some r:=⟨U[k]'(by rw[d.rows.len,Q];exact P),List.getElem?_eq_getElem _⟩
     have aF:r.k=p.kind:=(d.rows.each k r p hr (zKu geR hp)).kind;have own:=d.rows.own;rw[Q]at own;have y1:wz.cell? ⟨bR,k*5+1,none⟩=some (.int .i64 p.kind):=by rw[own.cellAt (k*5+1) (by omega),←aF];exact(zqG _ k _ hr).2.1
     have bd:=own.frozenAt (k*5+1);have HP:=hid hp;have a9:(0:Int)≤(k:Int):=Int.natCast_nonneg _;have ba:(k:Int)<(nR:Int):=by omega
     clear own d hI hr aF hp Q;go_upto_if 40 with fail
     go_cut[] (fun wy=>∃l2:List RR,ROut w wy w1.heap.size (C,nC,cC) (cost.map zKt) (bR,nR,cR) l2 (mxL geR rows (k+1))∧IntsS wy w.heap.size (T,k,tc) (zli nC k))
     case first =>
      by_cases h3:p.kind=3
      ·have hx:=zK5 (fun p:PRow=>{ p with kind:=2 }) (zKu geR HP.out);have D:geR p={ p with kind:=2 }:=by unfold geR;rw[if_pos h3]
       have HX:=hid (show(mxL geR rows k).modify k (fun p=>{ p with kind:=2 })=mxL geR rows (k+1)by rw[hx,←D];exact zKQ geR HP.out);clear hx D;go_wp2;go_meet
       case rel=>exact⟨_,by rw[←HX.out];exact s.out.putK am.out.symm k 2,Y.out.tk (TKeep.set (zA4 (by have h:=s.out.rows.own;rw[am.out]at h;exact h)).choose_spec.1 _) (by decide)⟩
      ·have D:geR p=p:=by unfold geR;rw[if_neg h3]
       have HX:=hid (zLA geR HP.out D);clear D;go_wp2;go_meet
       case rel=>exact⟨_,by rw[←HX.out];exact s.out,Y.out⟩
     case rest =>
      obtain⟨l2,ae,aw⟩:=hcut;rename World=>wc
      have an:=hid ae;have aT:=hid aw;have q0:=zac ae.pbx 0;simp only[List.getElem?_toArray,List.getElem?_cons_zero,List.getElem?_cons_succ]at q0;have bm:nC≤5:=G.out.hc;have bk:k≤4:=by have:=G.out.hr;omega
      clear ae aw F X y1 bd;go_wp2_with (at_builtin;go_loud (refine ziP rfl _ _ rfl rfl (aT.out.alloc _) rfl (z:=nC+k) (zal _ _ _) (n:=k) (by simp[zli]) (by have:=G.out.hr;omega) (by simp;have:=an.out.bel.size;omega) ?_;intro A6 c6 w6 ax aD aA;have a0:=hid ax;have aZ:=hid ((an.out.below (zae wc _)).tkI aD aA);clear ax aD aA))
      go_roundw
      case rel=>exact⟨k+1,A6,c6,l2,by go_num,rfl,by omega,aZ.out,by rw[zKU];exact a0.out⟩
      case measure=>simp[intOf];omega
    ·obtain rfl:nR=k:=by omega
     have M:=hid d.res;have s0:=zac d.res 0;have s1:=zac d.res 1;have bp:=zag d.res 0;have bq:=zag d.res 1;simp only[List.getElem?_toArray,List.getElem?_cons_zero,List.getElem?_cons_succ]at s0 s1;clear d hI;go_wp2;refine bodyPost_ret (v:=.tuple #[.agg #[(C,nC,cC),(R,nR,cR)],(T,nR,tc)]) (by simp[results,Tryz.results6,go_sem,s0,s1]) rfl ?_;have k1:=TKeep.set (o:=0) M.out (C,nC,cC);have k2:=TKeep.set (o:=1) (zar (o:=0) (C,nC,cC) M.out) (R,nR,cR)
     exact⟨_,_,_,_,_,_,T,tc,cost.map zKt,mxL geR rows nR,rfl,(s.out.cost.tk k1 (by decide) (by decide)).tk k2 (by decide) (by decide),(s.out.rows.toS.setT (a:=⟨w.heap.size+1,0,none⟩) M.out (by decide) (by decide) (by decide) _).setT (a:=⟨w.heap.size+1,1,none⟩) (zar _ M.out) (by decide) (by decide) (by decide) _,(Y.out.tk k1 (by decide)).tk k2 (by decide),by rw[zLh geR I.out];exact G.out.cheap Z.out I.out,bsc (bsc s.out.bel)⟩
