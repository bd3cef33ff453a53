/- Contracts and lemmas: RgE RgQ. Conditions: as each says. -/
import Derived.Test.YtbhfhkcdfmmmiaaGreatRgPZj
import Derived.Test.YtbhfhkcdfmmmiaaGreatGdSZj
set_option linter.all false
set_option maxHeartbeats 4000000
set_option maxRecDepth 100000
namespace Go.Proofs.YtbhfhkcdfmmmiaaGreat
open Go.RowKit Am Go.Proofs.Tryz
open Pr (psolve)
open Pb (zPu)
attribute [local go_sem ↓] Go.wp_at_zero Go.wp_at_succ
variable {rows:List PRow}{cost:List Rat}{S b m n nC:Nat}{g:Rat}{w:World}
theorem Err.wrapF(b:Nat)(S:ByteArray)(k:Int)(w:World):Calls prog 115 #[.iface 224 (.pointer (some ⟨b,0,none⟩)),.string S,.int .i64 k] w fun a w'=>a=.returned (.iface 224 (.pointer (some ⟨w,0,none⟩)))∧w'=w.alloc (.cells #[.string S,.int .i64 k,.iface 224 (.pointer (some ⟨b,0,none⟩))] 226):=by
 go_enter func115,ntmps115;go_wp2;go_ret
 exact⟨rfl,rfl⟩
theorem yMe{cs:Array Value}{t:TypeId}(c:w.heap[b]? = some (.cells cs t (0,0)))(f g l m:Nat)(v1 n o p:Value):TKeep t w ((((w.setCell ⟨b,f,none⟩ v1).setCell ⟨b,g,none⟩ n).setCell ⟨b,l,none⟩ o).setCell ⟨b,m,none⟩ p):=fun k _ d=>by
 have a:k≠b:=fun e=>d cs (by rw[e];exact c)
 rw[Zk _ _ _ _ (by exact a),Zk _ _ _ _ (by exact a),Zk _ _ _ _ (by exact a),Zk _ _ _ _ (by exact a)]
def yPE:ByteArray:={ data:=#[101,110,100] }
theorem ySK{k:Nat}(hk:k<2):sgE k=1∨sgE k = -1:=by
 unfold sgE;rcases(show k=0∨k=1 by omega)with rfl | rfl
 ·exact .inl rfl
 grind
theorem yXO{q:Rat}(hg:g=1∨g = -1):mw (g*q)=mw q:=by
 rcases hg with rfl | rfl
 ·rw[Rat.one_mul]
 ·rw[show(-1:Rat)*q = -q by grind,zhY]
theorem GoodS.sg(h:GoodS S nC m cost rows)(hg:g=1∨g = -1):GoodS S nC m (scale g cost) rows :=
 ⟨fun q a=>by
   obtain⟨x,b,rfl⟩:=Zq.1 a;rw[yXO hg];exact h.sc x b,h.rw_,h.kd,h.h1,h.hS,h.hc,h.hr,h.cap,h.sb⟩
theorem yLR{B:Nat}{cols:List Nat}(hg:GoodS S nC m cost rows)(a:cost.length=nC)(b:rows.length=m)(h:zSA (nC+cnt rows m) m (zc3 rows) (zg8 rows) (zjD cost rows) B=.best cols n) :
  (∀q∈(zh1 (nC+cnt rows m+m) cols (za5 (zt0 (zc3 rows) (zg8 rows)) (zwh (zg8 rows)) cols)).take nC,mw q≤sB m S S):=by
 have l:=zVA hg.sh a b rfl;have o:=zVz hg.sh a b rfl;have hc:(zjD cost rows).length=nC+cnt rows m:=by unfold zjD;rw[Zj,Zr,a,b]
 obtain⟨E,_,d⟩:=zUc (B:=2*binom (nC+cnt rows m+m) m+m) l o hc (Za _);obtain⟨f,g⟩:=d B;grind[z6F,Nat.lt_of_not_le]
def yYn (W wr:World) (E:Nat→EndO) (k:Nat):Prop:=∃(g:Bool) (A:OA) (m c:Nat) (D:OA) (md cd:Nat) (g':Bool) (A':OA) (m' c':Nat) (D':OA) (md' cd':Nat) (a b:Option Rat),
  wr.heap[W.heap.size]? = some (.cells #[g,(A,m,c),(D,md,cd),g',(A',m',c'),(D',md',cd'),.bool a.isSome,.bool b.isSome] 62 (0,0)) ∧
  RatS wr g (A,m,c) (D,md,cd) (a.getD 0)∧RatS wr g' (A',m',c') (D',md',cd') (b.getD 0)∧EndV E k a b∧Below W W wr
def yJX (w:World) (B:Nat) (o:RangeO) (e:Ending) (w':World):Prop :=
  Below w w w'∧match o with
    | .spent k=>∃fb ev,e=.returned (.tuple #[.agg #[false,(),(),false,(),(),false,false],.iface 224 (.pointer (some ⟨fb,0,none⟩))])∧w'.heap[fb]? = some (.cells #[.string yPE,(k:Int),ev] 226 (0,0))∧Spent w' B ev
    | .none k=>∃fb,e=.returned (.tuple #[.agg #[false,(),(),false,(),(),false,false],.iface 224 (.pointer (some ⟨fb,0,none⟩))])∧w'.heap[fb]? = some (.cells #[.string yPE,(k:Int),.iface 73 (.int .i64 210)] 226 (0,0))
    | .ends a b=>∃(g:Bool) (A:OA) (m c:Nat) (D:OA) (md cd:Nat) (g':Bool) (A':OA) (m' c':Nat) (D':OA) (md' cd':Nat),
        e=.returned (.tuple #[.agg #[g,(A,m,c),(D,md,cd),g',(A',m',c'),(D',md',cd'),.bool a.isSome,.bool b.isSome],.nilIface])∧RatS w' g (A,m,c) (D,md,cd) (a.getD 0)∧RatS w' g' (A',m',c') (D',md',cd') (b.getD 0)
namespace Ra
theorem ends(S:Nat)(R:OA)(m K:Nat)(C:OA)(n cC:Nat)(rows:List PRow)(cost:List Rat)(B:Nat)(w:World)(hr:RowsS w 0 (R,m,K) rows)(hc:VecS w 0 (C,n,cC) cost)(hg:GoodS S n m cost rows)(hB:B≤1000000) :
  Calls prog 68 #[(R,m,K),(C,n,cC),(B:Int)] w (yJX w B (yJF n cost rows B)):=by
 have eX:=un hr.len;have cj:=un hc.len;have HG:=un hg;have eE:=un hB;have H8:=un (show 8*S+8≤LIM by rw[zaP];have:=hg.hS;omega);have eY:=un hg.sb;have mY:=hg.hc;have eM:=un (fun k=>show yVC n cost rows B k=yJD n (scale (sgE k) cost) rows (zSA (n+cnt rows m) m (zc3 rows) (zg8 rows) (zjD (scale (sgE k) cost) rows) B)by unfold yVC yJw;rw[←hr.len])
 have eR:=un (show ∀cols,yJA n rows cols=(zh1 (n+cnt rows m+m) cols (za5 (zt0 (zc3 rows) (zg8 rows)) (zwh (zg8 rows)) cols)).take n from fun cols=>by unfold yJA;rw[←hr.len]);unfold yJF;generalize hE:yVC n cost rows B=E at *
 clear hg hB hE;obtain⟨W,hW⟩:∃W,(w.alloc (.cells #[false,(),(),false,(),(),false,false] 62))=W:=⟨_,rfl⟩
 have dM:=un (show W.heap[w.heap.size]? = some (.cells #[false,(),(),false,(),(),false,false] 62 (0,0))by rw[←hW];exact zam (by simp));have BB:=un (show Below w w W by rw[←hW];exact zae w _);have HR:=un (show RowsS W 0 (R,m,K) rows by rw[←hW];exact(hr).alloc _);have HC:=un (show VecS W 0 (C,n,cC) cost by rw[←hW];exact(hc).alloc _)
 clear hr hc;go_enter func68,ntmps68;go_upto_region 2 with fail
 clear hW;go_wp2_with fail
 go_loopw [16] (fun i wr=>∃k:Nat,i=.int .i64 k∧k≤2∧yYn W wr E k)
  (fun i _=>2-(intOf i).toNat)
 case atStart=>exact⟨0,rfl,Zb _,false,none,0,0,none,0,0,false,none,0,0,none,0,0,none,none,zal _ _ _,RatS.zero _,RatS.zero _,.zero,zae W _⟩
 case round =>
  obtain⟨k,rfl,hk,gl,T,m1,c1,X,aj,ac,gh,V,m2,c2,Z,ak,ad,a,b,hO,dU,dV,dS,ag⟩:=hrel;have dK:=un hO;have I:=un dS;have dA:=un (zad ag dM.o);have lN:=un (HR.o.below ag);have mE:=un (HC.o.below ag);have HA:=un (show RatS wr gl (T,m1,c1) (X,aj,ac) (a.getD 0)from dU);have dI:=un (show RatS wr gh (V,m2,c2) (Z,ak,ad) (b.getD 0)from dV);have dz:=un (BB.o.trans ((ag).mono BB.o.size))
  obtain⟨eh,ej,iS,_,ei,ek,iT,_,el,en,k8,_,eB,ez,fL,_,eC,eA,fU,_,d6,d5,f1,_,ee,ec,f8,_,ef,ed,gf,_⟩:=bf8 dA.o;obtain⟨iY,_,_,_,i3,_,_,_,iO,_,_,_,l0,_,_,_,l2,_,_,_,gF,_,_,_,il,_,_,_,ih,_⟩:=bf8 dK.o;have e0:=un ag;clear hO dU dV dS ag;have e1:=un (Bel.mk e0.o);by_cases ar:k<2
  ·have dL:=un (ySK ar);have ck:=un (HG.o.sg dL.o);have aO:=un (eM.o k);have eO:=un (I.o.spent ar);have eN:=un (I.o.no ar);have eQ:=un (show mw (sgE k)≤S by have h1:=HG.o.h1;have h2:mw (sgE k)≤1:=(by rcases dL.o with e | e<;>rw[e]<;>decide +kernel);omega);have mV:(0:Int)≤(k:Int):=Zf _;have mW:(k:Int)<2:=by omega
   go_wp2_with fail
   with_reducible refine(Rt.int (1-2*(k:Int)) (by omega) (by omega) _).mono ?_
   rintro e v1 ⟨g7,A7,m7,c7,D7,md7,cd7,rfl,hn,hb⟩;have eg:=un (zad hb dA.o);have em:=un (zad hb dK.o);have mA:=un (lN.o.below hb);have gK:=un (mE.o.below hb);have gq:=un (HA.o.below hb);have eF:=un (dI.o.below hb);have lO:=un (e1.o.below hb);have eP:=un (show RatS v1 g7 (A7,m7,c7) (D7,md7,cd7) (sgE k)from hn);have eo:=un (dz.o.trans ((hb).mono dz.o.size))
   obtain⟨_,_,_,_,_,_,_,_,_,_,_,_,md,_⟩:=bf8 eg.o;clear hn hb;have y:=zae v1 (.cells #[g7,(A7,m7,c7),(D7,md7,cd7)] 41);have ep:=un (zad y eg.o);have ey:=un (zad y em.o);have gy:=un (mA.o.below y);have d2:=un (gK.o.below y);have gr:=un (gq.o.below y);have eG:=un (eF.o.below y)
   have mc:=un (lO.o.below y);have dX:=un (eP.o.below y);have es:=un (eo.o.trans ((y).mono eo.o.size));have KG:=un (zal v1 #[g7,(A7,m7,c7),(D7,md7,cd7)] 41);obtain⟨mg,_,mh,_,mi,_⟩:=bc3 KG.o;go_wp2_with fail
   with_reducible refine(Vc.scaleS S H8.o g7 A7 m7 c7 D7 md7 cd7 (sgE k) C n cC cost 0 _ d2.o dX.o (by omega) HG.o.sc eQ.o).mono ?_
   rintro e v2 ⟨Q,nQ,cQ,rfl,hn,hb⟩;have eq:=un (zad hb ep.o);have er:=un (zad hb ey.o);have mF:=un (gy.o.below hb);have gs:=un (gr.o.below hb);have eH:=un (eG.o.below hb);have kI:=un (mc.o.below hb);have gn:=un (dX.o.below hb);have HQ:=un (show VecS v2 0 (Q,nQ,cQ) (scale (sgE k) cost)from(hn.base (Zb _)));have ew:=un (es.o.trans ((hb).mono es.o.size))
   obtain⟨_,_,_,_,_,_,_,_,_,_,_,_,ms,_⟩:=bf8 eq.o;obtain rfl:n=nQ:=by rw[hn.len,zfH,cj.o]
   clear hn hb;have r:=zae v2 (.cells #[(Q,n,cQ),(R,m,K)] 31);have et:=un (zad r eq.o);have eu:=un (zad r er.o);have d1:=un (mF.o.below r);have gt:=un (gs.o.below r);have eI:=un (eH.o.below r);have mn:=un (kI.o.below r);have gp:=un (gn.o.below r);have dZ:=un (HQ.o.below r);have ex:=un (ew.o.trans ((r).mono ew.o.size))
   obtain⟨_,_,_,_,_,_,_,_,_,_,_,_,_,_,_,_,_,_,_,_,_,_,_,_,io,ib,_,_,ij,h7,_⟩:=bf8 eu.o;have KP:=un (zal v2 #[(Q,n,cQ),(R,m,K)] 31);obtain⟨ly,_,lz,_⟩:=bc2 KP.o
   clear eh ej iS ei ek iT el en k8 eB ez fL eC eA fU d6 d5 f1 ee ec f8 ef ed gf iY i3 iO l0 l2 gF il ih md mg mh mi ms
   go_wp2_with fail
   with_reducible refine(psolve S Q n cQ R m K (scale (sgE k) cost) rows _ _ B _ dZ.o d1.o ck.o rfl rfl eE.o).mono ?_
   rintro e f ⟨hb,h⟩;generalize hso:zSA (n+cnt rows m) m (zc3 rows) (zg8 rows) (zjD (scale (sgE k) cost) rows) B=so at *
   have aA:=un (zad hb et.o);have aC:=un (zad hb eu.o);have aB:=un (zad hb KP.o);have bq:=un (d1.o.below hb);have a5:=un (gt.o.below hb);have aN:=un (eI.o.below hb);have bs:=un (mn.o.below hb);have a4:=un (gp.o.below hb);have be:=un (dZ.o.below hb);have F:=un (ex.o.trans ((hb).mono ex.o.size))
   obtain⟨_,_,_,_,_,_,_,_,_,_,_,_,_,_,_,_,_,_,_,_,_,_,_,_,ip,ic,_,_,ik,h8,_⟩:=bf8 aC.o;clear hb;cases so with
   | spent nn =>
    obtain⟨ev,rfl,fb,num,rfl,e5,e4⟩:=h;have c:=zae f (.cells #[.int .i64 0,(),(),(),.int .i64 0] 76);have s:=un (zad c aA.o);have l:=un (zad c aC.o);have t:=un (zad c aB.o);have O:=un (bq.o.below c);have L:=un (a5.o.below c);have H:=un (aN.o.below c);have M:=un (bs.o.below c);have al:=un (a4.o.below c);have N:=un (be.o.below c);have z:=un (F.o.trans ((c).mono F.o.size))
    obtain⟨_,_,_,_,_,_,_,_,_,_,_,_,_,_,_,_,_,cd,_,_,_,_,_,_,bN,bG,_,_,bO,bH,_⟩:=bf8 l.o;obtain⟨bn,_,bo,_⟩:=bc2 t.o;have o:=un (zal f #[.int .i64 0,(),(),(),.int .i64 0] 76);obtain⟨bt,_,bu,_,bv,_,bC,_,bD,_⟩:=bc5 o.o;go_wp2_with fail
    refine(Err.wrapF fb yPE (k:Int) _).mono ?_;rintro e w' ⟨rfl,rfl⟩;have d:=zae (f.alloc (.cells #[.int .i64 0,(),(),(),.int .i64 0] 76)) (.cells #[.string yPE,.int .i64 (k:Int),.iface 224 (.pointer (some ⟨fb,0,none⟩))] 226);have G:=un (zad d s.o);have am:=un (zad d l.o);have cz:=un (L.o.below d);have ci:=un (H.o.below d)
    have db:=un (M.o.below d);have dY:=un (al.o.below d);have d0:=un (N.o.below d);have ao:=un (z.o.trans ((d).mono z.o.size));obtain⟨aD,aE,cX,_,aF,aG,cZ,_,aH,aL,cB,_,aI,aM,cp,_,aJ,aK,cq,_,az,ay,cr,_,aw,au,cs,_,ax,av,ct,_⟩:=bf8 G.o
    have KF:=un (zal (f.alloc (.cells #[.int .i64 0,(),(),(),.int .i64 0] 76)) #[.string yPE,.int .i64 (k:Int),.iface 224 (.pointer (some ⟨fb,0,none⟩))] 226);go_wp2
    refine Zd (v:=.tuple #[.agg #[false,(),(),false,(),(),false,false],.iface 224 (.pointer (some ⟨(f.alloc (.cells #[.int .i64 0,(),(),(),.int .i64 0] 76)).heap.size,0,none⟩))]) (by simp[results,results68,go_sem,aD,aE,aF,aG,aH,aL,aI,aM,aJ,aK,az,ay,aw,au,ax,av]) rfl ?_;rw[eO.o (by rw[aO.o];rfl)]
    have g:=zYl G.o false () () false () () false false;exact⟨bsc (bsc (bsc (bsc (bsc (bsc (bsc (bsc ao.o))))))),_,_,rfl,g.blk KF.o (by decide),fb,num,rfl,e5,g.blk (zak (zak e4)) (by decide)⟩
   | none cols nn =>
    obtain⟨Y,u,rfl,hY⟩:=h;have c:=zae f (.cells #[.int .i64 2,(),(Y,m,u),(),(nn:Int)] 76);have s:=un (zad c aA.o);have l:=un (zad c aC.o);have t:=un (zad c aB.o);have O:=un (bq.o.below c);have L:=un (a5.o.below c);have H:=un (aN.o.below c);have M:=un (bs.o.below c);have al:=un (a4.o.below c);have N:=un (be.o.below c);have z:=un (F.o.trans ((c).mono F.o.size))
    obtain⟨_,_,_,_,_,_,_,_,_,_,_,_,_,_,_,_,_,cd,_,_,_,_,_,_,bN,bG,_,_,bO,bH,_⟩:=bf8 l.o;obtain⟨bn,_,bo,_⟩:=bc2 t.o;have o:=un (zal f #[.int .i64 2,(),(Y,m,u),(),(nn:Int)] 76);obtain⟨bt,_,bu,_,bv,_,bC,_,bD,_⟩:=bc5 o.o;go_wp2_with fail
    refine(Err.wrap 210 yPE (k:Int) _).mono ?_;rintro e w' ⟨rfl,rfl⟩;have d:=zae (f.alloc (.cells #[.int .i64 2,(),(Y,m,u),(),(nn:Int)] 76)) (.cells #[.string yPE,.int .i64 (k:Int),.iface 73 (.int .i64 210)] 226);have G:=un (zad d s.o);have am:=un (zad d l.o);have cz:=un (L.o.below d);have ci:=un (H.o.below d)
    have db:=un (M.o.below d);have dY:=un (al.o.below d);have d0:=un (N.o.below d);have ao:=un (z.o.trans ((d).mono z.o.size));obtain⟨aD,aE,cX,_,aF,aG,cZ,_,aH,aL,cB,_,aI,aM,cp,_,aJ,aK,cq,_,az,ay,cr,_,aw,au,cs,_,ax,av,ct,_⟩:=bf8 G.o
    have KF:=un (zal (f.alloc (.cells #[.int .i64 2,(),(Y,m,u),(),(nn:Int)] 76)) #[.string yPE,.int .i64 (k:Int),.iface 73 (.int .i64 210)] 226);go_wp2
    refine Zd (v:=.tuple #[.agg #[false,(),(),false,(),(),false,false],.iface 224 (.pointer (some ⟨(f.alloc (.cells #[.int .i64 2,(),(Y,m,u),(),(nn:Int)] 76)).heap.size,0,none⟩))]) (by simp[results,results68,go_sem,aD,aE,aF,aG,aH,aL,aI,aM,aJ,aK,az,ay,aw,au,ax,av]) rfl ?_;rw[eN.o (by rw[aO.o];rfl)]
    have g:=zYl G.o false () () false () () false false;exact⟨bsc (bsc (bsc (bsc (bsc (bsc (bsc (bsc ao.o))))))),_,rfl,g.blk KF.o (by decide)⟩
   | best cols nn =>
    obtain⟨P,J,Y,u,rfl,hP,hY⟩:=h;have c:=zae f (.cells #[.int .i64 1,(P,n,J),(Y,m,u),(),(nn:Int)] 76);have s:=un (zad c aA.o);have l:=un (zad c aC.o);have t:=un (zad c aB.o);have O:=un (bq.o.below c);have L:=un (a5.o.below c);have H:=un (aN.o.below c);have M:=un (bs.o.below c);have al:=un (a4.o.below c);have N:=un (be.o.below c);have z:=un (F.o.trans ((c).mono F.o.size))
    obtain⟨_,_,_,_,_,_,_,_,_,_,_,_,_,_,_,_,_,cd,_,_,_,_,_,_,bN,bG,_,_,bO,bH,_⟩:=bf8 l.o;obtain⟨bn,_,bo,_⟩:=bc2 t.o;have o:=un (zal f #[.int .i64 1,(P,n,J),(Y,m,u),(),(nn:Int)] 76);obtain⟨bt,_,bu,_,bv,_,bC,_,bD,_⟩:=bc5 o.o
    have eU:=un (fun q hq=>Zc (yLR (cols:=cols) (n:=nn) (B:=B) ck.o (by rw[zfH,cj.o]) eX.o.symm hso q hq) eY.o);have eL:=un hP.len;have dJ:=un (show E k=.val (some (dot (scale (sgE k) cost) (yJA n rows cols)))by rw[aO.o];rfl);rw[eR.o]at dJ;have eT:=un ((hP.base (Zb _)).alloc (.cells #[.int .i64 1,(P,n,J),(Y,m,u),(),(nn:Int)] 76));clear hP hY
    generalize (zh1 (n+cnt rows m+m) cols (za5 (zt0 (zc3 rows) (zg8 rows)) (zwh (zg8 rows)) cols)).take n=pt at *
    go_wp2_with fail
    with_reducible refine(zPu Q n cQ R m K (scale (sgE k) cost) rows P n J pt _ N.o O.o eT.o (by rw[zfH,←cj.o];exact eL.o) (by omega) (fun q hq=>Zc (ck.o.sc q hq) HG.o.hS) eU.o).mono ?_
    rintro e v4 ⟨g9,A9,m9,c9,D9,md9,cd9,rfl,hn,hb⟩;have G:=un (zad hb s.o);have am:=un (zad hb l.o);have cz:=un (L.o.below hb);have ci:=un (H.o.below hb);have db:=un (M.o.below hb);have dY:=un (al.o.below hb);have d0:=un (N.o.below hb);have HV:=un (show RatS v4 g9 (A9,m9,c9) (D9,md9,cd9) (dot (scale (sgE k) cost) pt)from hn)
    have ao:=un (z.o.trans ((hb).mono z.o.size));obtain⟨aD,aE,cX,_,aF,aG,cZ,_,aH,aL,cB,_,aI,aM,cp,_,aJ,aK,cq,_,az,ay,cr,_,aw,au,cs,_,ax,av,ct,_⟩:=bf8 G.o;clear hn hb;generalize dot (scale (sgE k) cost) pt=vv at *
    have aQ:=un (I.o.next ar dJ.o);have A:=zae v4 (.cells #[g9,(A9,m9,c9),(D9,md9,cd9)] 41);have br:=un (zad A am.o);have gu:=un (cz.o.below A);have eJ:=un (ci.o.below A);have d7:=un (db.o.below A);have eb:=un (HV.o.below A)
    obtain⟨oJ,_,oB,_,oK,_,oC,_,oL,_,oD,_,_,_,_,_,_,_,_,_,_,_,_,_,n1,_,na,_⟩:=bf8 br.o;have KV:=un (zal v4 #[g9,(A9,m9,c9),(D9,md9,cd9)] 41);obtain⟨ps,_,pu,_,pv,_⟩:=bc3 KV.o
    clear io ib ij h7 ly lz ip ic ik h8 cd bN bG bO bH bn bo bt bu bv bC bD aD aE cX aF aG cZ aH aL cB aI aM cp aJ aK cq az ay cr aw au cs ax av ct
    rcases(show k=0∨k=1 by omega)with rfl | rfl
    ·go_wp2;go_roundw
     have g:=yMe br.o 0 1 2 6 g9 (A9,m9,c9) (D9,md9,cd9) true
     case rel=>exact⟨1,by go_num,by omega,g9,A9,m9,c9,D9,md9,cd9,gh,V,m2,c2,Z,ak,ad,some vv,b,zar _ (zar _ (zar _ (zar _ br.o))),RatS.tk eb.o g (by decide),RatS.tk eJ.o g (by decide),by simpa using aQ.o,bsc (p:=⟨W.heap.size,6,none⟩) (bsc (p:=⟨W.heap.size,2,none⟩) (bsc (p:=⟨W.heap.size,1,none⟩) (bsc (p:=⟨W.heap.size,0,none⟩) (d7.o.b) (Za _)) (Za _)) (Za _)) (Za _)⟩
     case measure=>simp[intOf]
    ·go_wp2_with fail
     with_reducible refine(Rt.neg g9 A9 m9 c9 D9 md9 cd9 vv _ eb.o).mono ?_
     rintro e v5 ⟨g3,A3,m3,c3,D3,md3,cd3,rfl,hn,hb⟩;have dq:=un (zad hb br.o);have gm:=un (gu.o.below hb);have gN:=un (d7.o.below hb);have eS:=un (show RatS v5 g3 (A3,m3,c3) (D3,md3,cd3) (-vv)from hn)
     obtain⟨_,_,_,_,_,_,_,_,_,_,_,_,pC,_,pR,_,pD,_,pS,_,nM,_,nc,_,_,_,_,_,nV,_,ne,_⟩:=bf8 dq.o;clear hn hb;go_wp2;go_roundw
     have g:=yMe dq.o 3 4 5 7 g3 (A3,m3,c3) (D3,md3,cd3) true
     case rel=>exact⟨2,by go_num,by omega,gl,T,m1,c1,X,aj,ac,g3,A3,m3,c3,D3,md3,cd3,a,some (-vv),zar _ (zar _ (zar _ (zar _ dq.o))),RatS.tk gm.o g (by decide),RatS.tk eS.o g (by decide),by simpa using aQ.o,bsc (p:=⟨W.heap.size,7,none⟩) (bsc (p:=⟨W.heap.size,5,none⟩) (bsc (p:=⟨W.heap.size,4,none⟩) (bsc (p:=⟨W.heap.size,3,none⟩) (gN.o.b) (Za _)) (Za _)) (Za _)) (Za _)⟩
     case measure=>simp[intOf]
   | falls cols jj nn =>
    obtain⟨P,J,D,cD,rfl,hP,hD⟩:=h;have c:=zae f (.cells #[.int .i64 3,(P,n,J),(),(D,n,cD),(nn:Int)] 76);have s:=un (zad c aA.o);have l:=un (zad c aC.o);have t:=un (zad c aB.o);have O:=un (bq.o.below c);have L:=un (a5.o.below c);have H:=un (aN.o.below c);have M:=un (bs.o.below c);have al:=un (a4.o.below c);have N:=un (be.o.below c);have z:=un (F.o.trans ((c).mono F.o.size))
    obtain⟨_,_,_,_,_,_,_,_,_,_,_,_,_,_,_,_,_,cd,_,_,_,_,_,_,bN,bG,_,_,bO,bH,_⟩:=bf8 l.o;obtain⟨bn,_,bo,_⟩:=bc2 t.o;have o:=un (zal f #[.int .i64 3,(P,n,J),(),(D,n,cD),(nn:Int)] 76);obtain⟨bt,_,bu,_,bv,_,bC,_,bD,_⟩:=bc5 o.o;have aQ:=un (I.o.next ar (v:=Option.none) (by rw[aO.o];rfl));go_wp2;go_roundw
    case rel=>exact⟨k+1,by go_num,by omega,gl,T,m1,c1,X,aj,ac,gh,V,m2,c2,Z,ak,ad,a,b,l.o,L.o,H.o,by have h:=aQ.o;(rcases(show k=0∨k=1 by omega)with rfl | rfl);(· cases I.o;exact h);(· cases I.o;exact h),M.o.b⟩
    case measure=>simp[intOf];omega
  ·obtain rfl:k=2:=by omega
   have e3:=I.o.last;go_wp2;refine Zd (v:=.tuple #[.agg #[gl,(T,m1,c1),(X,aj,ac),gh,(V,m2,c2),(Z,ak,ad),.bool a.isSome,.bool b.isSome],.nilIface]) (by simp[results,results68,go_sem,eh,ej,ei,ek,el,en,eB,ez,eC,eA,d6,d5,ee,ec,ef,ed]) rfl ?_;have g:=zYl dA.o gl (T,m1,c1) (X,aj,ac) gh (V,m2,c2) (Z,ak,ad) (.bool a.isSome) (.bool b.isSome);rw[e3]
   exact⟨bsc (bsc (bsc (bsc (bsc (bsc (bsc (bsc dz.o))))))),gl,T,m1,c1,X,aj,ac,gh,V,m2,c2,Z,ak,ad,rfl,HA.o.tk g (by decide),dI.o.tk g (by decide)⟩
end Ra
inductive RhsO where
  | spent:RhsO
  | none:RhsO
  | range:RangeO→RhsO
def yLD (rows:List PRow):List (Nat × Int):=wTo rows (List.replicate rows.length false) rows.length
def yYb (nC:Nat) (cost:List Rat) (rows:List PRow) (k B:Nat):Out→RhsO
  | .spent _=>.spent
  | .best cols _=>.range (yJF (yLD rows).length (yJH (yLD rows) k) (yJL (yLD rows) rows cost++[yJI (yLD rows) rows (dot cost (yJA nC rows cols))]) B)
  | _=>.none
def yWU (nC:Nat) (cost:List Rat) (rows:List PRow) (k B:Nat):RhsO:=yYb nC cost rows k B (yJw nC cost rows B)
def yJY (U:List (Nat × Int)) (k i:Nat):List Rat:=(yJH U k).take i++List.replicate (U.length-i) 0
def yJZ (U:List (Nat × Int)) (rows:List PRow) (i:Nat):List Rat:=(U.take i).map fun x=>(x.2:Rat)*(rows.getD x.1 default).rhs
section
variable {U:List (Nat × Int)} {rows:List PRow} {cost:List Rat} {k i j:Nat} {x:Nat × Int}
theorem yMR(h:i≤U.length):(yJY U k i).length=U.length:=by
 unfold yJY yJH;rw[Zj,Zn,Zl,Zr];omega
theorem yMb:yJY U k 0=List.replicate U.length 0:=by rfl
theorem yMQ:yJY U k U.length=yJH U k:=by
 unfold yJY;rw[ZZ,List.replicate_zero,Yg,ZH (by unfold yJH;rw[Zl];omega)]
theorem yK3(h:U[i]? = some x):(yJH U k).take (i+1)=(yJH U k).take i++[if x.1=k then (x.2:Rat)else 0]:=by
 unfold yJH;rw[ZN,Zw,h];rfl
theorem yMa(h:U[i]? = some x)(a:x.1≠k):yJY U k (i+1)=yJY U k i:=by
 have b:=(Zm.1 h).1;unfold yJY;rw[yK3 h,if_neg a,show U.length-i=(U.length-(i+1))+1 by omega,XB,Xy];rfl
theorem yMS(h:U[i]? = some x)(b:x.1=k):(yJY U k i).set i (x.2:Rat)=yJY U k (i+1):=by
 have c:=(Zm.1 h).1;have a:((yJH U k).take i).length=i:=by unfold yJH;rw[Zn,Zl];omega
 unfold yJY;rw[yK3 h,if_pos b,List.set_append_right _ _ (by rw[a];omega),a,ZZ,show U.length-i=(U.length-(i+1))+1 by omega,XB,YB,Xy];rfl
theorem yMd(h:U[i]? = some x):yJZ U rows (i+1)=yJZ U rows i++[(x.2:Rat)*(rows.getD x.1 default).rhs]:=by
 unfold yJZ;rw[ZN,h];simp
theorem yMV(h:i≤U.length):(yJZ U rows i).length=i:=by unfold yJZ;rw[Zl,Zn];omega
theorem yMU(v:Rat):yJI U rows v=⟨yJZ U rows U.length,3,v⟩:=by unfold yJI yJZ;rw[ZH (Za _)]
theorem yKO:(yJL U rows cost).length=cost.length:=by simp[yJL]
theorem yMY(h:j<cost.length):(yJL U rows cost).take (j+1)=(yJL U rows cost).take j++[⟨yJC U rows j,1,el cost j⟩]:=by
 unfold yJL;rw[ZN,Zw,Z4 h];rfl
end
theorem yKe{ops:Array Oper}{o:Oper}{a:Act}{K:Act→World→Prop}{Q:Exit→Act→World→Prop}{E:Prop}(hg:o.guard=none)(l c:Operand)(g:o.op=Op.makeSlice 123 l c)(n:Nat)(L:Int)(f:a.eval l=.int .i64 L)(hc:a.eval c=.int .i64 L)(e:L=(n:Int))(t:n≤1048576)
  (d:∀w1,BoolsS w1 w (w.heap.size,n,n) (List.replicate n false)→Below w w w1→K (a.put o.dst (w.heap.size,n,n)) w1) :
  if Region.wanted o (yielded ops a.tmps)=true then Oper.wp prog o a w K Q else E:=by
 have hw:Region.wanted o (yielded ops a.tmps)=true:=by simp[Region.wanted,hg]
 rw[if_pos hw];obtain⟨s,hi,p,q,r⟩:=info_parts zuV;subst e;obtain⟨w',m,b,r2⟩:=run_make_full (P:=prog) w w.heap.size 123 4 s _ 1 underlying123 hi p q .i64 .i64 n (by rw[r];omega) (by unfold maxLen;omega) (Za _);unfold Oper.wp;simp[execOp,g,f,hc,m,Result.andThen];rw[zsy]at b;exact d _ ⟨by rw[Zr];exact b⟩ ((Zg _ _).grown r2 (Za _) (fun k hk=>by cases hk))
theorem yJR{ops:Array Oper}{rest:List Oper}{o:Oper}{a:Act}{Q:Exit→Act→World→Prop}(hg:o.guard=none)(s x:Operand)
  (G:o.op=.call { callee:=.builtin .append,args:=#[s,x],argTypes:=#[29,29] }) {H:Nat} {v:Value} {l:List RR} {ps:List PRow} (I:a.eval s=v) (J:RowsL w H v l ps)  (L:a.eval x=.slice (some ⟨b,0,none⟩) 1 1)
  {C:OA} {nc cc:Nat} {kd:Int} {g:Bool} {A:OA} {c:Nat} {D:OA} {f e:Nat} {p:PRow} (z:w.heap[b]? = some (.cells #[(C,nc,cc),.int .i64 kd,g,(A,m,c),(D,f,e)] 43 (0,0)))
  (hr:RowS w ⟨.slice C nc cc,kd,g,.slice A m c,.slice D f e⟩ p)  (F:ps.length=n) (B:n+1≤1000000) (t:H≤w.heap.size)
  (u:∀d c' w',RowsL w' H (.slice d (n+1) c') (l++[⟨.slice C nc cc,kd,g,.slice A m c,.slice D f e⟩]) (ps++[p])→zij w w'→Below H w w'→wpList prog ops Q rest (a.put o.dst (.slice d (n+1) c')) w'):wpList prog ops Q (o::rest) a w:=by
 refine wpList_plain hg fun K y=>?_
 have h:=zKn (ops:=#[]) (K:=K) (Q:=Q) (E:=True) hg s x G I J L z hr F B t fun d c' w' h1 q r=>y _ _ (u d c' w' h1 q r)
 rwa [if_pos (by simp[Region.wanted,hg])]at h
