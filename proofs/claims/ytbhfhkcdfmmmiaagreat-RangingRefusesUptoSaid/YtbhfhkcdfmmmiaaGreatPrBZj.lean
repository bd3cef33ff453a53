/- Contracts and lemmas: PrB. Conditions: as each says. -/
import Derived.Test.YtbhfhkcdfmmmiaaGreatBasNZj
import Derived.Test.YtbhfhkcdfmmmiaaGreatStdWZj
set_option linter.all false
set_option maxHeartbeats 4000000
set_option maxRecDepth 100000
namespace Go.Proofs.YtbhfhkcdfmmmiaaGreat
open Go.RowKit Am Tryz
attribute [local go_sem ↓] Go.wp_at_zero Go.wp_at_succ
variable {A:List (List Rat)}{b:List Rat}{H S k m:Nat}{q:Rat}{v:Value}{w:World}
theorem zVG(r:Rat)(xs:List Rat):scale r xs=xs.map fun x=>r*x:=rfl
theorem zUT{r:List Rat}(h:A[k]? = some r):(zt0 A b).take (k+1)=(zt0 A b).take k++[scale ((sgI (el b k):Int):Rat) r++zdL A.length k]:=by
 have hk:=(Zm.1 h).1;have e:(zt0 A b)[k]? = some (scale ((sgI (el b k):Int):Rat) r++zdL A.length k):=by
  unfold zt0;rw[Zw,Z4 hk,zVG,zUb];grind
 rw[ZN,e];rfl
theorem zUU(h:b[k]? = some q):(zwh b).take (k+1)=(zwh b).take k++[((sgI q:Int):Rat)*q]:=by
 have e:(zwh b)[k]? = some (((sgI q:Int):Rat)*q):=by unfold zwh;rw[Zw,h,zUb];rfl
 rw[ZN,e];rfl
theorem zWK(h:b[k]? = some q):(b.map sgI).take (k+1)=(b.map sgI).take k++[sgI q]:=by grind[List.take_add_one]
theorem zTt(A:List (List Rat))(b:List Rat):(zt0 A b).length=A.length:=by simp[zt0]
theorem zUh(b:List Rat):(zwh b).length=b.length:=by simp[zwh]
theorem zWX(p q:Rat):mw (sgn p*q)=mw q:=by
 unfold sgn;split
 ·rw[show(-1:Rat)*q = -q by grind,zhY]
 grind
theorem zXc(h1:1≤S)(zA:∀r∈A,∀q∈r,mw q≤S):∀r∈zt0 A b,∀q∈r,mw q≤S:=fun r hr q a=>by
 unfold zt0 at hr;obtain⟨k,hk,rfl⟩:=Zq.1 hr;rw[Xa]at hk;rcases ZD.1 a with h | h
 ·grind[zWX,List.mem_of_getElem?,zaO]
 ·unfold zdL at h;grind[List.mem_or_eq_of_mem_set,Nat.le_trans,mw0,mw1]
theorem zXd(zb:∀q∈b,mw q≤S):∀q∈zwh b,mw q≤S:=fun q a=>by
 obtain⟨x,c,rfl⟩:=Zq.1 a;rw[zWX];exact zb x c
theorem zXe{c:List Rat}(h1:1≤S)(zc:∀q∈c,mw q≤S):∀q∈zKb m c,mw q≤S:=fun q a=>by
 rcases ZD.1 a with h | h
 ·exact zc q h
 grind[Nat.le_trans,mw0]
theorem zTC{ops:Array Oper}{o:Oper}{a:Act}{K:Act→World→Prop}{Q:Exit→Act→World→Prop}{E:Prop}(hg:o.guard=none)(s x:Operand)
  (X:o.op=.call { callee:=.builtin .append,args:=#[s,x],argTypes:=#[28,28] })   {qs:List Rat} (hs:a.eval s=v) (hv:VecS w H v qs) {b:Nat} (hx:a.eval x=.slice (some ⟨b,0,none⟩) 1 1)
  {g:Bool} {A:OA} {c:Nat} {D:OA} {i f:Nat}  (S:w.heap[b]? = some (.cells #[g,(A,m,c),(D,i,f)] 41 (0,0))) (hq:RatS w g (A,m,c) (D,i,f) q) {N:Nat} (hN:qs.length=N) (ah:N+1≤1000000) (I:H≤w.heap.size)
  (R:∀j c' w',VecS w' H (.slice j (N+1) c') (qs++[q])→TKeep 41 w w'→Below H w w'→zff w w'→(∀k,k<w.heap.size→some k≠v.ownBlock→w'.heap[k]? = w.heap[k]?) →
   ((Value.slice j (N+1) c').ownBlock=v.ownBlock∨∀k,(Value.slice j (N+1) c').ownBlock=some k→w.heap.size≤k)→K (a.put o.dst (.slice j (N+1) c')) w') :
  if Region.wanted o (yielded ops a.tmps)=true then Oper.wp prog o a w K Q else E:=by
 have hw:Region.wanted o (yielded ops a.tmps)=true:=by simp[Region.wanted,hg]
 rw[if_pos hw];subst hN;obtain⟨y,hi,F,n,G⟩:=info_parts ze0;obtain⟨l,h1,O,d⟩:=hv.row;have r:=zC6 S;have C:∀u∈[Value.bool g,.slice A m c,.slice D i f],u.oneCell'=true:=by intro u L;simp at L;rcases L with rfl | rfl | rfl<;>rfl
 obtain⟨M,w',t,Y,p,_⟩:=run_append_own (P:=prog) w H 28 o.type 41 y _ 3 56 underlying28 hi F n G rfl (by decide) v qs.length (rcells l) d ⟨b,0,none⟩ 1 1 [.bool g,.slice A m c,.slice D i f] rfl r C (by unfold maxLen;omega) (by omega) I;have W:M.ownBlock=v.ownBlock∨∀k,M.ownBlock=some k→w.heap.size≤k:=by
  rcases d.2 with ⟨rfl,V⟩ | ⟨g',cap,cur,rfl,af,U,ai,ag,T,aj⟩
  ·obtain⟨v2,w2,e,Z,_⟩:=run_append_own (P:=prog) w w.heap.size 28 o.type 41 y _ 3 56 underlying28 hi F n G rfl (by decide) () 0 [] (Xf _ _ _ _) ⟨b,0,none⟩ 1 1 [.bool g,.slice A m c,.slice D i f] rfl r C (by unfold maxLen;omega) (by omega) (Za _);rw[t]at e;injection e with e1 e2;subst e1;exact .inr fun k hk=>(Z.lt k hk).1
  ·by_cases ab:qs.length+1≤cap
   ·have e:=run_append_room (P:=prog) w 28 o.type 41 y underlying28 hi g' qs.length cap cur U ⟨b,0,none⟩ 1 1 [.bool g,.slice A m c,.slice D i f] (by rw[n];rfl) r C ab (by rw[n,T];simp;omega);rw[t]at e;injection e with e1 e2;exact .inl (by rw[e1];rfl)
   ·have e:=run_append_grow (P:=prog) w 28 o.type 41 y _ underlying28 hi F ⟨g',0,none⟩ qs.length cap (rcells l) (by rw[n];exact d.1) (d.cells (g:=g') rfl) ⟨b,0,none⟩ 1 1 [.bool g,.slice A m c,.slice D i f] (by rw[n];rfl) r (by omega) (by omega) (growslice_fits (by omega) (by rw[G];omega));rw[t]at e;injection e with e1 e2;exact .inr fun k hk=>by rw[e1]at hk;have J:some w.heap.size=some k:=hk;grind
 have z:=VecS.append h1 O d hq Y p;obtain⟨j,n',c',rfl⟩:=z.slice;have B:=z.len;rw[Zj]at B;simp only[XI,Yl,Z2]at B;subst B;exact Lib.wp_append_run w s x 28 28 X v _ hs hx _ w' t (R j c' w' z (TKeep.grown d p) ((Zg _ _).grown p I (fun k hk=>(d.lt k hk).1)) (zh3 d p) p.block W)
theorem VecsL.apart{w':World}{l:List Value}{L:List (List Rat)}{ob:Option Nat}(h:VecsL w H v l L)(hk:TKeep 41 w w')(hr:zff w w')(d:∀k,k<w.heap.size→some k≠ob→w'.heap[k]? = w.heap[k]?)(c:∀s∈l,∀g,s.ownBlock=some g→some g≠ob):VecsL w' H v l L:=by
 refine h.keepAll (fun k e=>hk k (h.own.lt k e).2 fun cs b=>za6 h.own b (by decide) e) fun s r f a=>a.keepAll (fun k e=>d k (a.lt e).2 (c s f k e)) fun _ _ _ _ x=>x.keepT hr
theorem zYl{b:Nat}{cs:Array Value}{t:TypeId}(c:w.heap[b]? = some (.cells cs t (0,0)))(v0 v1 f g i j l m:Value):TKeep t w ((((((((w.setCell ⟨b,0,none⟩ v0).setCell ⟨b,1,none⟩ v1).setCell ⟨b,2,none⟩ f).setCell ⟨b,3,none⟩ g).setCell ⟨b,4,none⟩ i).setCell ⟨b,5,none⟩ j).setCell ⟨b,6,none⟩ l).setCell ⟨b,7,none⟩ m):=fun k _ d=>by
 have a:k≠b:=fun e=>d cs (by rw[e];exact c)
 rw[Zk _ _ _ _ (by exact a),Zk _ _ _ _ (by exact a),Zk _ _ _ _ (by exact a),Zk _ _ _ _ (by exact a),Zk _ _ _ _ (by exact a),Zk _ _ _ _ (by exact a),Zk _ _ _ _ (by exact a),Zk _ _ _ _ (by exact a)]
def zVJ (w:World) (m N S own:Nat) (A0:List (List Rat)) (b0 c0:List Rat) (left:List Int) (e:Ending) (w':World):Prop:=∃(rA:OA) (rc:Nat) (lA:List Value) (bA:OA) (bc_:Nat) (kA:OA) (kc:Nat) (eA:OA) (ec:Nat) (gA:OA) (gc:Nat),
  e=.returned (.tuple #[.agg #[(rA,m,rc),((N+m:Nat):Int),(bA,m,bc_),(kA,N+m,kc),(own:Int),(eA,m,ec),(gA,m,gc),(N:Int)],.nilIface]) ∧
  StdP w' rA rc lA bA bc_ kA kc eA ec m (N+m) S (zt0 A0 b0) (zwh b0) (zKb m c0) left∧IntsZ w' 0 (gA,m,gc) (b0.map sgI)∧Below w w w'
namespace Pr
theorem pbegin(rA:OA)(rc:Nat)(lA:List Value)(bA:OA)(bc_:Nat)(kA:OA)(kc:Nat)(eA:OA)(ec m N S own:Nat)(j:List (List Rat))(a c0:List Rat)(left:List Int)(w:World)(hS:StdP w rA rc lA bA bc_ kA kc eA ec m N S j a c0 left)(cS:N+m≤64)(hl:left.length=m)(cL:8*S+8≤LIM) :
  Calls prog 53 #[.agg #[(rA,m,rc),(N:Int),(bA,m,bc_),(kA,N,kc),(own:Int),(eA,m,ec)]] w (zVJ w m N S own j a c0 left):=by
 have aF:=un hS.blen;have aE:=un hS.rows.nlen;have fR:=un hS.clen;have f1:=un hS.rl;have cA:=un hS.zA;have cC:=un hS.zb;have gm:=un hS.zc;have aT:=un hS.hS;have cy:=un cL;have fW:=un hl;have aX:=hS.hm;have gt:=hS.hN;have mZ:(N:Int)+(m:Int)≤64:=by omega
 clear cL hl;obtain⟨W,hW⟩:∃W,((w.alloc (.cells #[(rA,m,rc),(N:Int),(bA,m,bc_),(kA,N,kc),(own:Int),(eA,m,ec)] 113)).alloc (.cells #[(),.int .i64 0,(),(),.int .i64 0,(),(),.int .i64 0] 117))=W:=⟨_,rfl⟩
 have ae:=un (show W.heap[w.heap.size]? = some (.cells #[(rA,m,rc),(N:Int),(bA,m,bc_),(kA,N,kc),(own:Int),(eA,m,ec)] 113 (0,0))by rw[←hW];exact zak (zam (by simp)));have ax:=un (show W.heap[w.heap.size+1]? = some (.cells #[(),.int .i64 0,(),(),.int .i64 0,(),(),.int .i64 0] 117 (0,0))by rw[←hW];exact zam (by simp))
 have Z:=un (show Below w w W by rw[←hW];exact(zae w _).alloc (by simp) _);have HZ:=un (show w.heap.size+2≤W.heap.size by rw[←hW];simp);have HS:=un (show StdP W rA rc lA bA bc_ kA kc eA ec m N S j a c0 left by rw[←hW];exact((hS).alloc _).alloc _);obtain⟨jG,_,jH,_,jX,j9,mr,_,mu,_,ib,_⟩:=bc6 ae.o;clear hS;go_enter func53,ntmps53;go_wp2_with fail
 clear hW;have gg:=un (Bel.mk (Zg W.heap.size W));refine zaS (S:=fun w'=>w'.cell? ⟨w,0,none⟩=some (rA,m,rc)∧w'.cell? ⟨w,1,none⟩=some (.int .i64 (N:Int))∧w'.cell? ⟨w,2,none⟩=some (bA,m,bc_)∧w'.cell? ⟨w,3,none⟩=some (kA,N,kc)∧w'.cell? ⟨w,4,none⟩=some (.int .i64 (own:Int))∧w'.cell? ⟨w,5,none⟩=some (eA,m,ec)) [] (h:=fun hHeld=>?_);refine zaw [0,1,3,4] ?_;repeat refine tkL (hS:=hHeld) (h:=?_)
 refine zao ?_;refine zaB 2 (h:=fun K A=>?_);go_simp
 (go_at_call 103;(with_reducible refine(Mt.rows N m rc rA _).mono ?_);rintro e w1 ⟨rfl,hb⟩;have et:=un (zad hb ae.o);have hg:=un (gg.o.drew.below hb);obtain⟨jE,_,jF,_,jU,j3,ms,_,mv,_,ic,_⟩:=bc6 et.o;clear hb)
 (try go_wp2_with fail)
 refine shutOn A fun hHeld=>?_
 clear A K
 refine zaB 5 (h:=fun K A=>?_);go_simp
 (go_at_call 104;(with_reducible refine(Mt.cols N m rc rA _).mono ?_);rintro e d ⟨rfl,hb⟩;have jB:=un (zad hb et.o);have lC:=un (hg.o.below hb);obtain⟨jI,_,jJ,_,kv,kn,lW,_,lX,_,ie,_⟩:=bc6 jB.o;clear hb)
 (try go_wp2_with fail)
 refine shutOn A fun hHeld=>?_
 clear A K
 refine zaw [6,7] ?_;repeat refine tkL (hS:=hHeld) (h:=?_)
 refine zao ?_;refine zaM (h:=?_);have al:=un lC.o.b;go_wp2
 go_loopw [7,43] (fun rv i wr=>∃(k:Nat) (rR:OA) (cR:Nat) (l:List Value) (o:OA) (cB:Nat) (z:OA) (y:Nat),i=.int .i64 k∧rv=(rR,k,cR)∧k≤m∧wr.heap[d.heap.size]? = some (.cells #[(),.int .i64 0,(o,k,cB),(),.int .i64 0,(),(z,k,y),(N:Int)] 117 (0,0))∧VecsL wr W.heap.size (rR,k,cR) l ((zt0 j a).take k)∧VecS wr W.heap.size (o,k,cB) ((zwh a).take k)∧IntsZ wr W.heap.size (z,k,y) ((a.map sgI).take k)∧(∀s∈l,∀g,s.ownBlock=some g→some g≠(Value.slice o k cB).ownBlock)∧Below W.heap.size W wr)
  (fun _ i _=>m-(intOf i).toNat)
 case atStart=>exact⟨0,none,0,[],none,0,none,0,rfl,rfl,Zb _,zal _ _ _,VecsL.nil _ _,VecS.nil _ _,IntsZ.nil _ _,(fun s hs=>by cases hs),al.o.alloc al.o.size _⟩
 case round =>
  obtain⟨k,rR,cR,l,o,cB,z,y,rfl,rfl,hk,D,G,E,H,bc,c⟩:=hrel;by_cases bd:k<m
  ·obtain⟨J,rfl,_,_⟩:=HS.o.B.has (by omega);have aI:=zaH (by rw[aF.o];exact bd);have aB:j[k]? = some (j.getD k []):=zaO (by rw[←aE.o];exact bd);obtain⟨ga,Aa,ma,ca,Da,ak,ah,y0,y1,y2,cF⟩:=HS.o.B.at_ aI;have ar:=un (zUT (b:=a) aB);rw[←aE.o]at ar;have a6:=un (zUU aI);have a7:=un (zWK aI);generalize j.getD k []=r0 at aB ar;have fK:=un aB;have a3:=un (f1.o r0 (Zh aB));have gl:=un (cA.o r0 (Zh aB))
   have gn:=un (cC.o _ (Zh aI));have HY:=un (And.intro y0 (And.intro y1 y2));have a4:=un cF;have aG:=un (show I64 (sgI (el a k))by rcases zTW (el a k)with e | e<;>rw[e]<;>exact⟨by decide,by decide⟩);have cv:=un (Zc (zu9 _ aG.o) aT.o);have fL:=un (show((zt0 j a).take k).length=k by rw[Zn,zTt,←aE.o];omega);have fP:=un (show((zwh a).take k).length=k by rw[Zn,zUh,aF.o];omega)
   have fT:=un (show((a.map sgI).take k).length=k by rw[Zn,Zl,aF.o];omega);have mW:(0:Int)≤(k:Int):=Zf _;have mX:(k:Int)<(m:Int):=by omega
   have gx:=HZ.o;have bg:=al.o.size;have fM:=un bc;have fQ:=un (show ∀g,(Value.slice o k cB).ownBlock=some g→g<wr.heap.size from fun g e=>(E.lt e).2);have mV:J<W.heap.size:=(HS.o.B.lt rfl).2;clear aI aB y0 y1 y2 cF bc;have aP:=un (zad c ae.o);have bC:=un (HS.o.below c);have aW:=un ((a4.o.below c))
   have L:=un (G);have O:=un (E);have P:=un (H);have I:=un (Bel.mk c);have aQ:=un (Z.o.trans ((c).mono Z.o.size));obtain⟨_,_,_,_,fs,_⟩:=bc6 aP.o;have bR:=zab c HY.o.1
   have bU:=zab c HY.o.2.1;have bW:=zab c HY.o.2.2;have F:=un D;clear D G E H c;have gi:=un (Bel.mk (Zg wr.heap.size wr))
   go_upto_if 52 with (go_at_call 105;(with_reducible refine(Rt.sign ga Aa ma ca Da ak ah (el a k) _ aW.o).mono ?_);rintro e u1 ⟨rfl,hb⟩;have a0:=un (zad hb aP.o);have a1:=un (zad hb F.o);have bD:=un (bC.o.below hb);have en:=un (L.o.below hb);have ci:=un (O.o.below hb);have bP:=un (P.o.below hb);have b1:=un (I.o.below hb);have g2:=un (gi.o.below hb);have bS:=un (aQ.o.trans ((hb).mono aQ.o.size));obtain⟨eD,ew,eE,ex,fw,fp,fB,fy,fC,fz,dU,fG⟩:=bc6 a0.o;obtain⟨eL,ey,eJ,eB,eM,ez,eK,eC,fd,eU,eV,eQ,fi,e5,eY,eN,fj,e6,eZ,eG,ft,zip,fg,eX,ej,d4,ed,d7,em,ea,ef,d9⟩:=bf8 a1.o;have bQ:=zab hb bR;have gC:=zaa bQ;have bT:=zab hb bU;have gI:=zaa bT;have bX:=zab hb bW;have gN:=zaa bX;clear hb)
   go_cut[9] (fun gv wy=>gv=.int .i64 (sgI (el a k))∧wy=u1)
   case first =>
    by_cases an:el a k<0
    ·have cV:=zrN an;have cW:=zeh.2 an;have a5:=un (show sgI (el a k) = -1 by unfold sgI;rw[if_pos an]);clear an;go_wp2;go_meet;exact⟨by rw[a5.o],rfl⟩
    ·have cV:=zrO an;have cW:¬(el a k).num.sign<0:=by omega
     have m1:¬(el a k).num<0:=fun e=>an (zeh.1 e)
     have a5:=un (show sgI (el a k)=1 by unfold sgI;rw[if_neg an]);clear an;go_wp2;go_meet;exact⟨by rw[a5.o],rfl⟩
   case rest =>
    obtain⟨rfl,rfl⟩:=hcut;rename World=>u1
    clear jG jH jX j9 mr mu ib jE jF jU j3 ms mv ic jI jJ kv kn lW lX ie fs bR bU bW
    go_wp2_with fail
    with_reducible refine(Mt.row N m rc rA lA j 0 k r0 _ bD.o.rows fK.o a3.o gt aX).mono ?_
    rintro e u2 ⟨A3,c3,rfl,hv,hb⟩;have eF:=un (zad hb a0.o);have eI:=un (zad hb a1.o);have ia:=un (bD.o.below hb);have gV:=un (en.o.below hb);have gW:=un (ci.o.below hb);have gZ:=un (bP.o.below hb);have lZ:=un (b1.o.below hb);have g3:=un (g2.o.below hb);have f6:=un (hv);have eR:=un (bS.o.trans ((hb).mono bS.o.size));obtain⟨_,_,_,_,_,_,_,_,md,_⟩:=bc6 eF.o
    have b2:=zab hb bQ;have b5:=zab hb bT;have b6:=zab hb bX;clear hv hb;go_wp2_with fail
    with_reducible refine(Vc.unit m k aX bd _).mono ?_
    rintro e u3 ⟨U,nU,cU,rfl,hv,hb⟩;have eH:=un (zad hb eF.o);have fk:=un (zad hb eI.o);have g9:=un (ia.o.below hb);have l0:=un (gV.o.below hb);have gX:=un (gW.o.below hb);have g0:=un (gZ.o.below hb);have h0:=un (lZ.o.below hb);have g5:=un (g3.o.below hb);have gT:=un (f6.o.below hb);have HU:=un (hv);have fu:=un (eR.o.trans ((hb).mono eR.o.size))
    have b7:=zab hb b2;have b9:=zab hb b5;have ch:=zab hb b6;obtain rfl:m=nU:=by rw[hv.len,zfM]
    clear hv hb;clear eD ew eE ex fw fp fB fy fC fz dU fG eL ey eJ eB eM ez eK eC fd eU eV eQ fi e5 eY eN fj e6 eZ eG ft zip fg eX ej d4 ed d7 em ea ef d9 bQ gC bT gI bX gN md b2 b5 b6;go_upto_region 14 with fail
    go_cut[7] (fun rv wz=>∃(A5:OA) (c5:Nat) (l5:List Value),rv=(A5,k+1,c5)∧wz.heap[d.heap.size]? = some (.cells #[(),.int .i64 0,(o,k,cB),(),.int .i64 0,(),(z,k,y),(N:Int)] 117 (0,0))∧VecsL wz W.heap.size (A5,k+1,c5) l5 ((zt0 j a).take (k+1))∧VecS wz W.heap.size (o,k,cB) ((zwh a).take k)∧IntsZ wz W.heap.size (z,k,y) ((a.map sgI).take k)∧(∀s∈l5,∀g,s.ownBlock=some g→some g≠(Value.slice o k cB).ownBlock)∧Below W.heap.size W wz)
    case first=>as_aux_lemma =>
     go_wp2_with fail
     with_reducible refine(Rt.int (sgI (el a k)) aG.o.1 aG.o.2 _).mono ?_
     rintro e u4 ⟨g4,u,m4,x,D4,md4,cd4,rfl,hn,hb⟩;have av:=un (zad hb eH.o);have aS:=un (zad hb fk.o);have aO:=un (g9.o.below hb);have hE:=un (l0.o.below hb);have gY:=un (gX.o.below hb);have g1:=un (g0.o.below hb);have dX:=un (h0.o.below hb);have g6:=un (g5.o.below hb);have gU:=un (gT.o.below hb);have hc:=un (HU.o.below hb);have HM:=un (hn)
     have aD:=un (fu.o.trans ((hb).mono fu.o.size));obtain⟨_,_,_,_,_,_,bq,_⟩:=bc6 av.o;obtain⟨_,_,_,_,_,_,_,_,_,_,_,cd,_,_,_,_,_,_,_,_,_,_,_,_,bN,_⟩:=bf8 aS.o;clear hn hb;go_wp2_with fail
     with_reducible refine(Vc.scaleS S cy.o g4 u m4 x D4 md4 cd4 ((sgI (el a k):Int):Rat) A3 N c3 r0 u1.heap.size _ gU.o HM.o (by omega) gl.o cv.o).mono ?_
     rintro e u5 ⟨T5,n5,c5,rfl,hv,hb⟩;obtain rfl:N=n5:=by rw[hv.len,zfH,a3.o]
     have f3:=un hv;have cu:=un hb;have f5:=un (hc.o.below hb);have gj:=un dX.o.b.size;have f2:=un (g6.o.b.size);clear hv hb
     go_wp2_with (at_builtin;first | (refine zSO rfl _ _ rfl rfl f3.o rfl f5.o (N:=N+m) (by rw[zfH,a3.o]) (by omega) cu.o.size ?_;intro R T u6 be aJ aH;have V:=un (cu.o.trans aH);have fJ:=un (show ∀g,(Value.slice R (N+m) T).ownBlock=some g→u4.heap.size≤g from fun g e=>(be.lt e).1);have aY:=un (zad V.o aS.o);have eo:=un (hE.o.below V.o);have ep:=un (gY.o.below V.o);have eq:=un (g1.o.below V.o);have bE:=un (dX.o.below V.o);have f8:=un (show VecS u6 W.heap.size (R,N+m,T) (scale ((sgI (el a k):Int):Rat) r0++zdL m k)from(be.base gj.o));clear be aJ aH) | (refine zbW rfl _ _ rfl rfl (eo.o.alloc _) rfl (zal _ _ _) (f8.o.alloc _) (n:=k) fL.o (by omega) (by have:=bE.o.b.size;simp;omega) ?_;intro A7 c7 u7 cE cM cJ gs;have fV:=un cE;have a2:=un cM;have aU:=un cJ;clear cE cM cJ gs))
     go_meet
     case rel=>exact⟨A7,c7,_,rfl,a2.o.blk (zak aY.o) (by decide),by rw[ar.o];exact fV.o,(ep.o.alloc _).tk a2.o (by decide) (by decide),(eq.o.alloc _).tk a2.o (by decide),(fun s hs g e=>(ZD.1 hs).elim (fun h=>fM.o s h g e) fun h=>by rw[Yi.1 h]at e;intro e2;have h1:=fJ.o g e;have h2:=fQ.o g e2.symm;have h3:=f2.o;omega),(bE.o.alloc _).b.trans aU.o⟩
    case rest =>
     obtain⟨A5,c5,l5,rfl,D,G,E,H,cI,c⟩:=hcut;have cs:=un cI;clear cI;rename World=>wz
     have av:=un (zad c ae.o);have aO:=un (HS.o.below c);have aW:=un ((a4.o.below c));have L:=un (G);have O:=un (E);have P:=un (H);have I:=un (Bel.mk c)
     have aD:=un (Z.o.trans ((c).mono Z.o.size));obtain⟨_,_,_,_,_,_,bq,_⟩:=bc6 av.o;have F:=un D;obtain⟨_,_,_,_,_,_,_,_,_,_,_,cd,_,_,_,_,_,_,_,_,_,_,_,_,bN,_⟩:=bf8 F.o
     clear D G E H c;go_upto_region 15 with fail
     go_cut[] (fun wy=>∃(R:OA) (T:Nat),wy.heap[d.heap.size]? = some (.cells #[(),.int .i64 0,(o,k,cB),(),.int .i64 0,(),(R,k+1,T),(N:Int)] 117 (0,0))∧VecsL wy W.heap.size (A5,k+1,c5) l5 ((zt0 j a).take (k+1))∧VecS wy W.heap.size (o,k,cB) ((zwh a).take k)∧IntsZ wy W.heap.size (R,k+1,T) ((a.map sgI).take (k+1))∧Below W.heap.size W wy)
     case first=>as_aux_lemma =>
      go_wp2_with (at_builtin;refine zfS rfl _ _ rfl rfl (P.o.alloc (.cells #[.int .i64 (sgI (el a k))] 3)) rfl (zal _ _ _) (n:=k) fT.o (by omega) (by have:=I.o.b.size;simp;omega) ?_;intro R T v6 cD aJ aH;have fU:=un cD;have cw:=un aJ;have fN:=un ((I.o.alloc _).b.trans aH);have KS:=un (aJ.blk (zak F.o) (by decide));obtain⟨o0,_,_,_,o1,_,_,_,o2,_,ds,_,o3,_,du,_,o4,_,_,_,o5,_,_,_,o6,_,dA,_,o7,_⟩:=bf8 KS.o;clear cD aJ aH)
      go_meet;have f:TKeep 117 v6 (v6.setCell ⟨d,6,none⟩ (R,k+1,T)):=TKeep.set KS.o _
      case rel=>exact⟨R,T,zar _ KS.o,((L.o.alloc _).tk cw.o (by decide) (by decide) (by decide)).tk f (by decide) (by decide) (by decide),((O.o.alloc _).tk cw.o (by decide) (by decide)).tk f (by decide) (by decide),by rw[a7.o];exact fU.o.tk f (by decide),fN.o.setCell (p:=⟨d,6,none⟩) al.o.size _⟩
     case rest =>
      obtain⟨R,T,D,G,E,H,c⟩:=hcut;rename World=>wy
      have dY:=un (zad c ae.o);have aW:=un ((a4.o.below c));have L:=un (G);have O:=un (E);have P:=un (H);have I:=un (Bel.mk c);obtain⟨sp,_,ss,_,pM,_,pR,_,pW,_,pF,_⟩:=bc6 dY.o
      have hd:wy.cell? ⟨J,k*3,none⟩=some (.bool ga):=zab c HY.o.1;have gA:=zaa hd;have he:wy.cell? ⟨J,k*3+1,none⟩=some (Aa,ma,ca):=zab c HY.o.2.1;have gF:=zaa he;have hf:wy.cell? ⟨J,k*3+2,none⟩=some (Da,ak,ah):=zab c HY.o.2.2;have gL:=zaa hf;have F:=un D;obtain⟨sv,_,_,_,sy,_,_,_,sY,_,_,_,sZ,_,_,_,s0,_,_,_,qo,_,_,_,qt,_,_,_,qy,_⟩:=bf8 F.o;clear D G E H c
      clear b7 b9 ch bq cd bN;go_wp2_with fail
      have L1:=un (show 4*(mw ((sgI (el a k):Int):Rat)+mw (el a k))+8≤LIM by have:=cv.o;have:=gn.o;have:=cy.o;omega)
      refine za2 (S:=fun w'=>w'.cell? ⟨w,0,none⟩=some (rA,m,rc)∧w'.cell? ⟨w,1,none⟩=some (.int .i64 (N:Int))∧w'.cell? ⟨w,2,none⟩=some (J,m,bc_)∧w'.cell? ⟨w,3,none⟩=some (kA,N,kc)∧w'.cell? ⟨w,4,none⟩=some (.int .i64 (own:Int))∧w'.cell? ⟨w,5,none⟩=some (eA,m,ec)∧w'.cell? ⟨d,0,none⟩=some ()∧w'.cell? ⟨d,1,none⟩=some (.int .i64 0)∧w'.cell? ⟨d,2,none⟩=some (o,k,cB)∧w'.cell? ⟨d,3,none⟩=some ()∧w'.cell? ⟨d,4,none⟩=some (.int .i64 0)∧w'.cell? ⟨d,5,none⟩=some ()∧w'.cell? ⟨d,6,none⟩=some (R,k+1,T)∧w'.cell? ⟨d,7,none⟩=some (.int .i64 (N:Int))∧w'.cell? ⟨J,k*3,none⟩=some (.bool ga)∧w'.cell? ⟨J,k*3+1,none⟩=some (Aa,ma,ca)∧w'.cell? ⟨J,k*3+2,none⟩=some (Da,ak,ah)) 15 (h:=fun hHeld=>?_)
      refine zaw [0,1,2,3,5,6,7,8,9] ?_;repeat refine tkE (hS:=hHeld) (h:=?_)
      refine zao ?_;refine zaN 4 (h:=fun K A=>?_);go_simp
      (go_at_call 13;(with_reducible refine(Rt.int (sgI (el a k)) aG.o.1 aG.o.2 _).mono ?_);rintro e v1 ⟨g7,A7,m7,c7,D7,md7,cd7,rfl,hn,hb⟩;have d1:=un (zad hb dY.o);have d2:=un (zad hb F.o);have jv:=un (aW.o.drew.below hb);have jx:=un (L.o.drew.below hb);have i7:=un (O.o.drew.below hb);have jb:=un (P.o.drew.below hb);have gR:=un (I.o.drew.below hb);have fY:=un (show RatS v1 g7 (A7,m7,c7) (D7,md7,cd7) ((sgI (el a k):Int):Rat)from hn);obtain⟨sq,_,st,_,pN,_,pS,_,pX,_,pG,_⟩:=bc6 d1.o;obtain⟨sw,_,_,_,sz,_,_,_,s9,_,_,_,ta,_,_,_,tb,_,_,_,qp,_,_,_,qu,_,_,_,qz,_⟩:=bf8 d2.o;have dM:=zab hb gA;have dO:=zab hb gF;have dQ:=zab hb gL;clear hn hb)
      (try go_wp2_with fail)
      refine shutOn A fun hHeld=>?_
      clear A K
      refine zaN 10 (h:=fun K A=>?_);go_simp
      (go_at_call 15;(with_reducible refine(Rt.mul g7 A7 m7 c7 D7 md7 cd7 ((sgI (el a k):Int):Rat) ga Aa ma ca Da ak ah (el a k) _ fY.o jv.o L1.o).mono ?_);rintro e v2 ⟨g8,q,m8,t,D8,md8,cd8,rfl,hn,hb⟩;have jd:=un (zad hb d1.o);have eh:=un (zad hb d2.o);have eg:=un (jx.o.below hb);have i8:=un (i7.o.below hb);have jc:=un (jb.o.below hb);have er:=un (gR.o.below hb);have fZ:=un (show RatS v2 g8 (q,m8,t) (D8,md8,cd8) (((sgI (el a k):Int):Rat)*el a k)from hn);obtain⟨iK,_,iL,_,iM,_,iN,_,iO,_,iP,_⟩:=bc6 jd.o;obtain⟨pH,_,_,_,pI,_,_,_,qf,_,_,_,qi,_,_,_,ql,_,_,_,qq,_,_,_,qv,_,_,_,qA,_⟩:=bf8 eh.o;have dN:=zab hb dM;have dP:=zab hb dO;have dR:=zab hb dQ;clear hn hb)
      (try go_wp2_with fail)
      refine shutOn A fun hHeld=>?_
      clear A K
      refine zaN 11 (h:=fun K A=>?_);go_simp;refine shutOn A fun hHeld=>?_
      clear A K
      refine zaN 12 (h:=fun K A=>?_)
      ((refine zTC (by rfl) _ _ (by rfl) (by rfl) (i8.o.alloc _) (by rfl) (zal _ _ _) (fZ.o.alloc _) (N:=k) fP.o (by omega) (by have:=er.o.b.size;simp;omega) ?_);intro M Q v9 cH aK X cT cO cQ;have gb:=un cH;have fO:=un ((er.o.alloc _).b.trans X);have a9:=un (aK.blk (zak eh.o) (by decide));have gc:=un ((eg.o.alloc _).apart aK cT cO cs.o);have gd:=un ((jc.o.alloc _).tk aK (by decide));have f0:=un cQ;have gf:=un (show ∀s∈l5,∀g,s.ownBlock=some g→g<v2.heap.size from fun s hs g e=>(eg.o.lt hs e).2);obtain⟨o0,_,_,_,o1,_,_,_,o2,_,ds,_,o3,_,du,_,o4,_,_,_,o5,_,_,_,o6,_,dA,_,o7,_⟩:=bf8 a9.o;have t0:=zKh X (show w.heap.size<W.heap.size by omega) (cell_al (ob:=.cells #[g8,(q,m8,t),(D8,md8,cd8)] 41) iK);have t1:=zKh X (show w.heap.size<W.heap.size by omega) (cell_al (ob:=.cells #[g8,(q,m8,t),(D8,md8,cd8)] 41) iL);have t2:=zKh X (show w.heap.size<W.heap.size by omega) (cell_al (ob:=.cells #[g8,(q,m8,t),(D8,md8,cd8)] 41) iM);have t3:=zKh X (show w.heap.size<W.heap.size by omega) (cell_al (ob:=.cells #[g8,(q,m8,t),(D8,md8,cd8)] 41) iN);have t4:=zKh X (show w.heap.size<W.heap.size by omega) (cell_al (ob:=.cells #[g8,(q,m8,t),(D8,md8,cd8)] 41) iO);have t5:=zKh X (show w.heap.size<W.heap.size by omega) (cell_al (ob:=.cells #[g8,(q,m8,t),(D8,md8,cd8)] 41) iP);have t6:=zKh X (show J<W.heap.size by omega) (cell_al (ob:=.cells #[g8,(q,m8,t),(D8,md8,cd8)] 41) dN);have t7:=zKh X (show J<W.heap.size by omega) (cell_al (ob:=.cells #[g8,(q,m8,t),(D8,md8,cd8)] 41) dP);have t8:=zKh X (show J<W.heap.size by omega) (cell_al (ob:=.cells #[g8,(q,m8,t),(D8,md8,cd8)] 41) dR);clear cH aK X cT cO cQ)
      refine shutOn A fun hHeld=>?_
      clear A K
      refine zfQ (i:=13) (v:=?_) rfl (by kernel_rfl) (fun _ _ _ h=>h) (Or.inl ⟨by rfl,?_⟩) ?_
      rotate_left
      ·((intro w gr;(try dsimp only at gr);go_simp);(try with_reducible rfl))
      try simp only[Act.put,pu1,pu2,pu3,pu4,pu5,pu6]
      refine zaw [14] ?_;repeat refine tkE (hS:=hHeld) (h:=?_)
      refine zao ?_;refine zba (h:=fun K A=>?_);go_simp;refine shutOff A ?_;clear A K
      refine za1 (h:=?_)
      all_goals
       go_wp2;go_roundw
       have f:TKeep 117 v9 (v9.setCell ⟨d,2,none⟩ (M,k+1,Q)):=TKeep.set a9.o _
       case rel=>exact⟨k+1,A5,c5,l5,M,Q,R,T,by go_num,rfl,by omega,zar _ a9.o,gc.o.tk f (by decide) (by decide) (by decide),by rw[a6.o];exact gb.o.tk f (by decide) (by decide),gd.o.tk f (by decide),(fun s hs g e=>f0.o.elim (fun h=>by rw[h];exact cs.o s hs g e) fun h e2=>by have h1:=h g e2.symm;have h2:=gf.o s hs g e;simp at h1;omega),fO.o.setCell (p:=⟨d,2,none⟩) al.o.size _⟩
       case measure=>simp[intOf];omega
  ·obtain rfl:m=k:=by omega
   have ar:=un (show(zt0 j a).take m=zt0 j a by rw[ZH];rw[zTt,←aE.o];omega);have a6:=un (show(zwh a).take m=zwh a by rw[ZH];rw[zUh,aF.o];omega);have a7:=un (show(a.map sgI).take m=a.map sgI by rw[ZH];rw[Zl,aF.o];omega);have ct:=un (show ∀r∈(zt0 j a).take m,r.length=N+m by
    rw[ar.o];intro r hr;obtain⟨i,hi⟩:=Z0.1 hr;have h:=(zSV (b:=a) HS.o.rect).row i (by have:=(Zm.1 hi).1;rw[zTt,←aE.o]at this;exact this);rw[Zi,hi]at h;exact h)
   have gx:=HZ.o;clear bc;have aP:=un (zad c ae.o);have eW:=un (zad c ax.o);have bC:=un (HS.o.below c);have L:=un (G);have O:=un ((by have h:=E;rw[a6.o]at h;exact h));have P:=un ((by have h:=H;rw[a7.o]at h;exact h));have I:=un (Bel.mk c);have aQ:=un (Z.o.trans ((c).mono Z.o.size))
   obtain⟨_,_,_,_,fs,_⟩:=bc6 aP.o;have F:=un D;obtain⟨_,_,_,_,_,_,_,_,_,_,_,_,_,u8,_,_,_,u9,_⟩:=bf8 F.o;clear D G E H c;go_upto_region 18 with fail
   go_cut[] (fun wy=>∃(u:OA) (x:Nat) (Y:List Value),wy.heap[d.heap.size]? = some (.cells #[(u,m,x),((N+m:Nat):Int),(o,m,cB),(),.int .i64 0,(),(z,m,y),(N:Int)] 117 (0,0))∧VecsL wy W.heap.size (u,m,x) Y (zt0 j a)∧VecS wy W.heap.size (o,m,cB) (zwh a)∧IntsZ wy W.heap.size (z,m,y) (a.map sgI)∧Below W.heap.size W wy)
   case first=>as_aux_lemma =>
    go_wp2_with fail
    rw[show(N:Int)+(m:Int)=((N+m:Nat):Int)by simp];with_reducible refine(Mt.of m (N+m) aX cS rR cR l ((zt0 j a).take m) W.heap.size _ L.o ct.o).mono ?_
    rintro e v5 ⟨u,x,Y,rfl,hv4,ha4,hb⟩;have a0:=un (zad hb aP.o);have a1:=un (zad hb eW.o);have bV:=un (zad hb F.o);have bD:=un (bC.o.below hb);have en:=un (L.o.below hb);have ci:=un (O.o.below hb);have bP:=un (P.o.below hb);have b1:=un (I.o.below hb);have f7:=un ((by have h:=hv4;rw[ar.o]at h;exact h));have bS:=un (aQ.o.trans ((hb).mono aQ.o.size));obtain⟨eD,ew,eE,ex,fw,fp,fB,fy,fC,fz,dU,fG⟩:=bc6 a0.o
    obtain⟨eL,ey,eJ,eB,eM,ez,eK,eC,fd,eU,eV,eQ,fi,e5,eY,eN,fj,e6,eZ,eG,ft,zip,fg,eX,ej,d4,ed,d7,em,ea,ef,d9⟩:=bf8 a1.o;obtain⟨uO,_,uK,_,uP,_,uG,_⟩:=bf8 bV.o;clear hv4 ha4 hb;have cZ:=al.o.size;have bf:=I.o.b.size;go_wp2;go_meet;have f:=zBa bV.o (u,m,x) ((N+m:Nat):Int)
    case rel=>exact⟨u,x,Y,zar _ (zar _ bV.o),(f7.o.base bf).tk f (by decide) (by decide) (by decide),ci.o.tk f (by decide) (by decide),bP.o.tk f (by decide),(b1.o.b.setCell (p:=⟨d,0,none⟩) cZ _).setCell (p:=⟨d,1,none⟩) cZ _⟩
   case rest =>
    obtain⟨u,x,Y,D,G,E,H,c⟩:=hcut;rename World=>wa
    have av:=un (zad c ae.o);have aS:=un (zad c ax.o);have aO:=un (HS.o.below c);have L:=un (G);have O:=un (E);have P:=un (H);have I:=un (Bel.mk c);have aD:=un (Z.o.trans ((c).mono Z.o.size));obtain⟨_,_,_,_,_,_,bq,_⟩:=bc6 av.o
    obtain⟨_,_,_,_,_,_,_,_,_,_,_,cd,_,_,_,_,_,_,_,_,_,_,_,_,bN,_⟩:=bf8 aS.o;have F:=un D;obtain⟨_,_,_,_,_,_,_,_,_,_,_,vs,_⟩:=bf8 F.o;clear D G E H c;go_upto_region 19 with fail
    go_cut[] (fun wy=>∃(q:OA) (t:Nat),wy.heap[d.heap.size]? = some (.cells #[(u,m,x),((N+m:Nat):Int),(o,m,cB),(q,N+m,t),.int .i64 0,(),(z,m,y),(N:Int)] 117 (0,0))∧VecsL wy W.heap.size (u,m,x) Y (zt0 j a)∧VecS wy W.heap.size (o,m,cB) (zwh a)∧IntsZ wy W.heap.size (z,m,y) (a.map sgI)∧VecS wy W.heap.size (q,N+m,t) (zKb m c0)∧Below W.heap.size W wy)
    case first=>as_aux_lemma =>
     go_wp2_with fail
     with_reducible refine(Vc.copy kA N kc c0 0 _ aO.o.C (by omega)).mono ?_
     rintro e v5 ⟨A7,c7,rfl,hv7,hb⟩;have aY:=un (zad hb aS.o);have dV:=un (zad hb F.o);have eo:=un (L.o.below hb);have ep:=un (O.o.below hb);have eq:=un (P.o.below hb);have bE:=un (I.o.below hb);have fS:=un (show VecS v5 wa (A7,N,c7) c0 from hv7)
     have aU:=un hb;have gh:=un I.o.b.size;clear hv7 hb
     go_wp2_with (at_builtin;go_loud (refine zb3 rfl _ _ rfl rfl fS.o rfl (n:=m) rfl (N:=N+m) (by rw[fR.o]) (by omega) aU.o.size ?_;intro q t v8 cX cN cK;have f9:=un cX;have aV:=un (aU.o.trans cK);have KS:=un (cN.blk dV.o (by decide));obtain⟨o0,_,_,_,o1,_,_,_,o2,_,ds,_,o3,_,du,_,o4,_,_,_,o5,_,_,_,o6,_,dA,_,o7,_⟩:=bf8 KS.o;clear cX cN cK))
     go_meet;have f:TKeep 117 v8 (v8.setCell ⟨d,3,none⟩ (q,N+m,t)):=TKeep.set KS.o _
     case rel=>exact⟨q,t,zar _ KS.o,(L.o.below aV.o).tk f (by decide) (by decide) (by decide),(O.o.below aV.o).tk f (by decide) (by decide),(P.o.below aV.o).tk f (by decide),by unfold zKb;exact(f9.o.base gh.o).tk f (by decide) (by decide),(I.o.below aV.o).b.setCell (p:=⟨d,3,none⟩) al.o.size _⟩
    case rest =>
     obtain⟨q,t,D,G,E,H,aL,c⟩:=hcut;rename World=>wb
     have dZ:=un (zad c ae.o);have d0:=un (zad c ax.o);have gS:=un (HS.o.below c);have L:=un (G);have O:=un (E);have P:=un (H);have a8:=un (aL);have I:=un (Bel.mk c);obtain⟨so,_,sr,_,pJ,_,pO,_,pT,_,pY,_⟩:=bc6 dZ.o
     have F:=un D;clear D G E H aL c;have bg:=al.o.size;go_upto_region 20 with fail
     go_cut[] (fun wy=>∃(M:OA) (Q:Nat),wy.heap[d.heap.size]? = some (.cells #[(u,m,x),((N+m:Nat):Int),(o,m,cB),(q,N+m,t),(own:Int),(M,m,Q),(z,m,y),(N:Int)] 117 (0,0))∧VecsL wy W.heap.size (u,m,x) Y (zt0 j a)∧VecS wy W.heap.size (o,m,cB) (zwh a)∧IntsZ wy W.heap.size (z,m,y) (a.map sgI)∧VecS wy W.heap.size (q,N+m,t) (zKb m c0)∧IntsZ wy W.heap.size (M,m,Q) left∧Below W.heap.size W wy)
     case first=>as_aux_lemma =>
      go_wp2_with fail
      go_region_held3 (fun w'=>w'.cell? ⟨w,0,none⟩=some (rA,m,rc)∧w'.cell? ⟨w,1,none⟩=some (.int .i64 (N:Int))∧w'.cell? ⟨w,2,none⟩=some (bA,m,bc_)∧w'.cell? ⟨w,3,none⟩=some (kA,N,kc)∧w'.cell? ⟨w,4,none⟩=some (.int .i64 (own:Int))∧w'.cell? ⟨w,5,none⟩=some (eA,m,ec))
       (((try go_split_ands);(try simp only[Z3]);(repeat' apply And.intro)<;>(repeat(first | with_reducible assumption | with_reducible refine cell_set (by omega) ?_ | with_reducible refine cell_al ?_))))
       (first
        | (go_at_call 108;(with_reducible refine(Sl.clone eA m ec left 0 _ gS.o.drew.left (by omega)).mono ?_);rintro e v1 ⟨M,Q,rfl,hv9,hb⟩;have ii:=un (zad hb dZ.o);have aZ:=un (zad hb F.o);have jw:=un (L.o.drew.below hb);have i6:=un (O.o.drew.below hb);have ja:=un (P.o.drew.below hb);have i9:=un (a8.o.drew.below hb);have gQ:=un (I.o.drew.below hb);have cx:=un (show IntsZ v1 wb (M,left.length,Q) left from hv9);obtain⟨r6,_,r7,_,pK,_,pP,_,pU,_,pZ,_⟩:=bc6 ii.o;obtain⟨_,_,_,_,_,_,_,_,_,_,_,_,_,_,_,_,rT,_,oO,_,rU,_,oR,_⟩:=bf8 aZ.o;clear hv9 hb)
        | fail)
      all_goals
       go_wp2;go_meet;have bf:=I.o.b.size;have f:TKeep 117 v1 (v1.setCell ⟨d,4,none⟩ (own:Int)):=TKeep.set aZ.o _;have k2:TKeep 117 (v1.setCell ⟨d,4,none⟩ (own:Int)) ((v1.setCell ⟨d,4,none⟩ (own:Int)).setCell ⟨d,5,none⟩ (M,left.length,Q)):=TKeep.set (zar _ aZ.o) _;rw[fW.o]at cx k2 ⊢
       case rel=>exact⟨M,Q,zar _ (zar _ aZ.o),(jw.o.tk f (by decide) (by decide) (by decide)).tk k2 (by decide) (by decide) (by decide),(i6.o.tk f (by decide) (by decide)).tk k2 (by decide) (by decide),(ja.o.tk f (by decide)).tk k2 (by decide),(i9.o.tk f (by decide) (by decide)).tk k2 (by decide) (by decide),((cx.o.base bf).tk f (by decide)).tk k2 (by decide),(gQ.o.b.setCell (p:=⟨d,4,none⟩) bg _).setCell (p:=⟨d,5,none⟩) bg _⟩
     case rest =>
      obtain⟨M,Q,D,G,E,H,aL,cY,c⟩:=hcut;rename World=>wc
      have fE:=un (zad c ax.o);have L:=un (G);have O:=un (E);have P:=un (H);have a8:=un (aL);have ge:=un (show IntsZ wc W.heap.size (M,m,Q) left from cY);have I:=un (Bel.mk c)
      have hQ:=un (Z.o.trans ((c).mono Z.o.size));obtain⟨mA,mj,re,_,mC,ml,rf,_,mE,mm,rg,_,mG,mn,rm,_,mI,mo,rn,_,mL,mp,ro,_,iR,io,pk,_,iY,ip,pq,_⟩:=bf8 fE.o;have F:=un D;obtain⟨sd,_,_,_,sf,_,_,_,sh,_,_,_,sT,_,_,_,sV,_,_,_,sX,_,_,_,p1,_,_,_,p8,_⟩:=bf8 F.o;clear D G E H aL cY c;go_wp2
      refine Zd (v:=.tuple #[.agg #[(u,m,x),((N+m:Nat):Int),(o,m,cB),(q,N+m,t),(own:Int),(M,m,Q),(z,m,y),(N:Int)],.nilIface]) (by simp[results,results53,go_sem,mA,mj,mC,ml,mE,mm,mG,mn,mI,mo,mL,mp,iR,io,iY,ip]) rfl ?_;have f:=zYl fE.o (u,m,x) ((N+m:Nat):Int) (o,m,cB) (q,N+m,t) (own:Int) (M,m,Q) (z,m,y) (N:Int)
      have gu:∀r∈zt0 j a,r.length=N+m:=by have h:=ct.o;rw[ar.o]at h;exact h
      exact⟨u,x,Y,o,cB,q,t,M,Q,z,y,rfl,⟨(L.o.base (Zb _)).tk f (by decide) (by decide) (by decide),gu,(O.o.base (Zb _)).tk f (by decide) (by decide),(a8.o.base (Zb _)).tk f (by decide) (by decide),(ge.o.base (Zb _)).tk f (by decide),aX,cS,zXc aT.o cA.o,zXd cC.o,zXe aT.o gm.o,aT.o⟩,(P.o.base (Zb _)).tk f (by decide),bsc (bsc (bsc (bsc (bsc (bsc (bsc (bsc hQ.o)))))))⟩
