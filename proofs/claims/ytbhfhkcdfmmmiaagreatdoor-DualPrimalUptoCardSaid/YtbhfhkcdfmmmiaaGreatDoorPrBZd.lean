/- Contracts and lemmas: PrB. Conditions: as each says. -/
import Derived.Test.YtbhfhkcdfmmmiaaGreatDoorPrMZd
import Derived.Test.YtbhfhkcdfmmmiaaGreatDoorLaw2Zd
import Derived.Test.YtbhfhkcdfmmmiaaGreatDoorStdWZd
set_option linter.all false
set_option maxHeartbeats 4000000
set_option maxRecDepth 100000
namespace Go.Proofs.YtbhfhkcdfmmmiaaGreatDoor
open Go.RowKit Am
open Lib (hid)
attribute [local go_sem ↓] Go.wp_at_zero Go.wp_at_succ
variable {A:List (List Rat)}{b:List Rat}{H S k m:Nat}{q:Rat}{v:Value}{w:World}
theorem zVG(r:Rat)(xs:List Rat):scale r xs=xs.map fun x=>r*x:=rfl
theorem zUT{r:List Rat}(h:A[k]? = some r):(zt0 A b).take (k+1)=(zt0 A b).take k++[scale ((sgI (el b k):Int):Rat) r++zdL A.length k]:=by
 have hk:=(List.getElem?_eq_some_iff.1 h).1;have e:(zt0 A b)[k]? = some (scale ((sgI (el b k):Int):Rat) r++zdL A.length k):=by
  unfold zt0;rw[List.getElem?_map,List.getElem?_range hk,zVG,zUb];simp only[Option.map_some,List.getD_eq_getElem?_getD,h,Option.getD_some]
 rw[List.take_add_one,e];rfl
theorem zUU(h:b[k]? = some q):(zwh b).take (k+1)=(zwh b).take k++[((sgI q:Int):Rat)*q]:=by
 have e:(zwh b)[k]? = some (((sgI q:Int):Rat)*q):=by unfold zwh;rw[List.getElem?_map,h,zUb];rfl
 rw[List.take_add_one,e];rfl
theorem zWK(h:b[k]? = some q):(b.map sgI).take (k+1)=(b.map sgI).take k++[sgI q]:=by
 have e:(b.map sgI)[k]? = some (sgI q):=by rw[List.getElem?_map,h];rfl
 rw[List.take_add_one,e];rfl
theorem zTt(A:List (List Rat))(b:List Rat):(zt0 A b).length=A.length:=by simp[zt0]
theorem zUh(b:List Rat):(zwh b).length=b.length:=by simp[zwh]
theorem zWX(p q:Rat):mw (sgn p*q)=mw q:=by
 unfold sgn;split
 ·rw[show(-1:Rat)*q = -q by grind,zhY]
 ·rw[Rat.one_mul]
theorem zXc(h1:1≤S)(zA:∀r∈A,∀q∈r,mw q≤S):∀r∈zt0 A b,∀q∈r,mw q≤S:=fun r hr q a=>by
 unfold zt0 at hr;obtain⟨k,hk,rfl⟩:=List.mem_map.1 hr;rw[List.mem_range]at hk;rcases List.mem_append.1 a with h | h
 ·obtain⟨x,c,rfl⟩:=List.mem_map.1 h;rw[zWX];exact zA _ (List.mem_of_getElem? (zaO hk)) x c
 ·unfold zdL at h;rcases List.mem_or_eq_of_mem_set h with h | rfl
  ·rw[List.eq_of_mem_replicate h];exact Nat.le_trans mw0 h1
  ·exact Nat.le_trans mw1 h1
theorem zXd(zb:∀q∈b,mw q≤S):∀q∈zwh b,mw q≤S:=fun q a=>by
 obtain⟨x,c,rfl⟩:=List.mem_map.1 a;rw[zWX];exact zb x c
theorem zXe{c:List Rat}(h1:1≤S)(zc:∀q∈c,mw q≤S):∀q∈zKb m c,mw q≤S:=fun q a=>by
 rcases List.mem_append.1 a with h | h
 ·exact zc q h
 ·rw[List.eq_of_mem_replicate h];exact Nat.le_trans mw0 h1
theorem zTC{ops:Array Oper}{o:Oper}{a:Act}{K:Act→World→Prop}{Q:Exit→Act→World→Prop}{E:Prop}(hg:o.guard=none)(s x:Operand)
  (Y:o.op=.call { callee:=.builtin .append,args:=#[s,x],argTypes:=#[28,28] })   {qs:List Rat} (hs:a.eval s=v) (hv:VecS w H v qs) {b:Nat} (hx:a.eval x=.slice (some ⟨b,0,none⟩) 1 1)
  {g:Bool} {A:OA} {c:Nat} {D:OA} {i f:Nat}  (T:w.heap[b]? = some (.cells #[g,(A,m,c),(D,i,f)] 49 (0,0))) (hq:RatS w g (A,m,c) (D,i,f) q) {N:Nat} (hN:qs.length=N) (ai:N+1≤1000000) (J:H≤w.heap.size)
  (S:∀j c' w',VecS w' H (.slice j (N+1) c') (qs++[q])→TKeep 49 w w'→Below H w w'→zff w w'→(∀k,k<w.heap.size→some k≠v.ownBlock→w'.heap[k]? = w.heap[k]?) →
   ((Value.slice j (N+1) c').ownBlock=v.ownBlock∨∀k,(Value.slice j (N+1) c').ownBlock=some k→w.heap.size≤k)→K (a.put o.dst (.slice j (N+1) c')) w') :
  if Region.wanted o (yielded ops a.tmps)=true then Oper.wp Tryz.prog o a w K Q else E:=by
 have hw:Region.wanted o (yielded ops a.tmps)=true:=by simp[Region.wanted,hg]
 rw[if_pos hw];subst hN;obtain⟨z,r,G,n,I⟩:=info_parts ze0;obtain⟨l,h1,R,d⟩:=hv.row;have t:=zC6 T;have F:∀u∈[Value.bool g,.slice A m c,.slice D i f],u.oneCell'=true:=by intro u M;simp at M;rcases M with rfl | rfl | rfl<;>rfl
 obtain⟨O,w',y,Z,p,_⟩:=run_append_own (P:=Tryz.prog) w H 28 o.type 49 z _ 3 56 Tryz.underlying28 r G n I rfl (by decide) v qs.length (rcells l) d ⟨b,0,none⟩ 1 1 [.bool g,.slice A m c,.slice D i f] rfl t F (by unfold maxLen;omega) (by omega) J;have X:O.ownBlock=v.ownBlock∨∀k,O.ownBlock=some k→w.heap.size≤k:=by
  rcases d.2 with ⟨rfl,W⟩ | ⟨g',cap,cur,rfl,ag,V,aj,ah,U,ak⟩
  ·obtain⟨v2,w2,e,aa,_⟩:=run_append_own (P:=Tryz.prog) w w.heap.size 28 o.type 49 z _ 3 56 Tryz.underlying28 r G n I rfl (by decide) () 0 [] (World.ownsRow_nil _ _ _ _) ⟨b,0,none⟩ 1 1 [.bool g,.slice A m c,.slice D i f] rfl t F (by unfold maxLen;omega) (by omega) (Nat.le_refl _);rw[y]at e;injection e with e1 e2;subst e1;exact .inr fun k hk=>(aa.lt k hk).1
  ·by_cases ac:qs.length+1≤cap
   ·have e:=run_append_room (P:=Tryz.prog) w 28 o.type 49 z Tryz.underlying28 r g' qs.length cap cur V ⟨b,0,none⟩ 1 1 [.bool g,.slice A m c,.slice D i f] (by rw[n];rfl) t F ac (by rw[n,U];simp;omega);rw[y]at e;injection e with e1 e2;exact .inl (by rw[e1];rfl)
   ·have e:=run_append_grow (P:=Tryz.prog) w 28 o.type 49 z _ Tryz.underlying28 r G ⟨g',0,none⟩ qs.length cap (rcells l) (by rw[n];exact d.1) (d.cells (g:=g') rfl) ⟨b,0,none⟩ 1 1 [.bool g,.slice A m c,.slice D i f] (by rw[n];rfl) t (by omega) (by omega) (growslice_fits (by omega) (by rw[I];omega));rw[y]at e;injection e with e1 e2;exact .inr fun k hk=>by rw[e1]at hk;have L:some w.heap.size=some k:=hk;injection L with L;omega
 have B:=VecS.append h1 R d hq Z p;obtain⟨j,n',c',rfl⟩:=B.slice;have C:=B.len;rw[List.length_append]at C;simp only[List.length_cons,List.length_nil,Nat.zero_add]at C;subst C;exact Lib.wp_append_run w s x 28 28 Y v _ hs hx _ w' y (S j c' w' B (TKeep.grown d p) ((Below.refl _ _).grown p J (fun k hk=>(d.lt k hk).1)) (zh3 d p) p.block X)
theorem VecsL.apart{w':World}{l:List Value}{L:List (List Rat)}{ob:Option Nat}(h:VecsL w H v l L)(hk:TKeep 49 w w')(hr:zff w w')(d:∀k,k<w.heap.size→some k≠ob→w'.heap[k]? = w.heap[k]?)(c:∀s∈l,∀g,s.ownBlock=some g→some g≠ob):VecsL w' H v l L:=by
 refine h.keepAll (fun k e=>hk k (h.own.lt k e).2 fun cs b=>za6 h.own b (by decide) e) fun s r f a=>a.keepAll (fun k e=>d k (a.lt e).2 (c s f k e)) fun _ _ _ _ x=>x.keepT hr
theorem zYl{b:Nat}{cs:Array Value}{t:TypeId}(c:w.heap[b]? = some (.cells cs t (0,0)))(v0 v1 f g i j l m:Value):TKeep t w ((((((((w.setCell ⟨b,0,none⟩ v0).setCell ⟨b,1,none⟩ v1).setCell ⟨b,2,none⟩ f).setCell ⟨b,3,none⟩ g).setCell ⟨b,4,none⟩ i).setCell ⟨b,5,none⟩ j).setCell ⟨b,6,none⟩ l).setCell ⟨b,7,none⟩ m):=fun k _ d=>by
 have a:k≠b:=fun e=>d cs (by rw[e];exact c)
 rw[Below.heap_setCell _ _ _ _ (by exact a),Below.heap_setCell _ _ _ _ (by exact a),Below.heap_setCell _ _ _ _ (by exact a),Below.heap_setCell _ _ _ _ (by exact a),Below.heap_setCell _ _ _ _ (by exact a),Below.heap_setCell _ _ _ _ (by exact a),Below.heap_setCell _ _ _ _ (by exact a),Below.heap_setCell _ _ _ _ (by exact a)]
def zVJ (w:World) (m N S own:Nat) (A0:List (List Rat)) (b0 c0:List Rat) (left:List Int) (e:Ending) (w':World):Prop:=∃(rA:OA) (rc:Nat) (lA:List Value) (bA:OA) (bc_:Nat) (kA:OA) (kc:Nat) (eA:OA) (ec:Nat) (gA:OA) (gc:Nat),
  e=.returned (.tuple #[.agg #[(rA,m,rc),((N+m:Nat):Int),(bA,m,bc_),(kA,N+m,kc),(own:Int),(eA,m,ec),(gA,m,gc),(N:Int)],.nilIface]) ∧
  StdP w' rA rc lA bA bc_ kA kc eA ec m (N+m) S (zt0 A0 b0) (zwh b0) (zKb m c0) left∧IntsZ w' 0 (gA,m,gc) (b0.map sgI)∧Below w.heap.size w w'
namespace Pr
theorem pbegin(rA:OA)(rc:Nat)(lA:List Value)(bA:OA)(bc_:Nat)(kA:OA)(kc:Nat)(eA:OA)(ec m N S own:Nat)(j:List (List Rat))(a c0:List Rat)(left:List Int)(w:World)(hS:StdP w rA rc lA bA bc_ kA kc eA ec m N S j a c0 left)(cT:N+m≤64)(hl:left.length=m)(cL:8*S+8≤LIM) :
  Calls Tryz.prog 33 #[.agg #[(rA,m,rc),(N:Int),(bA,m,bc_),(kA,N,kc),(own:Int),(eA,m,ec)]] w (zVJ w m N S own j a c0 left):=by
 have aF:=hid hS.blen;have aE:=hid hS.rows.nlen;have fR:=hid hS.clen;have f1:=hid hS.rl;have cA:=hid hS.zA;have cC:=hid hS.zb;have gm:=hid hS.zc;have aT:=hid hS.hS;have cy:=hid cL;have fW:=hid hl;have aX:=hS.hm;have gt:=hS.hN;have mZ:(N:Int)+(m:Int)≤64:=by omega
 have m0:¬64<(N:Int)+(m:Int):=by omega
 have mY:m≤9223372036854775807:=by omega
 clear cL hl;obtain⟨W,hW⟩:∃W,((w.alloc (.cells #[(rA,m,rc),(N:Int),(bA,m,bc_),(kA,N,kc),(own:Int),(eA,m,ec)] 80)).alloc (.cells #[(),.int .i64 0,(),(),.int .i64 0,(),(),.int .i64 0] 95))=W:=⟨_,rfl⟩
 have ae:=hid (show W.heap[w.heap.size]? = some (.cells #[(rA,m,rc),(N:Int),(bA,m,bc_),(kA,N,kc),(own:Int),(eA,m,ec)] 80 (0,0))by rw[←hW];exact zak (zam (by simp)));have ax:=hid (show W.heap[w.heap.size+1]? = some (.cells #[(),.int .i64 0,(),(),.int .i64 0,(),(),.int .i64 0] 95 (0,0))by rw[←hW];exact zam (by simp))
 have Z:=hid (show Below w.heap.size w W by rw[←hW];exact(zae w _).alloc (by simp) _);have HZ:=hid (show w.heap.size+2≤W.heap.size by rw[←hW];simp);have HS:=hid (show StdP W rA rc lA bA bc_ kA kc eA ec m N S j a c0 left by rw[←hW];exact((hS).alloc _).alloc _);obtain⟨jG,jO,jH,jA,jX,j9,mr,l7,mu,mb,ib,hX⟩:=bc6 ae.out;obtain⟨j6,j1,ko,jV,jY,ka,ke,jQ,kh,kk,kF,kt,lM,lk,lf,kU,lP,lp,lh,kW,hA,mK,hh,mg,je,iQ,iF,ir,jk,iX,jp,iz⟩:=bf8 ax.out;clear hS;go_enter Tryz.func33,Tryz.ntmps33;go_wp2_with fail
 clear hW;have gg:=hid (Bel.mk (Below.refl W.heap.size W));refine zaS (S:=fun w'=>w'.cell? ⟨w.heap.size,0,none⟩=some (rA,m,rc)∧w'.cell? ⟨w.heap.size,1,none⟩=some (.int .i64 (N:Int))∧w'.cell? ⟨w.heap.size,2,none⟩=some (bA,m,bc_)∧w'.cell? ⟨w.heap.size,3,none⟩=some (kA,N,kc)∧w'.cell? ⟨w.heap.size,4,none⟩=some (.int .i64 (own:Int))∧w'.cell? ⟨w.heap.size,5,none⟩=some (eA,m,ec)) [] (h:=fun hHeld=>?_);refine zaw [0,1,3,4] ?_;repeat refine tkL (hS:=hHeld) (h:=?_)
 refine zao ?_;refine zaB 2 (h:=fun K A=>?_);go_simp
 (go_at_call 57;(with_reducible refine(Mt.rows N m rc rA _).mono ?_);rintro e w1 ⟨rfl,hb⟩;have et:=hid (zad hb ae.out);have es:=hid (zad hb ax.out);have hg:=hid (gg.out.drew.below hb);obtain⟨jE,jM,jF,jN,jU,j3,ms,l8,mv,mc,ic,hY⟩:=bc6 et.out;obtain⟨j2,jK,kl,jS,j7,jz,ki,jZ,jR,kb,kq,kj,lN,ll,lg,kV,lQ,lq,li,kX,hC,mM,hj,mh,jf,iS,iG,iu,i1,iZ,jq,iA⟩:=bf8 es.out;clear hb)
 (try go_wp2_with fail)
 refine A.out _ _ kp fun hHeld=>?_
 clear A K;try simp only[Act.put,pu1,pu2,pu3,pu4,pu5,pu6]
 refine zaB 5 (h:=fun K A=>?_);go_simp
 (go_at_call 73;(with_reducible refine(Mt.cols N m rc rA _).mono ?_);rintro e d ⟨rfl,hb⟩;have jB:=hid (zad hb et.out);have j0:=hid (zad hb es.out);have lC:=hid (hg.out.below hb);obtain⟨jI,jC,jJ,jD,kv,kn,lW,lB,lX,lx,ie,hZ⟩:=bc6 jB.out;obtain⟨j4,jL,jP,j8,j5,jy,km,jT,kd,jW,kG,ku,lm,kT,kR,kD,lr,kM,kS,kE,hD,mN,ho,mi,jg,iT,jl,iv,i2,i0,jr,iB⟩:=bf8 j0.out;clear hb)
 (try go_wp2_with fail)
 refine A.out _ _ kp fun hHeld=>?_
 clear A K;try simp only[Act.put,pu1,pu2,pu3,pu4,pu5,pu6]
 refine zaw [6,7] ?_;repeat refine tkL (hS:=hHeld) (h:=?_)
 refine zao ?_;refine zaM (h:=?_);have al:=hid lC.out.b;go_wp2
 go_loopw [7,43] (fun rv i wr=>∃(k:Nat) (rR:OA) (cR:Nat) (l:List Value) (o:OA) (cB:Nat) (z:OA) (y:Nat),i=.int .i64 k∧rv=(rR,k,cR)∧k≤m∧wr.heap[d.heap.size]? = some (.cells #[(),.int .i64 0,(o,k,cB),(),.int .i64 0,(),(z,k,y),(N:Int)] 95 (0,0))∧VecsL wr W.heap.size (rR,k,cR) l ((zt0 j a).take k)∧VecS wr W.heap.size (o,k,cB) ((zwh a).take k)∧IntsZ wr W.heap.size (z,k,y) ((a.map sgI).take k)∧(∀s∈l,∀g,s.ownBlock=some g→some g≠(Value.slice o k cB).ownBlock)∧Below W.heap.size W wr)
  (fun _ i _=>m-(intOf i).toNat)
 case atStart=>exact⟨0,none,0,[],none,0,none,0,rfl,rfl,Nat.zero_le _,zal _ _ _,VecsL.nil _ _,VecS.nil _ _,IntsZ.nil _ _,(fun s hs=>by cases hs),al.out.alloc al.out.size _⟩
 case round =>
  obtain⟨k,rR,cR,l,o,cB,z,y,rfl,rfl,hk,D,G,E,H,bc,c⟩:=hrel;by_cases bd:k<m
  ·obtain⟨J,rfl,_,_⟩:=HS.out.B.has (by omega);have aI:a[k]? = some (el a k):=zaH (by rw[aF.out];exact bd);have aB:j[k]? = some (j.getD k []):=zaO (by rw[←aE.out];exact bd);obtain⟨ga,Aa,ma,ca,Da,ak,ah,y0,y1,y2,cF⟩:=HS.out.B.at_ aI;have ar:=hid (zUT (b:=a) aB);rw[←aE.out]at ar;have a6:=hid (zUU aI);have a7:=hid (zWK aI);generalize j.getD k []=r0 at aB ar;have fK:=hid aB;have a3:=hid (f1.out r0 (List.mem_of_getElem? aB));have gl:=hid (cA.out r0 (List.mem_of_getElem? aB))
   have gn:=hid (cC.out _ (List.mem_of_getElem? aI));have HY:=hid (And.intro y0 (And.intro y1 y2));have a4:=hid cF;have aG:=hid (show I64 (sgI (el a k))by rcases zTW (el a k)with e | e<;>rw[e]<;>exact⟨by decide,by decide⟩);have cv:=hid (Nat.le_trans (zu9 _ aG.out) aT.out);have fL:=hid (show((zt0 j a).take k).length=k by rw[List.length_take,zTt,←aE.out];omega);have fP:=hid (show((zwh a).take k).length=k by rw[List.length_take,zUh,aF.out];omega)
   have fT:=hid (show((a.map sgI).take k).length=k by rw[List.length_take,List.length_map,aF.out];omega);have mW:(0:Int)≤(k:Int):=Int.natCast_nonneg _;have mX:(k:Int)<(m:Int):=by omega
   have gx:=HZ.out;have bg:=al.out.size;have m2:d.heap.size<wr.heap.size:=(Array.getElem?_eq_some_iff.1 D).1;have fM:=hid bc;have fQ:=hid (show ∀g,(Value.slice o k cB).ownBlock=some g→g<wr.heap.size from fun g e=>(E.lt e).2);have mV:J<W.heap.size:=(HS.out.B.lt rfl).2;clear aI aB y0 y1 y2 cF bc;have aP:=hid (zad c ae.out);have bC:=hid (HS.out.below c);have aW:=hid (show RatS wr ga (Aa,ma,ca) (Da,ak,ah) (el a k)from(a4.out.below c))
   have L:=hid (show VecsL wr W.heap.size (rR,k,cR) l ((zt0 j a).take k)from G);have O:=hid (show VecS wr W.heap.size (o,k,cB) ((zwh a).take k)from E);have P:=hid (show IntsZ wr W.heap.size (z,k,y) ((a.map sgI).take k)from H);have I:=hid (show Bel W wr from Bel.mk c);have aQ:=hid (Z.out.trans ((c).mono Z.out.size));obtain⟨eO,eu,eP,ev,fs,fl,dW,fH,dS,fI,dT,fF⟩:=bc6 aP.out;have bR:wr.cell? ⟨J,k*3,none⟩=some (.bool ga):=zab c HY.out.1;have gB:=zaa bR
   have bU:wr.cell? ⟨J,k*3+1,none⟩=some (Aa,ma,ca):=zab c HY.out.2.1;have gH:=zaa bU;have bW:wr.cell? ⟨J,k*3+2,none⟩=some (Da,ak,ah):=zab c HY.out.2.2;have gM:=zaa bW;have F:=hid D;obtain⟨fb,eS,fm,e0,fc,eT,fe,e1,fh,e4,ff,e3,fq,e8,fn,e9,fr,e7,fo,fa,fD,fA,fx,fv,ei,d3,eb,d6,ek,d5,ee,d8⟩:=bf8 F.out;clear D G E H c;have gi:=hid (Bel.mk (Below.refl wr.heap.size wr))
   go_upto_if 52 with (go_at_call 74;(with_reducible refine(Rt.sign ga Aa ma ca Da ak ah (el a k) _ aW.out).mono ?_);rintro e u1 ⟨rfl,hb⟩;have a0:=hid (zad hb aP.out);have a1:=hid (zad hb F.out);have bD:=hid (bC.out.below hb);have en:=hid (L.out.below hb);have ci:=hid (O.out.below hb);have bP:=hid (P.out.below hb);have b1:=hid (I.out.below hb);have g2:=hid (gi.out.below hb);have bS:=hid (aQ.out.trans ((hb).mono aQ.out.size));obtain⟨eD,ew,eE,ex,fw,fp,fB,fy,fC,fz,dU,fG⟩:=bc6 a0.out;obtain⟨eL,ey,eJ,eB,eM,ez,eK,eC,fd,eU,eV,eQ,fi,e5,eY,eN,fj,e6,eZ,eG,ft,zip,fg,eX,ej,d4,ed,d7,em,ea,ef,d9⟩:=bf8 a1.out;have bQ:=zab hb bR;have gC:=zaa bQ;have bT:=zab hb bU;have gI:=zaa bT;have bX:=zab hb bW;have gN:=zaa bX;clear hb)
   go_cut[9] (fun gv wy=>gv=.int .i64 (sgI (el a k))∧wy=u1)
   case first =>
    by_cases an:el a k<0
    ·have cW:=zrN an;have cX:=zeh.2 an;have gw:decide ((el a k).num.sign<0)=true:=decide_eq_true cW;have a5:=hid (show sgI (el a k) = -1 by unfold sgI;rw[if_pos an]);clear an;go_wp2;go_meet;exact⟨by rw[a5.out],rfl⟩
    ·have cW:=zrO an;have cX:¬(el a k).num.sign<0:=by omega
     have m1:¬(el a k).num<0:=fun e=>an (zeh.1 e)
     have gw:decide ((el a k).num.sign<0)=false:=decide_eq_false cX;have a5:=hid (show sgI (el a k)=1 by unfold sgI;rw[if_neg an]);clear an;go_wp2;go_meet;exact⟨by rw[a5.out],rfl⟩
   case rest =>
    obtain⟨rfl,rfl⟩:=hcut;rename World=>u1
    clear jG jO jH jA jX j9 mr l7 mu mb ib hX j6 j1 ko jV jY ka ke jQ kh kk kF kt lM lk lf kU lP lp lh kW hA mK hh mg je iQ iF ir jk iX jp iz jE jM jF jN jU j3 ms l8 mv mc ic hY j2 jK kl jS j7 jz ki jZ jR kb kq kj lN ll lg kV lQ lq li kX hC mM hj mh jf iS iG iu i1 iZ jq iA jI jC jJ jD kv kn lW lB lX lx ie hZ j4 jL jP j8 j5 jy km jT kd jW kG ku lm kT kR kD lr kM kS kE hD mN ho mi jg iT jl iv i2 i0 jr iB eO eu eP ev fs fl dW fH dS fI dT fF bR gB bU gH bW gM fb eS fm e0 fc eT fe e1 fh e4 ff e3 fq e8 fn e9 fr e7 fo fa fD fA fx fv ei d3 eb d6 ek d5 ee d8
    go_wp2_with fail
    with_reducible refine(Mt.row N m rc rA lA j 0 k r0 _ bD.out.rows fK.out a3.out gt aX).mono ?_
    rintro e u2 ⟨A3,c3,rfl,hv,hb⟩;have eF:=hid (zad hb a0.out);have eI:=hid (zad hb a1.out);have ia:=hid (bD.out.below hb);have gV:=hid (en.out.below hb);have gW:=hid (ci.out.below hb);have gZ:=hid (bP.out.below hb);have lZ:=hid (b1.out.below hb);have g3:=hid (g2.out.below hb);have f6:=hid (show VecS u2 u1.heap.size (A3,N,c3) r0 from hv);have eR:=hid (bS.out.trans ((hb).mono bS.out.size));obtain⟨kr,kf,ks,kg,lK,lz,l9,lT,md,lU,ht,mz⟩:=bc6 eF.out
    obtain⟨k0,kx,kO,kz,k3,ky,kP,kB,k6,kK,kQ,kC,ln,kL,k4,kI,ls,kN,k5,kJ,lY,ly,lI,le,jh,iU,jm,iw,i3,iH,js,iC⟩:=bf8 eI.out;have b2:=zab hb bQ;have gD:=zaa b2;have b5:=zab hb bT;have gJ:=zaa b5;have b6:=zab hb bX;have gO:=zaa b6;clear hv hb;go_wp2_with fail
    with_reducible refine(Vc.unit m k aX bd _).mono ?_
    rintro e u3 ⟨U,nU,cU,rfl,hv,hb⟩;have eH:=hid (zad hb eF.out);have fk:=hid (zad hb eI.out);have g9:=hid (ia.out.below hb);have l0:=hid (gV.out.below hb);have gX:=hid (gW.out.below hb);have g0:=hid (gZ.out.below hb);have h0:=hid (lZ.out.below hb);have g5:=hid (g3.out.below hb);have gT:=hid (f6.out.below hb);have HU:=hid (show VecS u3 u2.heap.size (U,nU,cU) (zdL m k)from hv);have fu:=hid (eR.out.trans ((hb).mono eR.out.size));obtain⟨kY,kH,kZ,kw,hH,mO,hp,mQ,hq,mS,il,ik⟩:=bc6 eH.out
    obtain⟨lv,k7,lD,k9,lw,k8,lE,la,lL,lj,lF,lb,lO,lo,lG,lc,lR,lu,lH,ld,me,lV,lS,lJ,ji,iV,jn,ix,i4,iI,jt,iD⟩:=bf8 fk.out;have b7:=zab hb b2;have gE:=zaa b7;have b9:=zab hb b5;have gK:=zaa b9;have ch:=zab hb b6;have gP:=zaa ch;obtain rfl:m=nU:=by rw[hv.len,zfM]
    clear hv hb;clear eD ew eE ex fw fp fB fy fC fz dU fG eL ey eJ eB eM ez eK eC fd eU eV eQ fi e5 eY eN fj e6 eZ eG ft zip fg eX ej d4 ed d7 em ea ef d9 bQ gC bT gI bX gN kr kf ks kg lK lz l9 lT md lU ht mz k0 kx kO kz k3 ky kP kB k6 kK kQ kC ln kL k4 kI ls kN k5 kJ lY ly lI le jh iU jm iw i3 iH js iC b2 gD b5 gJ b6 gO;go_upto_region 14 with fail
    go_cut[7] (fun rv wz=>∃(A5:OA) (c5:Nat) (l5:List Value),rv=(A5,k+1,c5)∧wz.heap[d.heap.size]? = some (.cells #[(),.int .i64 0,(o,k,cB),(),.int .i64 0,(),(z,k,y),(N:Int)] 95 (0,0))∧VecsL wz W.heap.size (A5,k+1,c5) l5 ((zt0 j a).take (k+1))∧VecS wz W.heap.size (o,k,cB) ((zwh a).take k)∧IntsZ wz W.heap.size (z,k,y) ((a.map sgI).take k)∧(∀s∈l5,∀g,s.ownBlock=some g→some g≠(Value.slice o k cB).ownBlock)∧Below W.heap.size W wz)
    case first=>as_aux_lemma =>
     go_wp2_with fail
     with_reducible refine(Rt.int (sgI (el a k)) aG.out.1 aG.out.2 _).mono ?_
     rintro e u4 ⟨g4,u,m4,x,D4,md4,cd4,rfl,hn,hb⟩;have av:=hid (zad hb eH.out);have aS:=hid (zad hb fk.out);have aO:=hid (g9.out.below hb);have hE:=hid (l0.out.below hb);have gY:=hid (gX.out.below hb);have g1:=hid (g0.out.below hb);have dX:=hid (h0.out.below hb);have g6:=hid (g5.out.below hb);have gU:=hid (gT.out.below hb);have hc:=hid (HU.out.below hb);have HM:=hid (show RatS u4 g4 (u,m4,x) (D4,md4,cd4) ((sgI (el a k):Int):Rat)from hn)
     have aD:=hid (fu.out.trans ((hb).mono fu.out.size));obtain⟨b3,bY,b4,bZ,bz,cq,bq,cr,br,cj,bL,bF⟩:=bc6 av.out;obtain⟨bs,ck,bk,cb,bt,cl,bl,cc,bu,cm,bm,cd,bv,cn,bn,ce,bw,co,bo,cf,bx,cp,bp,cg,bN,bG,bI,bM,bO,bH,bJ,bK⟩:=bf8 aS.out;have aR:=zab hb b7;have dI:=zaa aR;have aM:=zab hb b9;have dJ:=zaa aM;have aN:=zab hb ch;have dK:=zaa aN;clear hn hb;go_wp2_with fail
     with_reducible refine(Vc.scaleS S cy.out g4 u m4 x D4 md4 cd4 ((sgI (el a k):Int):Rat) A3 N c3 r0 u1.heap.size _ gU.out HM.out (by omega) gl.out cv.out).mono ?_
     rintro e u5 ⟨T5,n5,c5,rfl,hv,hb⟩;obtain rfl:N=n5:=by rw[hv.len,zfH,a3.out]
     have f3:=hid hv;have cu:=hid hb;have f5:=hid (hc.out.below hb);have gj:=hid dX.out.b.size;have f2:=hid (show wr.heap.size≤u4.heap.size from g6.out.b.size);clear hv hb
     go_wp2_with (at_builtin;first | (refine zSO rfl _ _ rfl rfl f3.out rfl f5.out (N:=N+m) (by rw[zfH,a3.out]) (by omega) cu.out.size ?_;intro R T u6 be aJ aH;have V:=hid (cu.out.trans aH);have fJ:=hid (show ∀g,(Value.slice R (N+m) T).ownBlock=some g→u4.heap.size≤g from fun g e=>(be.lt e).1);have b8:=hid (zad V.out av.out);have aY:=hid (zad V.out aS.out);have ha:=hid (aO.out.below V.out);have eo:=hid (hE.out.below V.out);have ep:=hid (gY.out.below V.out);have eq:=hid (g1.out.below V.out);have bE:=hid (dX.out.below V.out);have f8:=hid (show VecS u6 W.heap.size (R,N+m,T) (scale ((sgI (el a k):Int):Rat) r0++zdL m k)from(be.base gj.out));have ig:=hid (aD.out.trans ((V.out).mono aD.out.size));obtain⟨l1,l2,l3,l6,mq,mP,mt,mR,mx,my,iq,im⟩:=bc6 b8.out;obtain⟨hu,mB,h4,hJ,hw,mD,h5,hL,hx,mF,h6,hM,hy,mH,h7,hR,hz,mJ,h8,hT,ih,hV,h9,hU,jj,iW,jo,iy,i5,iJ,ju,iE⟩:=bf8 aY.out;have mf:=zab V.out aR;have nj:=zaa mf;have hI:=zab V.out aM;have nm:=zaa hI;have hP:=zab V.out aN;have nr:=zaa hP;clear be aJ aH) | (refine zbW rfl _ _ rfl rfl (eo.out.alloc _) rfl (zal _ _ _) (f8.out.alloc _) (n:=k) fL.out (by omega) (by have:=bE.out.b.size;simp;omega) ?_;intro A7 c7 u7 cE cN cJ gs;have fV:=hid cE;have a2:=hid cN;have aU:=hid cJ;clear cE cN cJ gs))
     go_meet
     case rel=>exact⟨A7,c7,_,rfl,a2.out.blk (zak aY.out) (by decide),by rw[ar.out];exact fV.out,(ep.out.alloc _).tk a2.out (by decide) (by decide),(eq.out.alloc _).tk a2.out (by decide),(fun s hs g e=>(List.mem_append.1 hs).elim (fun h=>fM.out s h g e) fun h=>by rw[List.mem_singleton.1 h]at e;intro e2;have h1:=fJ.out g e;have h2:=fQ.out g e2.symm;have h3:=f2.out;omega),(bE.out.alloc _).b.trans aU.out⟩
    case rest =>
     obtain⟨A5,c5,l5,rfl,D,G,E,H,cI,c⟩:=hcut;have cs:=hid cI;clear cI;rename World=>wz
     have av:=hid (zad c ae.out);have aO:=hid (HS.out.below c);have aW:=hid (show RatS wz ga (Aa,ma,ca) (Da,ak,ah) (el a k)from(a4.out.below c));have L:=hid (show VecsL wz W.heap.size (A5,k+1,c5) l5 ((zt0 j a).take (k+1))from G);have O:=hid (show VecS wz W.heap.size (o,k,cB) ((zwh a).take k)from E);have P:=hid (show IntsZ wz W.heap.size (z,k,y) ((a.map sgI).take k)from H);have I:=hid (show Bel W wz from Bel.mk c)
     have aD:=hid (Z.out.trans ((c).mono Z.out.size));obtain⟨b3,bY,b4,bZ,bz,cq,bq,cr,br,cj,bL,bF⟩:=bc6 av.out;have aR:wz.cell? ⟨J,k*3,none⟩=some (.bool ga):=zab c HY.out.1;have dI:=zaa aR;have aM:wz.cell? ⟨J,k*3+1,none⟩=some (Aa,ma,ca):=zab c HY.out.2.1;have dJ:=zaa aM;have aN:wz.cell? ⟨J,k*3+2,none⟩=some (Da,ak,ah):=zab c HY.out.2.2;have dK:=zaa aN;have F:=hid D;obtain⟨bs,ck,bk,cb,bt,cl,bl,cc,bu,cm,bm,cd,bv,cn,bn,ce,bw,co,bo,cf,bx,cp,bp,cg,bN,bG,bI,bM,bO,bH,bJ,bK⟩:=bf8 F.out
     clear D G E H c;go_upto_region 15 with fail
     go_cut[] (fun wy=>∃(R:OA) (T:Nat),wy.heap[d.heap.size]? = some (.cells #[(),.int .i64 0,(o,k,cB),(),.int .i64 0,(),(R,k+1,T),(N:Int)] 95 (0,0))∧VecsL wy W.heap.size (A5,k+1,c5) l5 ((zt0 j a).take (k+1))∧VecS wy W.heap.size (o,k,cB) ((zwh a).take k)∧IntsZ wy W.heap.size (R,k+1,T) ((a.map sgI).take (k+1))∧Below W.heap.size W wy)
     case first=>as_aux_lemma =>
      go_wp2_with (at_builtin;refine zfS rfl _ _ rfl rfl (P.out.alloc (.cells #[.int .i64 (sgI (el a k))] 3)) rfl (zal _ _ _) (n:=k) fT.out (by omega) (by have:=I.out.b.size;simp;omega) ?_;intro R T v6 cD aJ aH;have fU:=hid cD;have cw:=hid aJ;have fN:=hid ((I.out.alloc _).b.trans aH);have KS:=hid (aJ.blk (zak F.out) (by decide));obtain⟨o0,da,dp,dq,o1,dc,of1,dr,o2,de,ds,dt,o3,df,du,dv,o4,dh,dw,dx,o5,dj,dy,dz,o6,dl,dA,dB,o7,dn,dC,dD⟩:=bf8 KS.out;clear cD aJ aH)
      go_meet;have f:TKeep 95 v6 (v6.setCell ⟨d.heap.size,6,none⟩ (R,k+1,T)):=TKeep.set KS.out _
      case rel=>exact⟨R,T,zar _ KS.out,((L.out.alloc _).tk cw.out (by decide) (by decide) (by decide)).tk f (by decide) (by decide) (by decide),((O.out.alloc _).tk cw.out (by decide) (by decide)).tk f (by decide) (by decide),by rw[a7.out];exact fU.out.tk f (by decide),fN.out.setCell (p:=⟨d.heap.size,6,none⟩) al.out.size _⟩
     case rest =>
      obtain⟨R,T,D,G,E,H,c⟩:=hcut;rename World=>wy
      have dY:=hid (zad c ae.out);have aW:=hid (show RatS wy ga (Aa,ma,ca) (Da,ak,ah) (el a k)from(a4.out.below c));have L:=hid (show VecsL wy W.heap.size (A5,k+1,c5) l5 ((zt0 j a).take (k+1))from G);have O:=hid (show VecS wy W.heap.size (o,k,cB) ((zwh a).take k)from E);have P:=hid (show IntsZ wy W.heap.size (R,k+1,T) ((a.map sgI).take (k+1))from H);have I:=hid (show Bel W wy from Bel.mk c);obtain⟨sp,sB,ss,sE,pM,nD,pR,nJ,pW,nP,pF,nW⟩:=bc6 dY.out
      have hd:wy.cell? ⟨J,k*3,none⟩=some (.bool ga):=zab c HY.out.1;have gA:=zaa hd;have he:wy.cell? ⟨J,k*3+1,none⟩=some (Aa,ma,ca):=zab c HY.out.2.1;have gF:=zaa he;have hf:wy.cell? ⟨J,k*3+2,none⟩=some (Da,ak,ah):=zab c HY.out.2.2;have gL:=zaa hf;have F:=hid D;obtain⟨sv,sH,tf,s1,sy,sK,tg,s2,sY,s6,th,s3,sZ,s7,ti,s4,s0,s8,tj,s5,qo,nB,pf,ux,qt,ox,pl,tJ,qy,oC,pr,tP⟩:=bf8 F.out;clear D G E H c
      clear kY kH kZ kw hH mO hp mQ hq mS il ik lv k7 lD k9 lw k8 lE la lL lj lF lb lO lo lG lc lR lu lH ld me lV lS lJ ji iV jn ix i4 iI jt iD b7 gE b9 gK ch gP b3 bY b4 bZ bz cq bq cr br cj bL bF aR dI aM dJ aN dK bs ck bk cb bt cl bl cc bu cm bm cd bv cn bn ce bw co bo cf bx cp bp cg bN bG bI bM bO bH bJ bK;go_wp2_with fail
      have L1:=hid (show 4*(mw ((sgI (el a k):Int):Rat)+mw (el a k))+8≤LIM by have:=cv.out;have:=gn.out;have:=cy.out;omega)
      refine za2 (S:=fun w'=>w'.cell? ⟨w.heap.size,0,none⟩=some (rA,m,rc)∧w'.cell? ⟨w.heap.size,1,none⟩=some (.int .i64 (N:Int))∧w'.cell? ⟨w.heap.size,2,none⟩=some (J,m,bc_)∧w'.cell? ⟨w.heap.size,3,none⟩=some (kA,N,kc)∧w'.cell? ⟨w.heap.size,4,none⟩=some (.int .i64 (own:Int))∧w'.cell? ⟨w.heap.size,5,none⟩=some (eA,m,ec)∧w'.cell? ⟨d.heap.size,0,none⟩=some ()∧w'.cell? ⟨d.heap.size,1,none⟩=some (.int .i64 0)∧w'.cell? ⟨d.heap.size,2,none⟩=some (o,k,cB)∧w'.cell? ⟨d.heap.size,3,none⟩=some ()∧w'.cell? ⟨d.heap.size,4,none⟩=some (.int .i64 0)∧w'.cell? ⟨d.heap.size,5,none⟩=some ()∧w'.cell? ⟨d.heap.size,6,none⟩=some (R,k+1,T)∧w'.cell? ⟨d.heap.size,7,none⟩=some (.int .i64 (N:Int))∧w'.cell? ⟨J,k*3,none⟩=some (.bool ga)∧w'.cell? ⟨J,k*3+1,none⟩=some (Aa,ma,ca)∧w'.cell? ⟨J,k*3+2,none⟩=some (Da,ak,ah)) 15 (h:=fun hHeld=>?_)
      refine zaw [0,1,2,3,5,6,7,8,9] ?_;repeat refine tkE (hS:=hHeld) (h:=?_)
      refine zao ?_;refine zaN 4 (h:=fun K A=>?_);go_simp
      (go_at_call 30;(with_reducible refine(Rt.int (sgI (el a k)) aG.out.1 aG.out.2 _).mono ?_);rintro e v1 ⟨g7,A7,m7,c7,D7,md7,cd7,rfl,hn,hb⟩;have d1:=hid (zad hb dY.out);have d2:=hid (zad hb F.out);have jv:=hid (aW.out.drew.below hb);have jx:=hid (L.out.drew.below hb);have i7:=hid (O.out.drew.below hb);have jb:=hid (P.out.drew.below hb);have gR:=hid (I.out.drew.below hb);have fY:=hid (show RatS v1 g7 (A7,m7,c7) (D7,md7,cd7) ((sgI (el a k):Int):Rat)from hn);obtain⟨sq,sC,st,sF,pN,nE,pS,nK,pX,nQ,pG,nX⟩:=bc6 d1.out;obtain⟨sw,sI,tr,tl,sz,sL,ts,tm,s9,tc,tt,tn,ta,td,tu,tp,tb,te,tv,tq,qp,ot,pg,uy,qu,oy,pm,tK,qz,oD,ps,tQ⟩:=bf8 d2.out;have dM:=zab hb gA;have nh:=zaa dM;have dO:=zab hb gF;have nk:=zaa dO;have dQ:=zab hb gL;have nn:=zaa dQ;clear hn hb)
      (try go_wp2_with fail)
      refine A.out _ _ kp fun hHeld=>?_
      clear A K;try simp only[Act.put,pu1,pu2,pu3,pu4,pu5,pu6]
      refine zaN 10 (h:=fun K A=>?_);go_simp
      (go_at_call 71;(with_reducible refine(Rt.mul g7 A7 m7 c7 D7 md7 cd7 ((sgI (el a k):Int):Rat) ga Aa ma ca Da ak ah (el a k) _ fY.out jv.out L1.out).mono ?_);rintro e v2 ⟨g8,q,m8,t,D8,md8,cd8,rfl,hn,hb⟩;have jd:=hid (zad hb d1.out);have eh:=hid (zad hb d2.out);have eg:=hid (jx.out.below hb);have i8:=hid (i7.out.below hb);have jc:=hid (jb.out.below hb);have er:=hid (gR.out.below hb);have fZ:=hid (show RatS v2 g8 (q,m8,t) (D8,md8,cd8) (((sgI (el a k):Int):Rat)*el a k)from hn);obtain⟨iK,n3,iL,n4,iM,nF,iN,nL,iO,nR,iP,nY⟩:=bc6 jd.out;obtain⟨pH,nZ,om,uh,pI,n0,oq,uk,qf,ns,n9,uo,qi,nv,od,ur,ql,ny,oh,uu,qq,ou,ph,uz,qv,oz,pn,tL,qA,oE,pt,tR⟩:=bf8 eh.out;have dN:=zab hb dM;have ni:=zaa dN;have dP:=zab hb dO;have nl:=zaa dP;have dR:=zab hb dQ;have np:=zaa dR;clear hn hb)
      (try go_wp2_with fail)
      refine A.out _ _ kp fun hHeld=>?_
      clear A K;try simp only[Act.put,pu1,pu2,pu3,pu4,pu5,pu6]
      refine zaN 11 (h:=fun K A=>?_);go_simp;refine A.out _ _ kp fun hHeld=>?_
      clear A K;try simp only[Act.put,pu1,pu2,pu3,pu4,pu5,pu6]
      refine zaN 12 (h:=fun K A=>?_)
      ((refine zTC (by rfl) _ _ (by rfl) (by rfl) (i8.out.alloc _) (by rfl) (zal _ _ _) (fZ.out.alloc _) (N:=k) fP.out (by omega) (by have:=er.out.b.size;simp;omega) ?_);intro M Q v9 cH aK X cV cP cS;have gb:=hid cH;have mT:=hid aK;have fO:=hid ((er.out.alloc _).b.trans X);have a9:=hid (aK.blk (zak eh.out) (by decide));have gc:=hid ((eg.out.alloc _).apart aK cV cP cs.out);have gd:=hid ((jc.out.alloc _).tk aK (by decide));have f0:=hid cS;have gf:=hid (show ∀s∈l5,∀g,s.ownBlock=some g→g<v2.heap.size from fun s hs g e=>(eg.out.lt hs e).2);obtain⟨o0,da,dp,dq,o1,dc,of1,dr,o2,de,ds,dt,o3,df,du,dv,o4,dh,dw,dx,o5,dj,dy,dz,o6,dl,dA,dB,o7,dn,dC,dD⟩:=bf8 a9.out;have t0:=zKh X (show w.heap.size<W.heap.size by omega) (cell_al (ob:=.cells #[g8,(q,m8,t),(D8,md8,cd8)] 49) iK);have t1:=zKh X (show w.heap.size<W.heap.size by omega) (cell_al (ob:=.cells #[g8,(q,m8,t),(D8,md8,cd8)] 49) iL);have t2:=zKh X (show w.heap.size<W.heap.size by omega) (cell_al (ob:=.cells #[g8,(q,m8,t),(D8,md8,cd8)] 49) iM);have t3:=zKh X (show w.heap.size<W.heap.size by omega) (cell_al (ob:=.cells #[g8,(q,m8,t),(D8,md8,cd8)] 49) iN);have t4:=zKh X (show w.heap.size<W.heap.size by omega) (cell_al (ob:=.cells #[g8,(q,m8,t),(D8,md8,cd8)] 49) iO);have t5:=zKh X (show w.heap.size<W.heap.size by omega) (cell_al (ob:=.cells #[g8,(q,m8,t),(D8,md8,cd8)] 49) iP);have t6:=zKh X (show J<W.heap.size by omega) (cell_al (ob:=.cells #[g8,(q,m8,t),(D8,md8,cd8)] 49) dN);have t7:=zKh X (show J<W.heap.size by omega) (cell_al (ob:=.cells #[g8,(q,m8,t),(D8,md8,cd8)] 49) dP);have t8:=zKh X (show J<W.heap.size by omega) (cell_al (ob:=.cells #[g8,(q,m8,t),(D8,md8,cd8)] 49) dR);clear cH aK X cV cP cS)
      refine A.out _ _ kp fun hHeld=>?_
      clear A K;try simp only[Act.put,pu1,pu2,pu3,pu4,pu5,pu6]
      refine zfQ (i:=13) (v:=?_) rfl (by kernel_rfl) (fun _ _ _ h=>h) (Or.inl ⟨by rfl,?_⟩) ?_
      rotate_left
      ·((intro w gr;(try dsimp only at gr);go_simp);(try with_reducible rfl))
      try simp only[Act.put,pu1,pu2,pu3,pu4,pu5,pu6]
      refine zaw [14] ?_;repeat refine tkE (hS:=hHeld) (h:=?_)
      refine zao ?_;refine zba (h:=fun K A=>?_);go_simp;refine A.out _ _ ?_;clear A K;try simp only[Act.put,pu1,pu2,pu3,pu4,pu5,pu6]
      refine za1 (h:=?_)
      all_goals
       go_wp2;go_roundw
       have f:TKeep 95 v9 (v9.setCell ⟨d.heap.size,2,none⟩ (M,k+1,Q)):=TKeep.set a9.out _
       case rel=>exact⟨k+1,A5,c5,l5,M,Q,R,T,by go_num,rfl,by omega,zar _ a9.out,gc.out.tk f (by decide) (by decide) (by decide),by rw[a6.out];exact gb.out.tk f (by decide) (by decide),gd.out.tk f (by decide),(fun s hs g e=>f0.out.elim (fun h=>by rw[h];exact cs.out s hs g e) fun h e2=>by have h1:=h g e2.symm;have h2:=gf.out s hs g e;simp at h1;omega),fO.out.setCell (p:=⟨d.heap.size,2,none⟩) al.out.size _⟩
       case measure=>simp[intOf];omega
  ·obtain rfl:m=k:=by omega
   have ar:=hid (show(zt0 j a).take m=zt0 j a by rw[List.take_of_length_le];rw[zTt,←aE.out];omega);have a6:=hid (show(zwh a).take m=zwh a by rw[List.take_of_length_le];rw[zUh,aF.out];omega);have a7:=hid (show(a.map sgI).take m=a.map sgI by rw[List.take_of_length_le];rw[List.length_map,aF.out];omega);have ct:=hid (show ∀r∈(zt0 j a).take m,r.length=N+m by
    rw[ar.out];intro r hr;obtain⟨i,hi⟩:=List.mem_iff_getElem?.1 hr;have h:=(zSV (b:=a) HS.out.rect).row i (by have:=(List.getElem?_eq_some_iff.1 hi).1;rw[zTt,←aE.out]at this;exact this);rw[List.getD_eq_getElem?_getD,hi]at h;exact h)
   have gx:=HZ.out;clear bc;have aP:=hid (zad c ae.out);have eW:=hid (zad c ax.out);have bC:=hid (HS.out.below c);have L:=hid (show VecsL wr W.heap.size (rR,m,cR) l ((zt0 j a).take m)from G);have O:=hid (show VecS wr W.heap.size (o,m,cB) (zwh a)from(by have h:=E;rw[a6.out]at h;exact h));have P:=hid (show IntsZ wr W.heap.size (z,m,y) (a.map sgI)from(by have h:=H;rw[a7.out]at h;exact h));have I:=hid (show Bel W wr from Bel.mk c);have aQ:=hid (Z.out.trans ((c).mono Z.out.size))
   obtain⟨eO,eu,eP,ev,fs,fl,dW,fH,dS,fI,dT,fF⟩:=bc6 aP.out;obtain⟨fb,eS,fm,e0,fc,eT,fe,e1,fh,e4,ff,e3,fq,e8,fn,e9,fr,e7,fo,fa,fD,fA,fx,fv,ei,d3,eb,d6,ek,d5,ee,d8⟩:=bf8 eW.out;have F:=hid D;obtain⟨vb,uY,vh,ve,vc,uZ,vi,vf,vd,u0,vj,vg,vk,u8,q0,vt,vl,u9,qT,vv,vm,va,qV,vo,qC,p2,qK,oW,qG,p9,qO,pb⟩:=bf8 F.out;clear D G E H c;go_upto_region 18 with fail
   go_cut[] (fun wy=>∃(u:OA) (x:Nat) (Y:List Value),wy.heap[d.heap.size]? = some (.cells #[(u,m,x),((N+m:Nat):Int),(o,m,cB),(),.int .i64 0,(),(z,m,y),(N:Int)] 95 (0,0))∧VecsL wy W.heap.size (u,m,x) Y (zt0 j a)∧VecS wy W.heap.size (o,m,cB) (zwh a)∧IntsZ wy W.heap.size (z,m,y) (a.map sgI)∧Below W.heap.size W wy)
   case first=>as_aux_lemma =>
    go_wp2_with fail
    rw[show(N:Int)+(m:Int)=((N+m:Nat):Int)by simp];with_reducible refine(Mt.of m (N+m) aX cT rR cR l ((zt0 j a).take m) W.heap.size _ L.out ct.out).mono ?_
    rintro e v5 ⟨u,x,Y,rfl,hv4,ha4,hb⟩;have a0:=hid (zad hb aP.out);have a1:=hid (zad hb eW.out);have bV:=hid (zad hb F.out);have bD:=hid (bC.out.below hb);have en:=hid (L.out.below hb);have ci:=hid (O.out.below hb);have bP:=hid (P.out.below hb);have b1:=hid (I.out.below hb);have f7:=hid (show VecsL v5 wr.heap.size (u,m,x) Y (zt0 j a)from(by have h:=hv4;rw[ar.out]at h;exact h));have bS:=hid (aQ.out.trans ((hb).mono aQ.out.size));obtain⟨eD,ew,eE,ex,fw,fp,fB,fy,fC,fz,dU,fG⟩:=bc6 a0.out
    obtain⟨eL,ey,eJ,eB,eM,ez,eK,eC,fd,eU,eV,eQ,fi,e5,eY,eN,fj,e6,eZ,eG,ft,zip,fg,eX,ej,d4,ed,d7,em,ea,ef,d9⟩:=bf8 a1.out;obtain⟨uO,uA,uK,uC,uP,uB,uG,uD,uR,uF,uQ,uE,uX,uH,uU,uL,uS,uI,uV,uM,uT,uJ,uW,uN,qD,p3,qL,oX,qH,qa,qP,pc⟩:=bf8 bV.out;clear hv4 ha4 hb;have c1:=al.out.size;have bf:=I.out.b.size;go_wp2;go_meet;have f:=zBa bV.out (u,m,x) ((N+m:Nat):Int)
    case rel=>exact⟨u,x,Y,zar _ (zar _ bV.out),(f7.out.base bf).tk f (by decide) (by decide) (by decide),ci.out.tk f (by decide) (by decide),bP.out.tk f (by decide),(b1.out.b.setCell (p:=⟨d.heap.size,0,none⟩) c1 _).setCell (p:=⟨d.heap.size,1,none⟩) c1 _⟩
   case rest =>
    obtain⟨u,x,Y,D,G,E,H,c⟩:=hcut;rename World=>wa
    have av:=hid (zad c ae.out);have aS:=hid (zad c ax.out);have aO:=hid (HS.out.below c);have L:=hid (show VecsL wa W.heap.size (u,m,x) Y (zt0 j a)from G);have O:=hid (show VecS wa W.heap.size (o,m,cB) (zwh a)from E);have P:=hid (show IntsZ wa W.heap.size (z,m,y) (a.map sgI)from H);have I:=hid (show Bel W wa from Bel.mk c);have aD:=hid (Z.out.trans ((c).mono Z.out.size));obtain⟨b3,bY,b4,bZ,bz,cq,bq,cr,br,cj,bL,bF⟩:=bc6 av.out
    obtain⟨bs,ck,bk,cb,bt,cl,bl,cc,bu,cm,bm,cd,bv,cn,bn,ce,bw,co,bo,cf,bx,cp,bp,cg,bN,bG,bI,bM,bO,bH,bJ,bK⟩:=bf8 aS.out;have F:=hid D;obtain⟨q3,vB,qX,vq,q4,vw,qY,vr,q5,vx,qZ,vs,q6,vy,qS,vu,q1,vz,qU,vn,q2,vA,qW,vp,qE,p4,qM,oY,qI,qb,qQ,pd⟩:=bf8 F.out;clear D G E H c;go_upto_region 19 with fail
    go_cut[] (fun wy=>∃(q:OA) (t:Nat),wy.heap[d.heap.size]? = some (.cells #[(u,m,x),((N+m:Nat):Int),(o,m,cB),(q,N+m,t),.int .i64 0,(),(z,m,y),(N:Int)] 95 (0,0))∧VecsL wy W.heap.size (u,m,x) Y (zt0 j a)∧VecS wy W.heap.size (o,m,cB) (zwh a)∧IntsZ wy W.heap.size (z,m,y) (a.map sgI)∧VecS wy W.heap.size (q,N+m,t) (zKb m c0)∧Below W.heap.size W wy)
    case first=>as_aux_lemma =>
     go_wp2_with fail
     with_reducible refine(Vc.copy kA N kc c0 0 _ aO.out.C (by omega)).mono ?_
     rintro e v5 ⟨A7,c7,rfl,hv7,hb⟩;have b8:=hid (zad hb av.out);have aY:=hid (zad hb aS.out);have dV:=hid (zad hb F.out);have ha:=hid (aO.out.below hb);have eo:=hid (L.out.below hb);have ep:=hid (O.out.below hb);have eq:=hid (P.out.below hb);have bE:=hid (I.out.below hb);have fS:=hid (show VecS v5 wa.heap.size (A7,N,c7) c0 from hv7);have ig:=hid (aD.out.trans ((hb).mono aD.out.size));obtain⟨l1,l2,l3,l6,mq,mP,mt,mR,mx,my,iq,im⟩:=bc6 b8.out
     obtain⟨hu,mB,h4,hJ,hw,mD,h5,hL,hx,mF,h6,hM,hy,mH,h7,hR,hz,mJ,h8,hT,ih,hV,h9,hU,jj,iW,jo,iy,i5,iJ,ju,iE⟩:=bf8 aY.out;obtain⟨rK,rt,rC,rp,rL,ru,rD,rq,rM,rG,rE,rr,rN,rH,rF,rs,rO,rI,rz,rj,rP,rJ,rB,rk,qF,p5,qN,oZ,qJ,qc,qR,pe⟩:=bf8 dV.out;have aU:=hid hb;have gh:=hid I.out.b.size;clear hv7 hb
     go_wp2_with (at_builtin;go_loud (refine zb3 rfl _ _ rfl rfl fS.out rfl (n:=m) rfl (N:=N+m) (by rw[fR.out]) (by omega) aU.out.size ?_;intro q t v8 cY cO cK;have f9:=hid cY;have aV:=hid (aU.out.trans cK);have KS:=hid (cO.blk dV.out (by decide));obtain⟨o0,da,dp,dq,o1,dc,of1,dr,o2,de,ds,dt,o3,df,du,dv,o4,dh,dw,dx,o5,dj,dy,dz,o6,dl,dA,dB,o7,dn,dC,dD⟩:=bf8 KS.out;clear cY cO cK))
     go_meet;have f:TKeep 95 v8 (v8.setCell ⟨d.heap.size,3,none⟩ (q,N+m,t)):=TKeep.set KS.out _
     case rel=>exact⟨q,t,zar _ KS.out,(L.out.below aV.out).tk f (by decide) (by decide) (by decide),(O.out.below aV.out).tk f (by decide) (by decide),(P.out.below aV.out).tk f (by decide),by unfold zKb;exact(f9.out.base gh.out).tk f (by decide) (by decide),(I.out.below aV.out).b.setCell (p:=⟨d.heap.size,3,none⟩) al.out.size _⟩
    case rest =>
     obtain⟨q,t,D,G,E,H,aL,c⟩:=hcut;rename World=>wb
     have dZ:=hid (zad c ae.out);have d0:=hid (zad c ax.out);have gS:=hid (HS.out.below c);have L:=hid (show VecsL wb W.heap.size (u,m,x) Y (zt0 j a)from G);have O:=hid (show VecS wb W.heap.size (o,m,cB) (zwh a)from E);have P:=hid (show IntsZ wb W.heap.size (z,m,y) (a.map sgI)from H);have a8:=hid (show VecS wb W.heap.size (q,N+m,t) (zKb m c0)from aL);have I:=hid (show Bel W wb from Bel.mk c);obtain⟨so,sA,sr,sD,pJ,n6,pO,nG,pT,nM,pY,nS⟩:=bc6 dZ.out
     obtain⟨su,sG,ok,uf,sx,sJ,oo,ui,qd,n1,os,ul,qg,nt,oa,up,qj,nw,oe,us,qm,nz,oi,uv,qr,ov,pi,tG,qw,oA,po,tM⟩:=bf8 d0.out;have F:=hid D;obtain⟨sc,sM,pu,tS,se,sO,px,tV,sg,sQ,pA,tY,sS,si,pD,ua,sU,sk,oN,ud,sW,sm,oQ,tx,qB,oF,oT,tA,p6,oI,o8,tD⟩:=bf8 F.out;clear D G E H aL c;have bg:=al.out.size;go_upto_region 20 with fail
     go_cut[] (fun wy=>∃(M:OA) (Q:Nat),wy.heap[d.heap.size]? = some (.cells #[(u,m,x),((N+m:Nat):Int),(o,m,cB),(q,N+m,t),(own:Int),(M,m,Q),(z,m,y),(N:Int)] 95 (0,0))∧VecsL wy W.heap.size (u,m,x) Y (zt0 j a)∧VecS wy W.heap.size (o,m,cB) (zwh a)∧IntsZ wy W.heap.size (z,m,y) (a.map sgI)∧VecS wy W.heap.size (q,N+m,t) (zKb m c0)∧IntsZ wy W.heap.size (M,m,Q) left∧Below W.heap.size W wy)
     case first=>as_aux_lemma =>
      go_wp2_with fail
      go_region_held3 (fun w'=>w'.cell? ⟨w.heap.size,0,none⟩=some (rA,m,rc)∧w'.cell? ⟨w.heap.size,1,none⟩=some (.int .i64 (N:Int))∧w'.cell? ⟨w.heap.size,2,none⟩=some (bA,m,bc_)∧w'.cell? ⟨w.heap.size,3,none⟩=some (kA,N,kc)∧w'.cell? ⟨w.heap.size,4,none⟩=some (.int .i64 (own:Int))∧w'.cell? ⟨w.heap.size,5,none⟩=some (eA,m,ec))
       (((try go_split_ands);(try simp only[World.cell?_drew]);(repeat' apply And.intro)<;>(repeat(first | with_reducible assumption | with_reducible refine cell_set (by omega) ?_ | with_reducible refine cell_al ?_))))
       (first
        | (go_at_call 61;(with_reducible refine(Sl.clone eA m ec left 0 _ gS.out.drew.left (by omega)).mono ?_);rintro e v1 ⟨M,Q,rfl,hv9,hb⟩;have ii:=hid (zad hb dZ.out);have ij:=hid (zad hb d0.out);have aZ:=hid (zad hb F.out);have jw:=hid (L.out.drew.below hb);have i6:=hid (O.out.drew.below hb);have ja:=hid (P.out.drew.below hb);have i9:=hid (a8.out.drew.below hb);have gQ:=hid (I.out.drew.below hb);have cx:=hid (show IntsZ v1 wb.heap.size (M,left.length,Q) left from hv9);obtain⟨r6,rV,r7,rW,pK,n7,pP,nH,pU,nN,pZ,nT⟩:=bc6 ii.out;obtain⟨r8,rX,ol,ug,r9,rY,op,uj,qe,n2,n8,um,qh,nu,oc,uq,qk,nx,og,ut,qn,nA,oj,uw,qs,ow,pj,tH,qx,oB,pp,tN⟩:=bf8 ij.out;obtain⟨sa,rZ,pv,tT,sb,r1,py,tW,rQ,r2,pB,tZ,rS,r3,oL,ub,rT,r4,oO,ue,rU,r5,oR,ty,p0,oG,oU,tB,p7,oJ,o9,tE⟩:=bf8 aZ.out;clear hv9 hb)
        | fail)
      all_goals
       go_wp2;go_meet;have bf:=I.out.b.size;have f:TKeep 95 v1 (v1.setCell ⟨d.heap.size,4,none⟩ (own:Int)):=TKeep.set aZ.out _;have k2:TKeep 95 (v1.setCell ⟨d.heap.size,4,none⟩ (own:Int)) ((v1.setCell ⟨d.heap.size,4,none⟩ (own:Int)).setCell ⟨d.heap.size,5,none⟩ (M,left.length,Q)):=TKeep.set (zar _ aZ.out) _;rw[fW.out]at cx k2 ⊢
       case rel=>exact⟨M,Q,zar _ (zar _ aZ.out),(jw.out.tk f (by decide) (by decide) (by decide)).tk k2 (by decide) (by decide) (by decide),(i6.out.tk f (by decide) (by decide)).tk k2 (by decide) (by decide),(ja.out.tk f (by decide)).tk k2 (by decide),(i9.out.tk f (by decide) (by decide)).tk k2 (by decide) (by decide),((cx.out.base bf).tk f (by decide)).tk k2 (by decide),(gQ.out.b.setCell (p:=⟨d.heap.size,4,none⟩) bg _).setCell (p:=⟨d.heap.size,5,none⟩) bg _⟩
     case rest =>
      obtain⟨M,Q,D,G,E,H,aL,cZ,c⟩:=hcut;rename World=>wc
      have hG:=hid (zad c ae.out);have fE:=hid (zad c ax.out);have L:=hid (show VecsL wc W.heap.size (u,m,x) Y (zt0 j a)from G);have O:=hid (show VecS wc W.heap.size (o,m,cB) (zwh a)from E);have P:=hid (show IntsZ wc W.heap.size (z,m,y) (a.map sgI)from H);have a8:=hid (show VecS wc W.heap.size (q,N+m,t) (zKb m c0)from aL);have ge:=hid (show IntsZ wc W.heap.size (M,m,Q) left from cZ);have I:=hid (show Bel W wc from Bel.mk c)
      have hQ:=hid (Z.out.trans ((c).mono Z.out.size));obtain⟨rx,rh,ry,ri,pL,nC,pQ,nI,pV,nO,pE,nV⟩:=bc6 hG.out;obtain⟨mA,mj,re,q7,mC,ml,rf,q8,mE,mm,rg,q9,mG,mn,rm,ra,mI,mo,rn,rb,mL,mp,ro,rd,iR,io,pk,tI,iY,ip,pq,tO⟩:=bf8 fE.out;have F:=hid D;obtain⟨sd,sN,pw,tU,sf,sP,pz,tX,sh,sR,pC,t9,sT,sj,oM,uc,sV,sl,oP,tw,sX,sn,oS,tz,p1,oH,oV,tC,p8,oK,pa,tF⟩:=bf8 F.out;clear D G E H aL cZ c;go_wp2
      refine bodyPost_ret (v:=.tuple #[.agg #[(u,m,x),((N+m:Nat):Int),(o,m,cB),(q,N+m,t),(own:Int),(M,m,Q),(z,m,y),(N:Int)],.nilIface]) (by simp[results,Tryz.results33,go_sem,mA,mj,mC,ml,mE,mm,mG,mn,mI,mo,mL,mp,iR,io,iY,ip]) rfl ?_;have f:=zYl fE.out (u,m,x) ((N+m:Nat):Int) (o,m,cB) (q,N+m,t) (own:Int) (M,m,Q) (z,m,y) (N:Int)
      have gu:∀r∈zt0 j a,r.length=N+m:=by have h:=ct.out;rw[ar.out]at h;exact h
      exact⟨u,x,Y,o,cB,q,t,M,Q,z,y,rfl,⟨(L.out.base (Nat.zero_le _)).tk f (by decide) (by decide) (by decide),gu,(O.out.base (Nat.zero_le _)).tk f (by decide) (by decide),(a8.out.base (Nat.zero_le _)).tk f (by decide) (by decide),(ge.out.base (Nat.zero_le _)).tk f (by decide),aX,cT,zXc aT.out cA.out,zXd cC.out,zXe aT.out gm.out,aT.out⟩,(P.out.base (Nat.zero_le _)).tk f (by decide),bsc (bsc (bsc (bsc (bsc (bsc (bsc (bsc hQ.out)))))))⟩
