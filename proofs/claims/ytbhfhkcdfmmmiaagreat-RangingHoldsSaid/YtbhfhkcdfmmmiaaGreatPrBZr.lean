/- Contracts and lemmas: PrB. Conditions: as each says. -/
import Derived.Test.YtbhfhkcdfmmmiaaGreatBasNZr
import Derived.Test.YtbhfhkcdfmmmiaaGreatStdWZr
set_option linter.all false
set_option maxHeartbeats 4000000
set_option maxRecDepth 100000
namespace Go.Proofs.YtbhfhkcdfmmmiaaGreat
open Go.RowKit Am Tryz
attribute [local go_sem ↓] Go.wp_at_zero Go.wp_at_succ
variable {A:List (List Rat)}{b:List Rat}{H S k m:Nat}{q:Rat}{v:Value}{w:World}
theorem zVG(r:Rat)(xs:List Rat):scale r xs=xs.map fun x=>r*x:=rfl
theorem zUT{r:List Rat}(h:A[k]? = some r):(zt0 A b).take (k+1)=(zt0 A b).take k++[scale ((sgI (el b k):Int):Rat) r++zdL A.length k]:=by
 have hk:=(List.getElem?_eq_some_iff.1 h).1;have e:(zt0 A b)[k]? = some (scale ((sgI (el b k):Int):Rat) r++zdL A.length k):=by
  unfold zt0;rw[List.getElem?_map,List.getElem?_range hk,zVG,zUb];simp only[Option.map_some,List.getD_eq_getElem?_getD,h,Option.getD_some]
 rw[List.take_add_one,e];rfl
theorem zUU(h:b[k]? = some q):(zwh b).take (k+1)=(zwh b).take k++[((sgI q:Int):Rat)*q]:=by
 have e:(zwh b)[k]? = some (((sgI q:Int):Rat)*q):=by unfold zwh;rw[List.getElem?_map,h,zUb];rfl
 rw[List.take_add_one,e];rfl
theorem zWK(h:b[k]? = some q):(b.map sgI).take (k+1)=(b.map sgI).take k++[sgI q]:=by
 have e:(b.map sgI)[k]? = some (sgI q):=by rw[List.getElem?_map,h];rfl
 rw[List.take_add_one,e];rfl
theorem zTt(A:List (List Rat))(b:List Rat):(zt0 A b).length=A.length:=by simp[zt0]
theorem zUh(b:List Rat):(zwh b).length=b.length:=by simp[zwh]
theorem zWX(p q:Rat):mw (sgn p*q)=mw q:=by
 unfold sgn;split
 ·rw[show(-1:Rat)*q = -q by grind,zhY]
 ·rw[Rat.one_mul]
theorem zXc(h1:1≤S)(zA:∀r∈A,∀q∈r,mw q≤S):∀r∈zt0 A b,∀q∈r,mw q≤S:=fun r hr q a=>by
 unfold zt0 at hr;obtain⟨k,hk,rfl⟩:=List.mem_map.1 hr;rw[List.mem_range]at hk;rcases List.mem_append.1 a with h | h
 ·obtain⟨x,c,rfl⟩:=List.mem_map.1 h;rw[zWX];exact zA _ (List.mem_of_getElem? (zaO hk)) x c
 ·unfold zdL at h;rcases List.mem_or_eq_of_mem_set h with h | rfl
  ·rw[List.eq_of_mem_replicate h];exact Nat.le_trans mw0 h1
  ·exact Nat.le_trans mw1 h1
theorem zXd(zb:∀q∈b,mw q≤S):∀q∈zwh b,mw q≤S:=fun q a=>by
 obtain⟨x,c,rfl⟩:=List.mem_map.1 a;rw[zWX];exact zb x c
theorem zXe{c:List Rat}(h1:1≤S)(zc:∀q∈c,mw q≤S):∀q∈zKb m c,mw q≤S:=fun q a=>by
 rcases List.mem_append.1 a with h | h
 ·exact zc q h
 ·rw[List.eq_of_mem_replicate h];exact Nat.le_trans mw0 h1
theorem zTC{ops:Array Oper}{o:Oper}{a:Act}{K:Act→World→Prop}{Q:Exit→Act→World→Prop}{E:Prop}(hg:o.guard=none)(s x:Operand)
  (Y:o.op=.call { callee:=.builtin .append,args:=#[s,x],argTypes:=#[28,28] })   {qs:List Rat} (hs:a.eval s=v) (hv:VecS w H v qs) {b:Nat} (hx:a.eval x=.slice (some ⟨b,0,none⟩) 1 1)
  {g:Bool} {A:OA} {c:Nat} {D:OA} {i f:Nat}  (T:w.heap[b]? = some (.cells #[g,(A,m,c),(D,i,f)] 41 (0,0))) (hq:RatS w g (A,m,c) (D,i,f) q) {N:Nat} (hN:qs.length=N) (ai:N+1≤1000000) (J:H≤w.heap.size)
  (S:∀j c' w',VecS w' H (.slice j (N+1) c') (qs++[q])→TKeep 41 w w'→Below H w w'→zff w w'→(∀k,k<w.heap.size→some k≠v.ownBlock→w'.heap[k]? = w.heap[k]?) →
   ((Value.slice j (N+1) c').ownBlock=v.ownBlock∨∀k,(Value.slice j (N+1) c').ownBlock=some k→w.heap.size≤k)→K (a.put o.dst (.slice j (N+1) c')) w') :
  if Region.wanted o (yielded ops a.tmps)=true then Oper.wp prog o a w K Q else E:=by
 have hw:Region.wanted o (yielded ops a.tmps)=true:=by simp[Region.wanted,hg]
 rw[if_pos hw];subst hN;obtain⟨z,r,G,n,I⟩:=info_parts ze0;obtain⟨l,h1,R,d⟩:=hv.row;have t:=zC6 T;have F:∀u∈[Value.bool g,.slice A m c,.slice D i f],u.oneCell'=true:=by intro u M;simp at M;rcases M with rfl | rfl | rfl<;>rfl
 obtain⟨O,w',y,Z,p,_⟩:=run_append_own (P:=prog) w H 28 o.type 41 z _ 3 56 underlying28 r G n I rfl (by decide) v qs.length (rcells l) d ⟨b,0,none⟩ 1 1 [.bool g,.slice A m c,.slice D i f] rfl t F (by unfold maxLen;omega) (by omega) J;have X:O.ownBlock=v.ownBlock∨∀k,O.ownBlock=some k→w.heap.size≤k:=by
  rcases d.2 with ⟨rfl,W⟩ | ⟨g',cap,cur,rfl,ag,V,aj,ah,U,ak⟩
  ·obtain⟨v2,w2,e,aa,_⟩:=run_append_own (P:=prog) w w.heap.size 28 o.type 41 z _ 3 56 underlying28 r G n I rfl (by decide) () 0 [] (World.ownsRow_nil _ _ _ _) ⟨b,0,none⟩ 1 1 [.bool g,.slice A m c,.slice D i f] rfl t F (by unfold maxLen;omega) (by omega) (Nat.le_refl _);rw[y]at e;injection e with e1 e2;subst e1;exact .inr fun k hk=>(aa.lt k hk).1
  ·by_cases ac:qs.length+1≤cap
   ·have e:=run_append_room (P:=prog) w 28 o.type 41 z underlying28 r g' qs.length cap cur V ⟨b,0,none⟩ 1 1 [.bool g,.slice A m c,.slice D i f] (by rw[n];rfl) t F ac (by rw[n,U];simp;omega);rw[y]at e;injection e with e1 e2;exact .inl (by rw[e1];rfl)
   ·have e:=run_append_grow (P:=prog) w 28 o.type 41 z _ underlying28 r G ⟨g',0,none⟩ qs.length cap (rcells l) (by rw[n];exact d.1) (d.cells (g:=g') rfl) ⟨b,0,none⟩ 1 1 [.bool g,.slice A m c,.slice D i f] (by rw[n];rfl) t (by omega) (by omega) (growslice_fits (by omega) (by rw[I];omega));rw[y]at e;injection e with e1 e2;exact .inr fun k hk=>by rw[e1]at hk;have L:some w.heap.size=some k:=hk;injection L with L;omega
 have B:=VecS.append h1 R d hq Z p;obtain⟨j,n',c',rfl⟩:=B.slice;have C:=B.len;rw[List.length_append]at C;simp only[List.length_cons,List.length_nil,Nat.zero_add]at C;subst C;exact Lib.wp_append_run w s x 28 28 Y v _ hs hx _ w' y (S j c' w' B (TKeep.grown d p) ((Below.refl _ _).grown p J (fun k hk=>(d.lt k hk).1)) (zh3 d p) p.block X)
theorem VecsL.apart{w':World}{l:List Value}{L:List (List Rat)}{ob:Option Nat}(h:VecsL w H v l L)(hk:TKeep 41 w w')(hr:zff w w')(d:∀k,k<w.heap.size→some k≠ob→w'.heap[k]? = w.heap[k]?)(c:∀s∈l,∀g,s.ownBlock=some g→some g≠ob):VecsL w' H v l L:=by
 refine h.keepAll (fun k e=>hk k (h.own.lt k e).2 fun cs b=>za6 h.own b (by decide) e) fun s r f a=>a.keepAll (fun k e=>d k (a.lt e).2 (c s f k e)) fun _ _ _ _ x=>x.keepT hr
theorem zYl{b:Nat}{cs:Array Value}{t:TypeId}(c:w.heap[b]? = some (.cells cs t (0,0)))(v0 v1 f g i j l m:Value):TKeep t w ((((((((w.setCell ⟨b,0,none⟩ v0).setCell ⟨b,1,none⟩ v1).setCell ⟨b,2,none⟩ f).setCell ⟨b,3,none⟩ g).setCell ⟨b,4,none⟩ i).setCell ⟨b,5,none⟩ j).setCell ⟨b,6,none⟩ l).setCell ⟨b,7,none⟩ m):=fun k _ d=>by
 have a:k≠b:=fun e=>d cs (by rw[e];exact c)
 rw[Below.heap_setCell _ _ _ _ (by exact a),Below.heap_setCell _ _ _ _ (by exact a),Below.heap_setCell _ _ _ _ (by exact a),Below.heap_setCell _ _ _ _ (by exact a),Below.heap_setCell _ _ _ _ (by exact a),Below.heap_setCell _ _ _ _ (by exact a),Below.heap_setCell _ _ _ _ (by exact a),Below.heap_setCell _ _ _ _ (by exact a)]
def zVJ (w:World) (m N S own:Nat) (A0:List (List Rat)) (b0 c0:List Rat) (left:List Int) (e:Ending) (w':World):Prop:=∃(rA:OA) (rc:Nat) (lA:List Value) (bA:OA) (bc_:Nat) (kA:OA) (kc:Nat) (eA:OA) (ec:Nat) (gA:OA) (gc:Nat),
  e=.returned (.tuple #[.agg #[(rA,m,rc),((N+m:Nat):Int),(bA,m,bc_),(kA,N+m,kc),(own:Int),(eA,m,ec),(gA,m,gc),(N:Int)],.nilIface]) ∧
  StdP w' rA rc lA bA bc_ kA kc eA ec m (N+m) S (zt0 A0 b0) (zwh b0) (zKb m c0) left∧IntsZ w' 0 (gA,m,gc) (b0.map sgI)∧Below w w w'
namespace Pr
theorem pbegin(rA:OA)(rc:Nat)(lA:List Value)(bA:OA)(bc_:Nat)(kA:OA)(kc:Nat)(eA:OA)(ec m N S own:Nat)(j:List (List Rat))(a c0:List Rat)(left:List Int)(w:World)(hS:StdP w rA rc lA bA bc_ kA kc eA ec m N S j a c0 left)(cT:N+m≤64)(hl:left.length=m)(cL:8*S+8≤LIM) :
  Calls prog 53 #[.agg #[(rA,m,rc),(N:Int),(bA,m,bc_),(kA,N,kc),(own:Int),(eA,m,ec)]] w (zVJ w m N S own j a c0 left):=by
 have aF:=un hS.blen;have aE:=un hS.rows.nlen;have fS:=un hS.clen;have f2:=un hS.rl;have cA:=un hS.zA;have cC:=un hS.zb;have gn:=un hS.zc;have aT:=un hS.hS;have cy:=un cL;have fX:=un hl;have aX:=hS.hm;have gu:=hS.hN;have m0:(N:Int)+(m:Int)≤64:=by omega
 clear cL hl;obtain⟨W,hW⟩:∃W,((w.alloc (.cells #[(rA,m,rc),(N:Int),(bA,m,bc_),(kA,N,kc),(own:Int),(eA,m,ec)] 113)).alloc (.cells #[(),.int .i64 0,(),(),.int .i64 0,(),(),.int .i64 0] 117))=W:=⟨_,rfl⟩
 have ae:=un (show W.heap[w.heap.size]? = some (.cells #[(rA,m,rc),(N:Int),(bA,m,bc_),(kA,N,kc),(own:Int),(eA,m,ec)] 113 (0,0))by rw[←hW];exact zak (zam (by simp)));have ax:=un (show W.heap[w.heap.size+1]? = some (.cells #[(),.int .i64 0,(),(),.int .i64 0,(),(),.int .i64 0] 117 (0,0))by rw[←hW];exact zam (by simp))
 have Z:=un (show Below w w W by rw[←hW];exact(zae w _).alloc (by simp) _);have HZ:=un (show w.heap.size+2≤W.heap.size by rw[←hW];simp);have HS:=un (show StdP W rA rc lA bA bc_ kA kc eA ec m N S j a c0 left by rw[←hW];exact((hS).alloc _).alloc _);obtain⟨jH,_,jI,_,jY,ka,ms,_,mv,_,ic,_⟩:=bc6 ae.o;clear hS;go_enter func53,ntmps53;go_wp2_with fail
 clear hW;have gh:=un (Bel.mk (Below.refl W.heap.size W));refine zaS (S:=fun w'=>w'.cell? ⟨w,0,none⟩=some (rA,m,rc)∧w'.cell? ⟨w,1,none⟩=some (.int .i64 (N:Int))∧w'.cell? ⟨w,2,none⟩=some (bA,m,bc_)∧w'.cell? ⟨w,3,none⟩=some (kA,N,kc)∧w'.cell? ⟨w,4,none⟩=some (.int .i64 (own:Int))∧w'.cell? ⟨w,5,none⟩=some (eA,m,ec)) [] (h:=fun hHeld=>?_);refine zaw [0,1,3,4] ?_;repeat refine tkL (hS:=hHeld) (h:=?_)
 refine zao ?_;refine zaB 2 (h:=fun K A=>?_);go_simp
 (go_at_call 103;(with_reducible refine(Mt.rows N m rc rA _).mono ?_);rintro e w1 ⟨rfl,hb⟩;have eu:=un (zad hb ae.o);have hh:=un (gh.o.drew.below hb);obtain⟨jF,_,jG,_,jV,j4,mt,_,mx,md,ie,_⟩:=bc6 eu.o;clear hb)
 (try go_wp2_with fail)
 refine A.o _ _ kp fun hHeld=>?_
 clear A K;try simp only[Act.put,pu1,pu2,pu3,pu4,pu5,pu6]
 refine zaB 5 (h:=fun K A=>?_);go_simp
 (go_at_call 104;(with_reducible refine(Mt.cols N m rc rA _).mono ?_);rintro e d ⟨rfl,hb⟩;have jC:=un (zad hb eu.o);have lD:=un (hh.o.below hb);obtain⟨jJ,_,jK,_,kw,ko,lX,_,lY,_,ig,_⟩:=bc6 jC.o;clear hb)
 (try go_wp2_with fail)
 refine A.o _ _ kp fun hHeld=>?_
 clear A K;try simp only[Act.put,pu1,pu2,pu3,pu4,pu5,pu6]
 refine zaw [6,7] ?_;repeat refine tkL (hS:=hHeld) (h:=?_)
 refine zao ?_;refine zaM (h:=?_);have al:=un lD.o.b;go_wp2
 go_loopw [7,43] (fun rv i wr=>∃(k:Nat) (rR:OA) (cR:Nat) (l:List Value) (o:OA) (cB:Nat) (z:OA) (y:Nat),i=.int .i64 k∧rv=(rR,k,cR)∧k≤m∧wr.heap[d.heap.size]? = some (.cells #[(),.int .i64 0,(o,k,cB),(),.int .i64 0,(),(z,k,y),(N:Int)] 117 (0,0))∧VecsL wr W.heap.size (rR,k,cR) l ((zt0 j a).take k)∧VecS wr W.heap.size (o,k,cB) ((zwh a).take k)∧IntsZ wr W.heap.size (z,k,y) ((a.map sgI).take k)∧(∀s∈l,∀g,s.ownBlock=some g→some g≠(Value.slice o k cB).ownBlock)∧Below W.heap.size W wr)
  (fun _ i _=>m-(intOf i).toNat)
 case atStart=>exact⟨0,none,0,[],none,0,none,0,rfl,rfl,Nat.zero_le _,zal _ _ _,VecsL.nil _ _,VecS.nil _ _,IntsZ.nil _ _,(fun s hs=>by cases hs),al.o.alloc al.o.size _⟩
 case round =>
  obtain⟨k,rR,cR,l,o,cB,z,y,rfl,rfl,hk,D,G,E,H,bc,c⟩:=hrel;by_cases bd:k<m
  ·obtain⟨J,rfl,_,_⟩:=HS.o.B.has (by omega);have aI:=zaH (by rw[aF.o];exact bd);have aB:j[k]? = some (j.getD k []):=zaO (by rw[←aE.o];exact bd);obtain⟨ga,Aa,ma,ca,Da,ak,ah,y0,y1,y2,cF⟩:=HS.o.B.at_ aI;have ar:=un (zUT (b:=a) aB);rw[←aE.o]at ar;have a6:=un (zUU aI);have a7:=un (zWK aI);generalize j.getD k []=r0 at aB ar;have fL:=un aB;have a3:=un (f2.o r0 (List.mem_of_getElem? aB));have gm:=un (cA.o r0 (List.mem_of_getElem? aB))
   have gp:=un (cC.o _ (List.mem_of_getElem? aI));have HY:=un (And.intro y0 (And.intro y1 y2));have a4:=un cF;have aG:=un (show I64 (sgI (el a k))by rcases zTW (el a k)with e | e<;>rw[e]<;>exact⟨by decide,by decide⟩);have cv:=un (Nat.le_trans (zu9 _ aG.o) aT.o);have fM:=un (show((zt0 j a).take k).length=k by rw[List.length_take,zTt,←aE.o];omega);have fQ:=un (show((zwh a).take k).length=k by rw[List.length_take,zUh,aF.o];omega)
   have fU:=un (show((a.map sgI).take k).length=k by rw[List.length_take,List.length_map,aF.o];omega);have mX:(0:Int)≤(k:Int):=Int.natCast_nonneg _;have mY:(k:Int)<(m:Int):=by omega
   have gy:=HZ.o;have bg:=al.o.size;have fN:=un bc;have fR:=un (show ∀g,(Value.slice o k cB).ownBlock=some g→g<wr.heap.size from fun g e=>(E.lt e).2);have mW:J<W.heap.size:=(HS.o.B.lt rfl).2;clear aI aB y0 y1 y2 cF bc;have aP:=un (zad c ae.o);have bC:=un (HS.o.below c);have aW:=un ((a4.o.below c))
   have L:=un (G);have O:=un (E);have P:=un (H);have I:=un (Bel.mk c);have aQ:=un (Z.o.trans ((c).mono Z.o.size));obtain⟨_,_,_,_,ft,_⟩:=bc6 aP.o;have bR:=zab c HY.o.1
   have bU:=zab c HY.o.2.1;have bW:=zab c HY.o.2.2;have F:=un D;clear D G E H c;have gj:=un (Bel.mk (Below.refl wr.heap.size wr))
   go_upto_if 52 with (go_at_call 105;(with_reducible refine(Rt.sign ga Aa ma ca Da ak ah (el a k) _ aW.o).mono ?_);rintro e u1 ⟨rfl,hb⟩;have a0:=un (zad hb aP.o);have a1:=un (zad hb F.o);have bD:=un (bC.o.below hb);have eo:=un (L.o.below hb);have ci:=un (O.o.below hb);have bP:=un (P.o.below hb);have b1:=un (I.o.below hb);have g3:=un (gj.o.below hb);have bS:=un (aQ.o.trans ((hb).mono aQ.o.size));obtain⟨eE,ex,eF,ey,fx,fq,fC,fz,fD,fA,dV,fH⟩:=bc6 a0.o;obtain⟨eM,ez,eK,eC,eN,eB,eL,eD,fe,eV,eW,eR,fj,e6,eZ,eO,fk,e7,e0,eH,fu,zip,fh,eY,ek,d5,ee,d8,en,eb,eg,ea⟩:=bf8 a1.o;have bQ:=zab hb bR;have gD:=zaa bQ;have bT:=zab hb bU;have gJ:=zaa bT;have bX:=zab hb bW;have gO:=zaa bX;clear hb)
   go_cut[9] (fun gv wy=>gv=.int .i64 (sgI (el a k))∧wy=u1)
   case first =>
    by_cases an:el a k<0
    ·have cW:=zrN an;have cX:=zeh.2 an;have a5:=un (show sgI (el a k) = -1 by unfold sgI;rw[if_pos an]);clear an;go_wp2;go_meet;exact⟨by rw[a5.o],rfl⟩
    ·have cW:=zrO an;have cX:¬(el a k).num.sign<0:=by omega
     have m2:¬(el a k).num<0:=fun e=>an (zeh.1 e)
     have a5:=un (show sgI (el a k)=1 by unfold sgI;rw[if_neg an]);clear an;go_wp2;go_meet;exact⟨by rw[a5.o],rfl⟩
   case rest =>
    obtain⟨rfl,rfl⟩:=hcut;rename World=>u1
    clear jH jI jY ka ms mv ic jF jG jV j4 mt mx md ie jJ jK kw ko lX lY ig ft bR bU bW
    go_wp2_with fail
    with_reducible refine(Mt.row N m rc rA lA j 0 k r0 _ bD.o.rows fL.o a3.o gu aX).mono ?_
    rintro e u2 ⟨A3,c3,rfl,hv,hb⟩;have eG:=un (zad hb a0.o);have eJ:=un (zad hb a1.o);have ib:=un (bD.o.below hb);have gW:=un (eo.o.below hb);have gX:=un (ci.o.below hb);have g0:=un (bP.o.below hb);have l0:=un (b1.o.below hb);have g5:=un (g3.o.below hb);have f7:=un (hv);have eS:=un (bS.o.trans ((hb).mono bS.o.size))
    have b2:=zab hb bQ;have b5:=zab hb bT;have b6:=zab hb bX;clear hv hb;go_wp2_with fail
    with_reducible refine(Vc.unit m k aX bd _).mono ?_
    rintro e u3 ⟨U,nU,cU,rfl,hv,hb⟩;have eI:=un (zad hb eG.o);have fl:=un (zad hb eJ.o);have ha:=un (ib.o.below hb);have l1:=un (gW.o.below hb);have gY:=un (gX.o.below hb);have g1:=un (g0.o.below hb);have h4:=un (l0.o.below hb);have g6:=un (g5.o.below hb);have gU:=un (f7.o.below hb);have HU:=un (hv);have fv:=un (eS.o.trans ((hb).mono eS.o.size))
    have b7:=zab hb b2;have b9:=zab hb b5;have ch:=zab hb b6;obtain rfl:m=nU:=by rw[hv.len,zfM]
    clear hv hb;clear eE ex eF ey fx fq fC fz fD fA dV fH eM ez eK eC eN eB eL eD fe eV eW eR fj e6 eZ eO fk e7 e0 eH fu zip fh eY ek d5 ee d8 en eb eg ea bQ gD bT gJ bX gO b2 b5 b6;go_upto_region 14 with fail
    go_cut[7] (fun rv wz=>∃(A5:OA) (c5:Nat) (l5:List Value),rv=(A5,k+1,c5)∧wz.heap[d.heap.size]? = some (.cells #[(),.int .i64 0,(o,k,cB),(),.int .i64 0,(),(z,k,y),(N:Int)] 117 (0,0))∧VecsL wz W.heap.size (A5,k+1,c5) l5 ((zt0 j a).take (k+1))∧VecS wz W.heap.size (o,k,cB) ((zwh a).take k)∧IntsZ wz W.heap.size (z,k,y) ((a.map sgI).take k)∧(∀s∈l5,∀g,s.ownBlock=some g→some g≠(Value.slice o k cB).ownBlock)∧Below W.heap.size W wz)
    case first=>as_aux_lemma =>
     go_wp2_with fail
     with_reducible refine(Rt.int (sgI (el a k)) aG.o.1 aG.o.2 _).mono ?_
     rintro e u4 ⟨g4,u,m4,x,D4,md4,cd4,rfl,hn,hb⟩;have av:=un (zad hb eI.o);have aS:=un (zad hb fl.o);have aO:=un (ha.o.below hb);have hG:=un (l1.o.below hb);have gZ:=un (gY.o.below hb);have g2:=un (g1.o.below hb);have dY:=un (h4.o.below hb);have g9:=un (g6.o.below hb);have gV:=un (gU.o.below hb);have hd:=un (HU.o.below hb);have HM:=un (hn)
     have aD:=un (fv.o.trans ((hb).mono fv.o.size));obtain⟨_,_,_,_,_,_,bq,_⟩:=bc6 av.o;obtain⟨_,_,_,_,_,_,_,_,_,_,_,cd,_,_,_,_,_,_,_,_,_,_,_,_,bN,_⟩:=bf8 aS.o;clear hn hb;go_wp2_with fail
     with_reducible refine(Vc.scaleS S cy.o g4 u m4 x D4 md4 cd4 ((sgI (el a k):Int):Rat) A3 N c3 r0 u1.heap.size _ gV.o HM.o (by omega) gm.o cv.o).mono ?_
     rintro e u5 ⟨T5,n5,c5,rfl,hv,hb⟩;obtain rfl:N=n5:=by rw[hv.len,zfH,a3.o]
     have f4:=un hv;have cu:=un hb;have f6:=un (hd.o.below hb);have gl:=un dY.o.b.size;have f3:=un (g9.o.b.size);clear hv hb
     go_wp2_with (at_builtin;first | (refine zSO rfl _ _ rfl rfl f4.o rfl f6.o (N:=N+m) (by rw[zfH,a3.o]) (by omega) cu.o.size ?_;intro R T u6 be aJ aH;have V:=un (cu.o.trans aH);have fK:=un (show ∀g,(Value.slice R (N+m) T).ownBlock=some g→u4.heap.size≤g from fun g e=>(be.lt e).1);have aY:=un (zad V.o aS.o);have ep:=un (hG.o.below V.o);have eq:=un (gZ.o.below V.o);have er:=un (g2.o.below V.o);have bE:=un (dY.o.below V.o);have f9:=un ((be.base gl.o));clear be aJ aH) | (refine zbW rfl _ _ rfl rfl (ep.o.alloc _) rfl (zal _ _ _) (f9.o.alloc _) (n:=k) fM.o (by omega) (by have:=bE.o.b.size;simp;omega) ?_;intro A7 c7 u7 cE cN cJ gt;have fW:=un cE;have a2:=un cN;have aU:=un cJ;clear cE cN cJ gt))
     go_meet
     case rel=>exact⟨A7,c7,_,rfl,a2.o.blk (zak aY.o) (by decide),by rw[ar.o];exact fW.o,(eq.o.alloc _).tk a2.o (by decide) (by decide),(er.o.alloc _).tk a2.o (by decide),(fun s hs g e=>(List.mem_append.1 hs).elim (fun h=>fN.o s h g e) fun h=>by rw[List.mem_singleton.1 h]at e;intro e2;have h1:=fK.o g e;have h2:=fR.o g e2.symm;have h3:=f3.o;omega),(bE.o.alloc _).b.trans aU.o⟩
    case rest =>
     obtain⟨A5,c5,l5,rfl,D,G,E,H,cI,c⟩:=hcut;have cs:=un cI;clear cI;rename World=>wz
     have av:=un (zad c ae.o);have aO:=un (HS.o.below c);have aW:=un ((a4.o.below c));have L:=un (G);have O:=un (E);have P:=un (H);have I:=un (Bel.mk c)
     have aD:=un (Z.o.trans ((c).mono Z.o.size));obtain⟨_,_,_,_,_,_,bq,_⟩:=bc6 av.o;have F:=un D;obtain⟨_,_,_,_,_,_,_,_,_,_,_,cd,_,_,_,_,_,_,_,_,_,_,_,_,bN,_⟩:=bf8 F.o
     clear D G E H c;go_upto_region 15 with fail
     go_cut[] (fun wy=>∃(R:OA) (T:Nat),wy.heap[d.heap.size]? = some (.cells #[(),.int .i64 0,(o,k,cB),(),.int .i64 0,(),(R,k+1,T),(N:Int)] 117 (0,0))∧VecsL wy W.heap.size (A5,k+1,c5) l5 ((zt0 j a).take (k+1))∧VecS wy W.heap.size (o,k,cB) ((zwh a).take k)∧IntsZ wy W.heap.size (R,k+1,T) ((a.map sgI).take (k+1))∧Below W.heap.size W wy)
     case first=>as_aux_lemma =>
      go_wp2_with (at_builtin;refine zfS rfl _ _ rfl rfl (P.o.alloc (.cells #[.int .i64 (sgI (el a k))] 3)) rfl (zal _ _ _) (n:=k) fU.o (by omega) (by have:=I.o.b.size;simp;omega) ?_;intro R T v6 cD aJ aH;have fV:=un cD;have cw:=un aJ;have fO:=un ((I.o.alloc _).b.trans aH);have KS:=un (aJ.blk (zak F.o) (by decide));obtain⟨o0,_,_,_,o1,_,_,_,o2,_,dt,_,o3,_,dv,_,o4,_,_,_,o5,_,_,_,o6,_,dB,_,o7,_⟩:=bf8 KS.o;clear cD aJ aH)
      go_meet;have f:TKeep 117 v6 (v6.setCell ⟨d,6,none⟩ (R,k+1,T)):=TKeep.set KS.o _
      case rel=>exact⟨R,T,zar _ KS.o,((L.o.alloc _).tk cw.o (by decide) (by decide) (by decide)).tk f (by decide) (by decide) (by decide),((O.o.alloc _).tk cw.o (by decide) (by decide)).tk f (by decide) (by decide),by rw[a7.o];exact fV.o.tk f (by decide),fO.o.setCell (p:=⟨d,6,none⟩) al.o.size _⟩
     case rest =>
      obtain⟨R,T,D,G,E,H,c⟩:=hcut;rename World=>wy
      have dZ:=un (zad c ae.o);have aW:=un ((a4.o.below c));have L:=un (G);have O:=un (E);have P:=un (H);have I:=un (Bel.mk c);obtain⟨sq,_,st,_,pN,_,pS,_,pX,_,pG,_⟩:=bc6 dZ.o
      have he:=zab c HY.o.1;have gB:=zaa he;have hf:=zab c HY.o.2.1;have gH:=zaa hf;have hg:=zab c HY.o.2.2;have gM:=zaa hg;have F:=un D;obtain⟨sw,_,_,_,sz,_,_,_,sZ,_,_,_,s0,_,_,_,s1,_,_,_,qp,_,_,_,qu,_,_,_,qz,_⟩:=bf8 F.o;clear D G E H c
      clear b7 b9 ch bq cd bN;go_wp2_with fail
      have L1:=un (show 4*(mw ((sgI (el a k):Int):Rat)+mw (el a k))+8≤LIM by have:=cv.o;have:=gp.o;have:=cy.o;omega)
      refine za2 (S:=fun w'=>w'.cell? ⟨w,0,none⟩=some (rA,m,rc)∧w'.cell? ⟨w,1,none⟩=some (.int .i64 (N:Int))∧w'.cell? ⟨w,2,none⟩=some (J,m,bc_)∧w'.cell? ⟨w,3,none⟩=some (kA,N,kc)∧w'.cell? ⟨w,4,none⟩=some (.int .i64 (own:Int))∧w'.cell? ⟨w,5,none⟩=some (eA,m,ec)∧w'.cell? ⟨d,0,none⟩=some ()∧w'.cell? ⟨d,1,none⟩=some (.int .i64 0)∧w'.cell? ⟨d,2,none⟩=some (o,k,cB)∧w'.cell? ⟨d,3,none⟩=some ()∧w'.cell? ⟨d,4,none⟩=some (.int .i64 0)∧w'.cell? ⟨d,5,none⟩=some ()∧w'.cell? ⟨d,6,none⟩=some (R,k+1,T)∧w'.cell? ⟨d,7,none⟩=some (.int .i64 (N:Int))∧w'.cell? ⟨J,k*3,none⟩=some (.bool ga)∧w'.cell? ⟨J,k*3+1,none⟩=some (Aa,ma,ca)∧w'.cell? ⟨J,k*3+2,none⟩=some (Da,ak,ah)) 15 (h:=fun hHeld=>?_)
      refine zaw [0,1,2,3,5,6,7,8,9] ?_;repeat refine tkE (hS:=hHeld) (h:=?_)
      refine zao ?_;refine zaN 4 (h:=fun K A=>?_);go_simp
      (go_at_call 13;(with_reducible refine(Rt.int (sgI (el a k)) aG.o.1 aG.o.2 _).mono ?_);rintro e v1 ⟨g7,A7,m7,c7,D7,md7,cd7,rfl,hn,hb⟩;have d2:=un (zad hb dZ.o);have d3:=un (zad hb F.o);have jw:=un (aW.o.drew.below hb);have jy:=un (L.o.drew.below hb);have i8:=un (O.o.drew.below hb);have jc:=un (P.o.drew.below hb);have gS:=un (I.o.drew.below hb);have fZ:=un (hn);obtain⟨sr,_,su,_,pO,_,pT,_,pY,_,pH,_⟩:=bc6 d2.o;obtain⟨sx,_,_,_,sA,_,_,_,ta,_,_,_,tb,_,_,_,tc,_,_,_,qq,_,_,_,qv,_,_,_,qA,_⟩:=bf8 d3.o;have dN:=zab hb gB;have dP:=zab hb gH;have dR:=zab hb gM;clear hn hb)
      (try go_wp2_with fail)
      refine A.o _ _ kp fun hHeld=>?_
      clear A K;try simp only[Act.put,pu1,pu2,pu3,pu4,pu5,pu6]
      refine zaN 10 (h:=fun K A=>?_);go_simp
      (go_at_call 15;(with_reducible refine(Rt.mul g7 A7 m7 c7 D7 md7 cd7 ((sgI (el a k):Int):Rat) ga Aa ma ca Da ak ah (el a k) _ fZ.o jw.o L1.o).mono ?_);rintro e v2 ⟨g8,q,m8,t,D8,md8,cd8,rfl,hn,hb⟩;have je:=un (zad hb d2.o);have ei:=un (zad hb d3.o);have eh:=un (jy.o.below hb);have i9:=un (i8.o.below hb);have jd:=un (jc.o.below hb);have es:=un (gS.o.below hb);have f0:=un (hn);obtain⟨iL,_,iM,_,iN,_,iO,_,iP,_,iQ,_⟩:=bc6 je.o;obtain⟨pI,_,_,_,pJ,_,_,_,qg,_,_,_,qj,_,_,_,qm,_,_,_,qr,_,_,_,qw,_,_,_,qB,_⟩:=bf8 ei.o;have dO:=zab hb dN;have dQ:=zab hb dP;have dS:=zab hb dR;clear hn hb)
      (try go_wp2_with fail)
      refine A.o _ _ kp fun hHeld=>?_
      clear A K;try simp only[Act.put,pu1,pu2,pu3,pu4,pu5,pu6]
      refine zaN 11 (h:=fun K A=>?_);go_simp;refine A.o _ _ kp fun hHeld=>?_
      clear A K;try simp only[Act.put,pu1,pu2,pu3,pu4,pu5,pu6]
      refine zaN 12 (h:=fun K A=>?_)
      ((refine zTC (by rfl) _ _ (by rfl) (by rfl) (i9.o.alloc _) (by rfl) (zal _ _ _) (f0.o.alloc _) (N:=k) fQ.o (by omega) (by have:=es.o.b.size;simp;omega) ?_);intro M Q v9 cH aK X cV cP cS;have gc:=un cH;have fP:=un ((es.o.alloc _).b.trans X);have a9:=un (aK.blk (zak ei.o) (by decide));have gd:=un ((eh.o.alloc _).apart aK cV cP cs.o);have ge:=un ((jd.o.alloc _).tk aK (by decide));have f1:=un cS;have gg:=un (show ∀s∈l5,∀g,s.ownBlock=some g→g<v2.heap.size from fun s hs g e=>(eh.o.lt hs e).2);obtain⟨o0,_,_,_,o1,_,_,_,o2,_,dt,_,o3,_,dv,_,o4,_,_,_,o5,_,_,_,o6,_,dB,_,o7,_⟩:=bf8 a9.o;have t0:=zKh X (show w.heap.size<W.heap.size by omega) (cell_al (ob:=.cells #[g8,(q,m8,t),(D8,md8,cd8)] 41) iL);have t1:=zKh X (show w.heap.size<W.heap.size by omega) (cell_al (ob:=.cells #[g8,(q,m8,t),(D8,md8,cd8)] 41) iM);have t2:=zKh X (show w.heap.size<W.heap.size by omega) (cell_al (ob:=.cells #[g8,(q,m8,t),(D8,md8,cd8)] 41) iN);have t3:=zKh X (show w.heap.size<W.heap.size by omega) (cell_al (ob:=.cells #[g8,(q,m8,t),(D8,md8,cd8)] 41) iO);have t4:=zKh X (show w.heap.size<W.heap.size by omega) (cell_al (ob:=.cells #[g8,(q,m8,t),(D8,md8,cd8)] 41) iP);have t5:=zKh X (show w.heap.size<W.heap.size by omega) (cell_al (ob:=.cells #[g8,(q,m8,t),(D8,md8,cd8)] 41) iQ);have t6:=zKh X (show J<W.heap.size by omega) (cell_al (ob:=.cells #[g8,(q,m8,t),(D8,md8,cd8)] 41) dO);have t7:=zKh X (show J<W.heap.size by omega) (cell_al (ob:=.cells #[g8,(q,m8,t),(D8,md8,cd8)] 41) dQ);have t8:=zKh X (show J<W.heap.size by omega) (cell_al (ob:=.cells #[g8,(q,m8,t),(D8,md8,cd8)] 41) dS);clear cH aK X cV cP cS)
      refine A.o _ _ kp fun hHeld=>?_
      clear A K;try simp only[Act.put,pu1,pu2,pu3,pu4,pu5,pu6]
      refine zfQ (i:=13) (v:=?_) rfl (by kernel_rfl) (fun _ _ _ h=>h) (Or.inl ⟨by rfl,?_⟩) ?_
      rotate_left
      ·((intro w gs;(try dsimp only at gs);go_simp);(try with_reducible rfl))
      try simp only[Act.put,pu1,pu2,pu3,pu4,pu5,pu6]
      refine zaw [14] ?_;repeat refine tkE (hS:=hHeld) (h:=?_)
      refine zao ?_;refine zba (h:=fun K A=>?_);go_simp;refine A.o _ _ ?_;clear A K;try simp only[Act.put,pu1,pu2,pu3,pu4,pu5,pu6]
      refine za1 (h:=?_)
      all_goals
       go_wp2;go_roundw
       have f:TKeep 117 v9 (v9.setCell ⟨d,2,none⟩ (M,k+1,Q)):=TKeep.set a9.o _
       case rel=>exact⟨k+1,A5,c5,l5,M,Q,R,T,by go_num,rfl,by omega,zar _ a9.o,gd.o.tk f (by decide) (by decide) (by decide),by rw[a6.o];exact gc.o.tk f (by decide) (by decide),ge.o.tk f (by decide),(fun s hs g e=>f1.o.elim (fun h=>by rw[h];exact cs.o s hs g e) fun h e2=>by have h1:=h g e2.symm;have h2:=gg.o s hs g e;simp at h1;omega),fP.o.setCell (p:=⟨d,2,none⟩) al.o.size _⟩
       case measure=>simp[intOf];omega
  ·obtain rfl:m=k:=by omega
   have ar:=un (show(zt0 j a).take m=zt0 j a by rw[List.take_of_length_le];rw[zTt,←aE.o];omega);have a6:=un (show(zwh a).take m=zwh a by rw[List.take_of_length_le];rw[zUh,aF.o];omega);have a7:=un (show(a.map sgI).take m=a.map sgI by rw[List.take_of_length_le];rw[List.length_map,aF.o];omega);have ct:=un (show ∀r∈(zt0 j a).take m,r.length=N+m by
    rw[ar.o];intro r hr;obtain⟨i,hi⟩:=List.mem_iff_getElem?.1 hr;have h:=(zSV (b:=a) HS.o.rect).row i (by have:=(List.getElem?_eq_some_iff.1 hi).1;rw[zTt,←aE.o]at this;exact this);rw[List.getD_eq_getElem?_getD,hi]at h;exact h)
   have gy:=HZ.o;clear bc;have aP:=un (zad c ae.o);have eX:=un (zad c ax.o);have bC:=un (HS.o.below c);have L:=un (G);have O:=un ((by have h:=E;rw[a6.o]at h;exact h));have P:=un ((by have h:=H;rw[a7.o]at h;exact h));have I:=un (Bel.mk c);have aQ:=un (Z.o.trans ((c).mono Z.o.size))
   obtain⟨_,_,_,_,ft,_⟩:=bc6 aP.o;have F:=un D;obtain⟨_,_,_,_,_,_,_,_,_,u8,_,_,_,u9,_⟩:=bf8 F.o;clear D G E H c;go_upto_region 18 with fail
   go_cut[] (fun wy=>∃(u:OA) (x:Nat) (Y:List Value),wy.heap[d.heap.size]? = some (.cells #[(u,m,x),((N+m:Nat):Int),(o,m,cB),(),.int .i64 0,(),(z,m,y),(N:Int)] 117 (0,0))∧VecsL wy W.heap.size (u,m,x) Y (zt0 j a)∧VecS wy W.heap.size (o,m,cB) (zwh a)∧IntsZ wy W.heap.size (z,m,y) (a.map sgI)∧Below W.heap.size W wy)
   case first=>as_aux_lemma =>
    go_wp2_with fail
    rw[show(N:Int)+(m:Int)=((N+m:Nat):Int)by simp];with_reducible refine(Mt.of m (N+m) aX cT rR cR l ((zt0 j a).take m) W.heap.size _ L.o ct.o).mono ?_
    rintro e v5 ⟨u,x,Y,rfl,hv4,ha4,hb⟩;have a0:=un (zad hb aP.o);have a1:=un (zad hb eX.o);have bV:=un (zad hb F.o);have bD:=un (bC.o.below hb);have eo:=un (L.o.below hb);have ci:=un (O.o.below hb);have bP:=un (P.o.below hb);have b1:=un (I.o.below hb);have f8:=un ((by have h:=hv4;rw[ar.o]at h;exact h));have bS:=un (aQ.o.trans ((hb).mono aQ.o.size));obtain⟨eE,ex,eF,ey,fx,fq,fC,fz,fD,fA,dV,fH⟩:=bc6 a0.o
    obtain⟨eM,ez,eK,eC,eN,eB,eL,eD,fe,eV,eW,eR,fj,e6,eZ,eO,fk,e7,e0,eH,fu,zip,fh,eY,ek,d5,ee,d8,en,eb,eg,ea⟩:=bf8 a1.o;obtain⟨uP,_,uL,_,uQ,_,uH,_⟩:=bf8 bV.o;clear hv4 ha4 hb;have c1:=al.o.size;have bf:=I.o.b.size;go_wp2;go_meet;have f:=zBa bV.o (u,m,x) ((N+m:Nat):Int)
    case rel=>exact⟨u,x,Y,zar _ (zar _ bV.o),(f8.o.base bf).tk f (by decide) (by decide) (by decide),ci.o.tk f (by decide) (by decide),bP.o.tk f (by decide),(b1.o.b.setCell (p:=⟨d,0,none⟩) c1 _).setCell (p:=⟨d,1,none⟩) c1 _⟩
   case rest =>
    obtain⟨u,x,Y,D,G,E,H,c⟩:=hcut;rename World=>wa
    have av:=un (zad c ae.o);have aS:=un (zad c ax.o);have aO:=un (HS.o.below c);have L:=un (G);have O:=un (E);have P:=un (H);have I:=un (Bel.mk c);have aD:=un (Z.o.trans ((c).mono Z.o.size));obtain⟨_,_,_,_,_,_,bq,_⟩:=bc6 av.o
    obtain⟨_,_,_,_,_,_,_,_,_,_,_,cd,_,_,_,_,_,_,_,_,_,_,_,_,bN,_⟩:=bf8 aS.o;have F:=un D;obtain⟨_,_,_,_,_,_,_,vs,_⟩:=bf8 F.o;clear D G E H c;go_upto_region 19 with fail
    go_cut[] (fun wy=>∃(q:OA) (t:Nat),wy.heap[d.heap.size]? = some (.cells #[(u,m,x),((N+m:Nat):Int),(o,m,cB),(q,N+m,t),.int .i64 0,(),(z,m,y),(N:Int)] 117 (0,0))∧VecsL wy W.heap.size (u,m,x) Y (zt0 j a)∧VecS wy W.heap.size (o,m,cB) (zwh a)∧IntsZ wy W.heap.size (z,m,y) (a.map sgI)∧VecS wy W.heap.size (q,N+m,t) (zKb m c0)∧Below W.heap.size W wy)
    case first=>as_aux_lemma =>
     go_wp2_with fail
     with_reducible refine(Vc.copy kA N kc c0 0 _ aO.o.C (by omega)).mono ?_
     rintro e v5 ⟨A7,c7,rfl,hv7,hb⟩;have aY:=un (zad hb aS.o);have dW:=un (zad hb F.o);have ep:=un (L.o.below hb);have eq:=un (O.o.below hb);have er:=un (P.o.below hb);have bE:=un (I.o.below hb);have fT:=un (hv7)
     have aU:=un hb;have gi:=un I.o.b.size;clear hv7 hb
     go_wp2_with (at_builtin;go_loud (refine zb3 rfl _ _ rfl rfl fT.o rfl (n:=m) rfl (N:=N+m) (by rw[fS.o]) (by omega) aU.o.size ?_;intro q t v8 cY cO cK;have gb:=un cY;have aV:=un (aU.o.trans cK);have KS:=un (cO.blk dW.o (by decide));obtain⟨o0,_,_,_,o1,_,_,_,o2,_,dt,_,o3,_,dv,_,o4,_,_,_,o5,_,_,_,o6,_,dB,_,o7,_⟩:=bf8 KS.o;clear cY cO cK))
     go_meet;have f:TKeep 117 v8 (v8.setCell ⟨d,3,none⟩ (q,N+m,t)):=TKeep.set KS.o _
     case rel=>exact⟨q,t,zar _ KS.o,(L.o.below aV.o).tk f (by decide) (by decide) (by decide),(O.o.below aV.o).tk f (by decide) (by decide),(P.o.below aV.o).tk f (by decide),by unfold zKb;exact(gb.o.base gi.o).tk f (by decide) (by decide),(I.o.below aV.o).b.setCell (p:=⟨d,3,none⟩) al.o.size _⟩
    case rest =>
     obtain⟨q,t,D,G,E,H,aL,c⟩:=hcut;rename World=>wb
     have d0:=un (zad c ae.o);have d1:=un (zad c ax.o);have gT:=un (HS.o.below c);have L:=un (G);have O:=un (E);have P:=un (H);have a8:=un (aL);have I:=un (Bel.mk c);obtain⟨sp,_,ss,_,pK,_,pP,_,pU,_,pZ,_⟩:=bc6 d0.o
     have F:=un D;clear D G E H aL c;have bg:=al.o.size;go_upto_region 20 with fail
     go_cut[] (fun wy=>∃(M:OA) (Q:Nat),wy.heap[d.heap.size]? = some (.cells #[(u,m,x),((N+m:Nat):Int),(o,m,cB),(q,N+m,t),(own:Int),(M,m,Q),(z,m,y),(N:Int)] 117 (0,0))∧VecsL wy W.heap.size (u,m,x) Y (zt0 j a)∧VecS wy W.heap.size (o,m,cB) (zwh a)∧IntsZ wy W.heap.size (z,m,y) (a.map sgI)∧VecS wy W.heap.size (q,N+m,t) (zKb m c0)∧IntsZ wy W.heap.size (M,m,Q) left∧Below W.heap.size W wy)
     case first=>as_aux_lemma =>
      go_wp2_with fail
      go_region_held3 (fun w'=>w'.cell? ⟨w,0,none⟩=some (rA,m,rc)∧w'.cell? ⟨w,1,none⟩=some (.int .i64 (N:Int))∧w'.cell? ⟨w,2,none⟩=some (bA,m,bc_)∧w'.cell? ⟨w,3,none⟩=some (kA,N,kc)∧w'.cell? ⟨w,4,none⟩=some (.int .i64 (own:Int))∧w'.cell? ⟨w,5,none⟩=some (eA,m,ec))
       (((try go_split_ands);(try simp only[World.cell?_drew]);(repeat' apply And.intro)<;>(repeat(first | with_reducible assumption | with_reducible refine cell_set (by omega) ?_ | with_reducible refine cell_al ?_))))
       (first
        | (go_at_call 108;(with_reducible refine(Sl.clone eA m ec left 0 _ gT.o.drew.left (by omega)).mono ?_);rintro e v1 ⟨M,Q,rfl,hv9,hb⟩;have ij:=un (zad hb d0.o);have aZ:=un (zad hb F.o);have jx:=un (L.o.drew.below hb);have i7:=un (O.o.drew.below hb);have jb:=un (P.o.drew.below hb);have ja:=un (a8.o.drew.below hb);have gR:=un (I.o.drew.below hb);have cx:=un (show IntsZ v1 wb (M,left.length,Q) left from hv9);obtain⟨r7,_,r8,_,pL,_,pQ,_,pV,_,p0,_⟩:=bc6 ij.o;obtain⟨_,_,_,_,_,_,_,_,_,_,_,_,_,_,_,_,rU,_,oP,_,rV,_,oS,_⟩:=bf8 aZ.o;clear hv9 hb)
        | fail)
      all_goals
       go_wp2;go_meet;have bf:=I.o.b.size;have f:TKeep 117 v1 (v1.setCell ⟨d,4,none⟩ (own:Int)):=TKeep.set aZ.o _;have k2:TKeep 117 (v1.setCell ⟨d,4,none⟩ (own:Int)) ((v1.setCell ⟨d,4,none⟩ (own:Int)).setCell ⟨d,5,none⟩ (M,left.length,Q)):=TKeep.set (zar _ aZ.o) _;rw[fX.o]at cx k2 ⊢
       case rel=>exact⟨M,Q,zar _ (zar _ aZ.o),(jx.o.tk f (by decide) (by decide) (by decide)).tk k2 (by decide) (by decide) (by decide),(i7.o.tk f (by decide) (by decide)).tk k2 (by decide) (by decide),(jb.o.tk f (by decide)).tk k2 (by decide),(ja.o.tk f (by decide) (by decide)).tk k2 (by decide) (by decide),((cx.o.base bf).tk f (by decide)).tk k2 (by decide),(gR.o.b.setCell (p:=⟨d,4,none⟩) bg _).setCell (p:=⟨d,5,none⟩) bg _⟩
     case rest =>
      obtain⟨M,Q,D,G,E,H,aL,cZ,c⟩:=hcut;rename World=>wc
      have fF:=un (zad c ax.o);have L:=un (G);have O:=un (E);have P:=un (H);have a8:=un (aL);have gf:=un (cZ);have I:=un (Bel.mk c)
      have hR:=un (Z.o.trans ((c).mono Z.o.size));obtain⟨mB,ml,rf,_,mD,mm,rg,_,mF,mn,rh,_,mH,mo,rn,_,mJ,mp,ro,_,mM,mq,rp,_,iS,ip,pl,_,iZ,iq,pr,_⟩:=bf8 fF.o;have F:=un D;obtain⟨se,_,_,_,sg,_,_,_,si,_,_,_,sU,_,_,_,sW,_,_,_,sY,_,_,_,p2,_,_,_,p9,_⟩:=bf8 F.o;clear D G E H aL cZ c;go_wp2
      refine bodyPost_ret (v:=.tuple #[.agg #[(u,m,x),((N+m:Nat):Int),(o,m,cB),(q,N+m,t),(own:Int),(M,m,Q),(z,m,y),(N:Int)],.nilIface]) (by simp[results,results53,go_sem,mB,ml,mD,mm,mF,mn,mH,mo,mJ,mp,mM,mq,iS,ip,iZ,iq]) rfl ?_;have f:=zYl fF.o (u,m,x) ((N+m:Nat):Int) (o,m,cB) (q,N+m,t) (own:Int) (M,m,Q) (z,m,y) (N:Int)
      have gw:∀r∈zt0 j a,r.length=N+m:=by have h:=ct.o;rw[ar.o]at h;exact h
      exact⟨u,x,Y,o,cB,q,t,M,Q,z,y,rfl,⟨(L.o.base (Nat.zero_le _)).tk f (by decide) (by decide) (by decide),gw,(O.o.base (Nat.zero_le _)).tk f (by decide) (by decide),(a8.o.base (Nat.zero_le _)).tk f (by decide) (by decide),(gf.o.base (Nat.zero_le _)).tk f (by decide),aX,cT,zXc aT.o cA.o,zXd cC.o,zXe aT.o gn.o,aT.o⟩,(P.o.base (Nat.zero_le _)).tk f (by decide),bsc (bsc (bsc (bsc (bsc (bsc (bsc (bsc hR.o)))))))⟩
