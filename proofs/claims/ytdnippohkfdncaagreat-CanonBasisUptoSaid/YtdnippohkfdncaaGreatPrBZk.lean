/- Contracts and lemmas: PrB. Conditions: as each says. -/
import Derived.Test.YtdnippohkfdncaaGreatBasNZk
import Derived.Test.YtdnippohkfdncaaGreatStdWZk
set_option linter.all false
set_option maxHeartbeats 4000000
set_option maxRecDepth 100000
namespace Go.Proofs.YtdnippohkfdncaaGreat
open Go.RowKit Am
open Lib (hid)
attribute [local go_sem ↓] Go.wp_at_zero Go.wp_at_succ
theorem zVG(r:Rat)(xs:List Rat):scale r xs=xs.map fun x=>r*x:=rfl
theorem zUT{A:List (List Rat)}{b:List Rat}{k:Nat}{r:List Rat}(h:A[k]? = some r):(zt0 A b).take (k+1)=(zt0 A b).take k++[scale ((sgI (el b k):Int):Rat) r++zdL A.length k]:=by
 have hk:=(List.getElem?_eq_some_iff.1 h).1;have e:(zt0 A b)[k]? = some (scale ((sgI (el b k):Int):Rat) r++zdL A.length k):=by
  unfold zt0;rw[List.getElem?_map,List.getElem?_range hk,zVG,zUb];simp only[Option.map_some,List.getD_eq_getElem?_getD,h,Option.getD_some]
 rw[List.take_add_one,e];rfl
theorem zUU{b:List Rat}{k:Nat}{q:Rat}(h:b[k]? = some q):(zwh b).take (k+1)=(zwh b).take k++[((sgI q:Int):Rat)*q]:=by
 have e:(zwh b)[k]? = some (((sgI q:Int):Rat)*q):=by unfold zwh;rw[List.getElem?_map,h,zUb];rfl
 rw[List.take_add_one,e];rfl
theorem zWK{b:List Rat}{k:Nat}{q:Rat}(h:b[k]? = some q):(b.map sgI).take (k+1)=(b.map sgI).take k++[sgI q]:=by
 have e:(b.map sgI)[k]? = some (sgI q):=by rw[List.getElem?_map,h];rfl
 rw[List.take_add_one,e];rfl
theorem zTt(A:List (List Rat))(b:List Rat):(zt0 A b).length=A.length:=by simp[zt0]
theorem zUh(b:List Rat):(zwh b).length=b.length:=by simp[zwh]
theorem zWX(p q:Rat):mw (sgn p*q)=mw q:=by
 unfold sgn;split
 ·rw[show(-1:Rat)*q = -q by grind,zhY]
 ·rw[Rat.one_mul]
theorem zXc{A:List (List Rat)}{b:List Rat}{S:Nat}(h1:1≤S)(zA:∀r∈A,∀q∈r,mw q≤S):∀r∈zt0 A b,∀q∈r,mw q≤S:=fun r hr q a=>by
 unfold zt0 at hr;obtain⟨k,hk,rfl⟩:=List.mem_map.1 hr;rw[List.mem_range]at hk;rcases List.mem_append.1 a with h | h
 ·obtain⟨x,c,rfl⟩:=List.mem_map.1 h;rw[zWX];exact zA _ (List.mem_of_getElem? (zaO hk)) x c
 ·unfold zdL at h;rcases List.mem_or_eq_of_mem_set h with h | rfl
  ·rw[List.eq_of_mem_replicate h];exact Nat.le_trans mw0 h1
  ·exact Nat.le_trans mw1 h1
theorem zXd{b:List Rat}{S:Nat}(zb:∀q∈b,mw q≤S):∀q∈zwh b,mw q≤S:=fun q a=>by
 obtain⟨x,c,rfl⟩:=List.mem_map.1 a;rw[zWX];exact zb x c
theorem zXe{m:Nat}{c:List Rat}{S:Nat}(h1:1≤S)(zc:∀q∈c,mw q≤S):∀q∈zKb m c,mw q≤S:=fun q a=>by
 rcases List.mem_append.1 a with h | h
 ·exact zc q h
 ·rw[List.eq_of_mem_replicate h];exact Nat.le_trans mw0 h1
theorem zTC{ops:Array Oper}{o:Oper}{a:Act}{w:World}{K:Act→World→Prop}{Q:Exit→Act→World→Prop}{E:Prop}(hg:o.guard=none)(s x:Operand)
  (Z:o.op=.call { callee:=.builtin .append,args:=#[s,x],argTypes:=#[37,37] }) {H:Nat} {v:Value} {qs:List Rat} (hs:a.eval s=v) (hv:VecS w H v qs) {b:Nat} (hx:a.eval x=.slice (some ⟨b,0,none⟩) 1 1)
  {g:Bool} {A:OA} {m c:Nat} {D:OA} {i f:Nat} {q:Rat} (U:w.heap[b]? = some (.cells #[.bool g,.slice A m c,.slice D i f] 35 (0,0))) (hq:RatS w g (.slice A m c) (.slice D i f) q) {N:Nat} (hN:qs.length=N) (aj:N+1≤1000000) (L:H≤w.heap.size)
  (T:∀j c' w',VecS w' H (.slice j (N+1) c') (qs++[q])→TKeep 35 w w'→Below H w w'→zff w w'→(∀k,k<w.heap.size→some k≠v.ownBlock→w'.heap[k]? = w.heap[k]?) →
   ((Value.slice j (N+1) c').ownBlock=v.ownBlock∨∀k,(Value.slice j (N+1) c').ownBlock=some k→w.heap.size≤k)→K (a.put o.dst (.slice j (N+1) c')) w') :
  if Region.wanted o (yielded ops a.tmps)=true then Oper.wp Tryz.prog o a w K Q else E:=by
 have hw:Region.wanted o (yielded ops a.tmps)=true:=by simp[Region.wanted,hg]
 rw[if_pos hw];subst hN;obtain⟨z,r,I,n,J⟩:=info_parts ze0;obtain⟨l,h1,S,d⟩:=hv.row;have t:=zC6 U;have G:∀u∈[Value.bool g,.slice A m c,.slice D i f],u.oneCell'=true:=by intro u O;simp at O;rcases O with rfl | rfl | rfl<;>rfl
 obtain⟨R,w',y,aa,p,_⟩:=run_append_own (P:=Tryz.prog) w H 37 o.type 35 z _ 3 56 Tryz.underlying37 r I n J rfl (by decide) v qs.length (rcells l) d ⟨b,0,none⟩ 1 1 [.bool g,.slice A m c,.slice D i f] rfl t G (by unfold maxLen;omega) (by omega) L;have Y:R.ownBlock=v.ownBlock∨∀k,R.ownBlock=some k→w.heap.size≤k:=by
  rcases d.2 with ⟨rfl,X⟩ | ⟨g',B,cur,rfl,ah,W,ak,ai,V,al⟩
  ·have h0:rcells l=[]:=List.eq_nil_of_length_eq_zero (by rw[zcC,h1,X]);obtain⟨v2,w2,e,ab,_⟩:=run_append_own (P:=Tryz.prog) w w.heap.size 37 o.type 35 z _ 3 56 Tryz.underlying37 r I n J rfl (by decide) (.slice none 0 0) 0 [] (World.ownsRow_nil _ _ _ _) ⟨b,0,none⟩ 1 1 [.bool g,.slice A m c,.slice D i f] rfl t G (by unfold maxLen;omega) (by omega) (Nat.le_refl _);rw[y]at e;injection e with e1 e2;subst e1;exact .inr fun k hk=>(ab.lt k hk).1
  ·by_cases ad:qs.length+1≤B
   ·have e:=run_append_room (P:=Tryz.prog) w 37 o.type 35 z Tryz.underlying37 r g' qs.length B cur W ⟨b,0,none⟩ 1 1 [.bool g,.slice A m c,.slice D i f] (by rw[n];rfl) t G ad (by rw[n,V];simp;omega);rw[y]at e;injection e with e1 e2;exact .inl (by rw[e1];rfl)
   ·have e:=run_append_grow (P:=Tryz.prog) w 37 o.type 35 z _ Tryz.underlying37 r I ⟨g',0,none⟩ qs.length B (rcells l) (by rw[n];exact d.1) (d.cells (g:=g') rfl) ⟨b,0,none⟩ 1 1 [.bool g,.slice A m c,.slice D i f] (by rw[n];rfl) t (by omega) (by omega) (growslice_fits (by omega) (by rw[J];omega));rw[y]at e;injection e with e1 e2;exact .inr fun k hk=>by rw[e1]at hk;have M:some w.heap.size=some k:=hk;injection M with M;omega
 have C:=VecS.append h1 S d hq aa p;obtain⟨j,n',c',rfl⟩:=C.slice;have F:=C.len;rw[List.length_append]at F;simp only[List.length_cons,List.length_nil,Nat.zero_add]at F;subst F;exact Lib.wp_append_run w s x 37 37 Z v _ hs hx _ w' y (T j c' w' C (TKeep.grown d p) ((Below.refl _ _).grown p L (fun k hk=>(d.lt k hk).1)) (zh3 d p) p.block Y)
theorem VecsL.apart{w w':World}{H:Nat}{v:Value}{l:List Value}{L:List (List Rat)}{ob:Option Nat}(h:VecsL w H v l L)(hk:TKeep 35 w w')(hr:zff w w')(d:∀k,k<w.heap.size→some k≠ob→w'.heap[k]? = w.heap[k]?)(c:∀s∈l,∀g,s.ownBlock=some g→some g≠ob):VecsL w' H v l L:=by
 refine h.keepAll (fun k e=>hk k (h.own.lt k e).2 fun cs b=>za6 h.own b (by decide) e) fun s r f a=>a.keepAll (fun k e=>d k (a.lt e).2 (c s f k e)) fun _ _ _ _ x=>x.keepT hr
theorem zYl{w:World}{b:Nat}{cs:Array Value}{t:TypeId}(c:w.heap[b]? = some (.cells cs t (0,0)))(v0 v1 f g i j l m:Value):TKeep t w ((((((((w.setCell ⟨b,0,none⟩ v0).setCell ⟨b,1,none⟩ v1).setCell ⟨b,2,none⟩ f).setCell ⟨b,3,none⟩ g).setCell ⟨b,4,none⟩ i).setCell ⟨b,5,none⟩ j).setCell ⟨b,6,none⟩ l).setCell ⟨b,7,none⟩ m):=fun k _ d=>by
 have a:k≠b:=fun e=>d cs (by rw[e];exact c)
 rw[Below.heap_setCell _ _ _ _ (by exact a),Below.heap_setCell _ _ _ _ (by exact a),Below.heap_setCell _ _ _ _ (by exact a),Below.heap_setCell _ _ _ _ (by exact a),Below.heap_setCell _ _ _ _ (by exact a),Below.heap_setCell _ _ _ _ (by exact a),Below.heap_setCell _ _ _ _ (by exact a),Below.heap_setCell _ _ _ _ (by exact a)]
def zVJ (w:World) (m N S own:Nat) (A0:List (List Rat)) (b0 c0:List Rat) (left:List Int) (e:Ending) (w':World):Prop:=∃(rA:OA) (rc:Nat) (lA:List Value) (bA:OA) (bc_:Nat) (kA:OA) (kc:Nat) (eA:OA) (ec:Nat) (gA:OA) (gc:Nat),
  e=.returned (.tuple #[.agg #[.slice rA m rc,.int .i64 ((N+m:Nat):Int),.slice bA m bc_,.slice kA (N+m) kc,.int .i64 (own:Int),.slice eA m ec,.slice gA m gc,.int .i64 (N:Int)],.nilIface]) ∧
  StdP w' rA rc lA bA bc_ kA kc eA ec m (N+m) S (zt0 A0 b0) (zwh b0) (zKb m c0) left∧IntsZ w' 0 (.slice gA m gc) (b0.map sgI)∧Below w.heap.size w w'
namespace Pr
theorem pbegin(rA:OA)(rc:Nat)(lA:List Value)(bA:OA)(bc_:Nat)(kA:OA)(kc:Nat)(eA:OA)(ec m N S own:Nat)(j:List (List Rat))(a c0:List Rat)(left:List Int)(w:World)(hS:StdP w rA rc lA bA bc_ kA kc eA ec m N S j a c0 left)(cV:N+m≤64)(hl:left.length=m)(cM:8*S+8≤LIM) :
  Calls Tryz.prog 39 #[.agg #[.slice rA m rc,.int .i64 (N:Int),.slice bA m bc_,.slice kA N kc,.int .i64 (own:Int),.slice eA m ec]] w (zVJ w m N S own j a c0 left):=by
 have aG:=hid hS.blen;have aF:=hid hS.rows.nlen;have fT:=hid hS.clen;have f3:=hid hS.rl;have cC:=hid hS.zA;have cD:=hid hS.zb;have gp:=hid hS.zc;have aU:=hid hS.hS;have cz:=hid cM;have fY:=hid hl;have aY:=hS.hm;have gw:=hS.hN;have m1:(N:Int)+(m:Int)≤64:=by omega
 have m2:¬64<(N:Int)+(m:Int):=by omega
 have m0:m≤9223372036854775807:=by omega
 clear cM hl;obtain⟨W,hW⟩:∃W,((w.alloc (.cells #[.slice rA m rc,.int .i64 (N:Int),.slice bA m bc_,.slice kA N kc,.int .i64 (own:Int),.slice eA m ec] 109)).alloc (.cells #[.slice none 0 0,.int .i64 0,.slice none 0 0,.slice none 0 0,.int .i64 0,.slice none 0 0,.slice none 0 0,.int .i64 0] 113))=W:=⟨_,rfl⟩
 have af:=hid (show W.heap[w.heap.size]? = some (.cells #[.slice rA m rc,.int .i64 (N:Int),.slice bA m bc_,.slice kA N kc,.int .i64 (own:Int),.slice eA m ec] 109 (0,0))by rw[←hW];exact zak (zam (by simp)));have ay:=hid (show W.heap[w.heap.size+1]? = some (.cells #[.slice none 0 0,.int .i64 0,.slice none 0 0,.slice none 0 0,.int .i64 0,.slice none 0 0,.slice none 0 0,.int .i64 0] 113 (0,0))by rw[←hW];exact zam (by simp))
 have BB:=hid (show Below w.heap.size w W by rw[←hW];exact(zae w _).alloc (by simp) _);have HZ:=hid (show w.heap.size+2≤W.heap.size by rw[←hW];simp);have HS:=hid (show StdP W rA rc lA bA bc_ kA kc eA ec m N S j a c0 left by rw[←hW];exact((hS).alloc _).alloc _);obtain⟨jI,jQ,jJ,jC,jZ,kb,mt,l9,mx,md,ie,hZ⟩:=bc6 af.out;obtain⟨j8,j3,kr,jX,j0,kd,kg,jS,kj,km,kH,kv,lO,lm,lh,kW,lR,lr,lj,kY,hD,mM,ho,mi,jg,iS,iH,iv,jm,iZ,jr,iB⟩:=bf8 ay.out;clear hS;go_enter Tryz.func39,Tryz.ntmps39;go_wp2_with fail
 clear hW;have gi:=hid (Bel.mk (Below.refl W.heap.size W));refine zaS (S:=fun w'=>w'.cell? ⟨w.heap.size,0,none⟩=some (.slice rA m rc)∧w'.cell? ⟨w.heap.size,1,none⟩=some (.int .i64 (N:Int))∧w'.cell? ⟨w.heap.size,2,none⟩=some (.slice bA m bc_)∧w'.cell? ⟨w.heap.size,3,none⟩=some (.slice kA N kc)∧w'.cell? ⟨w.heap.size,4,none⟩=some (.int .i64 (own:Int))∧w'.cell? ⟨w.heap.size,5,none⟩=some (.slice eA m ec)) [] (h:=fun hHeld=>?_);refine zaw [0,1,3,4] ?_;repeat refine tkL (hS:=hHeld) (h:=?_)
 refine zao ?_;refine zaB 2 (h:=fun K D=>?_);go_simp
 (go_at_call 87;(with_reducible refine(Mt.rows N m rc rA _).mono ?_);rintro e w1 ⟨rfl,hb⟩;have ev:=hid (zad hb af.out);have eu:=hid (zad hb ay.out);have hj:=hid (gi.out.drew.below hb);obtain⟨jG,jO,jH,jP,jW,j5,mu,mb,my,me,ig,h0⟩:=bc6 ev.out;obtain⟨j4,jM,kn,jU,j9,jB,kk,j1,jT,ke,ks,kl,lP,ln,li,kX,lS,ls,lk,kZ,hE,mO,hp,mj,jh,iU,iI,iw,i3,i1,js,iC⟩:=bf8 eu.out;clear hb)
 (try go_wp2_with fail)
 refine D.out _ _ kp fun hHeld=>?_
 clear D K;try simp only[Act.put,pu1,pu2,pu3,pu4,pu5,pu6]
 refine zaB 5 (h:=fun K D=>?_);go_simp
 (go_at_call 88;(with_reducible refine(Mt.cols N m rc rA _).mono ?_);rintro e d ⟨rfl,hb⟩;have jD:=hid (zad hb ev.out);have j2:=hid (zad hb eu.out);have lE:=hid (hj.out.below hb);obtain⟨jK,jE,jL,jF,kx,kq,lY,lD,lZ,lz,ih,h4⟩:=bc6 jD.out;obtain⟨j6,jN,jR,ka,j7,jA,ko,jV,kf,jY,kI,kw,lo,kV,kT,kF,lu,kO,kU,kG,hG,mP,hq,ml,ji,iV,jn,ix,i4,i2,jt,iD⟩:=bf8 j2.out;clear hb)
 (try go_wp2_with fail)
 refine D.out _ _ kp fun hHeld=>?_
 clear D K;try simp only[Act.put,pu1,pu2,pu3,pu4,pu5,pu6]
 refine zaw [6,7] ?_;repeat refine tkL (hS:=hHeld) (h:=?_)
 refine zao ?_;refine zaM (h:=?_);have am:=hid lE.out.b;go_wp2
 go_loopw [7,43] (fun rv i wr=>∃(k:Nat) (rR:OA) (cR:Nat) (l:List Value) (o:OA) (q:Nat) (A:OA) (z:Nat),i=.int .i64 k∧rv=.slice rR k cR∧k≤m∧wr.heap[d.heap.size]? = some (.cells #[.slice none 0 0,.int .i64 0,.slice o k q,.slice none 0 0,.int .i64 0,.slice none 0 0,.slice A k z,.int .i64 (N:Int)] 113 (0,0))∧VecsL wr W.heap.size (.slice rR k cR) l ((zt0 j a).take k)∧VecS wr W.heap.size (.slice o k q) ((zwh a).take k)∧IntsZ wr W.heap.size (.slice A k z) ((a.map sgI).take k)∧(∀s∈l,∀g,s.ownBlock=some g→some g≠(Value.slice o k q).ownBlock)∧Below W.heap.size W wr)
  (fun _ i _=>m-(intOf i).toNat)
 case atStart=>exact⟨0,none,0,[],none,0,none,0,rfl,rfl,Nat.zero_le _,zal _ _ _,VecsL.nil _ _,VecS.nil _ _,IntsZ.nil _ _,(fun s hs=>by cases hs),am.out.alloc am.out.size _⟩
 case round =>
  obtain⟨k,rR,cR,l,o,q,A,z,rfl,rfl,hk,E,H,F,I,bd,c⟩:=hrel;by_cases be:k<m
  ·obtain⟨L,rfl,_,_⟩:=HS.out.B.has (by omega);have aJ:a[k]? = some (el a k):=zaH (by rw[aG.out];exact be);have aC:j[k]? = some (j.getD k []):=zaO (by rw[←aF.out];exact be);obtain⟨ga,Aa,ma,ca,Da,al,ai,y0,y1,y2,cH⟩:=HS.out.B.at_ aJ;have au:=hid (zUT (b:=a) aC);rw[←aF.out]at au;have a7:=hid (zUU aJ);have a8:=hid (zWK aJ);generalize j.getD k []=r0 at aC au;have fM:=hid aC;have a4:=hid (f3.out r0 (List.mem_of_getElem? aC));have gn:=hid (cC.out r0 (List.mem_of_getElem? aC))
   have gq:=hid (cD.out _ (List.mem_of_getElem? aJ));have HY:=hid (And.intro y0 (And.intro y1 y2));have a5:=hid cH;have aH:=hid (show I64 (sgI (el a k))by rcases zTW (el a k)with e | e<;>rw[e]<;>exact⟨by decide,by decide⟩);have cw:=hid (Nat.le_trans (zu9 _ aH.out) aU.out);have fN:=hid (show((zt0 j a).take k).length=k by rw[List.length_take,zTt,←aF.out];omega);have fR:=hid (show((zwh a).take k).length=k by rw[List.length_take,zUh,aG.out];omega)
   have fV:=hid (show((a.map sgI).take k).length=k by rw[List.length_take,List.length_map,aG.out];omega);have mY:(0:Int)≤(k:Int):=Int.natCast_nonneg _;have mZ:(k:Int)<(m:Int):=by omega
   have gz:=HZ.out;have bh:=am.out.size;have m5:d.heap.size<wr.heap.size:=(Array.getElem?_eq_some_iff.1 E).1;have fO:=hid bd;have fS:=hid (show ∀g,(Value.slice o k q).ownBlock=some g→g<wr.heap.size from fun g e=>(F.lt e).2);have mX:L<W.heap.size:=(HS.out.B.lt rfl).2;clear aJ aC y0 y1 y2 cH bd;have aQ:=hid (zad c af.out);have bD:=hid (HS.out.below c);have aX:=hid (show RatS wr ga (.slice Aa ma ca) (.slice Da al ai) (el a k)from(a5.out.below c))
   have M:=hid (show VecsL wr W.heap.size (.slice rR k cR) l ((zt0 j a).take k)from H);have P:=hid (show VecS wr W.heap.size (.slice o k q) ((zwh a).take k)from F);have Q:=hid (show IntsZ wr W.heap.size (.slice A k z) ((a.map sgI).take k)from I);have J:=hid (show Bel W wr from Bel.mk c);have aR:=hid (BB.out.trans ((c).mono BB.out.size));obtain⟨eQ,ew,eR,ex,fu,fn,dY,fJ,dU,fK,dV,fH⟩:=bc6 aQ.out;have bS:wr.cell? ⟨L,k*3,none⟩=some (.bool ga):=zab c HY.out.1;have gD:=zaa bS
   have bV:wr.cell? ⟨L,k*3+1,none⟩=some (.slice Aa ma ca):=zab c HY.out.2.1;have gJ:=zaa bV;have bX:wr.cell? ⟨L,k*3+2,none⟩=some (.slice Da al ai):=zab c HY.out.2.2;have gO:=zaa bX;have G:=hid E;obtain⟨fd,eU,fo,e3,fe,eV,fg,e4,fj,e6,fh,e5,fs,fa,fp,fb,ft,e9,fq,fc,fF,fC,fz,fx,ek,d5,ee,d8,en,d7,eg,ea⟩:=bf8 G.out;clear E H F I c;have gl:=hid (Bel.mk (Below.refl wr.heap.size wr))
   go_upto_if 52 with (go_at_call 89;(with_reducible refine(Rt.sign ga Aa ma ca Da al ai (el a k) _ aX.out).mono ?_);rintro e u1 ⟨rfl,hb⟩;have a1:=hid (zad hb aQ.out);have a2:=hid (zad hb G.out);have bE:=hid (bD.out.below hb);have ep:=hid (M.out.below hb);have cj:=hid (P.out.below hb);have bQ:=hid (Q.out.below hb);have b2:=hid (J.out.below hb);have g5:=hid (gl.out.below hb);have bT:=hid (aR.out.trans ((hb).mono aR.out.size));obtain⟨eF,ey,eG,ez,fy,fr,fD,fA,fE,fB,dW,fI⟩:=bc6 a1.out;obtain⟨eN,eB,eL,eD,eO,eC,eM,eE,ff,eW,eX,eS,fk,e7,e0,eP,fl,e8,e1,eI,fv,zip,fi,eZ,em,d6,ef,d9,eo,ed,eh,eb⟩:=bf8 a2.out;have bR:=zab hb bS;have gE:=zaa bR;have bU:=zab hb bV;have gK:=zaa bU;have bY:=zab hb bX;have gP:=zaa bY;clear hb)
   go_cut[9] (fun gv wy=>gv=.int .i64 (sgI (el a k))∧wy=u1)
   case first =>
    by_cases ao:el a k<0
    ·have cX:=zrN ao;have cY:=zeh.2 ao;have gy:decide ((el a k).num.sign<0)=true:=decide_eq_true cX;have a6:=hid (show sgI (el a k) = -1 by unfold sgI;rw[if_pos ao]);clear ao;go_wp2;go_meet;exact⟨by rw[a6.out],rfl⟩
    ·have cX:=zrO ao;have cY:¬(el a k).num.sign<0:=by omega
     have m3:¬(el a k).num<0:=fun e=>ao (zeh.1 e)
     have gy:decide ((el a k).num.sign<0)=false:=decide_eq_false cY;have a6:=hid (show sgI (el a k)=1 by unfold sgI;rw[if_neg ao]);clear ao;go_wp2;go_meet;exact⟨by rw[a6.out],rfl⟩
   case rest =>
    obtain⟨rfl,rfl⟩:=hcut;rename World=>u1
    clear jI jQ jJ jC jZ kb mt l9 mx md ie hZ j8 j3 kr jX j0 kd kg jS kj km kH kv lO lm lh kW lR lr lj kY hD mM ho mi jg iS iH iv jm iZ jr iB jG jO jH jP jW j5 mu mb my me ig h0 j4 jM kn jU j9 jB kk j1 jT ke ks kl lP ln li kX lS ls lk kZ hE mO hp mj jh iU iI iw i3 i1 js iC jK jE jL jF kx kq lY lD lZ lz ih h4 j6 jN jR ka j7 jA ko jV kf jY kI kw lo kV kT kF lu kO kU kG hG mP hq ml ji iV jn ix i4 i2 jt iD eQ ew eR ex fu fn dY fJ dU fK dV fH bS gD bV gJ bX gO fd eU fo e3 fe eV fg e4 fj e6 fh e5 fs fa fp fb ft e9 fq fc fF fC fz fx ek d5 ee d8 en d7 eg ea
    go_wp2_with fail
    with_reducible refine(Mt.row N m rc rA lA j 0 k r0 _ bE.out.rows fM.out a4.out gw aY).mono ?_
    rintro e u2 ⟨A3,c3,rfl,hv,hb⟩;have eH:=hid (zad hb a1.out);have eK:=hid (zad hb a2.out);have ic:=hid (bE.out.below hb);have gX:=hid (ep.out.below hb);have gY:=hid (cj.out.below hb);have g1:=hid (bQ.out.below hb);have l1:=hid (b2.out.below hb);have g6:=hid (g5.out.below hb);have f8:=hid (show VecS u2 u1.heap.size (.slice A3 N c3) r0 from hv);have eT:=hid (bT.out.trans ((hb).mono bT.out.size));obtain⟨kt,kh,ku,ki,lM,lC,mc,lV,mf,lW,hw,mB⟩:=bc6 eH.out
    obtain⟨k4,kz,kQ,kC,k5,kB,kR,kD,k8,kM,kS,kE,lp,kN,k6,kK,lv,kP,k7,kL,l0,lB,lK,lg,jj,iW,jo,iy,i5,iJ,ju,iE⟩:=bf8 eK.out;have b3:=zab hb bR;have gF:=zaa b3;have b6:=zab hb bU;have gL:=zaa b6;have b7:=zab hb bY;have gQ:=zaa b7;clear hv hb;go_wp2_with fail
    with_reducible refine(Vc.unit m k aY be _).mono ?_
    rintro e u3 ⟨U,nU,cU,rfl,hv,hb⟩;have eJ:=hid (zad hb eH.out);have fm:=hid (zad hb eK.out);have hc:=hid (ic.out.below hb);have l2:=hid (gX.out.below hb);have gZ:=hid (gY.out.below hb);have g2:=hid (g1.out.below hb);have h5:=hid (l1.out.below hb);have g9:=hid (g6.out.below hb);have gV:=hid (f8.out.below hb);have HU:=hid (show VecS u3 u2.heap.size (.slice U nU cU) (zdL m k)from hv);have fw:=hid (eT.out.trans ((hb).mono eT.out.size));obtain⟨k0,kJ,k3,ky,hJ,mQ,ht,mS,hu,mU,io,im⟩:=bc6 eJ.out
    obtain⟨lx,k9,lF,lb,ly,la,lG,lc,lN,ll,lH,ld,lQ,lq,lI,le,lT,lw,lJ,lf,mg,lX,lU,lL,jk,iX,jp,iz,i6,iK,jv,iF⟩:=bf8 fm.out;have b8:=zab hb b3;have gH:=zaa b8;have cb:=zab hb b6;have gM:=zaa cb;have ci:=zab hb b7;have gR:=zaa ci;obtain rfl:m=nU:=by rw[hv.len,zfM]
    clear hv hb;clear eF ey eG ez fy fr fD fA fE fB dW fI eN eB eL eD eO eC eM eE ff eW eX eS fk e7 e0 eP fl e8 e1 eI fv zip fi eZ em d6 ef d9 eo ed eh eb bR gE bU gK bY gP kt kh ku ki lM lC mc lV mf lW hw mB k4 kz kQ kC k5 kB kR kD k8 kM kS kE lp kN k6 kK lv kP k7 kL l0 lB lK lg jj iW jo iy i5 iJ ju iE b3 gF b6 gL b7 gQ;go_upto_region 14 with fail
    go_cut[7] (fun rv wz=>∃(A5:OA) (c5:Nat) (l5:List Value),rv=.slice A5 (k+1) c5∧wz.heap[d.heap.size]? = some (.cells #[.slice none 0 0,.int .i64 0,.slice o k q,.slice none 0 0,.int .i64 0,.slice none 0 0,.slice A k z,.int .i64 (N:Int)] 113 (0,0))∧VecsL wz W.heap.size (.slice A5 (k+1) c5) l5 ((zt0 j a).take (k+1))∧VecS wz W.heap.size (.slice o k q) ((zwh a).take k)∧IntsZ wz W.heap.size (.slice A k z) ((a.map sgI).take k)∧(∀s∈l5,∀g,s.ownBlock=some g→some g≠(Value.slice o k q).ownBlock)∧Below W.heap.size W wz)
    case first=>as_aux_lemma =>
     go_wp2_with fail
     with_reducible refine(Rt.int (sgI (el a k)) aH.out.1 aH.out.2 _).mono ?_
     rintro e u4 ⟨g4,x,m4,y,D4,md4,cd4,rfl,hn,hb⟩;have aw:=hid (zad hb eJ.out);have aT:=hid (zad hb fm.out);have aP:=hid (hc.out.below hb);have hH:=hid (l2.out.below hb);have g0:=hid (gZ.out.below hb);have g3:=hid (g2.out.below hb);have dZ:=hid (h5.out.below hb);have ha:=hid (g9.out.below hb);have gW:=hid (gV.out.below hb);have he:=hid (HU.out.below hb);have HM:=hid (show RatS u4 g4 (.slice x m4 y) (.slice D4 md4 cd4) ((sgI (el a k):Int):Rat)from hn)
     have aE:=hid (fw.out.trans ((hb).mono fw.out.size));obtain⟨b4,bZ,b5,b1,bC,cr,br,cs,bs,ck,bM,bG⟩:=bc6 aw.out;obtain⟨bt,cl,bl,cc,bu,cm,bm,cd,bv,cn,bn,ce,bw,co,bo,cf,bx,cp,bp,cg,bz,cq,bq,ch,bO,bH,bJ,bN,bP,bI,bK,bL⟩:=bf8 aT.out;have aS:=zab hb b8;have dK:=zaa aS;have aN:=zab hb cb;have dL:=zaa aN;have aO:=zab hb ci;have dM:=zaa aO;clear hn hb;go_wp2_with fail
     with_reducible refine(Vc.scaleS S cz.out g4 x m4 y D4 md4 cd4 ((sgI (el a k):Int):Rat) A3 N c3 r0 u1.heap.size _ gW.out HM.out (by omega) gn.out cw.out).mono ?_
     rintro e u5 ⟨T5,n5,c5,rfl,hv,hb⟩;obtain rfl:N=n5:=by rw[hv.len,zfH,a4.out]
     have f5:=hid hv;have cv:=hid hb;have f7:=hid (he.out.below hb);have gm:=hid dZ.out.b.size;have f4:=hid (show wr.heap.size≤u4.heap.size from ha.out.b.size);clear hv hb
     go_wp2_with (at_builtin;first | (refine zSO rfl _ _ rfl rfl f5.out rfl f7.out (N:=N+m) (by rw[zfH,a4.out]) (by omega) cv.out.size ?_;intro T V u6 bf aK aI;have X:=hid (cv.out.trans aI);have fL:=hid (show ∀g,(Value.slice T (N+m) V).ownBlock=some g→u4.heap.size≤g from fun g e=>(bf.lt e).1);have b9:=hid (zad X.out aw.out);have aZ:=hid (zad X.out aT.out);have hd:=hid (aP.out.below X.out);have eq:=hid (hH.out.below X.out);have er:=hid (g0.out.below X.out);have es:=hid (g3.out.below X.out);have bF:=hid (dZ.out.below X.out);have gb:=hid (show VecS u6 W.heap.size (.slice T (N+m) V) (scale ((sgI (el a k):Int):Rat) r0++zdL m k)from(bf.base gm.out));have ii:=hid (aE.out.trans ((X.out).mono aE.out.size));obtain⟨l3,l6,l7,l8,ms,mR,mv,mT,mz,mA,iu,ip⟩:=bc6 b9.out;obtain⟨hx,mD,h6,hM,hy,mF,h7,hP,hz,mH,h8,hQ,hA,mJ,h9,hU,hC,mL,ia,hV,ij,hY,ib,hX,jl,iY,jq,iA,i7,iL,jw,iG⟩:=bf8 aZ.out;have mh:=zab X.out aS;have nl:=zaa mh;have hL:=zab X.out aN;have np:=zaa hL;have hR:=zab X.out aO;have nt:=zaa hR;clear bf aK aI) | (refine zbW rfl _ _ rfl rfl (eq.out.alloc _) rfl (zal _ _ _) (gb.out.alloc _) (n:=k) fN.out (by omega) (by have:=bF.out.b.size;simp;omega) ?_;intro A7 c7 u7 cF cO cK gu;have fX:=hid cF;have a3:=hid cO;have aV:=hid cK;clear cF cO cK gu))
     go_meet
     case rel=>exact⟨A7,c7,_,rfl,a3.out.blk (zak aZ.out) (by decide),by rw[au.out];exact fX.out,(er.out.alloc _).tk a3.out (by decide) (by decide),(es.out.alloc _).tk a3.out (by decide),(fun s hs g e=>(List.mem_append.1 hs).elim (fun h=>fO.out s h g e) fun h=>by rw[List.mem_singleton.1 h]at e;intro e2;have h1:=fL.out g e;have h2:=fS.out g e2.symm;have h3:=f4.out;omega),(bF.out.alloc _).b.trans aV.out⟩
    case rest =>
     obtain⟨A5,c5,l5,rfl,E,H,F,I,cJ,c⟩:=hcut;have ct:=hid cJ;clear cJ;rename World=>wz
     have aw:=hid (zad c af.out);have aP:=hid (HS.out.below c);have aX:=hid (show RatS wz ga (.slice Aa ma ca) (.slice Da al ai) (el a k)from(a5.out.below c));have M:=hid (show VecsL wz W.heap.size (.slice A5 (k+1) c5) l5 ((zt0 j a).take (k+1))from H);have P:=hid (show VecS wz W.heap.size (.slice o k q) ((zwh a).take k)from F);have Q:=hid (show IntsZ wz W.heap.size (.slice A k z) ((a.map sgI).take k)from I);have J:=hid (show Bel W wz from Bel.mk c)
     have aE:=hid (BB.out.trans ((c).mono BB.out.size));obtain⟨b4,bZ,b5,b1,bC,cr,br,cs,bs,ck,bM,bG⟩:=bc6 aw.out;have aS:wz.cell? ⟨L,k*3,none⟩=some (.bool ga):=zab c HY.out.1;have dK:=zaa aS;have aN:wz.cell? ⟨L,k*3+1,none⟩=some (.slice Aa ma ca):=zab c HY.out.2.1;have dL:=zaa aN;have aO:wz.cell? ⟨L,k*3+2,none⟩=some (.slice Da al ai):=zab c HY.out.2.2;have dM:=zaa aO;have G:=hid E;obtain⟨bt,cl,bl,cc,bu,cm,bm,cd,bv,cn,bn,ce,bw,co,bo,cf,bx,cp,bp,cg,bz,cq,bq,ch,bO,bH,bJ,bN,bP,bI,bK,bL⟩:=bf8 G.out
     clear E H F I c;go_upto_region 15 with fail
     go_cut[] (fun wy=>∃(T:OA) (V:Nat),wy.heap[d.heap.size]? = some (.cells #[.slice none 0 0,.int .i64 0,.slice o k q,.slice none 0 0,.int .i64 0,.slice none 0 0,.slice T (k+1) V,.int .i64 (N:Int)] 113 (0,0))∧VecsL wy W.heap.size (.slice A5 (k+1) c5) l5 ((zt0 j a).take (k+1))∧VecS wy W.heap.size (.slice o k q) ((zwh a).take k)∧IntsZ wy W.heap.size (.slice T (k+1) V) ((a.map sgI).take (k+1))∧Below W.heap.size W wy)
     case first=>as_aux_lemma =>
      go_wp2_with (at_builtin;refine zfS rfl _ _ rfl rfl (Q.out.alloc (.cells #[.int .i64 (sgI (el a k))] 3)) rfl (zal _ _ _) (n:=k) fV.out (by omega) (by have:=J.out.b.size;simp;omega) ?_;intro T V v6 cE aK aI;have fW:=hid cE;have cx:=hid aK;have fP:=hid ((J.out.alloc _).b.trans aI);have KS:=hid (aK.blk (zak G.out) (by decide));obtain⟨o0,db,dr,ds,o1,dd,of1,dt,o2,df,du,dv,o3,dh,dw,dx,o4,dj,dy,dz,o5,dl,dA,dB,o6,dn,dC,dD,o7,dq,dE,dF⟩:=bf8 KS.out;clear cE aK aI)
      go_meet;have f:TKeep 113 v6 (v6.setCell ⟨d.heap.size,6,none⟩ (.slice T (k+1) V)):=TKeep.set KS.out _
      case rel=>exact⟨T,V,zar _ KS.out,((M.out.alloc _).tk cx.out (by decide) (by decide) (by decide)).tk f (by decide) (by decide) (by decide),((P.out.alloc _).tk cx.out (by decide) (by decide)).tk f (by decide) (by decide),by rw[a8.out];exact fW.out.tk f (by decide),fP.out.setCell (p:=⟨d.heap.size,6,none⟩) am.out.size _⟩
     case rest =>
      obtain⟨T,V,E,H,F,I,c⟩:=hcut;rename World=>wy
      have d0:=hid (zad c af.out);have aX:=hid (show RatS wy ga (.slice Aa ma ca) (.slice Da al ai) (el a k)from(a5.out.below c));have M:=hid (show VecsL wy W.heap.size (.slice A5 (k+1) c5) l5 ((zt0 j a).take (k+1))from H);have P:=hid (show VecS wy W.heap.size (.slice o k q) ((zwh a).take k)from F);have Q:=hid (show IntsZ wy W.heap.size (.slice T (k+1) V) ((a.map sgI).take (k+1))from I);have J:=hid (show Bel W wy from Bel.mk c);obtain⟨sr,sD,su,sG,pO,nF,pT,nL,pY,nR,pH,nY⟩:=bc6 d0.out
      have hf:wy.cell? ⟨L,k*3,none⟩=some (.bool ga):=zab c HY.out.1;have gC:=zaa hf;have hg:wy.cell? ⟨L,k*3+1,none⟩=some (.slice Aa ma ca):=zab c HY.out.2.1;have gI:=zaa hg;have hh:wy.cell? ⟨L,k*3+2,none⟩=some (.slice Da al ai):=zab c HY.out.2.2;have gN:=zaa hh;have G:=hid E;obtain⟨sx,sJ,th,s3,sA,sM,ti,s4,s0,s8,tj,s5,s1,s9,tl,s6,s2,ta,tm,s7,qq,nD,ph,uz,qv,oz,pn,tL,qA,oE,pt,tR⟩:=bf8 G.out;clear E H F I c
      clear k0 kJ k3 ky hJ mQ ht mS hu mU io im lx k9 lF lb ly la lG lc lN ll lH ld lQ lq lI le lT lw lJ lf mg lX lU lL jk iX jp iz i6 iK jv iF b8 gH cb gM ci gR b4 bZ b5 b1 bC cr br cs bs ck bM bG aS dK aN dL aO dM bt cl bl cc bu cm bm cd bv cn bn ce bw co bo cf bx cp bp cg bz cq bq ch bO bH bJ bN bP bI bK bL;go_wp2_with fail
      have L1:=hid (show 4*(mw ((sgI (el a k):Int):Rat)+mw (el a k))+8≤LIM by have:=cw.out;have:=gq.out;have:=cz.out;omega)
      refine za2 (S:=fun w'=>w'.cell? ⟨w.heap.size,0,none⟩=some (.slice rA m rc)∧w'.cell? ⟨w.heap.size,1,none⟩=some (.int .i64 (N:Int))∧w'.cell? ⟨w.heap.size,2,none⟩=some (.slice (some ⟨L,0,none⟩) m bc_)∧w'.cell? ⟨w.heap.size,3,none⟩=some (.slice kA N kc)∧w'.cell? ⟨w.heap.size,4,none⟩=some (.int .i64 (own:Int))∧w'.cell? ⟨w.heap.size,5,none⟩=some (.slice eA m ec)∧w'.cell? ⟨d.heap.size,0,none⟩=some (.slice none 0 0)∧w'.cell? ⟨d.heap.size,1,none⟩=some (.int .i64 0)∧w'.cell? ⟨d.heap.size,2,none⟩=some (.slice o k q)∧w'.cell? ⟨d.heap.size,3,none⟩=some (.slice none 0 0)∧w'.cell? ⟨d.heap.size,4,none⟩=some (.int .i64 0)∧w'.cell? ⟨d.heap.size,5,none⟩=some (.slice none 0 0)∧w'.cell? ⟨d.heap.size,6,none⟩=some (.slice T (k+1) V)∧w'.cell? ⟨d.heap.size,7,none⟩=some (.int .i64 (N:Int))∧w'.cell? ⟨L,k*3,none⟩=some (.bool ga)∧w'.cell? ⟨L,k*3+1,none⟩=some (.slice Aa ma ca)∧w'.cell? ⟨L,k*3+2,none⟩=some (.slice Da al ai)) 15 (h:=fun hHeld=>?_)
      refine zaw [0,1,2,3,5,6,7,8,9] ?_;repeat refine tkE (hS:=hHeld) (h:=?_)
      refine zao ?_;refine zaN 4 (h:=fun K D=>?_);go_simp
      (go_at_call 19;(with_reducible refine(Rt.int (sgI (el a k)) aH.out.1 aH.out.2 _).mono ?_);rintro e v1 ⟨g7,A7,m7,c7,D7,md7,cd7,rfl,hn,hb⟩;have d3:=hid (zad hb d0.out);have d4:=hid (zad hb G.out);have jx:=hid (aX.out.drew.below hb);have jz:=hid (M.out.drew.below hb);have i9:=hid (P.out.drew.below hb);have jd:=hid (Q.out.drew.below hb);have gT:=hid (J.out.drew.below hb);have f0:=hid (show RatS v1 g7 (.slice A7 m7 c7) (.slice D7 md7 cd7) ((sgI (el a k):Int):Rat)from hn);obtain⟨ss,sE,sv,sH,pP,nG,pU,nM,pZ,nS,pI,nZ⟩:=bc6 d3.out;obtain⟨sy,sK,tt,tn,sB,sN,tu,tp,tb,te,tv,tq,tc,tf,tw,tr,td,tg,tx,ts,qr,ov,pi,uA,qw,oA,po,tM,qB,oF,pu,tS⟩:=bf8 d4.out;have dO:=zab hb gC;have nj:=zaa dO;have dQ:=zab hb gI;have nm:=zaa dQ;have dS:=zab hb gN;have nr:=zaa dS;clear hn hb)
      (try go_wp2_with fail)
      refine D.out _ _ kp fun hHeld=>?_
      clear D K;try simp only[Act.put,pu1,pu2,pu3,pu4,pu5,pu6]
      refine zaN 10 (h:=fun K D=>?_);go_simp
      (go_at_call 21;(with_reducible refine(Rt.mul g7 A7 m7 c7 D7 md7 cd7 ((sgI (el a k):Int):Rat) ga Aa ma ca Da al ai (el a k) _ f0.out jx.out L1.out).mono ?_);rintro e v2 ⟨g8,t,m8,u,D8,md8,cd8,rfl,hn,hb⟩;have jf:=hid (zad hb d3.out);have ej:=hid (zad hb d4.out);have ei:=hid (jz.out.below hb);have ja:=hid (i9.out.below hb);have je:=hid (jd.out.below hb);have et:=hid (gT.out.below hb);have f1:=hid (show RatS v2 g8 (.slice t m8 u) (.slice D8 md8 cd8) (((sgI (el a k):Int):Rat)*el a k)from hn);obtain⟨iM,n6,iN,n7,iO,nH,iP,nN,iQ,nT,iR,n0⟩:=bc6 jf.out;obtain⟨pJ,n1,op,uj,pK,n2,ot,um,qh,nu,oc,uq,qk,nx,og,ut,qn,nA,oj,uw,qs,ow,pj,uB,qx,oB,pp,tN,qC,oG,pv,tT⟩:=bf8 ej.out;have dP:=zab hb dO;have nk:=zaa dP;have dR:=zab hb dQ;have nn:=zaa dR;have dT:=zab hb dS;have ns:=zaa dT;clear hn hb)
      (try go_wp2_with fail)
      refine D.out _ _ kp fun hHeld=>?_
      clear D K;try simp only[Act.put,pu1,pu2,pu3,pu4,pu5,pu6]
      refine zaN 11 (h:=fun K D=>?_);go_simp;refine D.out _ _ kp fun hHeld=>?_
      clear D K;try simp only[Act.put,pu1,pu2,pu3,pu4,pu5,pu6]
      refine zaN 12 (h:=fun K D=>?_)
      ((refine zTC (by rfl) _ _ (by rfl) (by rfl) (ja.out.alloc _) (by rfl) (zal _ _ _) (f1.out.alloc _) (N:=k) fR.out (by omega) (by have:=et.out.b.size;simp;omega) ?_);intro O R v9 cI aL Y cW cQ cT;have gd:=hid cI;have mV:=hid aL;have fQ:=hid ((et.out.alloc _).b.trans Y);have ba:=hid (aL.blk (zak ej.out) (by decide));have ge:=hid ((ei.out.alloc _).apart aL cW cQ ct.out);have gf:=hid ((je.out.alloc _).tk aL (by decide));have f2:=hid cT;have gh:=hid (show ∀s∈l5,∀g,s.ownBlock=some g→g<v2.heap.size from fun s hs g e=>(ei.out.lt hs e).2);obtain⟨o0,db,dr,ds,o1,dd,of1,dt,o2,df,du,dv,o3,dh,dw,dx,o4,dj,dy,dz,o5,dl,dA,dB,o6,dn,dC,dD,o7,dq,dE,dF⟩:=bf8 ba.out;have t0:=zKh Y (show w.heap.size<W.heap.size by omega) (cell_al (ob:=.cells #[.bool g8,.slice t m8 u,.slice D8 md8 cd8] 35) iM);have t1:=zKh Y (show w.heap.size<W.heap.size by omega) (cell_al (ob:=.cells #[.bool g8,.slice t m8 u,.slice D8 md8 cd8] 35) iN);have t2:=zKh Y (show w.heap.size<W.heap.size by omega) (cell_al (ob:=.cells #[.bool g8,.slice t m8 u,.slice D8 md8 cd8] 35) iO);have t3:=zKh Y (show w.heap.size<W.heap.size by omega) (cell_al (ob:=.cells #[.bool g8,.slice t m8 u,.slice D8 md8 cd8] 35) iP);have t4:=zKh Y (show w.heap.size<W.heap.size by omega) (cell_al (ob:=.cells #[.bool g8,.slice t m8 u,.slice D8 md8 cd8] 35) iQ);have t5:=zKh Y (show w.heap.size<W.heap.size by omega) (cell_al (ob:=.cells #[.bool g8,.slice t m8 u,.slice D8 md8 cd8] 35) iR);have t6:=zKh Y (show L<W.heap.size by omega) (cell_al (ob:=.cells #[.bool g8,.slice t m8 u,.slice D8 md8 cd8] 35) dP);have t7:=zKh Y (show L<W.heap.size by omega) (cell_al (ob:=.cells #[.bool g8,.slice t m8 u,.slice D8 md8 cd8] 35) dR);have t8:=zKh Y (show L<W.heap.size by omega) (cell_al (ob:=.cells #[.bool g8,.slice t m8 u,.slice D8 md8 cd8] 35) dT);clear cI aL Y cW cQ cT)
      refine D.out _ _ kp fun hHeld=>?_
      clear D K;try simp only[Act.put,pu1,pu2,pu3,pu4,pu5,pu6]
      refine zfQ (i:=13) (v:=?_) rfl (by kernel_rfl) (fun _ _ _ h=>h) (Or.inl ⟨by rfl,?_⟩) ?_
      rotate_left
      ·((intro w gt;(try dsimp only at gt);go_simp);(try with_reducible rfl))
      try simp only[Act.put,pu1,pu2,pu3,pu4,pu5,pu6]
      refine zaw [14] ?_;repeat refine tkE (hS:=hHeld) (h:=?_)
      refine zao ?_;refine zba (h:=fun K D=>?_);go_simp;refine D.out _ _ ?_;clear D K;try simp only[Act.put,pu1,pu2,pu3,pu4,pu5,pu6]
      refine za1 (h:=?_)
      all_goals
       go_wp2;go_roundw
       have f:TKeep 113 v9 (v9.setCell ⟨d.heap.size,2,none⟩ (.slice O (k+1) R)):=TKeep.set ba.out _
       case rel=>exact⟨k+1,A5,c5,l5,O,R,T,V,by go_num,rfl,by omega,zar _ ba.out,ge.out.tk f (by decide) (by decide) (by decide),by rw[a7.out];exact gd.out.tk f (by decide) (by decide),gf.out.tk f (by decide),(fun s hs g e=>f2.out.elim (fun h=>by rw[h];exact ct.out s hs g e) fun h e2=>by have h1:=h g e2.symm;have h2:=gh.out s hs g e;simp at h1;omega),fQ.out.setCell (p:=⟨d.heap.size,2,none⟩) am.out.size _⟩
       case measure=>simp[intOf];omega
  ·obtain rfl:m=k:=by omega
   have au:=hid (show(zt0 j a).take m=zt0 j a by rw[List.take_of_length_le];rw[zTt,←aF.out];omega);have a7:=hid (show(zwh a).take m=zwh a by rw[List.take_of_length_le];rw[zUh,aG.out];omega);have a8:=hid (show(a.map sgI).take m=a.map sgI by rw[List.take_of_length_le];rw[List.length_map,aG.out];omega);have cu:=hid (show ∀r∈(zt0 j a).take m,r.length=N+m by
    rw[au.out];intro r hr;obtain⟨i,hi⟩:=List.mem_iff_getElem?.1 hr;have h:=(zSV (b:=a) HS.out.rect).row i (by have:=(List.getElem?_eq_some_iff.1 hi).1;rw[zTt,←aF.out]at this;exact this);rw[List.getD_eq_getElem?_getD,hi]at h;exact h)
   have gz:=HZ.out;clear bd;have aQ:=hid (zad c af.out);have eY:=hid (zad c ay.out);have bD:=hid (HS.out.below c);have M:=hid (show VecsL wr W.heap.size (.slice rR m cR) l ((zt0 j a).take m)from H);have P:=hid (show VecS wr W.heap.size (.slice o m q) (zwh a)from(by have h:=F;rw[a7.out]at h;exact h));have Q:=hid (show IntsZ wr W.heap.size (.slice A m z) (a.map sgI)from(by have h:=I;rw[a8.out]at h;exact h));have J:=hid (show Bel W wr from Bel.mk c)
   have aR:=hid (BB.out.trans ((c).mono BB.out.size));obtain⟨eQ,ew,eR,ex,fu,fn,dY,fJ,dU,fK,dV,fH⟩:=bc6 aQ.out;obtain⟨fd,eU,fo,e3,fe,eV,fg,e4,fj,e6,fh,e5,fs,fa,fp,fb,ft,e9,fq,fc,fF,fC,fz,fx,ek,d5,ee,d8,en,d7,eg,ea⟩:=bf8 eY.out;have G:=hid E;obtain⟨vd,u0,vj,vg,ve,u8,vk,vh,vf,u9,vl,vi,vm,va,q2,vv,vn,vb,qV,vx,vo,vc,qX,vq,qE,p4,qM,oY,qI,qb,qQ,pd⟩:=bf8 G.out;clear E H F I c;go_upto_region 18 with fail
   go_cut[] (fun wy=>∃(x:OA) (y:Nat) (Z:List Value),wy.heap[d.heap.size]? = some (.cells #[.slice x m y,.int .i64 ((N+m:Nat):Int),.slice o m q,.slice none 0 0,.int .i64 0,.slice none 0 0,.slice A m z,.int .i64 (N:Int)] 113 (0,0))∧VecsL wy W.heap.size (.slice x m y) Z (zt0 j a)∧VecS wy W.heap.size (.slice o m q) (zwh a)∧IntsZ wy W.heap.size (.slice A m z) (a.map sgI)∧Below W.heap.size W wy)
   case first=>as_aux_lemma =>
    go_wp2_with fail
    rw[show(N:Int)+(m:Int)=((N+m:Nat):Int)by simp];with_reducible refine(Mt.of m (N+m) aY cV rR cR l ((zt0 j a).take m) W.heap.size _ M.out cu.out).mono ?_
    rintro e v5 ⟨x,y,Z,rfl,hv4,ha4,hb⟩;have a1:=hid (zad hb aQ.out);have a2:=hid (zad hb eY.out);have bW:=hid (zad hb G.out);have bE:=hid (bD.out.below hb);have ep:=hid (M.out.below hb);have cj:=hid (P.out.below hb);have bQ:=hid (Q.out.below hb);have b2:=hid (J.out.below hb);have f9:=hid (show VecsL v5 wr.heap.size (.slice x m y) Z (zt0 j a)from(by have h:=hv4;rw[au.out]at h;exact h));have bT:=hid (aR.out.trans ((hb).mono aR.out.size));obtain⟨eF,ey,eG,ez,fy,fr,fD,fA,fE,fB,dW,fI⟩:=bc6 a1.out
    obtain⟨eN,eB,eL,eD,eO,eC,eM,eE,ff,eW,eX,eS,fk,e7,e0,eP,fl,e8,e1,eI,fv,zip,fi,eZ,em,d6,ef,d9,eo,ed,eh,eb⟩:=bf8 a2.out;obtain⟨uQ,uC,uM,uE,uR,uD,uI,uF,uT,uH,uS,uG,uZ,uJ,uW,uN,uU,uK,uX,uO,uV,uL,uY,uP,qF,p5,qN,oZ,qJ,qc,qR,pe⟩:=bf8 bW.out;clear hv4 ha4 hb;have c2:=am.out.size;have bg:=J.out.b.size;go_wp2;go_meet;have f:=zBa bW.out (.slice x m y) (.int .i64 ((N+m:Nat):Int))
    case rel=>exact⟨x,y,Z,zar _ (zar _ bW.out),(f9.out.base bg).tk f (by decide) (by decide) (by decide),cj.out.tk f (by decide) (by decide),bQ.out.tk f (by decide),(b2.out.b.setCell (p:=⟨d.heap.size,0,none⟩) c2 _).setCell (p:=⟨d.heap.size,1,none⟩) c2 _⟩
   case rest =>
    obtain⟨x,y,Z,E,H,F,I,c⟩:=hcut;rename World=>wa
    have aw:=hid (zad c af.out);have aT:=hid (zad c ay.out);have aP:=hid (HS.out.below c);have M:=hid (show VecsL wa W.heap.size (.slice x m y) Z (zt0 j a)from H);have P:=hid (show VecS wa W.heap.size (.slice o m q) (zwh a)from F);have Q:=hid (show IntsZ wa W.heap.size (.slice A m z) (a.map sgI)from I);have J:=hid (show Bel W wa from Bel.mk c);have aE:=hid (BB.out.trans ((c).mono BB.out.size));obtain⟨b4,bZ,b5,b1,bC,cr,br,cs,bs,ck,bM,bG⟩:=bc6 aw.out
    obtain⟨bt,cl,bl,cc,bu,cm,bm,cd,bv,cn,bn,ce,bw,co,bo,cf,bx,cp,bp,cg,bz,cq,bq,ch,bO,bH,bJ,bN,bP,bI,bK,bL⟩:=bf8 aT.out;have G:=hid E;obtain⟨q5,vD,qZ,vs,q6,vy,q0,vt,q7,vz,q1,vu,q8,vA,qU,vw,q3,vB,qW,vp,q4,vC,qY,vr,qG,p6,qO,o8,qK,qd,qS,pf⟩:=bf8 G.out;clear E H F I c;go_upto_region 19 with fail
    go_cut[] (fun wy=>∃(t:OA) (u:Nat),wy.heap[d.heap.size]? = some (.cells #[.slice x m y,.int .i64 ((N+m:Nat):Int),.slice o m q,.slice t (N+m) u,.int .i64 0,.slice none 0 0,.slice A m z,.int .i64 (N:Int)] 113 (0,0))∧VecsL wy W.heap.size (.slice x m y) Z (zt0 j a)∧VecS wy W.heap.size (.slice o m q) (zwh a)∧IntsZ wy W.heap.size (.slice A m z) (a.map sgI)∧VecS wy W.heap.size (.slice t (N+m) u) (zKb m c0)∧Below W.heap.size W wy)
    case first=>as_aux_lemma =>
     go_wp2_with fail
     with_reducible refine(Vc.copy kA N kc c0 0 _ aP.out.C (by omega)).mono ?_
     rintro e v5 ⟨A7,c7,rfl,hv7,hb⟩;have b9:=hid (zad hb aw.out);have aZ:=hid (zad hb aT.out);have dX:=hid (zad hb G.out);have hd:=hid (aP.out.below hb);have eq:=hid (M.out.below hb);have er:=hid (P.out.below hb);have es:=hid (Q.out.below hb);have bF:=hid (J.out.below hb);have fU:=hid (show VecS v5 wa.heap.size (.slice A7 N c7) c0 from hv7);have ii:=hid (aE.out.trans ((hb).mono aE.out.size));obtain⟨l3,l6,l7,l8,ms,mR,mv,mT,mz,mA,iu,ip⟩:=bc6 b9.out
     obtain⟨hx,mD,h6,hM,hy,mF,h7,hP,hz,mH,h8,hQ,hA,mJ,h9,hU,hC,mL,ia,hV,ij,hY,ib,hX,jl,iY,jq,iA,i7,iL,jw,iG⟩:=bf8 aZ.out;obtain⟨rM,rx,rE,rr,rN,ry,rF,rs,rO,rI,rG,rt,rP,rJ,rH,ru,rQ,rK,rC,rm,rS,rL,rD,rn,qH,p7,qP,o9,qL,qe,qT,pg⟩:=bf8 dX.out;have aV:=hid hb;have gj:=hid J.out.b.size;clear hv7 hb
     go_wp2_with (at_builtin;go_loud (refine zb3 rfl _ _ rfl rfl fU.out rfl (n:=m) rfl (N:=N+m) (by rw[fT.out]) (by omega) aV.out.size ?_;intro t u v8 cZ cP cL;have gc:=hid cZ;have aW:=hid (aV.out.trans cL);have KS:=hid (cP.blk dX.out (by decide));obtain⟨o0,db,dr,ds,o1,dd,of1,dt,o2,df,du,dv,o3,dh,dw,dx,o4,dj,dy,dz,o5,dl,dA,dB,o6,dn,dC,dD,o7,dq,dE,dF⟩:=bf8 KS.out;clear cZ cP cL))
     go_meet;have f:TKeep 113 v8 (v8.setCell ⟨d.heap.size,3,none⟩ (.slice t (N+m) u)):=TKeep.set KS.out _
     case rel=>exact⟨t,u,zar _ KS.out,(M.out.below aW.out).tk f (by decide) (by decide) (by decide),(P.out.below aW.out).tk f (by decide) (by decide),(Q.out.below aW.out).tk f (by decide),by unfold zKb;exact(gc.out.base gj.out).tk f (by decide) (by decide),(J.out.below aW.out).b.setCell (p:=⟨d.heap.size,3,none⟩) am.out.size _⟩
    case rest =>
     obtain⟨t,u,E,H,F,I,aM,c⟩:=hcut;rename World=>wb
     have d1:=hid (zad c af.out);have d2:=hid (zad c ay.out);have gU:=hid (HS.out.below c);have M:=hid (show VecsL wb W.heap.size (.slice x m y) Z (zt0 j a)from H);have P:=hid (show VecS wb W.heap.size (.slice o m q) (zwh a)from F);have Q:=hid (show IntsZ wb W.heap.size (.slice A m z) (a.map sgI)from I);have a9:=hid (show VecS wb W.heap.size (.slice t (N+m) u) (zKb m c0)from aM);have J:=hid (show Bel W wb from Bel.mk c);obtain⟨sq,sC,st,sF,pL,n8,pQ,nI,pV,nO,p0,nV⟩:=bc6 d1.out
     obtain⟨sw,sI,om,uh,sz,sL,oq,uk,qf,n3,ou,uo,qi,nv,od,ur,ql,ny,oh,uu,qo,nB,ok,ux,qt,ox,pk,tI,qy,oC,pq,tO⟩:=bf8 d2.out;have G:=hid E;obtain⟨se,sO,pw,tU,sg,sQ,pz,tX,si,sS,pC,t9,sU,sk,pF,uc,sW,sm,oP,uf,sY,so,oS,tz,qD,oH,oV,tC,p8,oK,pa,tF⟩:=bf8 G.out;clear E H F I aM c;have bh:=am.out.size;go_upto_region 20 with fail
     go_cut[] (fun wy=>∃(O:OA) (R:Nat),wy.heap[d.heap.size]? = some (.cells #[.slice x m y,.int .i64 ((N+m:Nat):Int),.slice o m q,.slice t (N+m) u,.int .i64 (own:Int),.slice O m R,.slice A m z,.int .i64 (N:Int)] 113 (0,0))∧VecsL wy W.heap.size (.slice x m y) Z (zt0 j a)∧VecS wy W.heap.size (.slice o m q) (zwh a)∧IntsZ wy W.heap.size (.slice A m z) (a.map sgI)∧VecS wy W.heap.size (.slice t (N+m) u) (zKb m c0)∧IntsZ wy W.heap.size (.slice O m R) left∧Below W.heap.size W wy)
     case first=>as_aux_lemma =>
      go_wp2_with fail
      go_region_held3 (fun w'=>w'.cell? ⟨w.heap.size,0,none⟩=some (.slice rA m rc)∧w'.cell? ⟨w.heap.size,1,none⟩=some (.int .i64 (N:Int))∧w'.cell? ⟨w.heap.size,2,none⟩=some (.slice bA m bc_)∧w'.cell? ⟨w.heap.size,3,none⟩=some (.slice kA N kc)∧w'.cell? ⟨w.heap.size,4,none⟩=some (.int .i64 (own:Int))∧w'.cell? ⟨w.heap.size,5,none⟩=some (.slice eA m ec))
       (((try go_split_ands);(try simp only[World.cell?_drew]);(repeat' apply And.intro)<;>(repeat(first | with_reducible assumption | with_reducible refine cell_set (by omega) ?_ | with_reducible refine cell_al ?_))))
       (first
        | (go_at_call 92;(with_reducible refine(Sl.clone eA m ec left 0 _ gU.out.drew.left (by omega)).mono ?_);rintro e v1 ⟨O,R,rfl,hv9,hb⟩;have ik:=hid (zad hb d1.out);have il:=hid (zad hb d2.out);have a0:=hid (zad hb G.out);have jy:=hid (M.out.drew.below hb);have i8:=hid (P.out.drew.below hb);have jc:=hid (Q.out.drew.below hb);have jb:=hid (a9.out.drew.below hb);have gS:=hid (J.out.drew.below hb);have cy:=hid (show IntsZ v1 wb.heap.size (.slice O left.length R) left from hv9);obtain⟨r8,rX,r9,rY,pM,n9,pR,nJ,pW,nP,p1,nW⟩:=bc6 ik.out;obtain⟨sa,rZ,oo,ui,sb,r1,os,ul,qg,n4,oa,up,qj,nw,oe,us,qm,nz,oi,uv,qp,nC,ol,uy,qu,oy,pl,tJ,qz,oD,pr,tP⟩:=bf8 il.out;obtain⟨sc,r2,px,tV,sd,r3,pA,tY,rT,r4,pD,ua,rU,r5,oN,ud,rV,r6,oQ,ug,rW,r7,oT,tA,p2,oI,oW,tD,p9,oL,pb,tG⟩:=bf8 a0.out;clear hv9 hb)
        | fail)
      all_goals
       go_wp2;go_meet;have bg:=J.out.b.size;have f:TKeep 113 v1 (v1.setCell ⟨d.heap.size,4,none⟩ (.int .i64 (own:Int))):=TKeep.set a0.out _;have k2:TKeep 113 (v1.setCell ⟨d.heap.size,4,none⟩ (.int .i64 (own:Int))) ((v1.setCell ⟨d.heap.size,4,none⟩ (.int .i64 (own:Int))).setCell ⟨d.heap.size,5,none⟩ (.slice O left.length R)):=TKeep.set (zar _ a0.out) _;rw[fY.out]at cy k2 ⊢
       case rel=>exact⟨O,R,zar _ (zar _ a0.out),(jy.out.tk f (by decide) (by decide) (by decide)).tk k2 (by decide) (by decide) (by decide),(i8.out.tk f (by decide) (by decide)).tk k2 (by decide) (by decide),(jc.out.tk f (by decide)).tk k2 (by decide),(jb.out.tk f (by decide) (by decide)).tk k2 (by decide) (by decide),((cy.out.base bg).tk f (by decide)).tk k2 (by decide),(gS.out.b.setCell (p:=⟨d.heap.size,4,none⟩) bh _).setCell (p:=⟨d.heap.size,5,none⟩) bh _⟩
     case rest =>
      obtain⟨O,R,E,H,F,I,aM,c1,c⟩:=hcut;rename World=>wc
      have hI:=hid (zad c af.out);have fG:=hid (zad c ay.out);have M:=hid (show VecsL wc W.heap.size (.slice x m y) Z (zt0 j a)from H);have P:=hid (show VecS wc W.heap.size (.slice o m q) (zwh a)from F);have Q:=hid (show IntsZ wc W.heap.size (.slice A m z) (a.map sgI)from I);have a9:=hid (show VecS wc W.heap.size (.slice t (N+m) u) (zKb m c0)from aM);have gg:=hid (show IntsZ wc W.heap.size (.slice O m R) left from c1);have J:=hid (show Bel W wc from Bel.mk c)
      have hT:=hid (BB.out.trans ((c).mono BB.out.size));obtain⟨rz,rj,rB,rk,pN,nE,pS,nK,pX,nQ,pG,nX⟩:=bc6 hI.out;obtain⟨mC,mm,rg,q9,mE,mn,rh,ra,mG,mo,ri,rb,mI,mp,ro,rd,mK,mq,rp,re,mN,mr,rq,rf,iT,iq,pm,tK,i0,ir,ps,tQ⟩:=bf8 fG.out;have G:=hid E;obtain⟨sf,sP,py,tW,sh,sR,pB,tZ,sj,sT,pE,ub,sV,sl,oO,ue,sX,sn,oR,ty,sZ,sp,oU,tB,p3,oJ,oX,tE,qa,oM,pc,tH⟩:=bf8 G.out;clear E H F I aM c1 c;go_wp2
      refine bodyPost_ret (v:=.tuple #[.agg #[.slice x m y,.int .i64 ((N+m:Nat):Int),.slice o m q,.slice t (N+m) u,.int .i64 (own:Int),.slice O m R,.slice A m z,.int .i64 (N:Int)],.nilIface]) (by simp[results,Tryz.results39,go_sem,mC,mm,mE,mn,mG,mo,mI,mp,mK,mq,mN,mr,iT,iq,i0,ir]) rfl ?_;have f:=zYl fG.out (.slice x m y) (.int .i64 ((N+m:Nat):Int)) (.slice o m q) (.slice t (N+m) u) (.int .i64 (own:Int)) (.slice O m R) (.slice A m z) (.int .i64 (N:Int))
      have gx:∀r∈zt0 j a,r.length=N+m:=by have h:=cu.out;rw[au.out]at h;exact h
      exact⟨x,y,Z,o,q,t,u,O,R,A,z,rfl,⟨(M.out.base (Nat.zero_le _)).tk f (by decide) (by decide) (by decide),gx,(P.out.base (Nat.zero_le _)).tk f (by decide) (by decide),(a9.out.base (Nat.zero_le _)).tk f (by decide) (by decide),(gg.out.base (Nat.zero_le _)).tk f (by decide),aY,cV,zXc aU.out cC.out,zXd cD.out,zXe aU.out gp.out,aU.out⟩,(Q.out.base (Nat.zero_le _)).tk f (by decide),bsc (bsc (bsc (bsc (bsc (bsc (bsc (bsc hT.out)))))))⟩
