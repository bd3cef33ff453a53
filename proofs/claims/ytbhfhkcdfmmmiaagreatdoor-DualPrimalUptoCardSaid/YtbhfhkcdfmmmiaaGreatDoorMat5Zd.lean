/- Contracts and lemmas: Mat5 Mat6 Mat7 Mat8 BasM. Conditions: as each says. -/
import Derived.Test.YtbhfhkcdfmmmiaaGreatDoorBasMemZd
set_option linter.all false
set_option maxHeartbeats 4000000
set_option maxRecDepth 100000
namespace Go.Proofs.YtbhfhkcdfmmmiaaGreatDoor
open Go.RowKit Am
open Lib (hid)
attribute [local go_sem ↓] Go.wp_at_zero Go.wp_at_succ
variable {L:List (List Rat)}{r:List Rat}{H N c k n:Nat}{A:OA}{q:Rat}{w:World}
theorem znQ(P:Program)(w:World)(e n o b:TypeId)(sz:Nat)(d a:OA)(c f zKx m:Nat)(l:P.underlying e=some (.slice b))(k:(P.info? b).map (·.size)=some sz)(j:Nat.min zKx c=0) :
  (Builtin.copy_ #[e,n] o #[(d,c,f),(a,zKx,m)]).run P w=.ok (goInt 0) w:=by
 cases hq:P.info? b with
 | none=>simp[hq]at k
 | some i =>
  have g:∀(x:Addr),(loadCells x 0).run P w=.ok #[] w:=fun x=>by simpa using run_loadCells_list (P:=P) w x [] (by simp)
  cases d<;>cases a<;>simp[Builtin.copy_,run_underlying l,Builtin.lenOf,Builtin.firstCells,sizeOf,typeInfo,hq,j,storeCells,g]
theorem VecS.cells{qs:List Rat}(f:VecS w H (A,n,c) qs):∃l:List RV,l.length=qs.length∧(∀(k:Nat) (r:RV) (q:Rat),l[k]? = some r→qs[k]? = some q→RatS w r.1 r.2.1 r.2.2 q)∧w.ownsRow H 49 3 (A,n,c) qs.length (rcells l) ∧
  (∀u∈rcells l,u.oneCell'=true)∧∀g,A=some ⟨g,0,none⟩→∀j u,(rcells l)[j]? = some u→w.cell? ((⟨g,0,none⟩:Addr).add j)=some u:=by
 obtain rfl:=f.len;obtain⟨l,a,b,d⟩:=f.row;refine⟨l,a,b,d,ziJ l fun r hr=>?_,fun g hg j u e=>?_⟩
 ·obtain⟨k,hk,p⟩:=List.getElem_of_mem hr;have o:l[k]? = some r:=by rw[List.getElem?_eq_getElem hk,p]
  obtain⟨q,s⟩:∃q,qs[k]? = some q:=⟨qs[k]'(by omega),List.getElem?_eq_getElem _⟩
  obtain⟨A,m,c,D,v,t,h1,i⟩:=(b k r q o s).shape;rw[h1,i];exact⟨rfl,rfl⟩
 ·subst hg;have hj:=(List.getElem?_eq_some_iff.1 e).1;rw[zcC,a]at hj;rw[show(⟨g,0,none⟩:Addr).add j=⟨g,j,none⟩by unfold Addr.add;split<;>simp_all,d.cellAt j hj];exact e
theorem zwE{v:Value}{l:List Value}(f:VecsL w H v l L)(Q:zbG l){D:List Rat}(y:l[k]? = some (A,n,c))(p:L[k]? = some D){K:Nat}{t:OA}{c':Nat}(hr:VecS w K (t,n,c') r)(E:TypeId) :
  ∃w',(Builtin.copy_ #[28,28] E #[(A,n,c),(t,n,c')]).run Tryz.prog w=.ok (goInt n) w'∧VecsL w' H v l (L.set k r)∧TKeep 49 w w'∧∀B,B≤H→Below B w w':=by
 obtain⟨i0,S,_,V,_⟩:=info_parts ze0;have J:(Tryz.prog.info? 49).map (·.size)=some 3:=by rw[S];simp[V]
 have h0:=f.each k _ _ y p;have n0:=h0.len;have n1:=hr.len;by_cases I:n=0
 ·have s:=znQ Tryz.prog w 28 28 E 49 3 A t n c n c' Tryz.underlying28 J (by rw[I];rfl);refine⟨w,by rw[s,I];rfl,?_,fun _ _ _=>rfl,fun B _=>Below.refl _ _⟩;have e:r=D:=by rw[List.length_eq_zero_iff.1 (show r.length=0 by omega),List.length_eq_zero_iff.1 (show D.length=0 by omega)]
  have:L.set k r=L:=by
   rw[e];apply List.ext_getElem?;intro i;rw[List.getElem?_set];split
   ·rename_i h;subst h;rw[if_pos (List.getElem?_eq_some_iff.1 p).1,p]
   ·rfl
  rw[this];exact f
 ·obtain⟨g,rfl,aa,ac⟩:=h0.has (by omega);obtain⟨g',rfl,ab,ad⟩:=hr.has (by omega);obtain⟨lr,o,N,F,O,P⟩:=hr.cells;obtain⟨l0,X,_,M⟩:=h0.row;rcases M.2 with ⟨C,_⟩ | ⟨Y,cap,cur,C,R,m,ae,hm,T,af⟩
  ·cases C
  ·injection C with e6 e7 e8;injection e6 with e6;injection e6 with e6;subst e6;have s:=zqx Tryz.prog w 28 28 E 49 3 g 0 n c ⟨g',0,none⟩ n c' cur 49 (rcells lr) Tryz.underlying28 J m (by rw[zcC,o,←n1];simp) (P g' rfl) (by rw[zcC,o,T];omega) O;rw[show Nat.min n n=n from Nat.min_self n]at s;subst e8;refine⟨_,s,?_,?_,?_⟩
   all_goals
    generalize hcs:(cur.toList.take 0++rcells lr++cur.toList.drop (0+(rcells lr).length)).toArray=cs'
   ·have u:∀j,j≠g→(w.setRow g cs').heap[j]? = w.heap[j]?:=fun j hj=>setRow_other w g j cs' hj
    have at_:(w.setRow g cs').heap[g]? = some (.cells cs' 49 (0,0)):=setRow_heap w g cur _ 49 _ m;have kp:zff w (w.setRow g cs'):=fun j _ z=>u j (by rintro rfl;exact z _ m)
    have G:(rcells lr).length=n*3:=by rw[zcC,o,←n1]
    refine⟨by rw[List.length_set];exact f.len,fun j W r' h1 d=>?_,by rw[List.length_set];exact zc9 f.own fun j hj=>u j fun e=>za6 f.own (e▸m) (by decide) (e▸hj)⟩;by_cases e:k=j
    ·subst e;rw[List.getElem?_set_self (List.getElem?_eq_some_iff.1 p).1]at d;injection d with d;subst d;rw[y]at h1;injection h1 with h1;subst h1;refine⟨lr,o,fun i x q a b=>(N i x q a b).keepT kp,by rw[G,n1],.inr ⟨g,c,cs',by rw[n1],R,at_,by omega,hm,?_,?_⟩⟩
     ·rw[←hcs];simp;omega
     ·rw[←hcs,←n1,←G];simp
    ·rw[List.getElem?_set_ne e]at d;exact(f.each j W r' h1 d).keepAll (fun x U=>u x fun F=>e (Q k j _ _ g y h1 rfl (by rw[U,F]))) fun _ _ _ _ r=>r.keepT kp
   ·exact fun j _ z=>setRow_other w g j cs' (by rintro rfl;exact z _ m)
   ·exact fun B Z=>below_setRow (Below.refl _ _) (by omega) cs'
def zsE (L:List (List Rat)) (c k:Nat):List (List Rat):=L.take k++noughts (L.length-k) c
theorem zu2(L:List (List Rat))(c:Nat):zsE L c 0=noughts L.length c:=by simp[zsE]
theorem zxm(L:List (List Rat))(c:Nat):zsE L c L.length=L:=by simp[zsE,noughts]
theorem zrE(h:k<L.length):(zsE L c k)[k]? = some (List.replicate c 0):=by
 unfold zsE noughts;rw[List.getElem?_append_right (by rw[List.length_take];omega),List.length_take,Nat.min_eq_left (Nat.le_of_lt h),Nat.sub_self,List.getElem?_replicate,if_pos (by omega)]
theorem zu1(h:L[k]? = some r):(zsE L c k).set k r=zsE L c (k+1):=by
 have hk:=(List.getElem?_eq_some_iff.1 h).1;unfold zsE noughts;rw[List.set_append,if_neg (by rw[List.length_take];omega),List.take_add_one,h,List.length_take,Nat.min_eq_left (Nat.le_of_lt hk),Nat.sub_self,show L.length-k=(L.length-(k+1))+1 by omega,List.replicate_succ];simp
namespace Mt
theorem of(n c:Nat)(T:n≤64)(hc:c≤64)(R:OA)(E:Nat)(l0:List Value)(L:List (List Rat))(B:Nat)(w:World)(h:VecsL w B (R,n,E) l0 L)(P:∀r∈L,r.length=c) :
  Calls Tryz.prog 56 #[(c:Int),(R,n,E)] w (zsR w n L c):=by
 have HN:=hid T;have HC:=hid hc;have ad:=hid P;have g:=hid h.nlen;have aA:n≤9223372036854775807:=by omega
 clear T hc P;obtain⟨W,j⟩:∃W,(w.alloc (.cells #[(),.int .i64 0] 78))=W:=⟨_,rfl⟩
 have D:=hid (show W.heap[w.heap.size]? = some (.cells #[(),.int .i64 0] 78 (0,0))by rw[←j];exact zam (by simp));have l:=hid (show Below w.heap.size w W by rw[←j];exact zae w _);have HZ:=hid (show w.heap.size+1≤W.heap.size by rw[←j];simp);have N:=hid (show VecsL W B (R,n,E) l0 L by rw[←j];exact(h).alloc _);clear h;go_enter Tryz.func56,Tryz.ntmps56;go_wp2_with fail
 clear j;with_reducible refine(new n c HN.out HC.out _).mono ?_
 rintro e w1 ⟨A,cA,l1,rfl,a,ha,hb⟩;have ar:=hid (show(w1.alloc (.cells #[(A,n,cA),(c:Int)] 78)).heap[w.heap.size]? = some (.cells #[(),.int .i64 0] 78 (0,0))from zak (zad hb D.out));have HM:=hid (show VecsL (w1.alloc (.cells #[(A,n,cA),(c:Int)] 78)) W.heap.size (A,n,cA) l1 (noughts n c)from(a).alloc _)
 have aq:=hid (show(w1.alloc (.cells #[(A,n,cA),(c:Int)] 78)).heap[w1.heap.size]? = some (.cells #[(A,n,cA),(c:Int)] 78 (0,0))from zam (by simp));obtain⟨aF,aI,aK,aN,aG,aJ,aL,aO⟩:=bf2 ar.out;obtain⟨aM,aH,aP,aE⟩:=bc2 aq.out;have M:=hid ha;have Z:=hid hb;have ap:W.heap.size≤w1.heap.size:=hb.size;clear a ha hb;go_wp2
 go_loopw [22] (fun i wr=>∃k:Nat,i=.int .i64 k∧k≤n∧wr.heap[w1.heap.size]? = some (.cells #[(A,n,cA),(c:Int)] 78 (0,0))∧VecsL wr W.heap.size (A,n,cA) l1 (zsE L c k)∧Below W.heap.size W wr)
  (fun i _=>n-(intOf i).toNat)
 case atStart=>exact⟨0,rfl,Nat.zero_le _,zal _ _ _,by rw[zu2,←g.out];exact HM.out,Z.out.alloc ap _⟩
 case round =>
  obtain⟨k,rfl,hk,q,a,d⟩:=hrel;have aC:=HZ.out;by_cases H:k<n
  ·obtain⟨r,hr⟩:∃r,L[k]? = some r:=⟨L[k]'(by rw[←g.out];exact H),List.getElem?_eq_getElem _⟩
   have U:r.length=c:=ad.out r (List.mem_of_getElem? hr);obtain⟨bR,rfl,_,_⟩:=N.out.has (by omega);obtain⟨K,O,_,s,F⟩:=(N.out.below d).at_ hr;rw[U]at s F;obtain⟨bA,rfl,_,_⟩:=a.has (by omega);obtain⟨Y,ck,G,t,_⟩:=a.at_ (zrE (c:=c) (by rw[←g.out];exact H));rw[List.length_replicate]at G t;have f:=hid (zad d D.out);have ai:=hid (show VecS wr B (K,c,O) r from F);have C:=hid (show VecsL wr W.heap.size (bA,n,cA) l1 (zsE L c k)from a);have HW:=hid (show Bel W wr from Bel.mk d)
   have X:=hid (l.out.trans ((d).mono l.out.size));obtain⟨y,u,I,_,z,x,J,_⟩:=bf2 f.out;have aw:wr.cell? ⟨bR,k,none⟩=some (K,c,O):=s;have ax:wr.cell? ⟨bA,k,none⟩=some (Y,c,ck):=t;have m:=hid q;obtain⟨au,_,_,_,av,_⟩:=bf2 m.out;have aw:=s;have ax:=t;have ac:=hid G;have ab:=hid hr;have af:=hid (zrE (c:=c) (show k<L.length by rw[←g.out];exact H));clear q a d F hr U s t G;have ay:(0:Int)≤(k:Int):=Int.natCast_nonneg _;have az:(k:Int)<(n:Int):=by omega
   obtain⟨w3,aB,V,S,Q⟩:=zwE C.out M.out ac.out af.out ai.out 3;have ah:=hid V;have am:=hid (S.blk m.out (by decide));have ak:=hid (HW.out.b.trans (Q _ (Nat.le_refl _)));clear V S Q;go_wp2;go_roundw
   case rel=>exact⟨k+1,by go_num,by omega,am.out,by rw[←zu1 ab.out];exact ah.out,ak.out⟩
   case measure=>simp[intOf];omega
  ·obtain rfl:k=n:=by omega
   have f:=hid (zad d D.out);have C:=hid (show VecsL wr W.heap.size (A,k,cA) l1 (zsE L c k)from a);have X:=hid (l.out.trans ((d).mono l.out.size));obtain⟨y,u,I,_,z,x,J,_⟩:=bf2 f.out;have m:=hid q;obtain⟨au,_,av,_⟩:=bc2 m.out;clear q a d;go_wp2;refine bodyPost_ret (v:=.tuple #[.agg #[(A,k,cA),(c:Int)],true]) (by simp[results,Tryz.results56,go_sem,y,u,z,x]) rfl ?_;have h0:=C.out;rw[g.out,zxm,←g.out]at h0
   have h1:=((h0.base (show w.heap.size≤W.heap.size by omega)).tk (TKeep.set (o:=0) f.out (A,k,cA)) (by decide) (by decide) (by decide)).tk (TKeep.set (o:=1) (zar _ f.out) (c:Int)) (by decide) (by decide) (by decide);exact⟨A,cA,l1,rfl,h1,M.out,bsc (bsc X.out)⟩
end Mt
namespace Mt
theorem by_(N n f:Nat)(R:OA)(l0:List Value)(L:List (List Rat))(g:Nat)(A:OA)(ny D:Nat)(y:List Rat)(O:Nat)(S T:Nat)(w:World)(h:VecsL w g (R,n,f) l0 L)(hL:∀r∈L,r.length=N)(G:VecS w O (A,n,D) y)(hn:n≤64)(hN:N≤64)(K:∀r∈L,∀q∈r,mw q≤T)(zy:∀q∈y,mw q≤S)(h1:1≤S)(h2:1≤T)(a:12*(64*(S+T+1)+1)+8≤LIM) :
  Calls Tryz.prog 104 #[.agg #[(R,n,f),(N:Int)],(A,n,D)] w (zcd w (byL N L y) true):=by
 have HN:=hid hn;have P:=hid hN;have ao:=hid hL;have U:=hid h.nlen;have ar:=hid G.len;have ZL:=hid K;have ZY:=hid zy;have ap:=hid (zu8 (N:=N) zy K h1 h2);have am:=hid a;have aO:n≤9223372036854775807:=by omega
 clear hn hN hL K zy a h1 h2;obtain⟨W,d⟩:∃W,(w.alloc (.cells #[(R,n,f),(N:Int)] 78))=W:=⟨_,rfl⟩
 have aa:=hid (show W.heap[w.heap.size]? = some (.cells #[(R,n,f),(N:Int)] 78 (0,0))by rw[←d];exact zam (by simp));have M:=hid (show Below w.heap.size w W by rw[←d];exact zae w _);have HZ:=hid (show w.heap.size+1≤W.heap.size by rw[←d];simp);have V:=hid (show VecsL W g (R,n,f) l0 L by rw[←d];exact(h).alloc _);have Z:=hid (show VecS W O (A,n,D) y by rw[←d];exact(G).alloc _);obtain⟨aI,a0,aJ,aV⟩:=bc2 aa.out;clear h G;go_enter Tryz.func104,Tryz.ntmps104
 go_wp2_with (at_make;go_must (refine zdv rfl _ _ rfl N _ rfl rfl rfl (by have:=P.out;omega) W.heap.size rfl ?_;intro w1 ho j;have q0:=zab j aI;have q1:=zab j aJ;have HO:=hid ho;have al:=hid j;clear ho j))
 clear d
 go_loopw [6,21] (fun ov i wr=>∃(k:Nat) (B:OA) (cB:Nat),i=.int .i64 k∧ov=(B,N,cB)∧k≤n∧VecS wr W.heap.size (B,N,cB) (zph N L y k)∧Below W.heap.size W wr)
  (fun _ i _=>n-(intOf i).toNat)
 case atStart=>exact⟨0,_,_,rfl,rfl,Nat.zero_le _,by rw[zt5];exact HO.out,al.out⟩
 case round =>
  obtain⟨k,B,cB,rfl,rfl,hk,m,a⟩:=hrel;have aP:=HZ.out;by_cases ae:k<n
  ·obtain⟨r,hr⟩:∃r,L[k]? = some r:=⟨L[k]'(by rw[←U.out];exact ae),List.getElem?_eq_getElem _⟩
   obtain⟨q,c⟩:∃q,y[k]? = some q:=⟨y[k]'(by rw[←ar.out];exact ae),List.getElem?_eq_getElem _⟩
   have l:r.length=N:=ao.out r (List.mem_of_getElem? hr);obtain⟨bR,rfl,_,_⟩:=V.out.has (by omega);obtain⟨u,rfl,_,_⟩:=Z.out.has (by omega);obtain⟨p,C,_,H,F⟩:=(V.out.below a).at_ hr;rw[l]at H F;obtain⟨E,o,I,x,s,J,z,l0,l1,l2,ad⟩:=(Z.out.below a).at_ c;have aj:=hid (zad a aa.out);have ax:=hid (show VecS wr g (p,N,C) r from F);have HQ:=hid (show RatS wr E (o,I,x) (s,J,z) q from ad);have t:=hid (m)
   have Y:=hid (show Bel W wr from Bel.mk a);obtain⟨_,_,aX,aZ⟩:=bc2 aj.out;have ak:wr.cell? ⟨bR,k,none⟩=some (p,N,C):=H;have aT:=zaa ak;have a1:=l0;have a2:=l1;have a3:=l2;have Q:=hid (show(zph N L y k).length=r.length by rw[zhm,l]);have aw:=hid (zt4 hr c l)
   have aB:=hid (show ∀q∈zph N L y k,mw q≤64*(S+T+1)+1 from fun q c=>Nat.le_trans (ap.out k q c) (by have:=HN.out;have:=Nat.mul_le_mul_right (S+T+1) (show k≤64 by omega);omega));have az:=hid (show mw q≤64*(S+T+1)+1 from Nat.le_trans (ZY.out q (List.mem_of_getElem? c)) (by omega));have aA:=hid (show ∀q∈r,mw q≤64*(S+T+1)+1 from fun q c=>Nat.le_trans (ZL.out r (List.mem_of_getElem? hr) q c) (by omega));clear m a F hr c l ad H l0 l1 l2;have aM:(0:Int)≤(k:Int):=Int.natCast_nonneg _
   have aN:(k:Int)<(n:Int):=by omega
   go_wp2_with fail
   with_reducible refine(Vc.addTimesS (64*(S+T+1)+1) am.out B N cB (zph N L y k) E o I x s J z q p N C r W.heap.size g _ t.out HQ.out ax.out Q.out (by have:=P.out;omega) aB.out az.out aA.out).mono ?_
   rintro e w3 ⟨B3,n3,c3,rfl,hv3,hb3⟩;have aH:=hid (zad hb3 aj.out);have aL:=hid (Y.out.below hb3);have X:=hid (show VecS w3 W.heap.size (B3,n3,c3) (zly (zph N L y k) q r)from(hv3.base Y.out.b.size));obtain⟨_,_,aY,aW⟩:=bc2 aH.out;have aK:=zab hb3 ak;have aU:=zaa aK;clear hv3 hb3;obtain rfl:n3=N:=by rw[X.out.len,zdt Q.out,zhm]
   go_wp2;go_roundw
   case rel=>exact⟨k+1,B3,c3,by go_num,rfl,by omega,by rw[←aw.out];exact X.out,aL.out.b⟩
   case measure=>simp[intOf];omega
  ·obtain rfl:k=n:=by omega
   have t:=hid m;have an:=hid (M.out.trans (a.mono M.out.size));clear m a;go_wp2;refine bodyPost_ret (v:=.tuple #[(B,N,cB),true]) (by simp[results,Tryz.results104,go_sem]) rfl ?_;exact⟨_,_,_,rfl,by rw[←zq8,←U.out];exact t.out.base (by omega),an.out⟩
end Mt
theorem zou{j:Nat}(hr:L[k]? = some r)(a:r[j]? = some q):(zb4 L j)[k]? = some q:=by
 unfold zb4;rw[List.getElem?_map,hr];simp[znd a]
namespace Mt
theorem rows(N n a:Nat)(R:OA)(w:World):Calls Tryz.prog 57 #[.agg #[(R,n,a),(N:Int)]] w fun e w'=>e=.returned (n:Int)∧Below w.heap.size w w':=by
 obtain⟨W,b⟩:∃W,(w.alloc (.cells #[(R,n,a),(N:Int)] 78))=W:=⟨_,rfl⟩
 have d:=hid (show W.heap[w.heap.size]? = some (.cells #[(R,n,a),(N:Int)] 78 (0,0))by rw[←b];exact zam (by simp));have c:=hid (show Below w.heap.size w W by rw[←b];exact zae w _);obtain⟨f,_⟩:=bc2 d.out;go_enter Tryz.func57,Tryz.ntmps57;go_wp2_with fail
 clear b;go_ret
 exact⟨rfl,c.out⟩
theorem cols(N n a:Nat)(R:OA)(w:World):Calls Tryz.prog 73 #[.agg #[(R,n,a),(N:Int)]] w fun e w'=>e=.returned (N:Int)∧Below w.heap.size w w':=by
 obtain⟨W,b⟩:∃W,(w.alloc (.cells #[(R,n,a),(N:Int)] 78))=W:=⟨_,rfl⟩
 have d:=hid (show W.heap[w.heap.size]? = some (.cells #[(R,n,a),(N:Int)] 78 (0,0))by rw[←b];exact zam (by simp));have c:=hid (show Below w.heap.size w W by rw[←b];exact zae w _);obtain⟨_,_,f,_⟩:=bc2 d.out;go_enter Tryz.func73,Tryz.ntmps73;go_wp2_with fail
 clear b;go_ret
 exact⟨rfl,c.out⟩
theorem row(N n b:Nat)(R:OA)(l0:List Value)(L:List (List Rat))(d:Nat)(k:Nat)(r:List Rat)(w:World)(h:VecsL w d (R,n,b) l0 L)(hr:L[k]? = some r)(o:r.length=N)(hN:N≤64)(x:n≤64) :
  Calls Tryz.prog 75 #[.agg #[(R,n,b),(N:Int)],(k:Int)] w fun e w'=>∃(l:OA) (c':Nat),e=.returned (.tuple #[(l,N,c'),true])∧VecS w' w.heap.size (l,N,c') r∧Below w.heap.size w w':=by
 have hk:=(List.getElem?_eq_some_iff.1 hr).1;have y:=h.nlen;have B:(0:Int)≤(k:Int):=Int.natCast_nonneg _;have C:(k:Int)<(n:Int):=by omega
 have h1:decide ((k:Int)<0)=false:=by simp
 have A:decide ((n:Int)≤(k:Int))=false:=by simp;omega
 obtain⟨f,rfl,_,_⟩:=h.has (by omega);obtain⟨c,g,_,j,i⟩:=h.at_ hr;rw[o]at j i;have p:=hid hN;obtain⟨W,a⟩:∃W,(w.alloc (.cells #[(f,n,b),(N:Int)] 78))=W:=⟨_,rfl⟩
 have u:=hid (show W.heap[w.heap.size]? = some (.cells #[(f,n,b),(N:Int)] 78 (0,0))by rw[←a];exact zam (by simp));have m:=hid (show Below w.heap.size w W by rw[←a];exact zae w _);have t:=hid (show w.heap.size+1≤W.heap.size by rw[←a];simp);have s:=hid (show VecS W d (c,N,g) r by rw[←a];exact(i).alloc _);obtain⟨E,_⟩:=bc2 u.out;have D:W.cell? ⟨f,k,none⟩=some (c,N,g):=by rw[←a];exact cell_al j
 clear h hr o hN x y i j;go_enter Tryz.func75,Tryz.ntmps75;go_wp2_with fail
 clear a;with_reducible refine(Vc.copy c N g r d _ s.out (by have:=p.out;omega)).mono ?_
 rintro e w1 ⟨A2,c2,rfl,hv2,hb⟩;have q:=hid (hv2);have z:=hid (m.out.trans ((hb).mono m.out.size));clear hv2 hb;go_wp2;refine bodyPost_ret (v:=.tuple #[(A2,N,c2),true]) (by simp[results,Tryz.results75,go_sem]) rfl ?_;exact⟨_,_,rfl,q.out.base (by have:=t.out;omega),z.out⟩
theorem col(N n c:Nat)(R:OA)(l0:List Value)(L:List (List Rat))(y:Nat)(j:Nat)(w:World)(h:VecsL w y (R,n,c) l0 L)(D:∀r∈L,r.length=N)(hj:j<N)(hN:N≤64)(I:n≤64) :
  Calls Tryz.prog 58 #[.agg #[(R,n,c),(N:Int)],(j:Int)] w (zcd w (zb4 L j) true):=by
 have am:(0:Int)≤(j:Int):=Int.natCast_nonneg _;have an:(j:Int)<(N:Int):=by omega
 have h1:decide ((j:Int)<0)=false:=by simp
 have h2:decide ((N:Int)≤(j:Int))=false:=by simp;omega
 have V:=hid I;have U:=hid D;have f:=hid h.nlen;have aq:n≤9223372036854775807:=by omega
 clear I hN D;obtain⟨W,e⟩:∃W,(w.alloc (.cells #[(R,n,c),(N:Int)] 78))=W:=⟨_,rfl⟩
 have ac:=hid (show W.heap[w.heap.size]? = some (.cells #[(R,n,c),(N:Int)] 78 (0,0))by rw[←e];exact zam (by simp));have u:=hid (show Below w.heap.size w W by rw[←e];exact zae w _);have HZ:=hid (show w.heap.size+1≤W.heap.size by rw[←e];simp);have z:=hid (show VecsL W y (R,n,c) l0 L by rw[←e];exact(h).alloc _);obtain⟨ag,aD,aC,_⟩:=bc2 ac.out;clear h;go_enter Tryz.func58,Tryz.ntmps58
 go_wp2_with (at_make;go_must (refine zdv rfl _ _ rfl n _ rfl rfl rfl (by have:=V.out;omega) W.heap.size rfl ?_;intro w1 J o;have q0:=zab o ag;have X:=hid J;have S:=hid o;clear J o))
 clear e
 go_loopw [24] (fun i wr=>∃k:Nat,i=.int .i64 k∧k≤n∧VecS wr W.heap.size (.slice (some ⟨W.heap.size,0,none⟩) n n) (mix (zb4 L j) k)∧Below W.heap.size W wr)
  (fun i _=>n-(intOf i).toNat)
 case atStart=>exact⟨0,rfl,Nat.zero_le _,by rw[zhW,zbH,←f.out];exact X.out,S.out⟩
 case round =>
  obtain⟨k,rfl,hk,a,d⟩:=hrel;have ar:=HZ.out;by_cases G:k<n
  ·obtain⟨r,hr⟩:∃r,L[k]? = some r:=⟨L[k]'(by rw[←f.out];exact G),List.getElem?_eq_getElem _⟩
   have K:=U.out r (List.mem_of_getElem? hr);obtain⟨q,p⟩:∃q,r[j]? = some q:=⟨r[j]'(by omega),List.getElem?_eq_getElem _⟩
   obtain⟨bR,rfl,_,_⟩:=z.out.has (by omega);obtain⟨Ar,cr,_,s,l⟩:=(z.out.below d).at_ hr;rw[K]at s l;obtain⟨g,rfl,_,_⟩:=l.has (by omega);obtain⟨C,t,P,A,x,Q,B,l0,M,O,E⟩:=l.at_ p;have H:(mix (zb4 L j) k)[k]? = some 0:=zld (by rw[zbH,←f.out];exact G);obtain⟨go,Ao,mo,co,Do,au,ak,o0,o1,o2,_⟩:=a.at_ H;have az:=a.fro (k*3);have of1:=a.fro (k*3+1);have aA:=a.fro (k*3+2);have Y:=hid (E)
   have m:=hid (a);have HW:=hid (Bel.mk d);have aE:=s;have aF:=l0;have aG:=M;have aH:=O;have Z:=hid (zhV (zou hr p));clear a d l hr p K E H s l0 M O;have ao:(0:Int)≤(k:Int):=Int.natCast_nonneg _
   have ap:(k:Int)<(n:Int):=by omega
   go_wp2;go_roundw
   case rel=>exact⟨k+1,by go_num,by omega,by rw[←Z.out];exact m.out.store k Y.out,(Bel.set3 HW.out (Nat.le_refl _) _ _ _).b⟩
   case measure=>simp[intOf];omega
  ·obtain rfl:k=n:=by omega
   have m:=hid a;have T:=hid (u.out.trans (d.mono u.out.size));clear a d;go_wp2;refine bodyPost_ret (v:=.tuple #[.slice (some ⟨W.heap.size,0,none⟩) k k,true]) (by simp[results,Tryz.results58,go_sem]) rfl ?_;have F:=m.out;have e1:k=(zb4 L j).length:=by rw[zbH];exact f.out
   rw[show mix (zb4 L j) k=zb4 L j by rw[e1,zlc]]at F;exact⟨_,_,_,rfl,F.base (by omega),T.out⟩
end Mt
def zn8 (N:Nat) (L:List (List Rat)) (r c:Nat):List (List Rat):=(List.range N).map fun i=>mix (zb4 L i) (if i<c then r+1 else r)
theorem znU(N:Nat)(L:List (List Rat))(r c:Nat):(zn8 N L r c).length=N:=by simp[zn8]
theorem zA0{xs:List Rat}(h:k≤xs.length):(mix xs k).length=xs.length:=by unfold mix;simp;omega
theorem zh7{r i:Nat}(h:i<N):(zn8 N L r c)[i]? = some (mix (zb4 L i) (if i<c then r+1 else r)):=by
 unfold zn8;rw[List.getElem?_map,List.getElem?_range h];rfl
theorem zvy(N:Nat)(L:List (List Rat)):zn8 N L 0 0=noughts N L.length:=by
 unfold zn8 noughts;apply List.ext_getElem?;intro i;rw[List.getElem?_map,List.getElem?_replicate];by_cases h:i<N
 ·rw[List.getElem?_range h,if_pos h];simp[zhW,zbH]
 ·rw[List.getElem?_eq_none (by simpa using h),if_neg h];rfl
theorem zvx(N:Nat)(L:List (List Rat))(r:Nat):zn8 N L r N=zn8 N L (r+1) 0:=by
 unfold zn8;refine List.map_congr_left fun i a=>?_
 rw[if_pos (by simpa using a),if_neg (by omega)]
theorem zxK(N:Nat)(L:List (List Rat)):zn8 N L L.length 0=zcZ N L:=by
 unfold zn8 zcZ;refine List.map_congr_left fun i _=>?_
 rw[if_neg (by omega)];have:=zlc (zb4 L i);rw[zbH]at this;rw[this];rfl
theorem zxL{r:Nat}{x:List Rat}(hc:c<N)(hr:L[r]? = some x)(b:x[c]? = some q):(zn8 N L r c).set c ((mix (zb4 L c) r).set r q)=zn8 N L r (c+1):=by
 rw[zhV (zou hr b)];apply List.ext_getElem?;intro i;rw[List.getElem?_set];by_cases e:c=i
 ·subst e;rw[if_pos rfl,if_pos (by rw[znU];exact hc),zh7 hc,if_pos (by omega)]
 ·rw[if_neg e];by_cases h:i<N
  ·rw[zh7 h,zh7 h];by_cases a:i<c
   ·rw[if_pos a,if_pos (by omega)]
   ·rw[if_neg a,if_neg (by omega)]
  ·rw[List.getElem?_eq_none (by rw[znU];omega),List.getElem?_eq_none (by rw[znU];omega)]
namespace Mt
theorem turned(N n s:Nat)(R:OA)(l0:List Value)(L:List (List Rat))(H0:Nat)(w:World)(h:VecsL w H0 (R,n,s) l0 L)(hL:∀r∈L,r.length=N)(hN:N≤64)(hn:n≤64) :
  Calls Tryz.prog 140 #[.agg #[(R,n,s),(N:Int)]] w (zx4 w N (zcZ N L) n):=by
 have HN:=hid hn;have HC:=hid hN;have aI:=hid hL;have l:=hid h.nlen;have bm:n≤9223372036854775807:=by omega
 have bf:N≤9223372036854775807:=by omega
 clear hn hN hL;obtain⟨W,u⟩:∃W,((w.alloc (.cells #[(R,n,s),(N:Int)] 78)).alloc (.cells #[(),.int .i64 0] 78))=W:=⟨_,rfl⟩
 have z:=hid (show W.heap[w.heap.size]? = some (.cells #[(R,n,s),(N:Int)] 78 (0,0))by rw[←u];exact zak (zam (by simp)));have J:=hid (show W.heap[w.heap.size+1]? = some (.cells #[(),.int .i64 0] 78 (0,0))by rw[←u];exact zam (by simp));have B:=hid (show Below w.heap.size w W by rw[←u];exact(zae w _).alloc (by simp) _);have HZ:=hid (show w.heap.size+2≤W.heap.size by rw[←u];simp);have HR:=hid (show VecsL W H0 (R,n,s) l0 L by rw[←u];exact((h).alloc _).alloc _)
 obtain⟨bz,bF,bB,_⟩:=bc2 z.out;clear h;go_enter Tryz.func140,Tryz.ntmps140;go_wp2_with fail
 clear u;with_reducible refine(new N n HC.out HN.out _).mono ?_
 rintro e w1 ⟨A,cA,l1,rfl,d,ha,hb⟩;have aY:=hid (show(w1.alloc (.cells #[(A,N,cA),(n:Int)] 78)).heap[w.heap.size]? = some (.cells #[(R,n,s),(N:Int)] 78 (0,0))from zak (zad hb z.out));have aX:=hid (show(w1.alloc (.cells #[(A,N,cA),(n:Int)] 78)).heap[w.heap.size+1]? = some (.cells #[(),.int .i64 0] 78 (0,0))from zak (zad hb J.out))
 have HM:=hid (show VecsL (w1.alloc (.cells #[(A,N,cA),(n:Int)] 78)) W.heap.size (A,N,cA) l1 (noughts N n)from(d).alloc _);have a1:=hid (show(w1.alloc (.cells #[(A,N,cA),(n:Int)] 78)).heap[w1.heap.size]? = some (.cells #[(A,N,cA),(n:Int)] 78 (0,0))from zam (by simp));obtain⟨bw,bD,bx,bE⟩:=bc2 aY.out;obtain⟨bI,bC,bN,bG,bJ,bv,bM,bH⟩:=bf2 aX.out;obtain⟨bO,bK,bP,bL⟩:=bc2 a1.out;have HA:=hid ha;have aF:=hid hb
 have aU:=hb.size;clear d ha hb;go_wp2
 go_loopw [19] (fun i wr=>∃t:Nat,i=.int .i64 t∧t≤n∧wr.heap[w1.heap.size]? = some (.cells #[(A,N,cA),(n:Int)] 78 (0,0))∧VecsL wr W.heap.size (A,N,cA) l1 (zn8 N L t 0)∧Below W.heap.size W wr)
  (fun i _=>n-(intOf i).toNat)
 case atStart=>exact⟨0,rfl,Nat.zero_le _,zal _ _ _,by rw[zvy,←l.out];exact HM.out,aF.out.alloc aU _⟩
 case round =>
  obtain⟨t,rfl,ht,f,d,a⟩:=hrel;have bo:=HZ.out;by_cases ar:t<n
  ·obtain⟨x,T⟩:∃x,L[t]? = some x:=⟨L[t]'(by rw[←l.out];exact ar),List.getElem?_eq_getElem _⟩
   have aw:=aI.out x (List.mem_of_getElem? T);have ah:=hid aw;obtain⟨M,rfl,_,_⟩:=HR.out.has (by omega);have HX:=hid T;have aN:=hid d;have aE:=hid a;have KX:=hid f;have H:=hid (zad a z.out);have y:=hid (zad a J.out);have aB:=hid (B.out.trans ((a).mono B.out.size));obtain⟨_,_,az,_⟩:=bc2 H.out;obtain⟨Y,X,aA,_,Z,V,aD,_⟩:=bf2 y.out;clear f d a T aw;have bh:(0:Int)≤(t:Int):=Int.natCast_nonneg _;have bi:(t:Int)<(n:Int):=by omega
   go_wp2
   go_loopw [24] (fun i wr=>∃c:Nat,i=.int .i64 c∧c≤N∧wr.heap[w1.heap.size]? = some (.cells #[(A,N,cA),(n:Int)] 78 (0,0))∧VecsL wr W.heap.size (A,N,cA) l1 (zn8 N L t c)∧Below W.heap.size W wr)
    (fun i _=>N-(intOf i).toNat)
   case atStart=>exact⟨0,rfl,Nat.zero_le _,KX.out,aN.out,aE.out⟩
   case round =>
    rename World=>wz
    obtain⟨c,rfl,hc,f,d,a⟩:=hrel;by_cases E:c<N
    ·obtain⟨q,Q⟩:∃q,x[c]? = some q:=⟨x[c]'(by rw[ah.out];exact E),List.getElem?_eq_getElem _⟩
     obtain⟨Ar,cr,_,F,D⟩:=(HR.out.below a).at_ HX.out;rw[ah.out]at F D;obtain⟨g,rfl,_,_⟩:=D.has (by omega);obtain⟨ga,Aa,ma,ca,Da,ay,aj,y0,y1,U,ap⟩:=D.at_ Q;obtain⟨bA,rfl,bg,_⟩:=d.has (by omega);have P:=zA0 (xs:=zb4 L c) (k:=t) (by rw[zbH,←l.out];omega);obtain⟨Ak,ck,O,G,j⟩:=d.at_ (zh7 (L:=L) (r:=t) (c:=c) E);rw[if_neg (Nat.lt_irrefl c),P,zbH,←l.out]at O G;rw[if_neg (Nat.lt_irrefl c),P,zbH,←l.out]at j;obtain⟨m,rfl,aT,_⟩:=j.has (by omega)
     have au:(mix (zb4 L c) t)[t]? = some 0:=zld (by rw[zbH,←l.out];exact ar);obtain⟨go,Ao,mo,co,Do,bp,bb,o0,o1,o2,_⟩:=j.at_ au;have aW:=j.fro (t*3);have of1:=j.fro (t*3+1);have bu:=j.fro (t*3+2);have aC:=hid (zad a z.out);have HV:=hid (d);have HW:=hid (Bel.mk a);obtain⟨aZ,_,a0,_⟩:=bc2 aC.out;have a2:=F
     have a3:=y0;have a4:=y1;have a5:=U;have a6:=G;have C:=hid f;obtain⟨bT,_,_,_,bU,_⟩:=bf2 C.out;have a2:=F;have a3:=y0;have a4:=y1;have a5:=U;have a6:=G;have aM:=hid (zxL E HX.out Q);have aL:=hid (d.drew.put HA.out O (by rw[zh7 E,if_neg (Nat.lt_irrefl c)]) t ap.drew)
     obtain⟨bc,aq⟩:∃cs,wz.heap[m]? = some (.cells cs 49 (0,0)):=j.ratBlk;have I:=hid aq;clear f d a D j Q ap au O aq F G y0 y1 U P;have bj:(0:Int)≤(c:Int):=Int.natCast_nonneg _;have bl:(c:Int)<(N:Int):=by omega
     have be:wz.drew.frozen? ⟨m,t*3,none⟩=false:=aW;have bd:=zaa o0;go_wp2_with fail
     refine za2 (S:=fun w'=>w'.cell? ⟨w.heap.size,0,none⟩=some (M,n,s)∧w'.cell? ⟨w.heap.size,1,none⟩=some (.int .i64 (N:Int))∧w'.cell? ⟨w1.heap.size,0,none⟩=some (bA,N,cA)∧w'.cell? ⟨w1.heap.size,1,none⟩=some (.int .i64 (n:Int))∧w'.cell? ⟨M,t,none⟩=some (g,N,cr)∧w'.cell? ⟨g,c*3,none⟩=some (.bool ga)∧w'.cell? ⟨g,c*3+1,none⟩=some (Aa,ma,ca)∧w'.cell? ⟨g,c*3+2,none⟩=some (Da,ay,aj)∧w'.cell? ⟨bA,c,none⟩=some (m,n,ck)) 15 (h:=fun hHeld=>?_)
     refine zaw [0,1,2,3,4,5,6,7,8,9,10,11,12,13,14] ?_;repeat refine tkE (hS:=hHeld) (h:=?_)
     refine zao ?_;refine zba (h:=fun K hK=>?_);go_simp;refine hK.out _ _ ?_;clear hK K;try simp only[Act.put,pu1,pu2,pu3,pu4,pu5,pu6]
     refine za1 (h:=?_);go_wp2;go_roundw
     case rel=>exact⟨c+1,by go_num,by omega,((TKeep.set (w:=_) (b:=m) (o:=t*3+2) (zar _ (zar _ I.out)) _).blk ((TKeep.set (w:=_) (b:=m) (o:=t*3+1) (zar _ I.out) _).blk ((TKeep.set (w:=wz) (b:=m) (o:=t*3) I.out _).blk C.out (by decide)) (by decide)) (by decide)),by rw[←aM.out];exact aL.out,(Bel.set3 HW.out.drew aT _ _ _).b⟩
     case measure=>simp[intOf];omega
    ·obtain rfl:N=c:=by omega
     have aO:=hid d;have aG:=hid a;have aS:=hid f;clear d a f;go_wp2;go_roundw
     case rel=>exact⟨t+1,by go_num,by omega,aS.out,by rw[←zvx];exact aO.out,aG.out⟩
     case measure=>simp[intOf];omega
  ·obtain rfl:n=t:=by omega
   have H:=hid (zad a z.out);have y:=hid (zad a J.out);have HV:=hid (d);have aB:=hid (B.out.trans ((a).mono B.out.size));obtain⟨_,_,az,_⟩:=bc2 H.out;obtain⟨Y,X,aA,_,Z,V,aD,_⟩:=bf2 y.out;have C:=hid f;obtain⟨bQ,_,bS,_⟩:=bc2 C.out;clear f d a;go_wp2;refine bodyPost_ret (v:=.agg #[(A,N,cA),(n:Int)]) (by simp[results,Tryz.results140,go_sem,Y,X,Z,V]) rfl ?_
   have h0:=HV.out;rw[show zn8 N L n 0=zcZ N L by rw[l.out];exact zxK N L]at h0;have h1:=((h0.base (show w.heap.size≤W.heap.size by omega)).tk (TKeep.set (o:=0) y.out (A,N,cA)) (by decide) (by decide) (by decide)).tk (TKeep.set (o:=1) (zar _ y.out) (n:Int)) (by decide) (by decide) (by decide);exact⟨A,cA,l1,rfl,h1,HA.out,bsc (bsc aB.out)⟩
end Mt
namespace Bs
theorem matrix(q n cc:Nat)(cA:OA)(lc:List Value)(C:List (List Rat))(H:Nat)(w:World)(G:w.cell? ⟨q,0,none⟩=some (cA,n,cc))(h:VecsL w H (cA,n,cc) lc C)(E:∀r∈C,r.length=n)(F:n≤64) :
  Calls Tryz.prog 122 #[.pointer (some ⟨q,0,none⟩)] w (zx4 w n (zcZ n C) n):=by
 have g:=hid F;have u:=hid E;clear F E;obtain⟨W,t⟩:∃W,(w.alloc (.cells #[(),.int .i64 0] 78))=W:=⟨_,rfl⟩
 have O:=hid (show W.heap[w.heap.size]? = some (.cells #[(),.int .i64 0] 78 (0,0))by rw[←t];exact zam (by simp));have B:=hid (show Below w.heap.size w W by rw[←t];exact zae w _);have D:=hid (show VecsL W H (cA,n,cc) lc C by rw[←t];exact(h).alloc _);have I:W.cell? ⟨q,0,none⟩=some (cA,n,cc):=by rw[←t];exact cell_al G
 have X:=zaa I;clear G;clear h;go_enter Tryz.func122,Tryz.ntmps122;go_wp2_with fail
 clear t;go_cut[3] (fun U c=>∃(m:Nat) (A:OA) (k:Nat) (l:List Value),U=.pointer (some ⟨m,0,none⟩)∧Below W.heap.size W c∧W.heap.size≤m∧c.heap[m]? = some (.cells #[(A,n,k),(n:Int)] 78 (0,0))∧VecsL c W.heap.size (A,n,k) l C)
 case first=>as_aux_lemma =>
  refine zaS (S:=fun w'=>w'.cell? ⟨q,0,none⟩=some (cA,n,cc)) [14,15] (h:=fun hHeld=>?_);refine zaw [0,1,2,3,4,5,6,7,8] ?_;repeat refine tkL (hS:=hHeld) (h:=?_)
  refine zao ?_;refine zme (i:=9) (j:=13) rfl rfl (by kernel_rfl) (fun K a=>?_) (fun K a=>?_)
  ·skip
   go_simp
   (go_at_call 56;(with_reducible refine(Mt.of n n g.out g.out cA cc lc C H _ (D.out.drew) u.out).mono ?_);rintro e u1 ⟨A1,c1,l1,rfl,d,_,b⟩;have x:=hid (show VecsL u1 W.heap.size (A1,n,c1) l1 C from d);have s:=hid (It.bdrew0' b);have T:=zab b X;clear b d)
   (try go_wp2_with fail)
   refine a.out _ _ kp fun hHeld=>?_
   clear a K;try simp only[Act.put,pu1,pu2,pu3,pu4,pu5,pu6]
   refine zaw [10,11,12] ?_;repeat refine tkX (h:=?_)
   refine zao ?_;refine zaB 13 (h:=fun K a=>?_);go_simp;refine a.out _ _ kp fun hHeld=>?_
   clear a K;try simp only[Act.put,pu1,pu2,pu3,pu4,pu5,pu6]
   refine zay 14 (h:=fun K a=>?_);go_simp;refine a.out _ _ ?_;clear a K;try simp only[Act.put,pu1,pu2,pu3,pu4,pu5,pu6]
   refine zay 15 (h:=fun K a=>?_);go_simp;refine a.out _ _ ?_;clear a K;try simp only[Act.put,pu1,pu2,pu3,pu4,pu5,pu6]
   refine zaM (h:=?_);go_wp2;go_meet
   case rel=>exact⟨_,_,_,_,rfl,s.out.alloc s.out.size _,s.out.size,zal _ _ _,x.out.alloc _⟩
  ·skip
   go_simp;refine a.out _ _ kp fun hHeld=>?_
   clear a K;try simp only[Act.put,pu1,pu2,pu3,pu4,pu5,pu6]
   refine zaB 9 (h:=fun K a=>?_);go_simp
   (go_at_call 56;(with_reducible refine(Mt.of n n g.out g.out cA cc lc C H _ (D.out.alloc _ |>.drew) u.out).mono ?_);rintro e u1 ⟨A1,c1,l1,rfl,d,_,b⟩;have x:=hid (show VecsL u1 W.heap.size (A1,n,c1) l1 C from d.base (by simp));have s:=hid ((zae W _).trans ((It.bdrew0' b).mono (by simp)));have f:=hid (zad b (show(W.alloc (.cells #[(),.int .i64 0] 78)).drew.heap[W.heap.size]? = _ from zal _ _ _));have T:=zab b (show(W.alloc (.cells #[(),.int .i64 0] 78)).drew.cell? _=_ from cell_al I);have P:=zac f.out 0;have Q:=zac f.out 1;have ae:=zag f.out 0;have af:=zag f.out 1;simp only[List.getElem?_toArray,List.getElem?_cons_zero,List.getElem?_cons_succ]at P Q;clear b d)
   (try go_wp2_with fail)
   refine a.out _ _ kp fun hHeld=>?_
   clear a K;try simp only[Act.put,pu1,pu2,pu3,pu4,pu5,pu6]
   refine zaw [10,11,12] ?_;repeat refine tkX (h:=?_)
   refine zao ?_;refine zay 14 (h:=fun K a=>?_);go_simp;refine a.out _ _ ?_;clear a K;try simp only[Act.put,pu1,pu2,pu3,pu4,pu5,pu6]
   refine zay 15 (h:=fun K a=>?_);go_simp;refine a.out _ _ ?_;clear a K;try simp only[Act.put,pu1,pu2,pu3,pu4,pu5,pu6]
   refine zaM (h:=?_);go_wp2;go_meet
   case rel=>exact⟨_,_,_,_,rfl,(s.out.setCell (p:=⟨W.heap.size,0,none⟩) (Nat.le_refl _) _).setCell (p:=⟨W.heap.size,1,none⟩) (Nat.le_refl _) _,Nat.le_refl _,zar _ (zar _ f.out),(x.out.tk (TKeep.set f.out _) (by decide) (by decide) (by decide)).tk (TKeep.set (zar _ f.out) _) (by decide) (by decide) (by decide)⟩
 case rest =>
  rename World=>c
  obtain⟨m,A,k,l,rfl,b,R,hk,d⟩:=hcut;have ac:=hid (zad b O.out);have L:=hid (d);have z:=hid (B.out.trans ((b).mono B.out.size));have ag:c.cell? ⟨m,0,none⟩=some (A,n,k):=zac hk 0;have aj:c.cell? ⟨m,1,none⟩=some (.int .i64 (n:Int)):=zac hk 1;clear b hk d R;go_wp2_with fail
  with_reducible refine(Mt.turned n n k A l C W.heap.size _ L.out u.out g.out g.out).mono ?_
  rintro e V ⟨A3,c3,l3,rfl,hv3,ha3,b⟩;have y:=hid (zad b ac.out);have M:=hid (hv3);have ad:=hid (z.out.trans ((b).mono z.out.size));obtain⟨aa,Y,ah,_,ab,Z,ai,_⟩:=bf2 y.out;have J:=hid ha3;have N:=hid (z.out.size);clear hv3 ha3 b;go_wp2;refine bodyPost_ret (v:=.agg #[(A3,n,c3),(n:Int)]) (by simp[results,Tryz.results122,go_sem,aa,Y,ab,Z]) rfl ?_
  have h1:=((M.out.base N.out).tk (TKeep.set (o:=0) y.out (A3,n,c3)) (by decide) (by decide) (by decide)).tk (TKeep.set (o:=1) (zar _ y.out) (n:Int)) (by decide) (by decide) (by decide);exact⟨A3,c3,l3,rfl,h1,J.out,bsc (bsc ad.out)⟩
