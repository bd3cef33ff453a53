/- Contracts and lemmas: El1 El2 El3. Conditions: as each says. -/
import Derived.Test.YtmflbanlgkdgeaaGreatDoorRnpZr
set_option linter.all false
set_option maxHeartbeats 4000000
set_option maxRecDepth 100000
namespace Go.Proofs.YtmflbanlgkdgeaaGreatDoor
open Go.RowKit Am
open Lib (hid)
attribute [local go_sem ↓] Go.wp_at_zero Go.wp_at_succ
theorem yrI{L:List (List Rat)}{k:Nat}{r:List Rat}(h:L[k]? = some r):L.take (k+1)=L.take k++[r]:=by rw[List.take_add_one,h];rfl
theorem yrL{L:List (List Rat)}{c f r:Nat}(h:en L r c=0):yrg L c (f+1) r=yrg L c f (r+1):=by
 rw[yrg,if_pos h]
theorem yrD{L:List (List Rat)}{c f r:Nat}(h:en L r c≠0):yrg L c (f+1) r=some r:=by
 rw[yrg,if_neg h]
namespace El
theorem zJI(R:OA)(n a N:Nat)(l0:List Value)(L:List (List Rat))(m:Nat)(w:World)(p:VecsL w m (.slice R n a) l0 L)(C:∀r∈L,r.length=N)(hN:N≤64)(U:n≤64) :
  Calls Tryz.prog 88 #[.agg #[.slice R n a,.int .i64 (N:Int)]] w fun e w'=>∃(A:OA) (c:Nat) (l:List Value),e=.returned (.slice A n c)∧VecsL w' w.heap.size (.slice A n c) l L∧Below w.heap.size w w':=by
 have o:=hid p.nlen;have J:=hid C;clear C;obtain⟨W,g⟩:∃W,(w.alloc (.cells #[.slice R n a,.int .i64 (N:Int)] 29))=W:=⟨_,rfl⟩
 have y:=hid (show W.heap[w.heap.size]? = some (.cells #[.slice R n a,.int .i64 (N:Int)] 29 (0,0))by rw[←g];exact zam (by simp));have q:=hid (show Below w.heap.size w W by rw[←g];exact zae w _);have O:=hid (show w.heap.size+1≤W.heap.size by rw[←g];simp);have H:=hid (show VecsL W m (.slice R n a) l0 L by rw[←g];exact(p).alloc _);obtain⟨aa,_,ab,_⟩:=bc2 y.out;clear p;go_enter Tryz.func88,Tryz.ntmps88;go_wp2_with fail
 clear g;with_reducible refine(Mt.rows N n a R _).mono ?_
 rintro e w1 ⟨rfl,hb⟩;have F:=hid hb;clear hb;go_wp2
 go_loopw [3,9] (fun V i wr=>∃(k:Nat) (A:OA) (c:Nat) (l:List Value),i=.int .i64 k∧V=.slice A k c∧k≤n∧VecsL wr W.heap.size (.slice A k c) l (L.take k)∧Below W.heap.size W wr)
  (fun _ i _=>n-(intOf i).toNat)
 case atStart=>exact⟨0,none,0,[],rfl,rfl,Nat.zero_le _,VecsL.nil _ _,F.out⟩
 case round =>
  obtain⟨k,A,c,l,rfl,rfl,hk,f,d⟩:=hrel;have hz:=O.out;have Z:=hid (zad d y.out);have Y:=hid (H.out.below d);have v:=hid (show VecsL wr W.heap.size (.slice A k c) l (L.take k)from f);have x:=hid (show Bel W wr from Bel.mk d);have ac:=hid (q.out.trans ((d).mono q.out.size));obtain⟨ah,_,ai,_⟩:=bc2 Z.out;clear aa ab;by_cases T:k<n
  ·have j:L[k]? = some (L.getD k []):=zaO (by rw[←o.out];exact T);have u:=hid (yrI j);have s:=hid j;have t:=hid (J.out _ (List.mem_of_getElem? j));have K:=hid (show(L.take k).length=k by rw[List.length_take,←o.out];omega);generalize L.getD k []=r0 at j u s t;have ae:(k:Int)<(n:Int):=by omega
   clear j f d;go_wp2_with fail
   with_reducible refine(Mt.row N n a R l0 L m k r0 _ Y.out s.out t.out hN U).mono ?_
   rintro e X ⟨A2,c2,rfl,f,hb⟩;have ad:=hid (v.out.below hb);have D:=hid (x.out.below hb);have M:=hid (show VecS X W.heap.size (.slice A2 N c2) r0 from(f.base x.out.b.size));clear f hb;go_wp2_with (at_builtin;go_loud (refine zbW rfl _ _ rfl rfl (ad.out.alloc _) rfl (zal _ _ _) (M.out.alloc _) (n:=k) K.out (by omega) (by have:=D.out.b.size;simp;omega) ?_;intro E P u7 z S B Q;have I:=hid z;have G:=hid ((D.out.alloc _).b.trans B);clear z S B Q))
   go_roundw
   case rel=>exact⟨k+1,E,P,_,by go_num,rfl,by omega,by rw[u.out];exact I.out,G.out⟩
   case measure=>simp[intOf];omega
  ·obtain rfl:n=k:=by omega
   clear f d;go_wp2;go_ret
   exact⟨A,c,l,rfl,by have h:=v.out.base (show w.heap.size≤W.heap.size by omega);rw[List.take_of_length_le (by rw[←o.out];exact Nat.le_refl _)]at h;exact h,ac.out⟩
theorem lead(A:OA)(n c at_ cc N:Nat)(l:List Value)(L:List (List Rat))(H:Nat)(w:World)(p:VecsL w H (.slice A n c) l L)(x:∀r∈L,r.length=N)(hc:cc<N)(Y:n≤64)(J:at_≤n)(hN:N≤64) :
  Calls Tryz.prog 89 #[.slice A n c,.int .i64 (at_:Int),.int .i64 (cc:Int)] w fun e w'=>e=.returned (.int .i64 (zbh (yrg L cc (n-at_) at_)))∧Below w.heap.size w w':=by
 have u:=hid p;have C:=hid p.nlen;have E:=hid x;clear p x;go_enter Tryz.func89,Tryz.ntmps89;go_wp2
 go_loopw [7] (fun i wr=>∃r:Nat,i=.int .i64 r∧at_≤r∧r≤n∧yrg L cc (n-at_) at_=yrg L cc (n-r) r∧Below w.heap.size w wr)
  (fun i _=>n-(intOf i).toNat)
 case atStart=>exact⟨at_,rfl,Nat.le_refl _,J,rfl,Below.refl _ _⟩
 case round =>
  obtain⟨r,rfl,h1,T,o,d⟩:=hrel;have m:=hid o;have k:=hid d;by_cases M:r<n
  ·obtain⟨b,rfl,_,_⟩:=u.out.has (by omega);have q:L[r]? = some (L.getD r []):=zaO (by rw[←C.out];exact M);have s:=E.out _ (List.mem_of_getElem? q);obtain⟨Q,S,K,y0,g⟩:=(u.out.below d).at_ q;rw[s]at y0 g;obtain⟨R,rfl,_,_⟩:=g.has (by omega);obtain⟨I,y,O,F,z,P,G,Z,z1,z2,v⟩:=g.at_ (zaH (xs:=L.getD r []) (j:=cc) (by rw[s];exact hc));have D:=hid v;have B:=hid (show el (L.getD r []) cc=en L r cc from rfl);have U:(0:Int)≤(r:Int):=Int.natCast_nonneg _;have V:(r:Int)<(n:Int):=by omega
   have W:(0:Int)≤(cc:Int):=Int.natCast_nonneg _;have X:(cc:Int)<(N:Int):=by omega
   clear o d q s K g v;go_wp2_with fail
   refine(Rt.zero I y O F z P G (el (L.getD r []) cc) _ D.out).mono ?_;rintro e w1 ⟨rfl,hb⟩;have t:=hid (k.out.trans (hb.mono k.out.size));clear hb;rw[B.out];have f:n-r=(n-(r+1))+1:=by omega
   cases hz:zr (en L r cc)
   ·have a:=hid (show yrg L cc (n-at_) at_=some r by rw[m.out,f,yrD fun e=>by rw[e]at hz;cases hz]);clear f;go_wp2;go_ret
    exact⟨by rw[a.out];rfl,t.out⟩
   ·have a:=hid (show yrg L cc (n-at_) at_=yrg L cc (n-(r+1)) (r+1)by rw[m.out,f,yrL (of_decide_eq_true hz)]);clear f;go_wp2;go_roundw
    case rel=>exact⟨r+1,by go_num,by omega,by omega,a.out,t.out⟩
    case measure=>simp[intOf];omega
  ·obtain rfl:n=r:=by omega
   have a:=hid (show yrg L cc (n-at_) at_=none by rw[m.out,Nat.sub_self];rfl);clear o d;go_wp2;go_ret
   exact⟨by rw[a.out];rfl,k.out⟩
end El
def zE:Nat→Nat
  | 0=>1
  | t+1=>4*zE t+1
theorem ysU:∀t,t≤4→zE t≤341:=by decide
def Sz (m N:Nat) (L:List (List Rat)) (S:Nat):Prop:=∀i,i<m→∀j,j<N→mw (en L i j)≤S
theorem Sz.row{m N S:Nat}{L:List (List Rat)}(h:Sz m N L S)(hr:Rect m N L){i:Nat}(a:i<m):∀q∈L.getD i [],mw q≤S:=zrD (hr.row i a) fun j hj=>h i a j hj
theorem Sz.step{m N S a k c:Nat}{L:List (List Rat)}(h:Rect m N L)(l:Sz m N L S)(d:a<m)(hk:k<m)(hc:c<N):Sz m N (yre L a k) S∧Sz m N (yrc (yre L a k) a c) (2*S)∧Sz m N (yrd (yrc (yre L a k) a c) a c m) (4*S+1):=by
 have p:=yrp h d hk;have f:Sz m N (yre L a k) S:=fun i b j hj=>by
  unfold en;rw[yrm h d hk];split
  ·exact l a d j hj
  ·split
   ·exact l k hk j hj
   ·exact l i b j hj
 have g:=fun i j (hj:j<N)=>yrr p d (c:=c) (i:=i) hj
 have hS:=yrk p d (c:=c);have n:Sz m N (yrc (yre L a k) a c) (2*S):=fun i b j hj=>by
  rw[g i j hj];split
  ·have h1:=zdI (en (yre L a k) a c)⁻¹ (en (yre L a k) a j);have q:=zva (en (yre L a k) a c);have r:=f a d c hc;have s:=f a d j hj;omega
  ·have:=f i b j hj;omega
 refine⟨f,n,fun i b j hj=>?_⟩;obtain⟨_,o⟩:=yrl hS d m (Nat.le_refl _) (c:=c);by_cases e:i=a
 ·have:en (yrd (yrc (yre L a k) a c) a c m) i j=en (yrc (yre L a k) a c) i j:=by unfold en;rw[(o i b).1 (.inl e)]
  rw[this];have:=n i b j hj;omega
 ·rw[(o i b).2 b e j hj,g i j hj,g i c hc,if_neg (Ne.symm e),if_neg (Ne.symm e)];have h1:=zrI (en (yre L a k) i j) (-(en (yre L a k) i c*en (yrc (yre L a k) a c) a j));rw[zhY,←Rat.sub_eq_add_neg]at h1;have q:=zdI (en (yre L a k) i c) (en (yrc (yre L a k) a c) a j);have r:=f i b j hj;have s:=f i b c hc;have t:=n a d j hj;omega
theorem yrs{m N:Nat}{L:List (List Rat)}(h:Rect m N L):∀r∈L,r.length=N:=fun r hr=>by
 obtain⟨i,a⟩:=List.mem_iff_getElem?.1 hr;have:=h.row i (by rw[←h.len];exact(List.getElem?_eq_some_iff.1 a).1);rw[List.getD_eq_getElem?_getD,a]at this;exact this
theorem yrz{A L:List (List Rat)}{ls:List Nat}{c:Nat}(h:yrf A c=(L,ls))(e:yrg L c (L.length-ls.length) ls.length=none):yrf A (c+1)=(L,ls):=by
 unfold yrf;rw[h];unfold yro;simp only[e]
theorem yrA{A L:List (List Rat)}{ls:List Nat}{c k:Nat}(h:yrf A c=(L,ls))(e:yrg L c (L.length-ls.length) ls.length=some k):yrf A (c+1)=(yrd (yrc (yre L ls.length k) ls.length c) ls.length c L.length,ls++[c]):=by
 unfold yrf;rw[h];unfold yro;simp only[e]
namespace El
theorem reduced(R:OA)(n G N:Nat)(l0:List Value)(L:List (List Rat))(H0:Nat)(w:World)(hL:VecsL w H0 (.slice R n G) l0 L)(hr:Rect n N L)(hN:N≤64)(hn:n≤4)(bu:Sz n N L 1) :
  Calls Tryz.prog 54 #[.agg #[.slice R n G,.int .i64 (N:Int)]] w fun e w'=>∃(A:OA) (c:Nat) (T:OA) (tc:Nat),e=.returned (.tuple #[.agg #[.slice A n c,.int .i64 (N:Int)],.slice T (yrf L N).2.length tc])∧Below w.heap.size w w':=by
 have a2:=hid hr;have cg:=hid bu;have aL:n≤64:=by omega
 clear hr bu;obtain⟨W,hW⟩:∃W,((w.alloc (.cells #[.slice R n G,.int .i64 (N:Int)] 29)).alloc (.cells #[.slice none 0 0,.int .i64 0] 29))=W:=⟨_,rfl⟩
 have aJ:=hid (show W.heap[w.heap.size]? = some (.cells #[.slice R n G,.int .i64 (N:Int)] 29 (0,0))by rw[←hW];exact zak (zam (by simp)));have ch:=hid (show W.heap[w.heap.size+1]? = some (.cells #[.slice none 0 0,.int .i64 0] 29 (0,0))by rw[←hW];exact zam (by simp));have BB:=hid (show Below w.heap.size w W by rw[←hW];exact(zae w _).alloc (by simp) _);have HL:=hid (show VecsL W H0 (.slice R n G) l0 L by rw[←hW];exact((hL).alloc _).alloc _);obtain⟨dq,_,dr,_⟩:=bc2 aJ.out
 have cf:=hid (Bel.mk (Below.refl W.heap.size W));clear hL;go_enter Tryz.func54,Tryz.ntmps54;go_wp2_with fail
 clear hW;with_reducible refine(zJI R n G N l0 L H0 _ HL.out (yrs a2.out) hN aL).mono ?_
 rintro e w1 ⟨A,cA,l,rfl,t,a⟩;have ds:=hid (zad a aJ.out);have cY:=hid (cf.out.below a);have m:=hid (show VecsL w1 W.heap.size (.slice A n cA) l L from t);obtain⟨dn,_,dp,_⟩:=bc2 ds.out;clear t a;go_wp2_with fail
 with_reducible refine(Mt.cols N n G R _).mono ?_
 rintro e w2 ⟨rfl,a⟩;have dw:=hid (cY.out.below a);have dx:=hid (m.out.below a);clear a;have bU:=hid dw.out.b;go_wp2
 go_loopw [5,18] (fun sv cv wr=>∃(c:Nat) (L1:List (List Rat)) (ls:List Nat) (l:List Value) (T:OA) (tc:Nat),cv=.int .i64 c∧sv=.slice T ls.length tc∧c≤N∧yrf L c=(L1,ls)∧VecsL wr W.heap.size (.slice A n cA) l L1∧IntsS wr W.heap.size (.slice T ls.length tc) ls∧Sz n N L1 (zE ls.length)∧Below W.heap.size W wr)
  (fun _ cv _=>N-(intOf cv).toNat)
 case atStart=>exact⟨0,L,[],l,none,0,rfl,rfl,Nat.zero_le _,rfl,dx.out,IntsS.nil _ _,cg.out,bU.out⟩
 case round =>
  obtain⟨c,L1,ls,l,T,tc,rfl,rfl,hc,aN,t,x,Y,s⟩:=hrel;have Z:=hid (show Red n N L L1 ls c by have h:=yrF a2.out c hc;rw[aN]at h;exact h);have aF:=hid aN;have a5:=hid Y;have hle:=Z.out.le;have I:=hid Z.out.rect.len;clear aN Y;have dt:=hid (zad s aJ.out);have bR:=hid (zad s ch.out);have m:=hid (show VecsL wr W.heap.size (.slice A n cA) l L1 from t);have C:=hid (show IntsS wr W.heap.size (.slice T ls.length tc) ls from x);have y:=hid (show Bel W wr from Bel.mk s)
  have aA:=hid (BB.out.trans ((s).mono BB.out.size));obtain⟨du,_,dv,_⟩:=bc2 dt.out;clear dq dr dn dp;clear t x;clear s;by_cases X:c<N
  ·have dF:(0:Int)≤(c:Int):=Int.natCast_nonneg _;have dG:(c:Int)<(N:Int):=by omega
   go_wp2_with fail
   with_reducible refine(lead A n cA ls.length c N l L1 W.heap.size _ m.out (yrs Z.out.rect) X aL hle hN).mono ?_
   rintro e w3 ⟨rfl,a⟩;have bS:=hid (zad a bR.out);have u:=hid (m.out.below a);have aV:=hid (C.out.below a);have aU:=hid (y.out.below a);have aW:=hid (aA.out.trans ((a).mono aA.out.size));clear a;have aM:=yrn L1 c (n-ls.length) ls.length;cases hlk:yrg L1 c (n-ls.length) ls.length with
   | none =>
    have HF:=hid (yrz aF.out (by rw[I.out];exact hlk));have hp:zbh none = -1:=rfl;rw[hp];clear aM hlk hp;go_wp2;go_roundw
    case rel=>exact⟨c+1,L1,ls,l,T,tc,by go_num,rfl,by omega,HF.out,u.out,aV.out,a5.out,aU.out.b⟩
    case measure=>simp[intOf];omega
   | some k =>
    rw[hlk]at aM;obtain⟨dH,dI,br⟩:=aM;have Q:k<n:=by omega
    have g:ls.length<n:=by omega
    have HF:=hid (yrA aF.out (by rw[I.out];exact hlk));have a0:=hid br;have hp:zbh (some k)=(k:Int):=rfl;have dE:decide ((k:Int)<0)=false:=decide_eq_false (by omega);obtain⟨bA,rfl,bn,_⟩:=u.out.has (by omega);have ao:=hid bn;rw[hp];clear hlk hp br bn;have J:=hid Z.out.rect;have U:=hid (yrp J.out g Q);have b7:=hid (show en (yre L1 ls.length k) ls.length c≠0 by
     unfold en;rw[yrm J.out g Q];by_cases e:ls.length=k
     ·rw[if_pos e,e];exact a0.out
     ·rw[if_neg e,if_pos rfl];exact a0.out)
    have aa:=hid (a5.out.step J.out g Q X);have aI:=hid (ysU ls.length (by omega));have dJ:(k:Int)<(n:Int):=by omega
    have dK:(0:Int)≤(k:Int):=Int.natCast_nonneg _;have bk:(ls.length:Int)<(n:Int):=by omega
    have dD:(0:Int)≤(ls.length:Int):=Int.natCast_nonneg _;go_upto_region 9 with fail
    go_cut[] (fun wz=>(∃lz,VecsL wz W.heap.size (.slice (some ⟨bA,0,none⟩) n cA) lz (yre L1 ls.length k))∧IntsS wz W.heap.size (.slice T ls.length tc) ls∧Below W.heap.size W wz)
    case first=>as_aux_lemma =>
     have ae:=zaO (L:=L1) (i:=k) (d:=[]) (by rw[J.out.len];exact Q);obtain⟨A1,c1,_,y0,aO⟩:=u.out.at_ ae;rw[J.out.row _ Q]at y0 aO;have ct:=zaa y0;clear ae;have bo:=zaO (L:=L1) (i:=ls.length) (d:=[]) (by rw[J.out.len];exact g);obtain⟨A2,c2,_,y1,bt⟩:=u.out.at_ bo;rw[J.out.row _ g]at y1 bt;have dQ:=zaa y1;clear bo;have bI:=u.out.fro k;have dT:=u.out.fro ls.length;have dU:=u.out.drew.fro ls.length;obtain⟨dB,cm⟩:=u.out.blk;have cF:=zag (zar (o:=ls.length) (.slice A1 N c1) cm) k
     have dV:(w3.setCell ⟨bA,ls.length,none⟩ (.slice A1 N c1)).drew.frozen? ⟨bA,k,none⟩=false:=cF;have s0:=u.out.store (k:=ls.length) (by rw[I.out];exact g) aO;obtain⟨A8,c8,_,y8,_⟩:=s0.at_ (zaO (L:=L1.set ls.length (L1.getD k [])) (i:=k) (d:=[]) (by rw[List.length_set,I.out];exact Q));have dS:=zaa y8;clear s0;refine zaS (S:=fun w'=>w'.cell? ⟨bA,k,none⟩=some (.slice A1 N c1)∧w'.cell? ⟨bA,ls.length,none⟩=some (.slice A2 N c2)) [13,14,15] (h:=fun hHeld=>?_);refine zaw [0,1] ?_
     repeat refine tkL (hS:=hHeld) (h:=?_)
     refine zao ?_;refine zaw [2,3] ?_;repeat refine tkX (h:=?_)
     refine zao ?_;refine zaw [4,5,6,7] ?_;repeat refine tkL (hS:=hHeld) (h:=?_)
     refine zao ?_;refine zaw [8,9,10] ?_;repeat refine tkX (h:=?_)
     refine zao ?_;refine zaw [11,12] ?_;repeat refine tkL (hS:=hHeld) (h:=?_)
     refine zao ?_;refine zay 13 (h:=fun K f=>?_);go_simp;refine f.out _ _ ?_;clear f K;try simp only[Act.put,pu1,pu2,pu3,pu4,pu5,pu6]
     refine zay 14 (h:=fun K f=>?_);go_simp;refine f.out _ _ ?_;clear f K;try simp only[Act.put,pu1,pu2,pu3,pu4,pu5,pu6]
     refine zay 15 (h:=fun K f=>?_);go_simp;refine f.out _ _ ?_;clear f K;try simp only[Act.put,pu1,pu2,pu3,pu4,pu5,pu6]
     refine zaM (h:=?_);go_wp2;go_meet;obtain⟨bd,O⟩:=(u.out.drew).blk;have s1:=(u.out.drew).store (k:=ls.length) (by rw[I.out];exact g) aO.drew;have s2:=s1.store (k:=k) (by rw[List.length_set,I.out];exact Q) (bt.drew.tk (TKeep.set O _) (by decide) (by decide))
     case rel=>exact⟨⟨_,s2⟩,(aV.out.drew.tk (TKeep.set O _) (by decide)).tk (TKeep.set (zar _ O) _) (by decide),((aU.out.drew.b).setCell (p:=⟨bA,ls.length,none⟩) ao.out _).setCell (p:=⟨bA,k,none⟩) ao.out _⟩
    case rest =>
     obtain⟨⟨lz,t⟩,x,s⟩:=hcut;rename World=>wa
     have m:=hid (show VecsL wa W.heap.size (.slice (some ⟨bA,0,none⟩) n cA) lz (yre L1 ls.length k)from t);have C:=hid (show IntsS wa W.heap.size (.slice T ls.length tc) ls from x);have y:=hid (show Bel W wa from Bel.mk s);clear du dv;clear t x s;generalize yre L1 ls.length k=P at *
     have ae:=zaO (L:=P) (i:=ls.length) (d:=[]) (by rw[U.out.len];exact g);obtain⟨A3,c3,_,y0,ah⟩:=m.out.at_ ae;rw[U.out.row _ g]at y0 ah;have ct:=zaa y0;clear ae;obtain⟨b3,rfl,_,_⟩:=ah.has (by omega);obtain⟨ga,Aa,ma,ca,Da,bz,bc,q0,q1,q2,bi⟩:=ah.at_ (zaH (xs:=P.getD ls.length []) (j:=c) (by rw[U.out.row _ g];exact X));have b8:=hid (show RatS wa ga (.slice Aa ma ca) (.slice Da bz bc) (en P ls.length c)from bi);have cc:=hid ah;clear bi ah
     have a1:=hid (show mw (en P ls.length c)≤341 by have:=aa.out.1 _ g c X;have:=aI.out;omega);go_wp2_with fail
     with_reducible refine(Rt.inv ga Aa ma ca Da bz bc (en P ls.length c) _ b8.out b7.out (by have:=a1.out;rw[zaP];omega)).mono ?_
     rintro e F ⟨g4,A4,m4,c4,D4,md4,cd4,rfl,hn4,a⟩;have dm:=hid (m.out.below a);have cU:=hid (C.out.below a);have cX:=hid (y.out.below a);have cJ:=hid (cc.out.below a);have bY:=hid (show RatS F g4 (.slice A4 m4 c4) (.slice D4 md4 cd4) (en P ls.length c)⁻¹ from hn4);have bQ:=zab a y0;clear hn4 a;have V:=zae F (.cells #[.bool g4,.slice A4 m4 c4,.slice D4 md4 cd4] 66);have dl:=hid (dm.out.below V);have cV:=hid (cU.out.below V);have bO:=hid (cX.out.below V);have cK:=hid (cJ.out.below V)
     have cH:=hid (bY.out.below V);have bP:=zab V bQ;have bG:=zaa bP;have KI:=hid (zal F #[.bool g4,.slice A4 m4 c4,.slice D4 md4 cd4] 66);obtain⟨di,_,dj,_,dk,_⟩:=bc3 KI.out;go_upto_region 11 with fail
     go_cut[] (fun wz=>(∃lz,VecsL wz W.heap.size (.slice (some ⟨bA,0,none⟩) n cA) lz (yrc P ls.length c))∧IntsS wz W.heap.size (.slice T ls.length tc) ls∧Below W.heap.size W wz)
     case first=>as_aux_lemma =>
      refine zaS (S:=fun w'=>w'.cell? ⟨F.heap.size,0,none⟩=some (.bool g4)∧w'.cell? ⟨F.heap.size,1,none⟩=some (.slice A4 m4 c4)∧w'.cell? ⟨F.heap.size,2,none⟩=some (.slice D4 md4 cd4)∧w'.cell? ⟨bA,ls.length,none⟩=some (.slice (some ⟨b3,0,none⟩) N c3)) [9] (h:=fun hHeld=>?_);refine zaw [0,1,2,3,4,5,6] ?_;repeat refine tkL (hS:=hHeld) (h:=?_)
      refine zao ?_;refine zaB 7 (h:=fun K f=>?_);go_simp
      (go_at_call 18;(with_reducible refine(Vc.scaleS 100000000 (by rw[zaP];decide) g4 A4 m4 c4 D4 md4 cd4 (en P ls.length c)⁻¹ (some ⟨b3,0,none⟩) N c3 (P.getD ls.length []) W.heap.size _ cK.out.drew cH.out.drew (by omega) (fun q hq=>Nat.le_trans (aa.out.1.row U.out g q hq) (by have:=aI.out;omega)) (by have h:=zva (en P ls.length c);have:=a1.out;omega)).mono ?_);rintro e w5 ⟨T5,n5,c5,rfl,hv5,hb5⟩;have db:=hid (zad hb5 KI.out);have aS:=hid (dl.out.drew.below hb5);have cW:=hid (cV.out.drew.below hb5);have cO:=hid (bO.out.drew.below hb5);have b9:=hid (show VecS w5 W.heap.size (.slice T5 n5 c5) (scale (en P ls.length c)⁻¹ (P.getD ls.length []))from(hv5.base (bO.out.drew.b.size)));obtain⟨d1,_,d2,_,d5,_⟩:=bc3 db.out;have d6:=zab hb5 bG;have bI:=aS.out.fro ls.length;clear hv5 hb5)
      (try go_wp2_with fail)
      refine f.out _ _ kp fun hHeld=>?_
      clear f K;try simp only[Act.put,pu1,pu2,pu3,pu4,pu5,pu6]
      refine zaw [8] ?_;repeat refine tkL (hS:=hHeld) (h:=?_)
      refine zao ?_;refine zay 9 (h:=fun K f=>?_);go_simp;refine f.out _ _ ?_;clear f K;try simp only[Act.put,pu1,pu2,pu3,pu4,pu5,pu6]
      refine zaM (h:=?_);go_wp2;go_meet;obtain⟨bd,O⟩:=(aS.out).blk
      case rel=>exact⟨⟨_,(aS.out).store (k:=ls.length) (by rw[U.out.len];exact g) b9.out⟩,(cW.out).tk (TKeep.set O _) (by decide),(cO.out.b).setCell (p:=⟨bA,ls.length,none⟩) ao.out _⟩
     case rest =>
      obtain⟨⟨bw,t⟩,x,s⟩:=hcut;rename World=>wb
      have aG:=hid (yrk U.out g (c:=c));have m:=hid (show VecsL wb W.heap.size (.slice (some ⟨bA,0,none⟩) n cA) bw (yrc P ls.length c)from t);have C:=hid (show IntsS wb W.heap.size (.slice T ls.length tc) ls from x);have y:=hid (show Bel W wb from Bel.mk s);clear bQ bP bG di dj dk;clear t x s;generalize yrc P ls.length c=Tt at *
      go_wp2
      go_loopw [65] (fun rv B=>∃(r:Nat) (l2:List Value),rv=.int .i64 r∧r≤n∧VecsL B W.heap.size (.slice (some ⟨bA,0,none⟩) n cA) l2 (yrd Tt ls.length c r)∧IntsS B W.heap.size (.slice T ls.length tc) ls∧Below W.heap.size W B)
       (fun rv _=>n-(intOf rv).toNat)
      case atStart=>exact⟨0,bw,rfl,Nat.zero_le _,m.out,C.out,y.out.b⟩
      case round =>
       obtain⟨r,l2,rfl,hr,t,x,s⟩:=hrel;rename World=>B
       have m:=hid (show VecsL B W.heap.size (.slice (some ⟨bA,0,none⟩) n cA) l2 (yrd Tt ls.length c r)from t);have C:=hid (show IntsS B W.heap.size (.slice T ls.length tc) ls from x);have y:=hid (show Bel W B from Bel.mk s);clear t x s;have ad:=yrl aG.out g (c:=c) r hr;by_cases H:r<n
       ·have D:=hid ad.1;have b4:=hid ((ad.2 r H).1 (.inr (Nat.le_refl _)));have b2:=hid ((ad.2 _ g).1 (.inl rfl));have a4:=hid (show yrd Tt ls.length c (r+1)=if r=ls.length∨en (yrd Tt ls.length c r) r c=0 then yrd Tt ls.length c r else (yrd Tt ls.length c r).set r (zly ((yrd Tt ls.length c r).getD r []) (-en (yrd Tt ls.length c r) r c) ((yrd Tt ls.length c r).getD ls.length []))from rfl);have dM:(r:Int)<(n:Int):=by omega
        have dN:(0:Int)≤(r:Int):=Int.natCast_nonneg _;clear ad;generalize yrd Tt ls.length c r=M at *
        have bp:=zaO (L:=M) (i:=r) (d:=[]) (by rw[D.out.len];exact H);obtain⟨A6,c6,_,y6,ai⟩:=m.out.at_ bp;rw[D.out.row _ H]at y6 ai;have dR:=zaa y6;clear bp;obtain⟨b6,rfl,_,_⟩:=ai.has (by omega);obtain⟨ge,Ae,me,ce,De,ax,aq,q0,q1,q2,bj⟩:=ai.at_ (zaH (xs:=M.getD r []) (j:=c) (by rw[D.out.row _ H];exact X));have bq:=zaO (L:=M) (i:=ls.length) (d:=[]) (by rw[D.out.len];exact g);obtain⟨A7,c7,_,y7,aP⟩:=m.out.at_ bq;rw[D.out.row _ g]at y7 aP;clear bq
        have a3:=hid (show RatS B ge (.slice Ae me ce) (.slice De ax aq) (en M r c)from bj);have cd:=hid ai;have aH:=hid aP;clear bj ai aP;go_upto_region 15 with fail
        go_cut[81] (fun bv wz=>bv=.bool (decide (¬(r=ls.length∨en M r c=0)))∧Below B.heap.size B wz)
        case first=>as_aux_lemma =>
         by_cases e1:r=ls.length
         ·have cl:((r:Int) != (ls.length:Int))=false:=by rw[e1];simp
          have E:=hid (decide_eq_false (p:=¬(r=ls.length∨en M r c=0)) (fun h=>h (.inl e1)));clear e1;go_wp2;go_meet;exact⟨by rw[E.out],Below.refl _ _⟩
         ·have cl:((r:Int) != (ls.length:Int))=true:=by simp;omega
          go_wp2_with fail
          refine(Rt.zero ge Ae me ce De ax aq (en M r c) _ a3.out).mono ?_;rintro e w5 ⟨rfl,a⟩;cases Y:zr (en M r c)
          ·have E:=hid (decide_eq_true (p:=¬(r=ls.length∨en M r c=0)) (fun h=>h.elim e1 fun h=>by rw[h]at Y;cases Y));go_wp2;go_meet;exact⟨by rw[E.out],a⟩
          ·have E:=hid (decide_eq_false (p:=¬(r=ls.length∨en M r c=0)) (fun h=>h (.inr (of_decide_eq_true Y))));go_wp2;go_meet;exact⟨by rw[E.out],a⟩
        case rest =>
         obtain⟨rfl,a⟩:=hcut;rename World=>wy
         have bM:=hid (m.out.below a);have bL:=hid (C.out.below a);have bJ:=hid (y.out.below a);have cI:=hid (a3.out.below a);have cP:=hid (cd.out.below a);have cS:=hid (aH.out.below a);have cw:=zab a y6;have co:=zaa cw;have cx:=zab a y7;have cp:=zaa cx;have cz:=zab a q0;have cq:=zaa cz;have cC:=zab a q1;have cr:=zaa cC;have cE:=zab a q2;have cs:=zaa cE;clear a;by_cases aw:r=ls.length∨en M r c=0
         ·rw[decide_eq_false (p:=¬(r=ls.length∨en M r c=0)) (fun h=>h aw)];go_wp2;go_roundw
          case rel=>exact⟨r+1,l2,by go_num,by omega,by rw[a4.out,if_pos aw];exact bM.out,bL.out,bJ.out.b⟩
          case measure=>simp[intOf];omega
         ·rw[decide_eq_true aw];have aE:=hid (show(∀q∈M.getD r [],mw q≤682)∧(∀q∈M.getD ls.length [],mw q≤682)∧mw (en M r c)≤682 by
           have h1:=aa.out.2.1.row aG.out H;have h2:=aa.out.2.1.row aG.out g;have h3:=aI.out;rw[←b4.out]at h1;rw[←b2.out]at h2;exact⟨fun q hq=>Nat.le_trans (h1 q hq) (by omega),fun q hq=>Nat.le_trans (h2 q hq) (by omega),Nat.le_trans (zrz h1 (by rw[D.out.row _ H];exact X)) (by omega)⟩)
          have b0:=hid (show(M.getD r []).length=(M.getD ls.length []).length by rw[D.out.row _ H,D.out.row _ g]);go_wp2_with fail
          refine zaS (S:=fun w'=>w'.cell? ⟨bA,r,none⟩=some (.slice (some ⟨b6,0,none⟩) N c6)∧w'.cell? ⟨bA,ls.length,none⟩=some (.slice A7 N c7)∧w'.cell? ⟨b6,c*3,none⟩=some (.bool ge)∧w'.cell? ⟨b6,c*3+1,none⟩=some (.slice Ae me ce)∧w'.cell? ⟨b6,c*3+2,none⟩=some (.slice De ax aq)) [23] (h:=fun hHeld=>?_);refine zaw [0,1,2,3,4,5,6,7,8,9,10,11,12,14,15,16,17] ?_;repeat refine tkL (hS:=hHeld) (h:=?_)
          refine zao ?_;refine zaB 13 (h:=fun K f=>?_);go_simp
          (go_at_call 91;(with_reducible refine(Rt.neg ge Ae me ce De ax aq (en M r c) _ cI.out.drew).mono ?_);rintro e w5 ⟨g9,A9,m9,c9,D9,md9,cd9,rfl,hn9,hb9⟩;have cN:=hid (bM.out.drew.below hb9);have cL:=hid (bL.out.drew.below hb9);have bK:=hid (bJ.out.drew.below hb9);have cQ:=hid (cP.out.drew.below hb9);have cT:=hid (cS.out.drew.below hb9);have b5:=hid (show RatS w5 g9 (.slice A9 m9 c9) (.slice D9 md9 cd9) (-en M r c)from hn9);have cZ:=zab hb9 co;have cy:=zab hb9 cp;have cB:=zab hb9 cq;have cD:=zab hb9 cr;have c0:=zab hb9 cs;clear hn9 hb9)
          (try go_wp2_with fail)
          refine f.out _ _ kp fun hHeld=>?_
          clear f K;try simp only[Act.put,pu1,pu2,pu3,pu4,pu5,pu6]
          refine zaB 18 (h:=fun K f=>?_);go_simp
          (go_at_call 52;(with_reducible refine(Vc.addTimesS 682 (by rw[zaP];decide) (some ⟨b6,0,none⟩) N c6 (M.getD r []) g9 A9 m9 c9 D9 md9 cd9 (-en M r c) A7 N c7 (M.getD ls.length []) W.heap.size W.heap.size _ cQ.out b5.out cT.out b0.out (by omega) aE.out.1 (by rw[zhY];exact aE.out.2.2) aE.out.2.1).mono ?_);rintro e w6 ⟨T8,n8,c8,rfl,hv8,hb8⟩;have aT:=hid (cN.out.below hb8);have cM:=hid (cL.out.below hb8);have cG:=hid (bK.out.below hb8);have cb:=hid (show VecS w6 W.heap.size (.slice T8 n8 c8) (zly (M.getD r []) (-en M r c) (M.getD ls.length []))from(hv8.base (bK.out.b.size)));have dY:=zab hb8 cZ;have dZ:=zab hb8 cy;have d0:=zab hb8 cB;have dW:=zab hb8 cD;have dX:=zab hb8 c0;have bI:=aT.out.fro r;clear hv8 hb8)
          (try go_wp2_with fail)
          refine f.out _ _ kp fun hHeld=>?_
          clear f K;try simp only[Act.put,pu1,pu2,pu3,pu4,pu5,pu6]
          refine zaw [19,20] ?_;repeat refine tkL (hS:=hHeld) (h:=?_)
          refine zao ?_;refine zaw [21] ?_;repeat refine tkX (h:=?_)
          refine zao ?_;refine zaw [22] ?_;repeat refine tkL (hS:=hHeld) (h:=?_)
          refine zao ?_;refine zay 23 (h:=fun K f=>?_);go_simp;refine f.out _ _ ?_;clear f K;try simp only[Act.put,pu1,pu2,pu3,pu4,pu5,pu6]
          refine zaM (h:=?_);go_wp2;go_roundw
          obtain⟨bd,O⟩:=(aT.out).blk
          case rel=>exact⟨r+1,_,by go_num,by omega,by rw[a4.out,if_neg aw];exact(aT.out).store (k:=r) (by rw[D.out.len];exact H) cb.out,(cM.out).tk (TKeep.set O _) (by decide),(cG.out.b).setCell (p:=⟨bA,r,none⟩) ao.out _⟩
          case measure=>simp[intOf];omega
       ·obtain rfl:n=r:=by omega
        clear ad;have bW:=hid (show yrf L (c+1)=(yrd Tt ls.length c n,ls++[c])by have h:=HF.out;rw[I.out]at h;exact h);go_wp2_with (at_builtin;go_loud (refine ziP rfl _ _ rfl rfl (C.out.alloc _) rfl (z:=c) (zal _ _ _) (n:=ls.length) rfl (by omega) (by have:=y.out.b.size;simp;omega) ?_;intro A7 c7 w7 bg bs bl;have bX:=hid bg;have aH:=hid ((m.out.alloc _).tk bs (by decide) (by decide) (by decide));have bV:=hid ((y.out.alloc _).b.trans bl);clear bg bs bl))
        go_roundw
        case rel=>exact⟨c+1,yrd Tt ls.length c n,ls++[c],l2,A7,c7,by go_num,by rw[List.length_append];rfl,by omega,bW.out,aH.out,by rw[List.length_append];exact bX.out,by rw[List.length_append];exact aa.out.2.2,bV.out⟩
        case measure=>simp[intOf];omega
  ·obtain rfl:N=c:=by omega
   have b1:=hid (show(yrf L N).2=ls by rw[aF.out]);go_wp2_with fail
   with_reducible refine(Mt.cols N n G R _).mono ?_
   rintro e w3 ⟨rfl,a⟩;have bS:=hid (zad a bR.out);have u:=hid (m.out.below a);have aV:=hid (C.out.below a);have aU:=hid (y.out.below a);have aW:=hid (aA.out.trans ((a).mono aA.out.size));clear a;go_wp2_with fail
   with_reducible refine(Mt.of n N aL hN A cA l L1 W.heap.size _ u.out (yrs Z.out.rect)).mono ?_
   rintro e F ⟨A5,c5,l5,rfl,hv5,bk,a⟩;have da:=hid (zad a bS.out);have bN:=hid (aW.out.trans ((a).mono aW.out.size));clear hv5 bk a;have bm:=zae F (.cells #[.slice A5 n c5,.int .i64 (N:Int)] 29);have dc:=hid (zad bm da.out);have dh:=hid (bN.out.trans ((bm).mono bN.out.size));obtain⟨df,dd,d3,_,dg,de,d4,_⟩:=bf2 dc.out;have KO:=hid (zal F #[.slice A5 n c5,.int .i64 (N:Int)] 29);obtain⟨d7,_,d8,_⟩:=bc2 KO.out;go_wp2
   refine bodyPost_ret (v:=.tuple #[.agg #[.slice A5 n c5,.int .i64 (N:Int)],.slice T ls.length tc]) (by simp[results,Tryz.results54,go_sem,df,dd,dg,de]) rfl ?_;rw[b1.out];exact⟨A5,c5,T,tc,rfl,bsc (bsc dh.out)⟩
end El
namespace El
theorem rank(R:OA)(n a N:Nat)(l0:List Value)(L:List (List Rat))(b:Nat)(w:World)(f:VecsL w b (.slice R n a) l0 L)(hr:Rect n N L)(hN:N≤64)(o:n≤4)(g:Sz n N L 1) :
  Calls Tryz.prog 30 #[.agg #[.slice R n a,.int .i64 (N:Int)]] w fun e w'=>e=.returned (.int .i64 ((yrf L N).2.length:Int))∧Below w.heap.size w w':=by
 have j:=hid (fun(w:World) (h:VecsL w b (.slice R n a) l0 L)=>reduced R n a N l0 L b w h hr hN o g);clear hr g;obtain⟨W,c⟩:∃W,(w.alloc (.cells #[.slice R n a,.int .i64 (N:Int)] 29))=W:=⟨_,rfl⟩
 have l:=hid (show W.heap[w.heap.size]? = some (.cells #[.slice R n a,.int .i64 (N:Int)] 29 (0,0))by rw[←c];exact zam (by simp));have d:=hid (show Below w.heap.size w W by rw[←c];exact zae w _);have k:=hid (show VecsL W b (.slice R n a) l0 L by rw[←c];exact(f).alloc _);obtain⟨q,_,r,_⟩:=bc2 l.out;clear f;go_enter Tryz.func30,Tryz.ntmps30;go_wp2_with fail
 clear c;with_reducible refine(j.out _ k.out).mono ?_
 rintro e w1 ⟨A5,c5,T,tc,rfl,hb⟩;have i:=hid (d.out.trans ((hb).mono d.out.size));clear hb;have m:=zae w1 (.cells #[.slice A5 n c5,.int .i64 (N:Int)] 29);have p:=hid (i.out.trans ((m).mono i.out.size));go_wp2;go_ret
 exact⟨rfl,p.out⟩
