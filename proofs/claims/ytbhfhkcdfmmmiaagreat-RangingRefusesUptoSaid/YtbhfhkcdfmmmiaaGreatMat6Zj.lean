/- Contracts and lemmas: Mat6 Mat7 Mat8 BasM. Conditions: as each says. -/
import Derived.Test.YtbhfhkcdfmmmiaaGreatMat4Zj
import Derived.Test.YtbhfhkcdfmmmiaaGreatBasMemZj
set_option linter.all false
set_option maxHeartbeats 4000000
set_option maxRecDepth 100000
namespace Go.Proofs.YtbhfhkcdfmmmiaaGreat
open Go.RowKit Am Tryz
attribute [local go_sem ↓] Go.wp_at_zero Go.wp_at_succ
variable {L:List (List Rat)}{N c k r:Nat}{q:Rat}
namespace Mt
theorem by_(N n f:Nat)(R:OA)(l0:List Value)(L:List (List Rat))(g:Nat)(A:OA)(ny D:Nat)(y:List Rat)(O:Nat)(S T:Nat)(w:World)(h:VecsL w g (R,n,f) l0 L)(hL:∀r∈L,r.length=N)(G:VecS w O (A,n,D) y)(hn:n≤64)(hN:N≤64)(K:∀r∈L,∀q∈r,mw q≤T)(zy:∀q∈y,mw q≤S)(h1:1≤S)(h2:1≤T)(a:12*(64*(S+T+1)+1)+8≤LIM) :
  Calls prog 145 #[.agg #[(R,n,f),(N:Int)],(A,n,D)] w (zcd w (byL N L y) true):=by
 have HN:=un hn;have P:=un hN;have ao:=un hL;have U:=un h.nlen;have ar:=un G.len;have ZL:=un K;have ZY:=un zy;have ap:=un (zu8 (N:=N) zy K h1 h2);have am:=un a;have aO:n≤9223372036854775807:=by omega
 clear hn hN hL K zy a h1 h2;obtain⟨W,d⟩:∃W,(w.alloc (.cells #[(R,n,f),(N:Int)] 111))=W:=⟨_,rfl⟩
 have aa:=un (show W.heap[w.heap.size]? = some (.cells #[(R,n,f),(N:Int)] 111 (0,0))by rw[←d];exact zam (by simp));have M:=un (show Below w w W by rw[←d];exact zae w _);have HZ:=un (show w.heap.size+1≤W.heap.size by rw[←d];simp);have V:=un (show VecsL W g (R,n,f) l0 L by rw[←d];exact(h).alloc _);have Z:=un (show VecS W O (A,n,D) y by rw[←d];exact(G).alloc _);obtain⟨aI,a0,aJ,aV⟩:=bc2 aa.o;clear h G;go_enter func145,ntmps145
 go_wp2_with (at_make;go_must (refine zdv rfl _ _ rfl N _ rfl rfl rfl (by have:=P.o;omega) W.heap.size rfl ?_;intro w1 ho j;have q0:=zab j aI;have q1:=zab j aJ;have HO:=un ho;have al:=un j;clear ho j))
 clear d
 go_loopw [6,21] (fun ov i wr=>∃(k:Nat) (B:OA) (cB:Nat),i=.int .i64 k∧ov=(B,N,cB)∧k≤n∧VecS wr W.heap.size (B,N,cB) (zph N L y k)∧Below W.heap.size W wr)
  (fun _ i _=>n-(intOf i).toNat)
 case atStart=>exact⟨0,_,_,rfl,rfl,Zb _,by rw[zt5];exact HO.o,al.o⟩
 case round =>
  obtain⟨k,B,cB,rfl,rfl,hk,m,a⟩:=hrel;have aP:=HZ.o;by_cases ae:k<n
  ·obtain⟨r,hr⟩:∃r,L[k]? = some r:=⟨L[k]'(by rw[←U.o];exact ae),Ze _⟩
   obtain⟨q,c⟩:∃q,y[k]? = some q:=⟨y[k]'(by rw[←ar.o];exact ae),Ze _⟩
   have l:r.length=N:=ao.o r (Zh hr);obtain⟨bR,rfl,_,_⟩:=V.o.has (by omega);obtain⟨u,rfl,_,_⟩:=Z.o.has (by omega);obtain⟨p,C,_,H,F⟩:=(V.o.below a).at_ hr;rw[l]at H F;obtain⟨E,o,I,x,s,J,z,l0,l1,l2,ad⟩:=(Z.o.below a).at_ c;have aj:=un (zad a aa.o);have ax:=un (show VecS wr g (p,N,C) r from F);have HQ:=un (show RatS wr E (o,I,x) (s,J,z) q from ad);have t:=un (m)
   have Y:=un (show Bel W wr from Bel.mk a);obtain⟨_,_,aX,aZ⟩:=bc2 aj.o;have ak:wr.cell? ⟨bR,k,none⟩=some (p,N,C):=H;have aT:=zaa ak;have a1:=l0;have a2:=l1;have a3:=l2;have Q:=un (show(zph N L y k).length=r.length by rw[zhm,l]);have aw:=un (zt4 hr c l)
   have aB:=un (show ∀q∈zph N L y k,mw q≤64*(S+T+1)+1 from fun q c=>Zc (ap.o k q c) (by have:=HN.o;have:=Zt (S+T+1) (show k≤64 by omega);omega));have az:=un (show mw q≤64*(S+T+1)+1 from Zc (ZY.o q (Zh c)) (by omega));have aA:=un (show ∀q∈r,mw q≤64*(S+T+1)+1 from fun q c=>Zc (ZL.o r (Zh hr) q c) (by omega));clear m a F hr c l ad H l0 l1 l2;have aM:(0:Int)≤(k:Int):=Zf _
   have aN:(k:Int)<(n:Int):=by omega
   go_wp2_with fail
   with_reducible refine(Vc.addTimesS (64*(S+T+1)+1) am.o B N cB (zph N L y k) E o I x s J z q p N C r W.heap.size g _ t.o HQ.o ax.o Q.o (by have:=P.o;omega) aB.o az.o aA.o).mono ?_
   rintro e w3 ⟨B3,n3,c3,rfl,hv3,hb3⟩;have aH:=un (zad hb3 aj.o);have aL:=un (Y.o.below hb3);have X:=un (show VecS w3 W.heap.size (B3,n3,c3) (zly (zph N L y k) q r)from(hv3.base Y.o.b.size));obtain⟨_,_,aY,aW⟩:=bc2 aH.o;have aK:=zab hb3 ak;have aU:=zaa aK;clear hv3 hb3;obtain rfl:n3=N:=by rw[X.o.len,zdt Q.o,zhm]
   go_wp2;go_roundw
   case rel=>exact⟨k+1,B3,c3,by go_num,rfl,by omega,by rw[←aw.o];exact X.o,aL.o.b⟩
   case measure=>simp[intOf];omega
  ·obtain rfl:k=n:=by omega
   have t:=un m;have an:=un (M.o.trans (a.mono M.o.size));clear m a;go_wp2;refine Zd (v:=.tuple #[(B,N,cB),true]) (by simp[results,results145,go_sem]) rfl ?_;exact⟨_,_,_,rfl,by rw[←zq8,←U.o];exact t.o.base (by omega),an.o⟩
end Mt
theorem zou{j:Nat}{r:List Rat}(hr:L[k]? = some r)(a:r[j]? = some q):(zb4 L j)[k]? = some q:=by
 unfold zb4;rw[Zw,hr];simp[znd a]
namespace Mt
theorem rows(N n a:Nat)(R:OA)(w:World):Calls prog 103 #[.agg #[(R,n,a),(N:Int)]] w fun e w'=>e=.returned (n:Int)∧Below w w w':=by
 obtain⟨W,b⟩:∃W,(w.alloc (.cells #[(R,n,a),(N:Int)] 111))=W:=⟨_,rfl⟩
 have d:=un (show W.heap[w.heap.size]? = some (.cells #[(R,n,a),(N:Int)] 111 (0,0))by rw[←b];exact zam (by simp));have c:=un (show Below w w W by rw[←b];exact zae w _);obtain⟨f,_⟩:=bc2 d.o;go_enter func103,ntmps103;go_wp2_with fail
 clear b;go_ret
 exact⟨rfl,c.o⟩
theorem cols(N n a:Nat)(R:OA)(w:World):Calls prog 104 #[.agg #[(R,n,a),(N:Int)]] w fun e w'=>e=.returned (N:Int)∧Below w w w':=by
 obtain⟨W,b⟩:∃W,(w.alloc (.cells #[(R,n,a),(N:Int)] 111))=W:=⟨_,rfl⟩
 have d:=un (show W.heap[w.heap.size]? = some (.cells #[(R,n,a),(N:Int)] 111 (0,0))by rw[←b];exact zam (by simp));have c:=un (show Below w w W by rw[←b];exact zae w _);obtain⟨_,_,f,_⟩:=bc2 d.o;go_enter func104,ntmps104;go_wp2_with fail
 clear b;go_ret
 exact⟨rfl,c.o⟩
theorem row(N n b:Nat)(R:OA)(l0:List Value)(L:List (List Rat))(d:Nat)(k:Nat)(r:List Rat)(w:World)(h:VecsL w d (R,n,b) l0 L)(hr:L[k]? = some r)(o:r.length=N)(hN:N≤64)(x:n≤64) :
  Calls prog 106 #[.agg #[(R,n,b),(N:Int)],(k:Int)] w fun e w'=>∃(l:OA) (c':Nat),e=.returned (.tuple #[(l,N,c'),true])∧VecS w' w (l,N,c') r∧Below w w w':=by
 have hk:=(Zm.1 hr).1;have y:=h.nlen;have B:(0:Int)≤(k:Int):=Zf _;have C:(k:Int)<(n:Int):=by omega
 have h1:decide ((k:Int)<0)=false:=by simp
 have A:decide ((n:Int)≤(k:Int))=false:=by simp;omega
 obtain⟨f,rfl,_,_⟩:=h.has (by omega);obtain⟨c,g,_,j,i⟩:=h.at_ hr;rw[o]at j i;have p:=un hN;obtain⟨W,a⟩:∃W,(w.alloc (.cells #[(f,n,b),(N:Int)] 111))=W:=⟨_,rfl⟩
 have u:=un (show W.heap[w.heap.size]? = some (.cells #[(f,n,b),(N:Int)] 111 (0,0))by rw[←a];exact zam (by simp));have m:=un (show Below w w W by rw[←a];exact zae w _);have t:=un (show w.heap.size+1≤W.heap.size by rw[←a];simp);have s:=un (show VecS W d (c,N,g) r by rw[←a];exact(i).alloc _);obtain⟨E,_⟩:=bc2 u.o;have D:W.cell? ⟨f,k,none⟩=some (c,N,g):=by rw[←a];exact cell_al j
 clear h hr o hN x y i j;go_enter func106,ntmps106;go_wp2_with fail
 clear a;with_reducible refine(Vc.copy c N g r d _ s.o (by have:=p.o;omega)).mono ?_
 rintro e w1 ⟨A2,c2,rfl,hv2,hb⟩;have q:=un (hv2);have z:=un (m.o.trans ((hb).mono m.o.size));clear hv2 hb;go_wp2;refine Zd (v:=.tuple #[(A2,N,c2),true]) (by simp[results,results106,go_sem]) rfl ?_;exact⟨_,_,rfl,q.o.base (by have:=t.o;omega),z.o⟩
theorem col(N n c:Nat)(R:OA)(l0:List Value)(L:List (List Rat))(y:Nat)(j:Nat)(w:World)(h:VecsL w y (R,n,c) l0 L)(D:∀r∈L,r.length=N)(hj:j<N)(hN:N≤64)(I:n≤64) :
  Calls prog 122 #[.agg #[(R,n,c),(N:Int)],(j:Int)] w (zcd w (zb4 L j) true):=by
 have am:(0:Int)≤(j:Int):=Zf _;have an:(j:Int)<(N:Int):=by omega
 have h1:decide ((j:Int)<0)=false:=by simp
 have h2:decide ((N:Int)≤(j:Int))=false:=by simp;omega
 have V:=un I;have U:=un D;have f:=un h.nlen;have aq:n≤9223372036854775807:=by omega
 clear I hN D;obtain⟨W,e⟩:∃W,(w.alloc (.cells #[(R,n,c),(N:Int)] 111))=W:=⟨_,rfl⟩
 have ac:=un (show W.heap[w.heap.size]? = some (.cells #[(R,n,c),(N:Int)] 111 (0,0))by rw[←e];exact zam (by simp));have u:=un (show Below w w W by rw[←e];exact zae w _);have HZ:=un (show w.heap.size+1≤W.heap.size by rw[←e];simp);have z:=un (show VecsL W y (R,n,c) l0 L by rw[←e];exact(h).alloc _);obtain⟨ag,aD,aC,_⟩:=bc2 ac.o;clear h;go_enter func122,ntmps122
 go_wp2_with (at_make;go_must (refine zdv rfl _ _ rfl n _ rfl rfl rfl (by have:=V.o;omega) W.heap.size rfl ?_;intro w1 J o;have q0:=zab o ag;have X:=un J;have S:=un o;clear J o))
 clear e
 go_loopw [24] (fun i wr=>∃k:Nat,i=.int .i64 k∧k≤n∧VecS wr W.heap.size (.slice (some ⟨W.heap.size,0,none⟩) n n) (mix (zb4 L j) k)∧Below W.heap.size W wr)
  (fun i _=>n-(intOf i).toNat)
 case atStart=>exact⟨0,rfl,Zb _,by rw[zhW,zbH,←f.o];exact X.o,S.o⟩
 case round =>
  obtain⟨k,rfl,hk,a,d⟩:=hrel;have ar:=HZ.o;by_cases G:k<n
  ·obtain⟨r,hr⟩:∃r,L[k]? = some r:=⟨L[k]'(by rw[←f.o];exact G),Ze _⟩
   have K:=U.o r (Zh hr);obtain⟨q,p⟩:∃q,r[j]? = some q:=⟨r[j]'(by omega),Ze _⟩
   obtain⟨bR,rfl,_,_⟩:=z.o.has (by omega);obtain⟨Ar,cr,_,s,l⟩:=(z.o.below d).at_ hr;rw[K]at s l;obtain⟨g,rfl,_,_⟩:=l.has (by omega);obtain⟨C,t,P,A,x,Q,B,l0,M,O,E⟩:=l.at_ p;have H:(mix (zb4 L j) k)[k]? = some 0:=zld (by rw[zbH,←f.o];exact G);obtain⟨go,Ao,mo,co,Do,au,ak,o0,o1,o2,_⟩:=a.at_ H;have az:=a.fro (k*3);have of1:=a.fro (k*3+1);have aA:=a.fro (k*3+2);have Y:=un (E)
   have m:=un (a);have HW:=un (Bel.mk d);have aE:=s;have aF:=l0;have aG:=M;have aH:=O;have Z:=un (zhV (zou hr p));clear a d l hr p K E H s l0 M O;have ao:(0:Int)≤(k:Int):=Zf _
   have ap:(k:Int)<(n:Int):=by omega
   go_wp2;go_roundw
   case rel=>exact⟨k+1,by go_num,by omega,by rw[←Z.o];exact m.o.store k Y.o,(Bel.set3 HW.o (Za _) _ _ _).b⟩
   case measure=>simp[intOf];omega
  ·obtain rfl:k=n:=by omega
   have m:=un a;have T:=un (u.o.trans (d.mono u.o.size));clear a d;go_wp2;refine Zd (v:=.tuple #[.slice (some ⟨W.heap.size,0,none⟩) k k,true]) (by simp[results,results122,go_sem]) rfl ?_;have F:=m.o;have e1:k=(zb4 L j).length:=by rw[zbH];exact f.o
   rw[show mix (zb4 L j) k=zb4 L j by rw[e1,zlc]]at F;exact⟨_,_,_,rfl,F.base (by omega),T.o⟩
end Mt
def zn8 (N:Nat) (L:List (List Rat)) (r c:Nat):List (List Rat):=(List.range N).map fun i=>mix (zb4 L i) (if i<c then r+1 else r)
theorem znU(N:Nat)(L:List (List Rat))(r c:Nat):(zn8 N L r c).length=N:=by simp[zn8]
theorem zA0{xs:List Rat}(h:k≤xs.length):(mix xs k).length=xs.length:=by unfold mix;simp;omega
theorem zh7{i:Nat}(h:i<N):(zn8 N L r c)[i]? = some (mix (zb4 L i) (if i<c then r+1 else r)):=by
 unfold zn8;rw[Zw,Z4 h];rfl
theorem zvy(N:Nat)(L:List (List Rat)):zn8 N L 0 0=noughts N L.length:=by
 unfold zn8 noughts;apply ZT;intro i;rw[Zw,ZJ];by_cases h:i<N
 ·rw[Z4 h,if_pos h];simp[zhW,zbH]
 grind
theorem zvx(N:Nat)(L:List (List Rat))(r:Nat):zn8 N L r N=zn8 N L (r+1) 0:=by
 unfold zn8;refine YC fun i hi=>?_
 rw[if_pos (by grind),if_neg (by omega)]
theorem zxK(N:Nat)(L:List (List Rat)):zn8 N L L.length 0=zcZ N L:=by
 unfold zn8 zcZ;refine YC fun i _=>?_
 rw[if_neg (by omega)];have:=zlc (zb4 L i);rw[zbH]at this;rw[this];rfl
theorem zxL{x:List Rat}(hc:c<N)(hr:L[r]? = some x)(b:x[c]? = some q):(zn8 N L r c).set c ((mix (zb4 L c) r).set r q)=zn8 N L r (c+1):=by
 rw[zhV (zou hr b)];apply ZT;intro i;rw[Xg];by_cases e:c=i
 ·subst e;rw[if_pos rfl,if_pos (by rw[znU];exact hc),zh7 hc,if_pos (by omega)]
 ·rw[if_neg e];by_cases h:i<N
  ·rw[zh7 h,zh7 h];by_cases a:i<c
   ·rw[if_pos a,if_pos (by omega)]
   ·rw[if_neg a,if_neg (by omega)]
  grind[List.getElem?_eq_none,znU]
namespace Mt
theorem turned(N n s:Nat)(R:OA)(l0:List Value)(L:List (List Rat))(H0:Nat)(w:World)(h:VecsL w H0 (R,n,s) l0 L)(hL:∀r∈L,r.length=N)(hN:N≤64)(hn:n≤64) :
  Calls prog 170 #[.agg #[(R,n,s),(N:Int)]] w (zx4 w N (zcZ N L) n):=by
 have HN:=un hn;have HC:=un hN;have aI:=un hL;have l:=un h.nlen;have bm:n≤9223372036854775807:=by omega
 have bf:N≤9223372036854775807:=by omega
 clear hn hN hL;obtain⟨W,u⟩:∃W,((w.alloc (.cells #[(R,n,s),(N:Int)] 111)).alloc (.cells #[(),.int .i64 0] 111))=W:=⟨_,rfl⟩
 have z:=un (show W.heap[w.heap.size]? = some (.cells #[(R,n,s),(N:Int)] 111 (0,0))by rw[←u];exact zak (zam (by simp)));have J:=un (show W.heap[w.heap.size+1]? = some (.cells #[(),.int .i64 0] 111 (0,0))by rw[←u];exact zam (by simp));have B:=un (show Below w w W by rw[←u];exact(zae w _).alloc (by simp) _);have HZ:=un (show w.heap.size+2≤W.heap.size by rw[←u];simp);have HR:=un (show VecsL W H0 (R,n,s) l0 L by rw[←u];exact((h).alloc _).alloc _)
 obtain⟨bz,bF,bB,_⟩:=bc2 z.o;clear h;go_enter func170,ntmps170;go_wp2_with fail
 clear u;with_reducible refine(new N n HC.o HN.o _).mono ?_
 rintro e w1 ⟨A,cA,l1,rfl,d,ha,hb⟩;have aY:=un (show(w1.alloc (.cells #[(A,N,cA),(n:Int)] 111)).heap[w.heap.size]? = some (.cells #[(R,n,s),(N:Int)] 111 (0,0))from zak (zad hb z.o));have aX:=un (show(w1.alloc (.cells #[(A,N,cA),(n:Int)] 111)).heap[w.heap.size+1]? = some (.cells #[(),.int .i64 0] 111 (0,0))from zak (zad hb J.o))
 have HM:=un (show VecsL (w1.alloc (.cells #[(A,N,cA),(n:Int)] 111)) W.heap.size (A,N,cA) l1 (noughts N n)from(d).alloc _);have a1:=un (show(w1.alloc (.cells #[(A,N,cA),(n:Int)] 111)).heap[w1.heap.size]? = some (.cells #[(A,N,cA),(n:Int)] 111 (0,0))from zam (by simp));obtain⟨bw,bD,bx,bE⟩:=bc2 aY.o;obtain⟨bI,bC,bN,bG,bJ,bv,bM,bH⟩:=bf2 aX.o;obtain⟨bO,bK,bP,bL⟩:=bc2 a1.o;have HA:=un ha;have aF:=un hb
 have aU:=hb.size;clear d ha hb;go_wp2
 go_loopw [19] (fun i wr=>∃t:Nat,i=.int .i64 t∧t≤n∧wr.heap[w1.heap.size]? = some (.cells #[(A,N,cA),(n:Int)] 111 (0,0))∧VecsL wr W.heap.size (A,N,cA) l1 (zn8 N L t 0)∧Below W.heap.size W wr)
  (fun i _=>n-(intOf i).toNat)
 case atStart=>exact⟨0,rfl,Zb _,zal _ _ _,by rw[zvy,←l.o];exact HM.o,aF.o.alloc aU _⟩
 case round =>
  obtain⟨t,rfl,ht,f,d,a⟩:=hrel;have bo:=HZ.o;by_cases ar:t<n
  ·obtain⟨x,T⟩:∃x,L[t]? = some x:=⟨L[t]'(by rw[←l.o];exact ar),Ze _⟩
   have aw:=aI.o x (Zh T);have ah:=un aw;obtain⟨M,rfl,_,_⟩:=HR.o.has (by omega);have HX:=un T;have aN:=un d;have aE:=un a;have KX:=un f;have H:=un (zad a z.o);have y:=un (zad a J.o);have aB:=un (B.o.trans ((a).mono B.o.size));obtain⟨_,_,az,_⟩:=bc2 H.o;obtain⟨Y,X,aA,_,Z,V,aD,_⟩:=bf2 y.o;clear f d a T aw;have bh:(0:Int)≤(t:Int):=Zf _;have bi:(t:Int)<(n:Int):=by omega
   go_wp2
   go_loopw [24] (fun i wr=>∃c:Nat,i=.int .i64 c∧c≤N∧wr.heap[w1.heap.size]? = some (.cells #[(A,N,cA),(n:Int)] 111 (0,0))∧VecsL wr W.heap.size (A,N,cA) l1 (zn8 N L t c)∧Below W.heap.size W wr)
    (fun i _=>N-(intOf i).toNat)
   case atStart=>exact⟨0,rfl,Zb _,KX.o,aN.o,aE.o⟩
   case round =>
    rename World=>wz
    obtain⟨c,rfl,hc,f,d,a⟩:=hrel;by_cases E:c<N
    ·obtain⟨q,Q⟩:∃q,x[c]? = some q:=⟨x[c]'(by rw[ah.o];exact E),Ze _⟩
     obtain⟨Ar,cr,_,F,D⟩:=(HR.o.below a).at_ HX.o;rw[ah.o]at F D;obtain⟨g,rfl,_,_⟩:=D.has (by omega);obtain⟨ga,Aa,ma,ca,Da,ay,aj,y0,y1,U,ap⟩:=D.at_ Q;obtain⟨bA,rfl,bg,_⟩:=d.has (by omega);have P:=zA0 (xs:=zb4 L c) (k:=t) (by rw[zbH,←l.o];omega);obtain⟨Ak,ck,O,G,j⟩:=d.at_ (zh7 (L:=L) (r:=t) (c:=c) E);rw[if_neg (Xt c),P,zbH,←l.o]at O G;rw[if_neg (Xt c),P,zbH,←l.o]at j;obtain⟨m,rfl,aT,_⟩:=j.has (by omega)
     have au:(mix (zb4 L c) t)[t]? = some 0:=zld (by rw[zbH,←l.o];exact ar);obtain⟨go,Ao,mo,co,Do,bp,bb,o0,o1,o2,_⟩:=j.at_ au;have aW:=j.fro (t*3);have of1:=j.fro (t*3+1);have bu:=j.fro (t*3+2);have aC:=un (zad a z.o);have HV:=un (d);have HW:=un (Bel.mk a);obtain⟨aZ,_,a0,_⟩:=bc2 aC.o;have a2:=F
     have a3:=y0;have a4:=y1;have a5:=U;have a6:=G;have C:=un f;obtain⟨bT,_,_,_,bU,_⟩:=bf2 C.o;have a2:=F;have a3:=y0;have a4:=y1;have a5:=U;have a6:=G;have aM:=un (zxL E HX.o Q);have aL:=un (d.drew.put HA.o O (by rw[zh7 E,if_neg (Xt c)]) t ap.drew)
     obtain⟨bc,aq⟩:∃cs,wz.heap[m]? = some (.cells cs 41 (0,0)):=j.ratBlk;have I:=un aq;clear f d a D j Q ap au O aq F G y0 y1 U P;have bj:(0:Int)≤(c:Int):=Zf _;have bl:(c:Int)<(N:Int):=by omega
     have be:wz.drew.frozen? ⟨m,t*3,none⟩=false:=aW;have bd:=zaa o0;go_wp2_with fail
     refine za2 (S:=fun w'=>w'.cell? ⟨w,0,none⟩=some (M,n,s)∧w'.cell? ⟨w,1,none⟩=some (.int .i64 (N:Int))∧w'.cell? ⟨w1,0,none⟩=some (bA,N,cA)∧w'.cell? ⟨w1,1,none⟩=some (.int .i64 (n:Int))∧w'.cell? ⟨M,t,none⟩=some (g,N,cr)∧w'.cell? ⟨g,c*3,none⟩=some (.bool ga)∧w'.cell? ⟨g,c*3+1,none⟩=some (Aa,ma,ca)∧w'.cell? ⟨g,c*3+2,none⟩=some (Da,ay,aj)∧w'.cell? ⟨bA,c,none⟩=some (m,n,ck)) 15 (h:=fun hHeld=>?_)
     refine zaw [0,1,2,3,4,5,6,7,8,9,10,11,12,13,14] ?_;repeat refine tkE (hS:=hHeld) (h:=?_)
     refine zao ?_;refine zba (h:=fun K hK=>?_);go_simp;refine shutOff hK ?_;clear hK K
     refine za1 (h:=?_);go_wp2;go_roundw
     case rel=>exact⟨c+1,by go_num,by omega,((TKeep.set (w:=_) (b:=m) (o:=t*3+2) (zar _ (zar _ I.o)) _).blk ((TKeep.set (w:=_) (b:=m) (o:=t*3+1) (zar _ I.o) _).blk ((TKeep.set (w:=wz) (b:=m) (o:=t*3) I.o _).blk C.o (by decide)) (by decide)) (by decide)),by rw[←aM.o];exact aL.o,(Bel.set3 HW.o.drew aT _ _ _).b⟩
     case measure=>simp[intOf];omega
    ·obtain rfl:N=c:=by omega
     have aO:=un d;have aG:=un a;have aS:=un f;clear d a f;go_wp2;go_roundw
     case rel=>exact⟨t+1,by go_num,by omega,aS.o,by rw[←zvx];exact aO.o,aG.o⟩
     case measure=>simp[intOf];omega
  ·obtain rfl:n=t:=by omega
   have H:=un (zad a z.o);have y:=un (zad a J.o);have HV:=un (d);have aB:=un (B.o.trans ((a).mono B.o.size));obtain⟨_,_,az,_⟩:=bc2 H.o;obtain⟨Y,X,aA,_,Z,V,aD,_⟩:=bf2 y.o;have C:=un f;obtain⟨bQ,_,bS,_⟩:=bc2 C.o;clear f d a;go_wp2;refine Zd (v:=.agg #[(A,N,cA),(n:Int)]) (by simp[results,results170,go_sem,Y,X,Z,V]) rfl ?_
   have h0:=HV.o;rw[show zn8 N L n 0=zcZ N L by rw[l.o];exact zxK N L]at h0;have h1:=((h0.base (show w.heap.size≤W.heap.size by omega)).tk (TKeep.set (o:=0) y.o (A,N,cA)) (by decide) (by decide) (by decide)).tk (TKeep.set (o:=1) (zar _ y.o) (n:Int)) (by decide) (by decide) (by decide);exact⟨A,cA,l1,rfl,h1,HA.o,bsc (bsc aB.o)⟩
end Mt
namespace Bs
theorem matrix(q n cc:Nat)(cA:OA)(lc:List Value)(C:List (List Rat))(H:Nat)(w:World)(G:w.cell? ⟨q,0,none⟩=some (cA,n,cc))(h:VecsL w H (cA,n,cc) lc C)(E:∀r∈C,r.length=n)(F:n≤64) :
  Calls prog 161 #[.pointer (some ⟨q,0,none⟩)] w (zx4 w n (zcZ n C) n):=by
 have g:=un F;have u:=un E;clear F E;obtain⟨W,t⟩:∃W,(w.alloc (.cells #[(),.int .i64 0] 111))=W:=⟨_,rfl⟩
 have O:=un (show W.heap[w.heap.size]? = some (.cells #[(),.int .i64 0] 111 (0,0))by rw[←t];exact zam (by simp));have B:=un (show Below w w W by rw[←t];exact zae w _);have D:=un (show VecsL W H (cA,n,cc) lc C by rw[←t];exact(h).alloc _);have I:W.cell? ⟨q,0,none⟩=some (cA,n,cc):=by rw[←t];exact cell_al G
 have X:=zaa I;clear G;clear h;go_enter func161,ntmps161;go_wp2_with fail
 clear t;go_cut[3] (fun U c=>∃(m:Nat) (A:OA) (k:Nat) (l:List Value),U=.pointer (some ⟨m,0,none⟩)∧Below W.heap.size W c∧W.heap.size≤m∧c.heap[m]? = some (.cells #[(A,n,k),(n:Int)] 111 (0,0))∧VecsL c W.heap.size (A,n,k) l C)
 case first=>as_aux_lemma =>
  refine zaS (S:=fun w'=>w'.cell? ⟨q,0,none⟩=some (cA,n,cc)) [14,15] (h:=fun hHeld=>?_);refine zaw [0,1,2,3,4,5,6,7,8] ?_;repeat refine tkL (hS:=hHeld) (h:=?_)
  refine zao ?_;refine zme (i:=9) (j:=13) rfl rfl (by kernel_rfl) (fun K a=>?_) (fun K a=>?_)
  ·skip
   go_simp
   (go_at_call 102;(with_reducible refine(Mt.of n n g.o g.o cA cc lc C H _ (D.o.drew) u.o).mono ?_);rintro e u1 ⟨A1,c1,l1,rfl,d,_,b⟩;have x:=un (show VecsL u1 W.heap.size (A1,n,c1) l1 C from d);have s:=un (It.bdrew0' b);have T:=zab b X;clear b d)
   (try go_wp2_with fail)
   refine shutOn a fun hHeld=>?_
   clear a K
   refine zaw [10,11,12] ?_;repeat refine tkX (h:=?_)
   refine zao ?_;refine zaB 13 (h:=fun K a=>?_);go_simp;refine shutOn a fun hHeld=>?_
   clear a K
   refine zay 14 (h:=fun K a=>?_);go_simp;refine shutOff a ?_;clear a K
   refine zay 15 (h:=fun K a=>?_);go_simp;refine shutOff a ?_;clear a K
   refine zaM (h:=?_);go_wp2;go_meet
   case rel=>exact⟨_,_,_,_,rfl,s.o.alloc s.o.size _,s.o.size,zal _ _ _,x.o.alloc _⟩
  ·skip
   go_simp;refine shutOn a fun hHeld=>?_
   clear a K
   refine zaB 9 (h:=fun K a=>?_);go_simp
   (go_at_call 102;(with_reducible refine(Mt.of n n g.o g.o cA cc lc C H _ (D.o.alloc _ |>.drew) u.o).mono ?_);rintro e u1 ⟨A1,c1,l1,rfl,d,_,b⟩;have x:=un (show VecsL u1 W.heap.size (A1,n,c1) l1 C from d.base (by simp));have s:=un ((zae W _).trans ((It.bdrew0' b).mono (by simp)));have f:=un (zad b (show(W.alloc (.cells #[(),.int .i64 0] 111)).drew.heap[W.heap.size]? = _ from zal _ _ _));have T:=zab b (show(W.alloc (.cells #[(),.int .i64 0] 111)).drew.cell? _=_ from cell_al I);have P:=zac f.o 0;have Q:=zac f.o 1;have ae:=zag f.o 0;have af:=zag f.o 1;simp only[ZF,Zz,ZU]at P Q;clear b d)
   (try go_wp2_with fail)
   refine shutOn a fun hHeld=>?_
   clear a K
   refine zaw [10,11,12] ?_;repeat refine tkX (h:=?_)
   refine zao ?_;refine zay 14 (h:=fun K a=>?_);go_simp;refine shutOff a ?_;clear a K
   refine zay 15 (h:=fun K a=>?_);go_simp;refine shutOff a ?_;clear a K
   refine zaM (h:=?_);go_wp2;go_meet
   case rel=>exact⟨_,_,_,_,rfl,(s.o.setCell (p:=⟨W.heap.size,0,none⟩) (Za _) _).setCell (p:=⟨W.heap.size,1,none⟩) (Za _) _,Za _,zar _ (zar _ f.o),(x.o.tk (TKeep.set f.o _) (by decide) (by decide) (by decide)).tk (TKeep.set (zar _ f.o) _) (by decide) (by decide) (by decide)⟩
 case rest =>
  rename World=>c
  obtain⟨m,A,k,l,rfl,b,R,hk,d⟩:=hcut;have ac:=un (zad b O.o);have L:=un (d);have z:=un (B.o.trans ((b).mono B.o.size));have ag:c.cell? ⟨m,0,none⟩=some (A,n,k):=zac hk 0;have aj:c.cell? ⟨m,1,none⟩=some (.int .i64 (n:Int)):=zac hk 1;clear b hk d R;go_wp2_with fail
  with_reducible refine(Mt.turned n n k A l C W.heap.size _ L.o u.o g.o g.o).mono ?_
  rintro e V ⟨A3,c3,l3,rfl,hv3,ha3,b⟩;have y:=un (zad b ac.o);have M:=un (hv3);have ad:=un (z.o.trans ((b).mono z.o.size));obtain⟨aa,Y,ah,_,ab,Z,ai,_⟩:=bf2 y.o;have J:=un ha3;have N:=un (z.o.size);clear hv3 ha3 b;go_wp2;refine Zd (v:=.agg #[(A3,n,c3),(n:Int)]) (by simp[results,results161,go_sem,aa,Y,ab,Z]) rfl ?_
  have h1:=((M.o.base N.o).tk (TKeep.set (o:=0) y.o (A3,n,c3)) (by decide) (by decide) (by decide)).tk (TKeep.set (o:=1) (zar _ y.o) (n:Int)) (by decide) (by decide) (by decide);exact⟨A3,c3,l3,rfl,h1,J.o,bsc (bsc ad.o)⟩
