/- Contracts and lemmas: Vec4 Vec5. Conditions: as each says. -/
import Derived.Test.YtbhfhkcdfmmmiaaGreatRat5Zj
import Derived.Test.YtbhfhkcdfmmmiaaGreatLin0Zj
set_option linter.all false
set_option maxHeartbeats 4000000
set_option maxRecDepth 100000
namespace Go.Proofs.YtbhfhkcdfmmmiaaGreat
open Go.RowKit Am Tryz
attribute [local go_sem ↓] Go.wp_at_zero Go.wp_at_succ
variable {ps:List (Int × Int)}{rs:List Rat}{b k:Nat}{W w w':World}
abbrev I64 (x:Int):Prop := -9223372036854775808≤x∧x≤9223372036854775807
def zcs (w:World) (A:OA) (ps:List (Int × Int)):Prop:=∀(k:Nat) (x:Int × Int),ps[k]? = some x→I64 x.1∧I64 x.2∧∃b o,A=some ⟨b,o,none⟩∧w.cell? ⟨b,o+k*2,none⟩=some (.int .i64 x.1)∧w.cell? ⟨b,o+k*2+1,none⟩=some (.int .i64 x.2)
theorem zcs.below{A:OA}(h:zcs w A ps)(a:Below w w w'):zcs w' A ps:=by
 intro k x g;obtain⟨h1,c,b,o,d,e,f⟩:=h k x g;grind[zab]
def frs (ps:List (Int × Int)):List Rat:=ps.map fun x=>fr x.1 x.2
theorem zw8{x:Int × Int}(h:ps[k]? = some x):frs (ps.take (k+1))=frs (ps.take k)++[fr x.1 x.2]:=by
 unfold frs;rw[ZN,h];simp
namespace Lw
theorem zA3(p d:Int)(c:d≠0)(j:I64 p)(i:I64 d)(w:World):Calls prog 19 #[.agg #[.int .i64 p,.int .i64 d]] w (ze4 w (fr p d)):=by
 have m:=un (zDB (p:=p) c);have B:(d == 0)=false:=by simpa using c
 have g:=un j;have f:=un i;have l:=un c;clear j c i;obtain⟨W,b⟩:∃W,((w.alloc (.cells #[.int .i64 p,.int .i64 d] 58)).alloc (.cells #[false,(),()] 41))=W:=⟨_,rfl⟩
 have o:=un (show W.heap[w.heap.size]? = some (.cells #[.int .i64 p,.int .i64 d] 58 (0,0))by rw[←b];exact zak (zam (by simp)));have q:=un (show W.heap[w.heap.size+1]? = some (.cells #[false,(),()] 41 (0,0))by rw[←b];exact zam (by simp));have a:=un (show Below w w W by rw[←b];exact(zae w _).alloc (by simp) _);obtain⟨C,_,D,_⟩:=bc2 o.o;go_enter func19,ntmps19;go_wp2_with fail
 clear b;with_reducible refine(Rt.of p d l.o g.o.1 g.o.2 f.o.1 f.o.2 _).mono ?_
 rintro e w1 ⟨g3,A3,m3,c3,D3,md3,cd3,rfl,hn,hb⟩;have k:=un (show(w1.alloc (.cells #[g3,(A3,m3,c3),(D3,md3,cd3)] 41)).heap[w.heap.size+1]? = some (.cells #[false,(),()] 41 (0,0))from zak (zad hb q.o));have n:=un (show RatS (w1.alloc (.cells #[g3,(A3,m3,c3),(D3,md3,cd3)] 41)) g3 (A3,m3,c3) (D3,md3,cd3) (Rat.divInt p d)from(hn).alloc _)
 have s:=un (show Below w w (w1.alloc (.cells #[g3,(A3,m3,c3),(D3,md3,cd3)] 41))from((a.o.trans ((hb).mono a.o.size))).alloc ((a.o.trans ((hb).mono a.o.size))).size _);have A:=un (show(w1.alloc (.cells #[g3,(A3,m3,c3),(D3,md3,cd3)] 41)).heap[w1.heap.size]? = some (.cells #[g3,(A3,m3,c3),(D3,md3,cd3)] 41 (0,0))from zam (by simp));obtain⟨x,t,F,_,y,r,E,_,u,z,G,_⟩:=bf3 k.o;obtain⟨H,_,I,_,J,_⟩:=bc3 A.o;clear hn hb;go_wp2
 refine Zd (v:=.agg #[g3,(A3,m3,c3),(D3,md3,cd3)]) (by simp[results,results19,go_sem,x,t,y,r,u,z]) rfl ?_;rw[m.o];exact⟨g3,A3,m3,c3,D3,md3,cd3,rfl,n.o.set3 k.o (by decide) _ _ _,bsc (bsc (bsc s.o))⟩
theorem one(p d:Int)(a:I64 p)(b:I64 d)(w:World):Calls prog 19 #[.agg #[.int .i64 p,.int .i64 d]] w (ze4 w (fr p d)):=by grind[zxr,zA3]
theorem make(A:OA)(n c:Nat)(ps:List (Int × Int))(w:World)(y:n=ps.length)(u:zcs w A ps)(v:n≤1048576) :
  Calls prog 24 #[(A,n,c)] w (zq5 w (frs ps)):=by
 have q:=un y;have P:=un u;have Z:n≤9223372036854775807:=by omega
 have I:=un v;clear y u v;go_enter func24,ntmps24;go_wp2
 go_loopw [3,4] (fun T i wr=>∃(k:Nat) (f:OA) (p c':Nat),i=.int .i64 k∧T=(f,p,c')∧k≤n∧VecS wr w (f,p,c') (frs (ps.take k))∧Below w w wr)
  (fun _ i _=>n-(intOf i).toNat)
 case atStart=>exact⟨0,none,0,0,rfl,rfl,Zb _,VecS.nil _ _,Zg _ _⟩
 case round =>
  obtain⟨k,f,p,c',rfl,rfl,hk,d,j⟩:=hrel;have M:=un d;have a:=un j;by_cases R:k<n
  ·obtain⟨x,l⟩:∃x,ps[k]? = some x:=⟨ps[k]'(by rw[←q.o];exact R),Ze _⟩
   have K:=un l;obtain⟨V,W⟩:=x;obtain⟨z,t,b,o,rfl,h0,h1⟩:=(P.o.below a.o) k _ l;have J:=un z;have G:=un t;have X:(0:Int)≤(k:Int):=Zf _;have Y:(k:Int)<(n:Int):=by omega
   clear j d l z t;simp only at h0 h1;go_wp2_with fail
   refine(one V W J.o G.o _).mono ?_;rintro e U ⟨g,A,m,c2,D,md,cd,rfl,hq,hb⟩;have r:=un (Zc a.o.size hb.size);have E:=un (a.o.trans (hb.mono a.o.size));have N:=un (M.o.below hb);have L:=un hq;clear hb hq
   go_wp2_with (at_builtin;go_loud (refine zev rfl _ _ rfl rfl (N.o.alloc _) rfl (zal _ _ _) (L.o.alloc _) (by unfold frs;rw[Zl,Zn];have:=I.o;omega) (by have:=r.o;simp;omega) ?_;intro C n3 Q w3 B s S;have O:=un B;have F:=un s;clear B s))
   subst S;exact⟨⟨k+1,C,_,Q,by simp,rfl,by omega,by rw[zw8 K.o];exact O.o,(E.o.alloc r.o _).trans F.o⟩,by simp[intOf];omega⟩
  ·obtain rfl:k=n:=by omega
   have H:=un d;clear j d;go_wp2;go_ret
   refine⟨_,_,_,rfl,?_,a.o⟩;have h:=H.o;rw[q.o,Xn]at h;exact h
end Lw
structure Bel (W w:World):Prop where
  b:Below W W w
theorem Bel.below(h:Bel W w)(a:Below w w w'):Bel W w':=⟨h.b.trans (a.mono h.b.size)⟩
theorem Bel.alloc{W w:World}(h:Bel W w)(o:Obj):Bel W (w.alloc o):=h.below (zae w o)
theorem Bel.drew{W w:World}(h:Bel W w):Bel W w.drew:=h.below (zap w 1)
theorem Bel.set3(h:Bel W w){i j:Nat}(a:W.heap.size≤b)(u v x:Value):Bel W (((w.setCell ⟨b,i,none⟩ u).setCell ⟨b,j,none⟩ v).setCell ⟨b,k,none⟩ x):=⟨((h.b.setCell a u).setCell a v).setCell a x⟩
theorem zl9(n:Nat):(madeCells (Value.agg #[false,(),()]).cells (n*3)).toList=rcells (List.replicate n (false,.slice none 0 0,.slice none 0 0)):=by
 apply ZT;intro j;have d:(Value.agg #[false,(),()]).cells=#[.bool false,.slice none 0 0,.slice none 0 0]:=rfl;rw[d];by_cases hj:j<n*3
 ·have h1:(madeCells #[false,(),()] (n*3)).toList[j]? = some ([Value.bool false,.slice none 0 0,.slice none 0 0][j%3]?.getD default):=by
   simp[madeCells,hj]
  have hk:(List.replicate n ((false,.slice none 0 0,.slice none 0 0):RV))[j/3]? = some (false,.slice none 0 0,.slice none 0 0):=by
   rw[ZJ,if_pos (by omega)]
  obtain⟨a,b,c⟩:=ziI _ _ _ hk;rw[h1];grind
 ·rw[Xq (by simp[madeCells];omega),Xq (by rw[zcC];simp;omega)]
theorem zdv{ops:Array Oper}{rest:List Oper}{o:Oper}{a:Act}{Q:Exit→Act→World→Prop}
  (hg:o.guard=none) (l c:Operand) (m:o.op=Op.makeSlice 28 l c) (n:Nat) (L:Int) (j:a.eval l=.int .i64 L) (hc:a.eval c=.int .i64 L) (g:L=(n:Int)) (v:n≤1048576) (H:Nat) (e:w.heap.size=H)
  (f:∀w1,VecS w1 w (H,n,n) (List.replicate n 0)→Below w w w1→wpList prog ops Q rest (a.put o.dst (H,n,n)) w1):wpList prog ops Q (o::rest) a w:=by
 obtain⟨u,hi,p,s,t⟩:=info_parts ze0;subst e;subst g;refine wpList_make_full w hg l c 28 m w.heap.size 41 u _ 3 underlying28 hi p s .i64 .i64 n n n j hc rfl rfl (by rw[t];omega) (by unfold maxLen;omega) (Za _) ?_;intro w1 d i;rw[zl9]at d;refine f w1 ⟨List.replicate n (false,.slice none 0 0,.slice none 0 0),by simp,?_,by rw[Zr];exact d⟩ ((Zg _ _).grown i (Za _) (fun k hk=>by cases hk));simp_all[ZJ,if_pos,RatS.zero]
def mix (rs:List Rat) (k:Nat):List Rat:=rs.take k++List.replicate (rs.length-k) 0
theorem zhW(rs:List Rat):mix rs 0=List.replicate rs.length 0:=by simp[mix]
theorem zlc(rs:List Rat):mix rs rs.length=rs:=by simp[mix]
theorem zhV{q:Rat}(h:rs[k]? = some q):(mix rs k).set k q=mix rs (k+1):=by
 have hk:=(Zm.1 h).1;unfold mix;rw[XR,if_neg (by rw[Zn];omega),ZN,h,Zn,Xb (ZW hk),ZZ,show rs.length-k=(rs.length-(k+1))+1 by omega,XB];simp
theorem zld(h:k<rs.length):(mix rs k)[k]? = some 0:=by
 unfold mix;rw[Zy (by rw[Zn];omega),Zn,Xb (ZW h),ZZ,ZJ,if_pos (by omega)]
theorem blkOf{o:Nat}{v:Value}(h:w.cell? ⟨b,o,none⟩=some v):b<w.heap.size:=XC w ⟨b,o,none⟩ h
namespace Vc
theorem addTimesS(S:Nat)(hS:12*S+8≤LIM)(A:OA)(n c:Nat)(xs:List Rat)(g:Bool)(R:OA)(m p:Nat)(D:OA)(t o:Nat)(r:Rat)(B:OA)(f c':Nat)(ys:List Rat)(H H':Nat)(w:World)(hx:VecS w H (A,n,c) xs)(hr:RatS w g (R,m,p) (D,t,o) r)(hy:VecS w H' (B,f,c') ys)
  (hl:xs.length=ys.length) (d:n≤1048576) (zx:∀q∈xs,mw q≤S) (zr:mw r≤S) (zy:∀q∈ys,mw q≤S) :
  Calls prog 149 #[(A,n,c),.agg #[g,(R,m,p),(D,t,o)],(B,f,c')] w (zcd w (zly xs r ys) true):=by
 have l:=hx.len;have aO:=hy.len;have en:f=n:=by omega
 subst en;have u:=un l;have y:=un hl;have aw:=un d;have ZX:=un zx;have ZR:=un zr;have ZY:=un zy;have af:=un hS;have bn:f≤9223372036854775807:=by omega
 clear l aO hl d zx zr zy hS;obtain⟨W,s⟩:∃W,(w.alloc (.cells #[g,(R,m,p),(D,t,o)] 41))=W:=⟨_,rfl⟩
 have aI:=un (show W.heap[w.heap.size]? = some (.cells #[g,(R,m,p),(D,t,o)] 41 (0,0))by rw[←s];exact zam (by simp));have X:=un (show Below w w W by rw[←s];exact zae w _);have HZ:=un (show w.heap.size+1≤W.heap.size by rw[←s];simp);have HA:=un (show VecS W H (A,f,c) xs by rw[←s];exact(hx).alloc _);have HB:=un (show VecS W H' (B,f,c') ys by rw[←s];exact(hy).alloc _);have HR:=un (show RatS W g (R,m,p) (D,t,o) r by rw[←s];exact(hr).alloc _)
 clear hx hr hy;go_enter func149,ntmps149;go_wp2_with (at_make;go_must (refine zdv rfl _ _ rfl f _ rfl rfl rfl aw.o W.heap.size rfl ?_;intro w1 ho ak))
 clear s;have HO:=un ho;have av:=un ak;clear ho ak;go_wp2
 go_loopw [20] (fun i wr=>∃k:Nat,i=.int .i64 k∧k≤f∧VecS wr W.heap.size (.slice (some ⟨W.heap.size,0,none⟩) f f) (mix (zly xs r ys) k)∧Below W.heap.size W wr)
  (fun i _=>f-(intOf i).toNat)
 case atStart=>exact⟨0,rfl,Zb _,by rw[zhW,zdt y.o,←u.o];exact HO.o,av.o⟩
 case round =>
  obtain⟨k,rfl,hk,P,j⟩:=hrel;by_cases Z:k<f
  ·obtain⟨a,O⟩:∃a,xs[k]? = some a:=⟨xs[k]'(by rw[←u.o];exact Z),Ze _⟩
   obtain⟨b,d⟩:∃b,ys[k]? = some b:=⟨ys[k]'(by rw[←y.o,←u.o];exact Z),Ze _⟩
   obtain⟨x,rfl,bh,bi⟩:=HA.o.has (by omega);obtain⟨by_,rfl,bj,bk⟩:=HB.o.has (by omega);obtain⟨M,C,Q,I,F,U,K,k0,k1,k2,ai⟩:=(HA.o.below j).at_ O;obtain⟨N,E,T,J,G,V,L,l0,l1,l2,aj⟩:=(HB.o.below j).at_ d;have au:=un (zad j aI.o);have a9:=un (HR.o.below j);have aD:=un (show RatS wr M (C,Q,I) (F,U,K) a from ai);have aE:=un (show RatS wr N (E,T,J) (G,V,L) b from aj)
   have Y:=un (P);have HW:=un (Bel.mk j);obtain⟨bw,_,bz,_,bC,_⟩:=bc3 au.o;have aW:wr.cell? ⟨x,k*3,none⟩=some (.bool M):=k0;have aQ:=zaa aW;have aX:wr.cell? ⟨x,k*3+1,none⟩=some (C,Q,I):=k1;have aR:=zaa aX;have a0:=k2;have aS:=zaa a0;have a1:=l0;have aT:=zaa a1
   have a5:=l1;have aU:=zaa a5;have a6:=l2;have aV:=zaa a6;have ay:=un (zmR (r:=r) O d);have ZA:=un (ZX.o a (Zh O));have ZB:=un (ZY.o b (Zh d));have bl:(0:Int)≤(k:Int):=Zf _;have bm:(k:Int)<(f:Int):=by omega
   have L1:=un (show 4*(mw r+mw b)+8≤LIM by have:=ZR.o;have:=ZB.o;have:=af.o;omega);have L2:=un (show 4*(mw a+mw (r*b))+8≤LIM by have:=ZR.o;have:=ZB.o;have:=ZA.o;have:=zdI r b;have:=af.o;omega);have aA:=un (zld (k:=k) (rs:=zly xs r ys) (by rw[zdt y.o,←u.o];exact Z));clear P j O d k0 k1 k2 l0 l1 l2 ai aj;have bo:=HZ.o;go_wp2_with fail
   go_region_held3 (fun w'=>w'.cell? ⟨w,0,none⟩=some (.bool g)∧w'.cell? ⟨w,1,none⟩=some (R,m,p)∧w'.cell? ⟨w,2,none⟩=some (D,t,o)∧w'.cell? ⟨x,k*3,none⟩=some (.bool M)∧w'.cell? ⟨x,k*3+1,none⟩=some (C,Q,I)∧w'.cell? ⟨x,k*3+2,none⟩=some (F,U,K)∧w'.cell? ⟨by_,k*3,none⟩=some (.bool N)∧w'.cell? ⟨by_,k*3+1,none⟩=some (E,T,J)∧w'.cell? ⟨by_,k*3+2,none⟩=some (G,V,L))
    (((try go_split_ands);(try simp only[Z3]);(repeat' apply And.intro)<;>(repeat(first | with_reducible assumption | with_reducible refine cell_set (by omega) ?_ | with_reducible refine cell_al ?_))))
    (first
     | (go_at_call 15;(with_reducible refine(Rt.mul g R m p D t o r N E T J G V L b _ a9.o.drew aE.o.drew L1.o).mono ?_);rintro e u1 ⟨g1,A1,m1,c1,D1,md1,cd1,rfl,l,d⟩;have ar:=un (zad d au.o);have bd:=un (aD.o.drew.below d);have bb:=un (Y.o.drew.below d);have ba:=un (HW.o.drew.below d);have HM:=un (l);obtain⟨bA,_,bB,_,bG,_⟩:=bc3 ar.o;have aZ:=zab d aQ;have a2:=zab d aR;have a3:=zab d aS;have a4:=zab d aT;have a7:=zab d aU;have a8:=zab d aV;clear l d)
     | (go_at_call 21;(with_reducible refine(Rt.add M C Q I F U K a g1 A1 m1 c1 D1 md1 cd1 (r*b) _ bd.o HM.o L2.o).mono ?_);rintro e u2 ⟨g2,A2,m2,c2,D2,md2,cd2,rfl,l,d⟩;have aY:=un (zad d ar.o);have z:=un (bb.o.below d);have bc:=un (ba.o.below d);have HS:=un (l);obtain⟨bE,_,bF,_,bM,_⟩:=bc3 aY.o;have bD:=zab d aZ;have bH:=zab d a2;have bJ:=zab d a3;have bI:=zab d a4;have bK:=zab d a7;have bL:=zab d a8;have pp:=z.o.at_ aA.o;obtain⟨go,Ao,mo,co,Do,bp,bg,o0,o1,o2,_⟩:=pp;have bu:=z.o.fro (k*3);have of1:=z.o.fro (k*3+1);have bv:=z.o.fro (k*3+2);clear l d)
     | fail)
   go_wp2;go_roundw
   case rel=>exact⟨k+1,by go_num,by omega,by rw[←zhV ay.o];exact VecS.store z.o k HS.o,(Bel.set3 bc.o (Za _) _ _ _).b⟩
   case measure=>simp[intOf];omega
  ·obtain rfl:k=f:=by omega
   have Y:=un P;have HF:=un j;clear P j;go_wp2;refine Zd (v:=.tuple #[.slice (some ⟨W.heap.size,0,none⟩) k k,true]) (by simp[results,results149,go_sem]) rfl ?_;refine⟨_,_,_,rfl,?_,X.o.trans (HF.o.mono X.o.size)⟩;have h:=Y.o;rw[show k=(zly xs r ys).length by rw[zdt y.o,←u.o],zlc]at h;rw[←show k=(zly xs r ys).length by rw[zdt y.o,←u.o]]at h;exact h.base X.o.size
