/- Contracts and lemmas: PrM. Conditions: as each says. -/
import Derived.Test.YtbhfhkcdfmmmiaaGreatDoorBoolsZd
import Derived.Test.YtbhfhkcdfmmmiaaGreatDoorTb3Zd
set_option linter.all false
set_option maxHeartbeats 2000000
set_option maxRecDepth 100000
namespace Go.Proofs.YtbhfhkcdfmmmiaaGreatDoor
open Go.RowKit Am
open Lib (hid)
attribute [local go_sem ↓] Go.wp_at_zero Go.wp_at_succ
variable {zs:List Int}{ys:List Rat}{N k m:Nat}
def sgI (q:Rat):Int:=if q<0 then -1 else 1
theorem zUb(q:Rat):((sgI q:Int):Rat)=sgn q:=by unfold sgI sgn;split<;>rfl
theorem zTW(q:Rat):sgI q = -1∨sgI q=1:=by unfold sgI;split<;>simp
def bkL (zs:List Int) (ys:List Rat) (k:Nat):List Rat:=(List.range ys.length).map fun i=>if i<k then ((zs.getD i 0:Int):Rat)*el ys i else el ys i
theorem zSJ(zs:List Int)(ys:List Rat)(k:Nat):(bkL zs ys k).length=ys.length:=by simp[bkL]
theorem zVQ(zs:List Int)(ys:List Rat):bkL zs ys 0=ys:=by
 apply List.ext_getElem?;intro i;unfold bkL;rw[List.getElem?_map];by_cases h:i<ys.length
 ·rw[List.getElem?_range h,zaH h];simp
 ·rw[List.getElem?_eq_none (by simpa using h),List.getElem?_eq_none (by omega)];rfl
theorem zTv{i:Nat}(h:i<ys.length):(bkL zs ys k)[i]? = some (if i<k then ((zs.getD i 0:Int):Rat)*el ys i else el ys i):=by
 unfold bkL;rw[List.getElem?_map,List.getElem?_range h];rfl
theorem zXf(h:k<ys.length):(bkL zs ys k).set k (((zs.getD k 0:Int):Rat)*el ys k)=bkL zs ys (k+1):=by
 apply List.ext_getElem?;intro i;rw[List.getElem?_set];by_cases b:i<ys.length
 ·rw[zTv b,zTv b,zSJ];by_cases e:k=i
  ·subst e;rw[if_pos rfl,if_pos h,if_pos (by omega)]
  ·rw[if_neg e];by_cases a:i<k
   ·rw[if_pos a,if_pos (by omega)]
   ·rw[if_neg a,if_neg (by omega)]
 ·rw[List.getElem?_eq_none (by rw[zSJ];omega),List.getElem?_eq_none (by rw[zSJ];omega),if_neg (by omega)]
def zUG (N m k:Nat):List Rat:=List.replicate N 0++(List.replicate k 1++List.replicate (m-k) 0)
theorem zVD(N m:Nat):zUG N m 0=List.replicate (N+m) 0:=by unfold zUG;simp[List.replicate_append_replicate]
theorem zWG(N m:Nat):zUG N m m=zJG N m:=by unfold zUG zJG;simp
theorem zWI(h:k<m):(zUG N m k).set (N+k) 1=zUG N m (k+1):=by
 unfold zUG;rw[List.set_append,if_neg (by rw[List.length_replicate];omega),List.length_replicate,Nat.add_sub_cancel_left,List.set_append,if_neg (by rw[List.length_replicate];omega),List.length_replicate,Nat.sub_self,show m-k=(m-(k+1))+1 by omega,List.replicate_succ,List.set_cons_zero,List.replicate_succ' (n:=k),List.append_assoc];rfl
theorem zWH(h:k<m):(zUG N m k)[N+k]? = some 0:=by
 unfold zUG;rw[List.getElem?_append_right (by rw[List.length_replicate];omega),List.length_replicate,Nat.add_sub_cancel_left,List.getElem?_append_right (by rw[List.length_replicate];omega),List.length_replicate,Nat.sub_self,List.getElem?_replicate,if_pos (by omega)]
theorem zUR(N k:Nat):zKa N (k+1)=zKa N k++[N+k]:=by unfold zKa;rw[List.range_succ,List.map_append];rfl
theorem zUB(N m:Nat):zsn (N+m) N=zKc N m:=by unfold zsn zKc;rw[Nat.add_sub_cancel_left]
def zVK (w:World) (n:Nat) (xs:List Bool) (e:Ending) (w':World):Prop:=∃(A:OA) (c:Nat),e=.returned (A,n,c)∧BoolsS w' w.heap.size (A,n,c) xs∧Below w.heap.size w w'
namespace Pr
theorem pmay(rA:OA)(rc:Nat)(bA:OA)(bc_:Nat)(kA:OA)(kc:Nat)(eA:OA)(ec:Nat)(g:OA)(j m a own N:Nat)(w:World)(D:N≤a)(z:a≤64) :
  Calls Tryz.prog 36 #[.agg #[(rA,m,rc),(a:Int),(bA,m,bc_),(kA,a,kc),(own:Int),(eA,m,ec),(g,m,j),(N:Int)]] w (zVK w a (zsn a N)):=by
 obtain⟨W,e⟩:∃W,(w.alloc (.cells #[(rA,m,rc),(a:Int),(bA,m,bc_),(kA,a,kc),(own:Int),(eA,m,ec),(g,m,j),(N:Int)] 95))=W:=⟨_,rfl⟩
 have f:=hid (show W.heap[w.heap.size]? = some (.cells #[(rA,m,rc),(a:Int),(bA,m,bc_),(kA,a,kc),(own:Int),(eA,m,ec),(g,m,j),(N:Int)] 95 (0,0))by rw[←e];exact zam (by simp));have n:=hid (show Below w.heap.size w W by rw[←e];exact zae w _);have u:=hid (show w.heap.size+1≤W.heap.size by rw[←e];simp);obtain⟨_,_,_,_,_,_,aB,_⟩:=bc8 f.out;go_enter Tryz.func36,Tryz.ntmps36
 go_wp2_with (at_make;go_must (refine zf8 rfl _ _ rfl a _ rfl rfl rfl (by omega) W.heap.size rfl ?_;intro w1 q l;have r:=hid l;have x:=hid (zad l f.out);have s:=hid (q);obtain⟨_,_,_,_,_,_,_,_,_,_,_,_,_,_,Y,_⟩:=bc8 x.out;clear q l))
 clear e
 go_loopw [12] (fun i wr=>∃k:Nat,i=.int .i64 k∧k≤N∧BoolsS wr W.heap.size (.slice (some ⟨W.heap.size,0,none⟩) a a) (zsn a k)∧Below W.heap.size W wr)
  (fun i _=>N-(intOf i).toNat)
 case atStart=>exact⟨0,rfl,Nat.zero_le _,by rw[zhU];exact s.out,r.out⟩
 case round =>
  obtain⟨k,rfl,hk,d,c⟩:=hrel;have v:=hid (zad c f.out);have o:=hid (d);have t:=hid (Bel.mk c);have y:=hid (n.out.trans ((c).mono n.out.size));by_cases C:k<N
  ·have y0:=d.at_ (zrF (show k<a by omega));have E:=d.fro k;have A:(0:Int)≤(k:Int):=Int.natCast_nonneg _;have B:(k:Int)<(a:Int):=by omega
   clear d c;go_wp2;go_roundw
   case rel=>exact⟨k+1,by go_num,by omega,by rw[←zoQ (show k<a by omega)];exact o.out.store k true,t.out.b.setCell (p:=⟨W.heap.size,k,none⟩) (Nat.le_refl _) _⟩
   case measure=>simp[intOf];omega
  ·obtain rfl:N=k:=by omega
   clear d c;go_wp2;go_ret
   exact⟨_,_,rfl,o.out.base (by have:=u.out;omega),y.out⟩
theorem pback(rA:OA)(rc:Nat)(bA:OA)(bc_:Nat)(kA:OA)(kc:Nat)(eA:OA)(ec:Nat)(p:OA)(n m f own N:Nat)(zs:List Int)(V:Nat)(Y:OA)(x H:Nat)(ys:List Rat)(S:Nat)(w:World)(P:IntsZ w V (p,m,n) zs)(X:∀z∈zs,z = -1∨z=1)(O:VecS w H (Y,m,x) ys)(hS:8*S+8≤LIM)(h1:1≤S)(zy:∀q∈ys,mw q≤S)(c:m≤64) :
  Calls Tryz.prog 38 #[.agg #[(rA,m,rc),(f:Int),(bA,m,bc_),(kA,f,kc),(own:Int),(eA,m,ec),(p,m,n),(N:Int)],(Y,m,x)] w (zq5 w (bkL zs ys m)):=by
 have ak:=hid P.len;have F:=hid O.len;have au:=hid X;have ao:=hid hS;have H1:=hid h1;have ZY:=hid zy;have aS:m≤9223372036854775807:=by omega
 clear X hS h1 zy;obtain⟨W,r⟩:∃W,(w.alloc (.cells #[(rA,m,rc),(f:Int),(bA,m,bc_),(kA,f,kc),(own:Int),(eA,m,ec),(p,m,n),(N:Int)] 95))=W:=⟨_,rfl⟩
 have J:=hid (show W.heap[w.heap.size]? = some (.cells #[(rA,m,rc),(f:Int),(bA,m,bc_),(kA,f,kc),(own:Int),(eA,m,ec),(p,m,n),(N:Int)] 95 (0,0))by rw[←r];exact zam (by simp));have E:=hid (show Below w.heap.size w W by rw[←r];exact zae w _);have R:=hid (show IntsZ W V (p,m,n) zs by rw[←r];exact(P).alloc _);have ap:=hid (show VecS W H (Y,m,x) ys by rw[←r];exact(O).alloc _)
 obtain⟨bG,bM,bH,bB,bQ,bU,cm,cg,co,cj,bb,a8,bp,bl,bh,bm⟩:=bc8 J.out;clear P O;go_enter Tryz.func38,Tryz.ntmps38;go_wp2_with fail
 clear r;with_reducible refine(Vc.copy Y m x ys H _ ap.out (by omega)).mono ?_
 rintro e w1 ⟨A7,c7,rfl,d,c⟩;have aC:=hid (zad c J.out);have HO:=hid (d);obtain⟨bE,bK,bF,bL,bP,bR,cn,ch,cp,ck,bc,a9,bx,bn,bz,bo⟩:=bc8 aC.out;have ah:=hid c;clear d c;go_upto_region 2 with fail
 have aT:¬(m:Int)<(m:Int):=by omega
 go_cut[14,15] (fun a b wr=>a=(m:Int)∧b=.int .i64 0∧wr=w1)
 case first =>
  go_wp2
  all_goals
   go_meet
   case rel=>exact⟨by first | rfl | (simp;done),rfl,rfl⟩
 obtain⟨rfl,rfl,rfl⟩:=hcut;rename World=>w1
 go_wp2
 go_loopw [15] (fun i wr=>∃k:Nat,i=.int .i64 k∧k≤m∧VecS wr W.heap.size (A7,m,c7) (bkL zs ys k)∧Below W.heap.size W wr)
  (fun i _=>m-(intOf i).toNat)
 case atStart=>exact⟨0,rfl,Nat.zero_le _,by rw[zVQ];exact HO.out,ah.out⟩
 case round =>
  obtain⟨k,rfl,hk,d,o⟩:=hrel;by_cases A:k<m
  ·obtain⟨l,rfl,_,_⟩:=d.has (by omega);obtain⟨L,rfl,_,_⟩:=R.out.has (by omega);have Q:zs[k]? = some (zs.getD k 0):=zaO (by rw[←ak.out];exact A);obtain⟨y,s,B,u,t,C,v,y0,y1,Z,M⟩:=d.at_ (zTv (zs:=zs) (k:=k) (by rw[←F.out];exact A));rw[if_neg (Nat.lt_irrefl k)]at M;have l0:=(R.out.below o).at_ Q;have b1:=d.fro (k*3);have b2:=d.fro (k*3+1);have b3:=d.fro (k*3+2);have U:=hid (au.out _ (List.mem_of_getElem? Q));have ar:=hid (ZY.out _ (List.mem_of_getElem? (zaH (xs:=ys) (j:=k) (by rw[←F.out];exact A))))
   have T:=hid (zXf (zs:=zs) (ys:=ys) (k:=k) (by rw[←F.out];exact A));generalize zs.getD k 0=z at l0 U T;have aa:=hid (zad o J.out);have am:=hid (show RatS wr y (s,B,u) (t,C,v) (el ys k)from M);have G:=hid (d);have HW:=hid (Bel.mk o);obtain⟨bI,bC,bJ,bD,b0,bX,ce,b9,cf,b8,bd,ba,br,bq,bu,bi⟩:=bc8 aa.out;have aE:wr.cell? ⟨L,k,none⟩=some (.int .i64 z):=l0;have ay:=zaa aE
   have aG:wr.cell? ⟨l,k*3,none⟩=some (.bool y):=y0;have az:=zaa aG;have aH:wr.cell? ⟨l,k*3+1,none⟩=some (s,B,u):=y1;have aA:=zaa aH;have aJ:wr.cell? ⟨l,k*3+2,none⟩=some (t,C,v):=Z;have aB:=zaa aJ;have I:=hid (show I64 z by rcases U.out with rfl | rfl<;>exact⟨by decide,by decide⟩);have L1:=hid (show 4*(mw ((z:Int):Rat)+mw (el ys k))+8≤LIM by have:=zu9 z I.out;have:=ar.out;have:=ao.out;have:=H1.out;omega);have ax:=(d.lt rfl).1;have aQ:(0:Int)≤(k:Int):=Int.natCast_nonneg _
   have aR:(k:Int)<(m:Int):=by omega
   clear d o Q y0 y1 Z l0 M;go_wp2_with fail
   refine za2 (S:=fun w'=>w'.cell? ⟨w.heap.size,0,none⟩=some (rA,m,rc)∧w'.cell? ⟨w.heap.size,1,none⟩=some (.int .i64 (f:Int))∧w'.cell? ⟨w.heap.size,2,none⟩=some (bA,m,bc_)∧w'.cell? ⟨w.heap.size,3,none⟩=some (kA,f,kc)∧w'.cell? ⟨w.heap.size,4,none⟩=some (.int .i64 (own:Int))∧w'.cell? ⟨w.heap.size,5,none⟩=some (eA,m,ec)∧w'.cell? ⟨w.heap.size,6,none⟩=some (L,m,n)∧w'.cell? ⟨w.heap.size,7,none⟩=some (.int .i64 (N:Int))∧w'.cell? ⟨L,k,none⟩=some (.int .i64 z)∧w'.cell? ⟨l,k*3,none⟩=some (.bool y)∧w'.cell? ⟨l,k*3+1,none⟩=some (s,B,u)∧w'.cell? ⟨l,k*3+2,none⟩=some (t,C,v)) 14 (h:=fun hHeld=>?_)
   refine zaw [0,1,2,3,4,5,6,8,9,10,11] ?_;repeat refine tkE (hS:=hHeld) (h:=?_)
   refine zao ?_;refine zaN 7 (h:=fun K g=>?_);go_simp
   (go_at_call 30;(with_reducible refine(Rt.int z I.out.1 I.out.2 _).mono ?_);rintro e u1 ⟨g1,A1,m1,c1,D1,md1,cd1,rfl,hn,c⟩;have ab:=hid (zad c aa.out);have aP:=hid (am.out.drew.below c);have aO:=hid (G.out.drew.below c);have aN:=hid (HW.out.drew.below c);have HM:=hid (hn);obtain⟨bY,bN,bZ,bO,b6,b4,a7,cs,a4,ct,a5,cq,bs,be,bv,bj⟩:=bc8 ab.out;have ac:=zab c ay;have aW:=zaa ac;have ad:=zab c az;have aY:=zaa ad;have af:=zab c aA;have a0:=zaa af;have ae:=zab c aB;have a2:=zaa ae;clear hn c)
   (try go_wp2_with fail)
   refine g.out _ _ kp fun hHeld=>?_
   clear g K;try simp only[Act.put,pu1,pu2,pu3,pu4,pu5,pu6]
   refine zaN 12 (h:=fun K g=>?_);go_simp
   (go_at_call 71;(with_reducible refine(Rt.mul g1 A1 m1 c1 D1 md1 cd1 ((z:Int):Rat) y s B u t C v (el ys k) _ HM.out aP.out L1.out).mono ?_);rintro e u2 ⟨g2,A2,m2,c2,D2,md2,cd2,rfl,hn,c⟩;have aD:=hid (zad c ab.out);have D:=hid (aO.out.below c);have aM:=hid (aN.out.below c);have HS:=hid (hn);obtain⟨bV,bS,bW,bT,cb,b5,ci,cc,cl,cd,a6,cr,bt,bf,bw,bk⟩:=bc8 aD.out;have aF:=zab c ac;have aX:=zaa aF;have aI:=zab c ad;have aZ:=zaa aI;have aK:=zab c af;have a1:=zaa aK;have aL:=zab c ae;have a3:=zaa aL;have aU:=D.out.fro (k*3);have of1:=D.out.fro (k*3+1);have aV:=D.out.fro (k*3+2);clear hn c)
   (try go_wp2_with fail)
   refine g.out _ _ kp fun hHeld=>?_
   clear g K;try simp only[Act.put,pu1,pu2,pu3,pu4,pu5,pu6]
   refine zaw [13] ?_;repeat refine tkE (hS:=hHeld) (h:=?_)
   refine zao ?_;refine zba (h:=fun K g=>?_);go_simp;refine g.out _ _ ?_;clear g K;try simp only[Act.put,pu1,pu2,pu3,pu4,pu5,pu6]
   refine za1 (h:=?_);go_wp2;go_roundw
   case rel=>exact⟨k+1,by go_num,by omega,by rw[←T.out];exact VecS.store D.out k HS.out,(Bel.set3 aM.out ax _ _ _).b⟩
   case measure=>simp[intOf];omega
  ·obtain rfl:m=k:=by omega
   have G:=hid d;have HF:=hid o;clear d o;go_wp2;go_ret
   exact⟨_,_,_,rfl,G.out.base E.out.size,E.out.trans (HF.out.mono E.out.size)⟩
theorem pfirst(rA:OA)(rc:Nat)(bA:OA)(bc_:Nat)(kA:OA)(kc:Nat)(eA:OA)(ec:Nat)(r:OA)(s m a own N:Nat)(lA:List Value)(S:Nat)(A:List (List Rat))(b c:List Rat)(left:List Int)(w:World)(hS:StdP w rA rc lA bA bc_ kA kc eA ec m a S A b c left)(Q:N+m=a)(d:Basis m a A (zKa N m))(U:zor m S≤LIM) :
  Calls Tryz.prog 76 #[.agg #[(rA,m,rc),(a:Int),(bA,m,bc_),(kA,a,kc),(own:Int),(eA,m,ec),(r,m,s),(N:Int)]] w fun e w'=>∃(E:World) (q:Nat) (C:OA) (P:Nat) (y:OA) (B:Nat),e=.returned (.tuple #[.pointer (some ⟨q,0,none⟩),(C,a,P)])∧zhi E w' E.heap.size q rA rc lA bA bc_ kA kc eA ec m a S own A b c left y B (zKa N m)∧VecS w' w.heap.size (C,a,P) (zJG N m)∧Below w.heap.size w E∧Below w.heap.size w w':=by
 have o:=hid Q;have af:=hid d;have ag:=hid U;have aU:=hS.hm;have aX:=hS.hN
 clear Q d U;obtain⟨W,j⟩:∃W,(w.alloc (.cells #[(rA,m,rc),(a:Int),(bA,m,bc_),(kA,a,kc),(own:Int),(eA,m,ec),(r,m,s),(N:Int)] 95))=W:=⟨_,rfl⟩
 have p:=hid (show W.heap[w.heap.size]? = some (.cells #[(rA,m,rc),(a:Int),(bA,m,bc_),(kA,a,kc),(own:Int),(eA,m,ec),(r,m,s),(N:Int)] 95 (0,0))by rw[←j];exact zam (by simp));have H:=hid (show Below w.heap.size w W by rw[←j];exact zae w _);have HZ:=hid (show w.heap.size+1≤W.heap.size by rw[←j];simp);have HS:=hid (show StdP W rA rc lA bA bc_ kA kc eA ec m a S A b c left by rw[←j];exact(hS).alloc _)
 obtain⟨_,_,_,_,_,_,cx,_,_,cs,_⟩:=bc8 p.out;clear hS;go_enter Tryz.func76,Tryz.ntmps76;go_wp2_with (at_make;go_must (refine zdv rfl _ _ rfl a _ rfl rfl rfl (by omega) W.heap.size rfl ?_;intro w1 Y t;have ad:=hid t;have aG:=hid (zad t p.out);have HO:=hid (Y);obtain⟨_,_,_,_,_,_,_,_,_,_,_,_,bB,_⟩:=bc8 aG.out;clear Y t))
 clear j
 go_loopw [4,17] (fun cv i wr=>∃(k:Nat) (T:OA) (tc:Nat),i=.int .i64 k∧cv=(T,k,tc)∧k≤m∧VecS wr W.heap.size (.slice (some ⟨W.heap.size,0,none⟩) a a) (zUG N m k)∧IntsS wr W.heap.size (T,k,tc) (zKa N k)∧Below W.heap.size W wr)
  (fun _ i _=>m-(intOf i).toNat)
 case atStart=>exact⟨0,none,0,rfl,rfl,Nat.zero_le _,by rw[zVD,o.out];exact HO.out,IntsS.nil _ _,ad.out⟩
 case round =>
  obtain⟨k,T,tc,rfl,rfl,hk,x,v,d⟩:=hrel;have Z:=hid (zad d p.out);have aF:=hid (HS.out.below d);have J:=hid (x);have I:=hid (v);have M:=hid (Bel.mk d);have F:=hid (H.out.trans ((d).mono H.out.size));obtain⟨bM,_,bN,_,b8,_,cm,_,cn,cd,be,_,_,_,bv,_⟩:=bc8 Z.out;by_cases X:k<m
  ·have ah:=hid (zWH (N:=N) X);have an:=hid (zWI (N:=N) X);have aN:(k:Int)<(m:Int):=by omega
   have aO:(0:Int)≤(N:Int):=Int.natCast_nonneg _;have aP:(N:Int)+(k:Int)<(a:Int):=by have:=o.out;omega
   have aQ:N+k<a:=by have:=o.out;omega
   have aW:N≤64:=by have:=o.out;omega
   clear x v d;go_wp2_with (at_builtin;go_loud (refine ziP rfl _ _ rfl rfl (I.out.alloc _) rfl (z:=N+k) (zal _ _ _) (n:=k) (by simp[zKa]) (by omega) (by simp;have:=M.out.b.size;omega) ?_;intro G O D R V f;have al:=hid R;have aq:=hid ((J.out.alloc _).tk V (by decide) (by decide));have ae:=hid ((M.out.alloc _).b.trans f);clear R V f))
   have au:=hid (show IntKind.i64.wrap ((N:Int)+(k:Int))=((N+k:Nat):Int)by rw[IntKind.wrap_i64];omega);have aR:(0:Int)≤((N+k:Nat):Int):=Int.natCast_nonneg _
   have aT:(0:Int)≤(N:Int)+(k:Int):=by omega
   have ap:=hid (show((N:Int)+(k:Int)).toNat=N+k by omega);have f:=ae.out;have aa:=hid (zad f p.out);have L:=hid (aq.out);have ai:=hid (al.out);have ar:=hid (Bel.mk f);obtain⟨b1,_,b2,_,cg,_,cq,_,cu,_,a6,_,bu,_,bx,_⟩:=bc8 aa.out;obtain⟨ga,Aa,ma,ca,Da,aB,ax,y0,y1,y2,_⟩:=L.out.at_ ah.out;clear f;go_wp2_with fail
   refine za2 (S:=fun w'=>w'.cell? ⟨w.heap.size,0,none⟩=some (rA,m,rc)∧w'.cell? ⟨w.heap.size,1,none⟩=some (.int .i64 (a:Int))∧w'.cell? ⟨w.heap.size,2,none⟩=some (bA,m,bc_)∧w'.cell? ⟨w.heap.size,3,none⟩=some (kA,a,kc)∧w'.cell? ⟨w.heap.size,4,none⟩=some (.int .i64 (own:Int))∧w'.cell? ⟨w.heap.size,5,none⟩=some (eA,m,ec)∧w'.cell? ⟨w.heap.size,6,none⟩=some (r,m,s)∧w'.cell? ⟨w.heap.size,7,none⟩=some (.int .i64 (N:Int))∧w'.cell? ⟨W.heap.size,(N+k)*3,none⟩=some (.bool ga)∧w'.cell? ⟨W.heap.size,(N+k)*3+1,none⟩=some (Aa,ma,ca)∧w'.cell? ⟨W.heap.size,(N+k)*3+2,none⟩=some (Da,aB,ax)) 7 (h:=fun hHeld=>?_)
   refine zaw [0,1,2,3,4] ?_;repeat refine tkE (hS:=hHeld) (h:=?_)
   refine zao ?_;refine zaN 5 (h:=fun K g=>?_);go_simp
   (go_at_call 30;(with_reducible refine(Rt.int 1 (by decide) (by decide) _).mono ?_);rintro e u1 ⟨g1,A1,m1,c1,D1,md1,cd1,rfl,hn,hb⟩;have aJ:=hid (zad hb aa.out);have l:=hid (L.out.drew.below hb);have aD:=hid (ai.out.drew.below hb);have aE:=hid (ar.out.drew.below hb);have HM:=hid (hn);obtain⟨b4,_,b5,_,ch,_,cr,_,cw,_,a7,_,bD,_,bE,_⟩:=bc8 aJ.out;have z0:=zab hb y0;have z1:=zab hb y1;have z2:=zab hb y2;have aY:=l.out.fro ((N+k)*3);have of1:=l.out.fro ((N+k)*3+1);have aZ:=l.out.fro ((N+k)*3+2);clear hn hb)
   (try go_wp2_with fail)
   refine g.out _ _ kp fun hHeld=>?_
   clear g K;try simp only[Act.put,pu1,pu2,pu3,pu4,pu5,pu6]
   rw[au.out];refine zaw [6] ?_;repeat refine tkE (hS:=hHeld) (h:=?_)
   refine zao ?_;simp only[ap.out];refine zba (h:=fun K g=>?_);go_simp;refine g.out _ _ ?_;clear g K;try simp only[Act.put,pu1,pu2,pu3,pu4,pu5,pu6]
   refine za1 (h:=?_);go_wp2;obtain⟨aL,u⟩:=l.out.ratBlk;go_roundw
   case rel=>exact⟨k+1,G,O,by go_num,rfl,by omega,by rw[←an.out];exact VecS.store l.out (N+k) HM.out,by rw[zUR];exact((aD.out.tk (TKeep.set u _) (by decide)).tk (TKeep.set (zar _ u) _) (by decide)).tk (TKeep.set (zar _ (zar _ u)) _) (by decide),(Bel.set3 aE.out (Nat.le_refl _) _ _ _).b⟩
   case measure=>simp[intOf];omega
  ·obtain rfl:m=k:=by omega
   clear x v d;go_wp2_with fail
   with_reducible refine(Tb.new rA rc lA bA bc_ kA kc eA ec m a S own A b c left T tc (zKa N m) W.heap.size _ aF.out I.out af.out ag.out).mono ?_
   rintro e wt ⟨q,y,B,rfl,hT,hb⟩;have aH:=hid (zad hb Z.out);have aK:=hid (J.out.below hb);have aI:=hid (F.out.trans ((hb).mono F.out.size));obtain⟨_,_,_,_,_,_,_,_,a4,_,a5,_⟩:=bc8 aH.out;have HT:=hid hT;clear hT hb;go_wp2;go_ret2
   exact⟨wr,q,_,_,y,B,rfl,HT.out,by rw[←zWG];exact aK.out.base (by have:=HZ.out;omega),F.out,aI.out⟩
