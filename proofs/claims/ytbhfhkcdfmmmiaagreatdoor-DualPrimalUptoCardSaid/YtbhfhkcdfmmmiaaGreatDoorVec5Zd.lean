/- Contracts and lemmas: Vec5. Conditions: as each says. -/
import Derived.Test.YtbhfhkcdfmmmiaaGreatDoorVec4Zd
set_option linter.all false
set_option maxHeartbeats 4000000
set_option maxRecDepth 100000
namespace Go.Proofs.YtbhfhkcdfmmmiaaGreatDoor
open Go.RowKit Am
open Lib (hid)
attribute [local go_sem ↓] Go.wp_at_zero Go.wp_at_succ
variable {rs:List Rat}{b k:Nat}{W w:World}
structure Bel (W w:World):Prop where
  b:Below W.heap.size W w
theorem Bel.below{w':World}(h:Bel W w)(a:Below w.heap.size w w'):Bel W w':=⟨h.b.trans (a.mono h.b.size)⟩
theorem Bel.alloc{W w:World}(h:Bel W w)(o:Obj):Bel W (w.alloc o):=h.below (zae w o)
theorem Bel.drew{W w:World}(h:Bel W w):Bel W w.drew:=h.below (zap w 1)
theorem Bel.set3(h:Bel W w){i j:Nat}(a:W.heap.size≤b)(u v x:Value):Bel W (((w.setCell ⟨b,i,none⟩ u).setCell ⟨b,j,none⟩ v).setCell ⟨b,k,none⟩ x):=⟨((h.b.setCell a u).setCell a v).setCell a x⟩
theorem zl9(n:Nat):(madeCells (Value.agg #[false,(),()]).cells (n*3)).toList=rcells (List.replicate n (false,.slice none 0 0,.slice none 0 0)):=by
 apply List.ext_getElem?;intro j;have d:(Value.agg #[false,(),()]).cells=#[.bool false,.slice none 0 0,.slice none 0 0]:=rfl;rw[d];by_cases hj:j<n*3
 ·have h1:(madeCells #[false,(),()] (n*3)).toList[j]? = some ([Value.bool false,.slice none 0 0,.slice none 0 0][j%3]?.getD default):=by
   simp[madeCells,hj]
  have hk:(List.replicate n ((false,.slice none 0 0,.slice none 0 0):RV))[j/3]? = some (false,.slice none 0 0,.slice none 0 0):=by
   rw[List.getElem?_replicate,if_pos (by omega)]
  obtain⟨a,b,c⟩:=ziI _ _ _ hk;rw[h1];rcases(by omega:j%3=0∨j%3=1∨j%3=2)with e | e | e
  ·rw[e];rw[show j/3*3=j by omega]at a;rw[a];rfl
  ·rw[e];rw[show j/3*3+1=j by omega]at b;rw[b];rfl
  ·rw[e];rw[show j/3*3+2=j by omega]at c;rw[c];rfl
 ·rw[List.getElem?_eq_none (by simp[madeCells];omega),List.getElem?_eq_none (by rw[zcC];simp;omega)]
theorem zdv{ops:Array Oper}{rest:List Oper}{o:Oper}{a:Act}{Q:Exit→Act→World→Prop}
  (hg:o.guard=none) (l c:Operand) (p:o.op=Op.makeSlice 28 l c) (n:Nat) (L:Int) (m:a.eval l=.int .i64 L) (hc:a.eval c=.int .i64 L) (g:L=(n:Int)) (x:n≤1048576) (H:Nat) (e:w.heap.size=H)
  (f:∀w1,VecS w1 w.heap.size (H,n,n) (List.replicate n 0)→Below w.heap.size w w1→wpList Tryz.prog ops Q rest (a.put o.dst (H,n,n)) w1):wpList Tryz.prog ops Q (o::rest) a w:=by
 obtain⟨v,j,s,t,u⟩:=info_parts ze0;subst e;subst g;refine wpList_make_full w hg l c 28 p w.heap.size 49 v _ 3 Tryz.underlying28 j s t .i64 .i64 n n n m hc rfl rfl (by rw[u];omega) (by unfold maxLen;omega) (Nat.le_refl _) ?_;intro w1 d i;rw[zl9]at d;refine f w1 ⟨List.replicate n (false,.slice none 0 0,.slice none 0 0),by simp,?_,by rw[List.length_replicate];exact d⟩ ((Below.refl _ _).grown i (Nat.le_refl _) (fun k hk=>by cases hk));intro k r q h1 b;rw[List.getElem?_replicate]at h1 b;split at h1
 ·injection h1 with h1;rw[if_pos ‹_›]at b;injection b with b;subst h1 b;exact RatS.zero _
 ·cases h1
def mix (rs:List Rat) (k:Nat):List Rat:=rs.take k++List.replicate (rs.length-k) 0
theorem zhW(rs:List Rat):mix rs 0=List.replicate rs.length 0:=by simp[mix]
theorem zlc(rs:List Rat):mix rs rs.length=rs:=by simp[mix]
theorem zhV{q:Rat}(h:rs[k]? = some q):(mix rs k).set k q=mix rs (k+1):=by
 have hk:=(List.getElem?_eq_some_iff.1 h).1;unfold mix;rw[List.set_append,if_neg (by rw[List.length_take];omega),List.take_add_one,h,List.length_take,Nat.min_eq_left (Nat.le_of_lt hk),Nat.sub_self,show rs.length-k=(rs.length-(k+1))+1 by omega,List.replicate_succ];simp
theorem zld(h:k<rs.length):(mix rs k)[k]? = some 0:=by
 unfold mix;rw[List.getElem?_append_right (by rw[List.length_take];omega),List.length_take,Nat.min_eq_left (Nat.le_of_lt h),Nat.sub_self,List.getElem?_replicate,if_pos (by omega)]
theorem zMD{o:Nat}{v:Value}(h:w.cell? ⟨b,o,none⟩=some v):b<w.heap.size:=World.block_lt_of_cell? w ⟨b,o,none⟩ h
namespace Vc
theorem addTimesS(S:Nat)(hS:12*S+8≤LIM)(A:OA)(n c:Nat)(xs:List Rat)(g:Bool)(R:OA)(m p:Nat)(D:OA)(t o:Nat)(r:Rat)(B:OA)(f c':Nat)(ys:List Rat)(H H':Nat)(w:World)(hx:VecS w H (A,n,c) xs)(hr:RatS w g (R,m,p) (D,t,o) r)(hy:VecS w H' (B,f,c') ys)
  (hl:xs.length=ys.length) (d:n≤1048576) (zx:∀q∈xs,mw q≤S) (zr:mw r≤S) (zy:∀q∈ys,mw q≤S) :
  Calls Tryz.prog 124 #[(A,n,c),.agg #[g,(R,m,p),(D,t,o)],(B,f,c')] w (zcd w (zly xs r ys) true):=by
 have l:=hx.len;have aO:=hy.len;have en:f=n:=by omega
 subst en;have u:=hid l;have y:=hid hl;have aw:=hid d;have ZX:=hid zx;have ZR:=hid zr;have ZY:=hid zy;have af:=hid hS;have bn:f≤9223372036854775807:=by omega
 clear l aO hl d zx zr zy hS;obtain⟨W,s⟩:∃W,(w.alloc (.cells #[g,(R,m,p),(D,t,o)] 49))=W:=⟨_,rfl⟩
 have aI:=hid (show W.heap[w.heap.size]? = some (.cells #[g,(R,m,p),(D,t,o)] 49 (0,0))by rw[←s];exact zam (by simp));have X:=hid (show Below w.heap.size w W by rw[←s];exact zae w _);have HZ:=hid (show w.heap.size+1≤W.heap.size by rw[←s];simp);have HA:=hid (show VecS W H (A,f,c) xs by rw[←s];exact(hx).alloc _);have HB:=hid (show VecS W H' (B,f,c') ys by rw[←s];exact(hy).alloc _);have HR:=hid (show RatS W g (R,m,p) (D,t,o) r by rw[←s];exact(hr).alloc _)
 clear hx hr hy;go_enter Tryz.func124,Tryz.ntmps124;go_wp2_with (at_make;go_must (refine zdv rfl _ _ rfl f _ rfl rfl rfl aw.out W.heap.size rfl ?_;intro w1 ho ak))
 clear s;have HO:=hid ho;have av:=hid ak;clear ho ak;go_wp2
 go_loopw [20] (fun i wr=>∃k:Nat,i=.int .i64 k∧k≤f∧VecS wr W.heap.size (.slice (some ⟨W.heap.size,0,none⟩) f f) (mix (zly xs r ys) k)∧Below W.heap.size W wr)
  (fun i _=>f-(intOf i).toNat)
 case atStart=>exact⟨0,rfl,Nat.zero_le _,by rw[zhW,zdt y.out,←u.out];exact HO.out,av.out⟩
 case round =>
  obtain⟨k,rfl,hk,P,j⟩:=hrel;by_cases Z:k<f
  ·obtain⟨a,O⟩:∃a,xs[k]? = some a:=⟨xs[k]'(by rw[←u.out];exact Z),List.getElem?_eq_getElem _⟩
   obtain⟨b,d⟩:∃b,ys[k]? = some b:=⟨ys[k]'(by rw[←y.out,←u.out];exact Z),List.getElem?_eq_getElem _⟩
   obtain⟨x,rfl,bh,bi⟩:=HA.out.has (by omega);obtain⟨by_,rfl,bj,bk⟩:=HB.out.has (by omega);obtain⟨M,C,Q,I,F,U,K,k0,k1,k2,ai⟩:=(HA.out.below j).at_ O;obtain⟨N,E,T,J,G,V,L,l0,l1,l2,aj⟩:=(HB.out.below j).at_ d;have au:=hid (zad j aI.out);have a9:=hid (HR.out.below j);have aD:=hid (show RatS wr M (C,Q,I) (F,U,K) a from ai);have aE:=hid (show RatS wr N (E,T,J) (G,V,L) b from aj)
   have Y:=hid (show VecS wr W.heap.size (.slice (some ⟨W.heap.size,0,none⟩) f f) (mix (zly xs r ys) k)from P);have HW:=hid (show Bel W wr from Bel.mk j);obtain⟨bw,_,bz,_,bC,_⟩:=bc3 au.out;have aW:wr.cell? ⟨x,k*3,none⟩=some (.bool M):=k0;have aQ:=zaa aW;have aX:wr.cell? ⟨x,k*3+1,none⟩=some (C,Q,I):=k1;have aR:=zaa aX;have a0:wr.cell? ⟨x,k*3+2,none⟩=some (F,U,K):=k2;have aS:=zaa a0;have a1:wr.cell? ⟨by_,k*3,none⟩=some (.bool N):=l0;have aT:=zaa a1
   have a5:wr.cell? ⟨by_,k*3+1,none⟩=some (E,T,J):=l1;have aU:=zaa a5;have a6:wr.cell? ⟨by_,k*3+2,none⟩=some (G,V,L):=l2;have aV:=zaa a6;have ay:=hid (zmR (r:=r) O d);have ZA:=hid (ZX.out a (List.mem_of_getElem? O));have ZB:=hid (ZY.out b (List.mem_of_getElem? d));have bl:(0:Int)≤(k:Int):=Int.natCast_nonneg _;have bm:(k:Int)<(f:Int):=by omega
   have L1:=hid (show 4*(mw r+mw b)+8≤LIM by have:=ZR.out;have:=ZB.out;have:=af.out;omega);have L2:=hid (show 4*(mw a+mw (r*b))+8≤LIM by have:=ZR.out;have:=ZB.out;have:=ZA.out;have:=zdI r b;have:=af.out;omega);have aA:=hid (zld (k:=k) (rs:=zly xs r ys) (by rw[zdt y.out,←u.out];exact Z));clear P j O d k0 k1 k2 l0 l1 l2 ai aj;have bo:=HZ.out;go_wp2_with fail
   go_region_held3 (fun w'=>w'.cell? ⟨w.heap.size,0,none⟩=some (.bool g)∧w'.cell? ⟨w.heap.size,1,none⟩=some (R,m,p)∧w'.cell? ⟨w.heap.size,2,none⟩=some (D,t,o)∧w'.cell? ⟨x,k*3,none⟩=some (.bool M)∧w'.cell? ⟨x,k*3+1,none⟩=some (C,Q,I)∧w'.cell? ⟨x,k*3+2,none⟩=some (F,U,K)∧w'.cell? ⟨by_,k*3,none⟩=some (.bool N)∧w'.cell? ⟨by_,k*3+1,none⟩=some (E,T,J)∧w'.cell? ⟨by_,k*3+2,none⟩=some (G,V,L))
    (((try go_split_ands);(try simp only[World.cell?_drew]);(repeat' apply And.intro)<;>(repeat(first | with_reducible assumption | with_reducible refine cell_set (by omega) ?_ | with_reducible refine cell_al ?_))))
    (first
     | (go_at_call 71;(with_reducible refine(Rt.mul g R m p D t o r N E T J G V L b _ a9.out.drew aE.out.drew L1.out).mono ?_);rintro e u1 ⟨g1,A1,m1,c1,D1,md1,cd1,rfl,l,d⟩;have ar:=hid (zad d au.out);have bd:=hid (aD.out.drew.below d);have bb:=hid (Y.out.drew.below d);have ba:=hid (HW.out.drew.below d);have HM:=hid (show RatS u1 g1 (A1,m1,c1) (D1,md1,cd1) (r*b)from l);obtain⟨bA,_,bB,_,bG,_⟩:=bc3 ar.out;have aZ:=zab d aQ;have a2:=zab d aR;have a3:=zab d aS;have a4:=zab d aT;have a7:=zab d aU;have a8:=zab d aV;clear l d)
     | (go_at_call 84;(with_reducible refine(Rt.add M C Q I F U K a g1 A1 m1 c1 D1 md1 cd1 (r*b) _ bd.out HM.out L2.out).mono ?_);rintro e u2 ⟨g2,A2,m2,c2,D2,md2,cd2,rfl,l,d⟩;have aY:=hid (zad d ar.out);have z:=hid (bb.out.below d);have bc:=hid (ba.out.below d);have HS:=hid (show RatS u2 g2 (A2,m2,c2) (D2,md2,cd2) (a+r*b)from l);obtain⟨bE,_,bF,_,bM,_⟩:=bc3 aY.out;have bD:=zab d aZ;have bH:=zab d a2;have bJ:=zab d a3;have bI:=zab d a4;have bK:=zab d a7;have bL:=zab d a8;have pp:=z.out.at_ aA.out;obtain⟨go,Ao,mo,co,Do,bp,bg,o0,o1,o2,_⟩:=pp;have bu:=z.out.fro (k*3);have of1:=z.out.fro (k*3+1);have bv:=z.out.fro (k*3+2);clear l d)
     | fail)
   go_wp2;go_roundw
   case rel=>exact⟨k+1,by go_num,by omega,by rw[←zhV ay.out];exact VecS.store z.out k HS.out,(Bel.set3 bc.out (Nat.le_refl _) _ _ _).b⟩
   case measure=>simp[intOf];omega
  ·obtain rfl:k=f:=by omega
   have Y:=hid P;have HF:=hid j;clear P j;go_wp2;refine bodyPost_ret (v:=.tuple #[.slice (some ⟨W.heap.size,0,none⟩) k k,true]) (by simp[results,Tryz.results124,go_sem]) rfl ?_;refine⟨_,_,_,rfl,?_,X.out.trans (HF.out.mono X.out.size)⟩;have h:=Y.out;rw[show k=(zly xs r ys).length by rw[zdt y.out,←u.out],zlc]at h;rw[←show k=(zly xs r ys).length by rw[zdt y.out,←u.out]]at h;exact h.base X.out.size
