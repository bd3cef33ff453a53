/- Contracts and lemmas: Mat4 LuS. Conditions: as each says. -/
import Derived.Test.YtdnippohkfdncaaGreatMat3Zk
import Derived.Test.YtdnippohkfdncaaGreatRat6Zk
set_option linter.all false
set_option maxHeartbeats 8000000
set_option maxRecDepth 100000
namespace Go.Proofs.YtdnippohkfdncaaGreat
open Go.RowKit Am
open Lib (hid)
attribute [local go_sem ↓] Go.wp_at_zero Go.wp_at_succ
def zph (N:Nat) (A:List (List Rat)) (y:List Rat) (k:Nat):List Rat:=(List.range N).map fun j=>zai k fun i=>el y i*en A i j
theorem zhm(N:Nat)(A:List (List Rat))(y:List Rat)(k:Nat):(zph N A y k).length=N:=by simp[zph]
theorem zt5(N:Nat)(A:List (List Rat))(y:List Rat):zph N A y 0=List.replicate N 0:=by
 unfold zph;simp only[zai];apply List.ext_getElem?;intro i;simp[List.getElem?_replicate];by_cases h:i<N<;>simp[h]
theorem zq8(N:Nat)(A:List (List Rat))(y:List Rat):zph N A y A.length=byL N A y:=rfl
theorem zq9{N:Nat}{A:List (List Rat)}{y:List Rat}{k j:Nat}(h:j<N):(zph N A y k)[j]? = some (zai k fun i=>el y i*en A i j):=by
 unfold zph;rw[List.getElem?_map,List.getElem?_range h];rfl
theorem zt4{N:Nat}{A:List (List Rat)}{y:List Rat}{k:Nat}{r:List Rat}{q:Rat}(hr:A[k]? = some r)(d:y[k]? = some q)(c:r.length=N):zly (zph N A y k) q r=zph N A y (k+1):=by
 apply List.ext_getElem?;intro j;by_cases h:j<N
 ·obtain⟨b,a⟩:∃b,r[j]? = some b:=⟨r[j]'(by omega),List.getElem?_eq_getElem _⟩
  rw[zmR (zq9 h) a,zq9 h,zai,znd d];unfold en;rw[getD_some hr,znd a]
 ·rw[List.getElem?_eq_none (by rw[zdt (by rw[zhm,c]),zhm];omega),List.getElem?_eq_none (by rw[zhm];omega)]
theorem zu8{N:Nat}{A:List (List Rat)}{y:List Rat}{S T:Nat}(g:∀q∈y,mw q≤S)(e:∀r∈A,∀q∈r,mw q≤T)(h1:1≤S)(b:1≤T)(k:Nat):∀q∈zph N A y k,mw q≤k*(S+T+1)+1:=by
 intro q f;obtain⟨j,hj,rfl⟩:=List.mem_map.1 f;have d:∀ {xs:List Rat} {S:Nat},(∀q∈xs,mw q≤S)→1≤S→∀i,mw (el xs i)≤S:=fun {xs S} h h1 i=>by
  by_cases a:i<xs.length
  ·exact h _ (List.mem_of_getElem? (zaH a))
  ·rw[zDb (by omega)];exact Nat.le_trans mw0 h1
 induction k with
 | zero=>rw[zai];have:=mw0;omega
 | succ k c =>
  rw[zai];have l:=zrI (zai k fun i=>el y i*en A i j) (el y k*en A k j);have m:=zdI (el y k) (en A k j);have n:=d g h1 k;have o:mw (en A k j)≤T:=by
   unfold en;by_cases a:k<A.length
   ·exact d (e _ (List.mem_of_getElem? (zaO a))) b j
   ·rw[List.getD_eq_getElem?_getD,List.getElem?_eq_none (by omega)];exact Nat.le_trans mw0 b
  have c:=c (List.mem_map.2 ⟨j,hj,rfl⟩);rw[Nat.add_mul];omega
namespace Lu
theorem solve(H q n u s:Nat)(F:LUv)(A:OA)(cA:Nat)(b:List Rat)(H':Nat)(w:World)(hF:LuS w H q n F)(a:VecS w H' (.slice A n cA) b)(r:n≤64)(hp:∀i,i<n→F.perm.getD i 0<n)(hz:LUsz mw n u F)(hd:∀i,i<n→en F.up i i≠0)(zb:∀q∈b,mw q≤s)(hs:1≤s)(hL:4*(4*xB n u s+u+1)+8≤LIM) :
  Calls Tryz.prog 162 #[.pointer (some ⟨q,0,none⟩),.slice A n cA] w (zcd w (zaR n F b) true):=by
 obtain⟨lA,lc,ll,uA,uc,ul,pA,pc,aG,cb,_,cg,_,_,cf⟩:=hF.ex;have aC:=hid hF.sq;have HN:=hid r;have HP:=hid hp;have HD:=hid hd;have cx:=hid a.len;have ay:=hid hL;have bv:∀i,i<n→mw (el b i)≤s:=fun i hi=>zb _ (List.mem_of_getElem? (zaH (by rw[←a.len];exact hi)))
 have bZ:=hid (fun i (hi:i<n)=>zDC zo5 hz hp bv hi);have bo:=hid (fun i (hi:i<n)=>zrR zo5 hz hp bv hi);have bq:=hid hz;have dk:n≤9223372036854775807:=by omega
 have k0:w.cell? ⟨q,0,none⟩=some (.slice lA n lc):=zac aG 0;have k1:w.cell? ⟨q,1,none⟩=some (.slice uA n uc):=zac aG 1;have k2:w.cell? ⟨q,2,none⟩=some (.slice pA n pc):=zac aG 2;have KQ:=hid aG;have bc:=hid cb;have aD:=hid cg;have b0:=hid cf;have HB:=hid a;clear hF cb cg cf a r hp hz hd zb hs hL bv aG;go_enter Tryz.func162,Tryz.ntmps162
 go_wp2_with (at_make;go_must (refine zdv rfl _ _ rfl n _ rfl rfl rfl (by have:=HN.out;omega) w.heap.size rfl ?_;intro w1 ho aF;have HO:=hid ho;have cw:=hid aF;have q0:=zab aF k0;have q1:=zab aF k1;have q2:=zab aF k2;clear ho aF))
 go_wp2
 go_loopw [24] (fun i wr=>∃k:Nat,i=.int .i64 k∧k≤n∧VecS wr w.heap.size (.slice (some ⟨w.heap.size,0,none⟩) n n) (fwO F b n k)∧Below w.heap.size w wr)
  (fun i _=>n-(intOf i).toNat)
 case atStart=>exact⟨0,rfl,Nat.zero_le _,by rw[zxc];exact HO.out,cw.out⟩
 case round =>
  obtain⟨k,rfl,hk,g,d⟩:=hrel;by_cases o:k<n
  ·have bx:F.perm[k]? = some (F.perm.getD k 0):=zaO (by rw[aC.out.pl];exact o);have ce:=HP.out k o;generalize ad:F.perm.getD k 0=p at bx ce;have b7:=zaH (xs:=b) (j:=p) (by rw[←cx.out];exact ce);obtain⟨bP,rfl,_,_⟩:=b0.out.has (by omega);obtain⟨bB,rfl,_,_⟩:=HB.out.has (by omega);have p0:=(b0.out.below d).at_ bx;obtain⟨ga,Aa,ma,ca,Da,ci,b3,y0,y1,O,b6⟩:=(HB.out.below d).at_ b7;obtain⟨go,Ao,mo,co,Do,dm,dh,o0,o1,o2,_⟩:=g.at_ (zAR F b o);have aM:=g.fro (k*3);have of1:=g.fro (k*3+1)
   have aN:=g.fro (k*3+2);have db:=hid (bc.out.below d);have dc:=hid (aD.out.below d);have HQ:=hid (show RatS wr ga (.slice Aa ma ca) (.slice Da ci b3) (el b p)from b6);have T:=hid (show VecS wr w.heap.size (.slice (some ⟨w.heap.size,0,none⟩) n n) (fwO F b n k)from g);have HW:=hid (show Bel w wr from Bel.mk d);have bG:=zab d k0;have cS:=zaa bG;have bH:=zab d k1;have cT:=zaa bH;have c3:=zab d k2;have ds:wr.cell? ⟨bP,k,none⟩=some (.int .i64 (p:Int)):=p0
   have dt:wr.cell? ⟨bB,p*3,none⟩=some (.bool ga):=y0;have du:wr.cell? ⟨bB,p*3+1,none⟩=some (.slice Aa ma ca):=y1;have dv:wr.cell? ⟨bB,p*3+2,none⟩=some (.slice Da ci b3):=O;have cG:=hid (show(fwO F b n k).set k (el b p)=fwI F b n k 0 by rw[←ad];exact zAS F b o);clear g d bx b7 b6 ad p0 y0 y1 O;have cL:(0:Int)≤(k:Int):=Int.natCast_nonneg _;have cM:(k:Int)<(n:Int):=by omega
   have cN:(0:Int)≤(p:Int):=Int.natCast_nonneg _;have cO:(p:Int)<(n:Int):=by omega
   go_wp2
   go_loopw [41] (fun i wr=>∃c:Nat,i=.int .i64 c∧c≤k∧VecS wr w.heap.size (.slice (some ⟨w.heap.size,0,none⟩) n n) (fwI F b n k c)∧Below w.heap.size w wr)
    (fun i _=>k-(intOf i).toNat)
   case atStart=>exact⟨0,rfl,Nat.zero_le _,by rw[←cG.out];exact T.out.store k HQ.out,(Bel.set3 HW.out (Nat.le_refl _) _ _ _).b⟩
   case round =>
    rename World=>wz
    obtain⟨c,rfl,hc,g,d⟩:=hrel;by_cases au:c<k
    ·have ae:F.lo[k]? = some (F.lo.getD k []):=zaO (by rw[aC.out.ll];exact o);have af:=aC.out.lr k o;have W:en F.lo k c=el (F.lo.getD k []) c:=rfl;generalize F.lo.getD k []=rw_ at ae af W;have N:=zaH (xs:=rw_) (j:=c) (by omega);rw[←W]at N;obtain⟨P,rfl,_,_⟩:=bc.out.has (by omega);obtain⟨Ar,cr,_,Z,M⟩:=(bc.out.below d).at_ ae;rw[af]at Z M;obtain⟨m,rfl,_,_⟩:=M.has (by omega);obtain⟨B,t,D,z,x,C,y,y0,y1,O,ac⟩:=M.at_ N;obtain⟨V,Q,X,cc,R,Y,U,z0,z1,z2,ar⟩:=g.at_ (zAO F b (n:=n) (c:=c) au)
     obtain⟨gk,E,mk,J,G,L,I,o0,o1,o2,aj⟩:=g.at_ (zAN F b n k c);have aM:=g.fro (k*3);have of1:=g.fro (k*3+1);have aN:=g.fro (k*3+2);have ab:=hid (show RatS wz B (.slice t D z) (.slice x C y) (en F.lo k c)from ac);have aA:=hid (show RatS wz V (.slice Q X cc) (.slice R Y U) (el (fwd F b k) c)from ar);have aq:=hid (show RatS wz gk (.slice E mk J) (.slice G L I) (fwP F b k c)from aj);have T:=hid (show VecS wz w.heap.size (.slice (some ⟨w.heap.size,0,none⟩) n n) (fwI F b n k c)from g)
     have HW:=hid (show Bel w wz from Bel.mk d);have a1:=zab d k0;have aO:=zaa a1;have a2:=zab d k1;have aP:=zaa a2;have a4:=zab d k2;have aQ:=zaa a4;have a3:wz.cell? ⟨P,k,none⟩=some (.slice (some ⟨m,0,none⟩) n cr):=Z;have aR:=zaa a3;have a5:wz.cell? ⟨m,c*3,none⟩=some (.bool B):=y0;have aS:=zaa a5;have a7:wz.cell? ⟨m,c*3+1,none⟩=some (.slice t D z):=y1;have aT:=zaa a7;have a8:wz.cell? ⟨m,c*3+2,none⟩=some (.slice x C y):=O;have aU:=zaa a8;have a9:wz.cell? ⟨w.heap.size,c*3,none⟩=some (.bool V):=z0
     have aV:=zaa a9;have ba:wz.cell? ⟨w.heap.size,c*3+1,none⟩=some (.slice Q X cc):=z1;have aW:=zaa ba;have bb:wz.cell? ⟨w.heap.size,c*3+2,none⟩=some (.slice R Y U):=z2;have aX:=zaa bb;have bO:wz.cell? ⟨w.heap.size,k*3,none⟩=some (.bool gk):=o0;have bz:=zaa bO;have bR:wz.cell? ⟨w.heap.size,k*3+1,none⟩=some (.slice E mk J):=o1;have bA:=zaa bR;have bS:wz.cell? ⟨w.heap.size,k*3+2,none⟩=some (.slice G L I):=o2;have bC:=zaa bS;have bn:=hid (zAP F b n k c);have bd:=(bZ.out c (by omega)).1
     rw[zrx F b (i:=c) (j:=k) (k:=n) au (by omega)]at bd;have aH:mw (fwP F b k c)≤2*xB n u s:=by unfold fwP;rw[zaj fun i hi=>by rw[←zrx F b (i:=i) (j:=k) (k:=n) (by omega) (by omega)]];exact(bZ.out k o).2 c (by omega)
     have aI:=bq.out.lo k o c (by omega);have L1:=hid (show 4*(mw (en F.lo k c)+mw (el (fwd F b k) c))+8≤LIM by have:=ay.out;omega);have L2:=hid (show 4*(mw (fwP F b k c)+mw (en F.lo k c*el (fwd F b k) c))+8≤LIM by have:=ay.out;have:=zdI (en F.lo k c) (el (fwd F b k) c);omega);clear g d ae af W N M ac ar aj bd aH aI Z y0 y1 O z0 z1 z2;have cP:(0:Int)≤(c:Int):=Int.natCast_nonneg _;have cQ:(c:Int)<(n:Int):=by omega
     go_wp2_with fail
     refine za2 (S:=fun w'=>w'.cell? ⟨q,0,none⟩=some (.slice (some ⟨P,0,none⟩) n lc)∧w'.cell? ⟨q,1,none⟩=some (.slice uA n uc)∧w'.cell? ⟨q,2,none⟩=some (.slice (some ⟨bP,0,none⟩) n pc)∧w'.cell? ⟨P,k,none⟩=some (.slice (some ⟨m,0,none⟩) n cr)∧w'.cell? ⟨m,c*3,none⟩=some (.bool B)∧w'.cell? ⟨m,c*3+1,none⟩=some (.slice t D z)∧w'.cell? ⟨m,c*3+2,none⟩=some (.slice x C y)∧w'.cell? ⟨w.heap.size,c*3,none⟩=some (.bool V)∧w'.cell? ⟨w.heap.size,c*3+1,none⟩=some (.slice Q X cc)∧w'.cell? ⟨w.heap.size,c*3+2,none⟩=some (.slice R Y U)∧w'.cell? ⟨w.heap.size,k*3,none⟩=some (.bool gk)∧w'.cell? ⟨w.heap.size,k*3+1,none⟩=some (.slice E mk J)∧w'.cell? ⟨w.heap.size,k*3+2,none⟩=some (.slice G L I)) 23 (h:=fun hHeld=>?_)
     refine zaw [0,1,2,3,4,5,6,7,8,9,10,11,12,13,14,15,16,17,18,19] ?_;repeat refine tkE (hS:=hHeld) (h:=?_)
     refine zao ?_;refine zaN 20 (h:=fun K l=>?_);go_simp
     (go_at_call 21;(with_reducible refine(Rt.mul B t D z x C y (en F.lo k c) V Q X cc R Y U (el (fwd F b k) c) _ ab.out.drew aA.out.drew L1.out).mono ?_);rintro e u1 ⟨g1,A1,m1,c1,D1,md1,cd1,rfl,r,a⟩;have bl:=hid (ab.out.drew.below a);have bQ:=hid (aA.out.drew.below a);have bk:=hid (aq.out.drew.below a);have ag:=hid (T.out.drew.below a);have a6:=hid (HW.out.drew.below a);have HM:=hid (show RatS u1 g1 (.slice A1 m1 c1) (.slice D1 md1 cd1) (en F.lo k c*el (fwd F b k) c)from r);have bg:=zab a aO;have bh:=zab a aP;have bi:=zab a aQ;have bj:=zab a aR;have ak:=zab a aS;have cm:=zaa ak;have al:=zab a aT;have cn:=zaa al;have am:=zab a aU;have cp:=zaa am;have an:=zab a aV;have cq:=zaa an;have ao:=zab a aW;have cs:=zaa ao;have ap:=zab a aX;have ct:=zaa ap;have bI:=zab a bz;have bJ:=zab a bA;have bK:=zab a bC;clear r a)
     (try go_wp2_with fail)
     refine l.out _ _ kp fun hHeld=>?_
     clear l K;try simp only[Act.put,pu1,pu2,pu3,pu4,pu5,pu6]
     refine zaN 21 (h:=fun K l=>?_);go_simp
     (go_at_call 132;(with_reducible refine(Rt.sub gk E mk J G L I (fwP F b k c) g1 A1 m1 c1 D1 md1 cd1 (en F.lo k c*el (fwd F b k) c) _ bk.out HM.out L2.out).mono ?_);rintro e u2 ⟨g2,A2,m2,c2,D2,md2,cd2,rfl,r,a⟩;have de:=hid (bl.out.below a);have dd:=hid (bQ.out.below a);have aa:=hid (ag.out.below a);have bT:=hid (a6.out.below a);have c0:=hid (HM.out.below a);have HS:=hid (show RatS u2 g2 (.slice A2 m2 c2) (.slice D2 md2 cd2) (fwP F b k c-en F.lo k c*el (fwd F b k) c)from r);have c4:=zab a bg;have c5:=zab a bh;have c6:=zab a bi;have c7:=zab a bj;have bM:=zab a ak;have cU:=zaa bM;have bN:=zab a al;have cV:=zaa bN;have bU:=zab a am;have cW:=zaa bU;have bD:=zab a an;have cX:=zaa bD;have bE:=zab a ao;have cY:=zaa bE;have bF:=zab a ap;have cZ:=zaa bF;have c8:=zab a bI;have c9:=zab a bJ;have da:=zab a bK;have aM:=aa.out.fro (k*3);have of1:=aa.out.fro (k*3+1);have aN:=aa.out.fro (k*3+2);clear r a)
     (try go_wp2_with fail)
     refine l.out _ _ kp fun hHeld=>?_
     clear l K;try simp only[Act.put,pu1,pu2,pu3,pu4,pu5,pu6]
     refine zaw [22] ?_;repeat refine tkE (hS:=hHeld) (h:=?_)
     refine zao ?_;refine zba (h:=fun K l=>?_);go_simp;refine l.out _ _ ?_;clear l K;try simp only[Act.put,pu1,pu2,pu3,pu4,pu5,pu6]
     refine za1 (h:=?_);go_wp2;go_roundw
     case rel=>exact⟨c+1,by go_num,by omega,by rw[←bn.out];exact aa.out.store k HS.out,(Bel.set3 bT.out (Nat.le_refl _) _ _ _).b⟩
     case measure=>simp[intOf];omega
    ·obtain rfl:k=c:=by omega
     have bp:=hid g;have bm:=hid d;clear g d;go_wp2;go_roundw
     case rel=>exact⟨k+1,by go_num,by omega,by rw[←zxb];exact bp.out,bm.out⟩
     case measure=>simp[intOf];omega
  ·obtain rfl:n=k:=by omega
   have bp:=hid g;have bm:=hid d;clear g d;go_wp2
   go_loopw [10] (fun i wr=>∃k:Nat,i=.int .i64 ((k:Int)-1)∧k≤n∧VecS wr w.heap.size (.slice (some ⟨w.heap.size,0,none⟩) n n) (bwO F (fwd F b n) n k)∧Below w.heap.size w wr)
    (fun i _=>(intOf i+1).toNat)
   case atStart=>exact⟨n,rfl,Nat.le_refl _,by rw[zzq F (zcx _ _ _),←zAQ];exact bp.out,bm.out⟩
   case round =>
    rename World=>wy
    obtain⟨k,rfl,hk,g,d⟩:=hrel;cases k with
    | zero =>
     have cI:=hid g;have cy:=hid d;clear g d;rw[show((0:Nat):Int)-1 = -1 from rfl];go_wp2;refine bodyPost_ret (v:=.tuple #[.slice (some ⟨w.heap.size,0,none⟩) n n,.bool true]) (by simp[results,Tryz.results162,go_sem]) rfl ?_;exact⟨_,_,_,rfl,by have h:=cI.out;rw[zwq]at h;exact h,cy.out⟩
    | succ k =>
     have o:k<n:=by omega
     rw[show((k+1:Nat):Int)-1=(k:Int)by omega];have T:=hid g;have cJ:=hid d;clear g;have db:=hid (bc.out.below d);have dc:=hid (aD.out.below d);have bG:=zab d k0;have cS:=zaa bG;have bH:=zab d k1;have cT:=zaa bH;have c3:=zab d k2;clear d;have cL:(0:Int)≤(k:Int):=Int.natCast_nonneg _;have cM:(k:Int)<(n:Int):=by omega
     go_wp2
     go_loopw [11] (fun i wr=>∃j:Nat,i=.int .i64 ((k+1+j:Nat):Int)∧k+1+j≤n∧VecS wr w.heap.size (.slice (some ⟨w.heap.size,0,none⟩) n n) (bwI F (fwd F b n) n k j)∧Below w.heap.size w wr)
      (fun i _=>n-(intOf i).toNat)
     case atStart=>exact⟨0,by go_num,by omega,by rw[zwp F (zcx _ _ _) o];exact T.out,cJ.out⟩
     case round =>
      rename World=>wz
      obtain⟨j,rfl,hj,g,d⟩:=hrel;have ae:F.up[k]? = some (F.up.getD k []):=zaO (by rw[aC.out.ul];exact o);have af:=aC.out.ur k o;have W:∀c,en F.up k c=el (F.up.getD k []) c:=fun _=>rfl
      generalize F.up.getD k []=rw_ at ae af W;obtain⟨P,rfl,_,_⟩:=aD.out.has (by omega);obtain⟨Ar,cr,bw,Z,M⟩:=(aD.out.below d).at_ ae;rw[af]at Z M bw;obtain⟨m,rfl,_,_⟩:=M.has (by omega);have dj:=(aD.out.lt (List.mem_of_getElem? bw) rfl).2;have dl:=(Array.getElem?_eq_some_iff.1 KQ.out).1;clear bw;obtain⟨gk,E,mk,J,G,L,I,o0,o1,o2,aj⟩:=g.at_ (zzo F j (zcx F b n) o);have aM:=g.fro (k*3);have of1:=g.fro (k*3+1);have aN:=g.fro (k*3+2);have cN:(0:Int)≤(k:Int):=Int.natCast_nonneg _
      have cO:(k:Int)<(n:Int):=by omega
      by_cases au:k+1+j<n
      ·have N:=zaH (xs:=rw_) (j:=k+1+j) (by omega);rw[←W]at N;obtain⟨B,t,D,z,x,C,y,y0,y1,O,ac⟩:=M.at_ N;obtain⟨V,Q,X,cc,R,Y,U,z0,z1,z2,ar⟩:=g.at_ (zwo F j (zcx F b n) au);have bu:el (bwd F n (fwd F b n) (n-(k+1))) j=el (zaR n F b) (k+1+j):=(zlL F n (fwd F b n) (f:=n) (j:=k+1) (by omega) j).symm;rw[bu]at ar
       have ad:bwP F (fwd F b n) n k j=el (fwd F b n) k-zai j (fun c=>en F.up k (k+1+c)*el (zaR n F b) (k+1+c)):=by unfold bwP;rw[zaj fun c hc=>by rw[←zlL F n (fwd F b n) (f:=n) (j:=k+1) (by omega) c]];rfl
       have bn:=hid (show(bwI F (fwd F b n) n k j).set k (bwP F (fwd F b n) n k j-en F.up k (k+1+j)*el (zaR n F b) (k+1+j))=bwI F (fwd F b n) n k (j+1)by rw[←bu];exact zzp F j (zcx F b n) o);have bd:=(bo.out (k+1+j) au).1;have aH:mw (bwP F (fwd F b n) n k j)≤2*xB n u s:=by rw[ad];exact(bo.out k o).2 j (by omega)
       have aI:=bq.out.up k o (k+1+j) au;generalize hc0:k+1+j=c at *
       generalize bwP F (fwd F b n) n k j=pk at *
       have bY:=hid hc0;have ab:=hid (show RatS wz B (.slice t D z) (.slice x C y) (en F.up k c)from ac);have aA:=hid (show RatS wz V (.slice Q X cc) (.slice R Y U) (el (zaR n F b) c)from ar);have aq:=hid (show RatS wz gk (.slice E mk J) (.slice G L I) pk from aj);have T:=hid (show VecS wz w.heap.size (.slice (some ⟨w.heap.size,0,none⟩) n n) (bwI F (fwd F b n) n k j)from g);have HW:=hid (show Bel w wz from Bel.mk d);have a1:=zab d k0;have aO:=zaa a1;have a2:=zab d k1;have aP:=zaa a2
       have a4:=zab d k2;have aQ:=zaa a4;have a3:wz.cell? ⟨P,k,none⟩=some (.slice (some ⟨m,0,none⟩) n cr):=Z;have aR:=zaa a3;have a5:wz.cell? ⟨m,c*3,none⟩=some (.bool B):=y0;have aS:=zaa a5;have a7:wz.cell? ⟨m,c*3+1,none⟩=some (.slice t D z):=y1;have aT:=zaa a7;have a8:wz.cell? ⟨m,c*3+2,none⟩=some (.slice x C y):=O;have aU:=zaa a8;have a9:wz.cell? ⟨w.heap.size,c*3,none⟩=some (.bool V):=z0;have aV:=zaa a9;have ba:wz.cell? ⟨w.heap.size,c*3+1,none⟩=some (.slice Q X cc):=z1;have aW:=zaa ba
       have bb:wz.cell? ⟨w.heap.size,c*3+2,none⟩=some (.slice R Y U):=z2;have aX:=zaa bb;have bO:wz.cell? ⟨w.heap.size,k*3,none⟩=some (.bool gk):=o0;have bz:=zaa bO;have bR:wz.cell? ⟨w.heap.size,k*3+1,none⟩=some (.slice E mk J):=o1;have bA:=zaa bR;have bS:wz.cell? ⟨w.heap.size,k*3+2,none⟩=some (.slice G L I):=o2;have bC:=zaa bS;have L1:=hid (show 4*(mw (en F.up k c)+mw (el (zaR n F b) c))+8≤LIM by have:=ay.out;omega)
       have L2:=hid (show 4*(mw pk+mw (en F.up k c*el (zaR n F b) c))+8≤LIM by have:=ay.out;have:=zdI (en F.up k c) (el (zaR n F b) c);omega);clear g d ae af W N M ac ar aj bd aH aI bu ad hc0 Z y0 y1 O z0 z1 z2;have cP:(0:Int)≤(c:Int):=Int.natCast_nonneg _;have cQ:(c:Int)<(n:Int):=by omega
       go_wp2_with fail
       refine za2 (S:=fun w'=>w'.cell? ⟨q,0,none⟩=some (.slice lA n lc)∧w'.cell? ⟨q,1,none⟩=some (.slice (some ⟨P,0,none⟩) n uc)∧w'.cell? ⟨q,2,none⟩=some (.slice pA n pc)∧w'.cell? ⟨P,k,none⟩=some (.slice (some ⟨m,0,none⟩) n cr)∧w'.cell? ⟨m,c*3,none⟩=some (.bool B)∧w'.cell? ⟨m,c*3+1,none⟩=some (.slice t D z)∧w'.cell? ⟨m,c*3+2,none⟩=some (.slice x C y)∧w'.cell? ⟨w.heap.size,c*3,none⟩=some (.bool V)∧w'.cell? ⟨w.heap.size,c*3+1,none⟩=some (.slice Q X cc)∧w'.cell? ⟨w.heap.size,c*3+2,none⟩=some (.slice R Y U)∧w'.cell? ⟨w.heap.size,k*3,none⟩=some (.bool gk)∧w'.cell? ⟨w.heap.size,k*3+1,none⟩=some (.slice E mk J)∧w'.cell? ⟨w.heap.size,k*3+2,none⟩=some (.slice G L I)) 23 (h:=fun hHeld=>?_)
       refine zaw [0,1,2,3,4,5,6,7,8,9,10,11,12,13,14,15,16,17,18,19] ?_;repeat refine tkE (hS:=hHeld) (h:=?_)
       refine zao ?_;refine zaN 20 (h:=fun K l=>?_);go_simp
       (go_at_call 21;(with_reducible refine(Rt.mul B t D z x C y (en F.up k c) V Q X cc R Y U (el (zaR n F b) c) _ ab.out.drew aA.out.drew L1.out).mono ?_);rintro e u1 ⟨g1,A1,m1,c1,D1,md1,cd1,rfl,r,a⟩;have bl:=hid (ab.out.drew.below a);have bQ:=hid (aA.out.drew.below a);have bk:=hid (aq.out.drew.below a);have ag:=hid (T.out.drew.below a);have a6:=hid (HW.out.drew.below a);have HM:=hid (show RatS u1 g1 (.slice A1 m1 c1) (.slice D1 md1 cd1) (en F.up k c*el (zaR n F b) c)from r);have bg:=zab a aO;have bh:=zab a aP;have bi:=zab a aQ;have bj:=zab a aR;have ak:=zab a aS;have cm:=zaa ak;have al:=zab a aT;have cn:=zaa al;have am:=zab a aU;have cp:=zaa am;have an:=zab a aV;have cq:=zaa an;have ao:=zab a aW;have cs:=zaa ao;have ap:=zab a aX;have ct:=zaa ap;have bI:=zab a bz;have bJ:=zab a bA;have bK:=zab a bC;clear r a)
       (try go_wp2_with fail)
       refine l.out _ _ kp fun hHeld=>?_
       clear l K;try simp only[Act.put,pu1,pu2,pu3,pu4,pu5,pu6]
       refine zaN 21 (h:=fun K l=>?_);go_simp
       (go_at_call 132;(with_reducible refine(Rt.sub gk E mk J G L I pk g1 A1 m1 c1 D1 md1 cd1 (en F.up k c*el (zaR n F b) c) _ bk.out HM.out L2.out).mono ?_);rintro e u2 ⟨g2,A2,m2,c2,D2,md2,cd2,rfl,r,a⟩;have de:=hid (bl.out.below a);have dd:=hid (bQ.out.below a);have aa:=hid (ag.out.below a);have bT:=hid (a6.out.below a);have c0:=hid (HM.out.below a);have HS:=hid (show RatS u2 g2 (.slice A2 m2 c2) (.slice D2 md2 cd2) (pk-en F.up k c*el (zaR n F b) c)from r);have c4:=zab a bg;have c5:=zab a bh;have c6:=zab a bi;have c7:=zab a bj;have bM:=zab a ak;have cU:=zaa bM;have bN:=zab a al;have cV:=zaa bN;have bU:=zab a am;have cW:=zaa bU;have bD:=zab a an;have cX:=zaa bD;have bE:=zab a ao;have cY:=zaa bE;have bF:=zab a ap;have cZ:=zaa bF;have c8:=zab a bI;have c9:=zab a bJ;have da:=zab a bK;have aM:=aa.out.fro (k*3);have of1:=aa.out.fro (k*3+1);have aN:=aa.out.fro (k*3+2);clear r a)
       (try go_wp2_with fail)
       refine l.out _ _ kp fun hHeld=>?_
       clear l K;try simp only[Act.put,pu1,pu2,pu3,pu4,pu5,pu6]
       refine zaw [22] ?_;repeat refine tkE (hS:=hHeld) (h:=?_)
       refine zao ?_;refine zba (h:=fun K l=>?_);go_simp;refine l.out _ _ ?_;clear l K;try simp only[Act.put,pu1,pu2,pu3,pu4,pu5,pu6]
       refine za1 (h:=?_);go_wp2;go_roundw
       case rel=>exact⟨j+1,by have:=bY.out;subst this;go_num,by have:=bY.out;omega,by rw[←bn.out];exact aa.out.store k HS.out,(Bel.set3 bT.out (Nat.le_refl _) _ _ _).b⟩
       case measure=>simp[intOf];omega
      ·skip
       have b9:j=n-(k+1):=by omega
       have N:=zaH (xs:=rw_) (j:=k) (by omega);rw[←W]at N;obtain⟨B,t,D,z,x,C,y,y0,y1,O,ac⟩:=M.at_ N;have ad:bwP F (fwd F b n) n k j=el (fwd F b n) k-zai j (fun c=>en F.up k (k+1+c)*el (zaR n F b) (k+1+c)):=by unfold bwP;rw[zaj fun c hc=>by rw[←zlL F n (fwd F b n) (f:=n) (j:=k+1) (by omega) c]];rfl
       have cH:=hid (show(bwI F (fwd F b n) n k j).set k (bwP F (fwd F b n) n k j/en F.up k k)=bwO F (fwd F b n) n k by rw[b9];exact zzn F (zcx F b n) o);have aH:mw (bwP F (fwd F b n) n k j)≤2*xB n u s:=by rw[ad];exact(bo.out k o).2 j (by omega)
       have aI:=bq.out.up k o k o;have cB:=hid (HD.out k o);generalize bwP F (fwd F b n) n k j=pk at *
       have ab:=hid (show RatS wz B (.slice t D z) (.slice x C y) (en F.up k k)from ac);have aq:=hid (show RatS wz gk (.slice E mk J) (.slice G L I) pk from aj);have T:=hid (show VecS wz w.heap.size (.slice (some ⟨w.heap.size,0,none⟩) n n) (bwI F (fwd F b n) n k j)from g);have HW:=hid (show Bel w wz from Bel.mk d);have a1:=zab d k0;have aO:=zaa a1;have a2:=zab d k1;have aP:=zaa a2;have a4:=zab d k2;have aQ:=zaa a4;have a3:wz.cell? ⟨P,k,none⟩=some (.slice (some ⟨m,0,none⟩) n cr):=Z
       have aR:=zaa a3;have a5:wz.cell? ⟨m,k*3,none⟩=some (.bool B):=y0;have aS:=zaa a5;have a7:wz.cell? ⟨m,k*3+1,none⟩=some (.slice t D z):=y1;have aT:=zaa a7;have a8:wz.cell? ⟨m,k*3+2,none⟩=some (.slice x C y):=O;have aU:=zaa a8;have a9:wz.cell? ⟨w.heap.size,k*3,none⟩=some (.bool gk):=o0;have aV:=zaa a9;have ba:wz.cell? ⟨w.heap.size,k*3+1,none⟩=some (.slice E mk J):=o1;have aW:=zaa ba;have bb:wz.cell? ⟨w.heap.size,k*3+2,none⟩=some (.slice G L I):=o2;have aX:=zaa bb
       have L1:=hid (show 4*(mw pk+mw (en F.up k k))+8≤LIM by have:=ay.out;omega);clear g d ae af W N M ac aj aH aI ad b9 Z y0 y1 O;go_wp2_with fail
       refine wp_region_held_drew (S:=fun w'=>w'.cell? ⟨q,0,none⟩=some (.slice lA n lc)∧w'.cell? ⟨q,1,none⟩=some (.slice (some ⟨P,0,none⟩) n uc)∧w'.cell? ⟨q,2,none⟩=some (.slice pA n pc)∧w'.cell? ⟨P,k,none⟩=some (.slice (some ⟨m,0,none⟩) n cr)∧w'.cell? ⟨m,k*3,none⟩=some (.bool B)∧w'.cell? ⟨m,k*3+1,none⟩=some (.slice t D z)∧w'.cell? ⟨m,k*3+2,none⟩=some (.slice x C y)) (by kernel_rfl) kp fun hHeld=>?_
       refine zaw [0,1,2,3,4,6,7,8,9,10,11,12,13,14,15] ?_;repeat refine tkH (hS:=hHeld) (h:=?_)
       refine zao ?_;refine wpAnyH_ready (rs:=[5]) (by kernel_rfl) (by simp) ?_;refine AllReadyH.cons rfl (fun K l=>?_) AllReadyH.nil;go_simp
       skip
       (try go_wp2_with fail)
       refine l.out _ _ kp fun hHeld=>?_
       clear l K;try simp only[Act.put,pu1,pu2,pu3,pu4,pu5,pu6]
       refine wpAnyH_ready (rs:=[16]) (by kernel_rfl) (by simp) ?_;refine AllReadyH.cons rfl (fun K l=>?_) AllReadyH.nil;go_simp
       (go_at_call 145;(with_reducible refine(Rt.div gk E mk J G L I pk B t D z x C y (en F.up k k) _ aq.out.drew ab.out.drew cB.out L1.out).mono ?_);rintro e u1 ⟨g2,A2,m2,c2,D2,md2,cd2,rfl,r,a⟩;have bl:=hid (ab.out.drew.below a);have bk:=hid (aq.out.drew.below a);have ag:=hid (T.out.drew.below a);have a6:=hid (HW.out.drew.below a);have HS:=hid (show RatS u1 g2 (.slice A2 m2 c2) (.slice D2 md2 cd2) (pk/en F.up k k)from r);have bg:=zab a aO;have bh:=zab a aP;have bi:=zab a aQ;have bj:=zab a aR;have ak:=zab a aS;have cm:=zaa ak;have al:=zab a aT;have cn:=zaa al;have am:=zab a aU;have cp:=zaa am;have an:=zab a aV;have cq:=zaa an;have ao:=zab a aW;have cs:=zaa ao;have ap:=zab a aX;have ct:=zaa ap;have aM:=ag.out.fro (k*3);have of1:=ag.out.fro (k*3+1);have aN:=ag.out.fro (k*3+2);clear r a)
       (try go_wp2_with fail)
       refine l.out _ _ kp fun hHeld=>?_
       clear l K;try simp only[Act.put,pu1,pu2,pu3,pu4,pu5,pu6]
       refine zaw [17,18,19,20] ?_;repeat refine tkH (hS:=hHeld) (h:=?_)
       refine zao ?_;refine wpAnyH_ready (rs:=[21]) (by kernel_rfl) (by simp) ?_;refine AllReadyH.cons rfl (fun K l=>?_) AllReadyH.nil;go_simp
       skip
       (try go_wp2_with fail)
       refine l.out _ _ kp fun hHeld=>?_
       clear l K;try simp only[Act.put,pu1,pu2,pu3,pu4,pu5,pu6]
       refine wpAnyH_done (by kernel_rfl) ?_ _;go_wp2;go_roundw
       case rel=>exact⟨k,by go_num,by omega,by rw[←cH.out];exact ag.out.store k HS.out,(Bel.set3 a6.out (Nat.le_refl _) _ _ _).b⟩
       case measure=>first | (simp[intOf];done) | (simp[intOf];omega)
