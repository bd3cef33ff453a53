/- Contracts and lemmas: Tb6. Conditions: as each says. -/
import Derived.Test.YtbhfhkcdfmmmiaaGreatDoorBoolsZd
import Derived.Test.YtbhfhkcdfmmmiaaGreatDoorBasTZd
set_option linter.all false
set_option maxHeartbeats 4000000
set_option maxRecDepth 100000
namespace Go.Proofs.YtbhfhkcdfmmmiaaGreatDoor
open Go.RowKit Am
open Lib (hid)
attribute [local go_sem ↓] Go.wp_at_zero Go.wp_at_succ
variable {cols:List Nat}{col xs:List Rat}{b k:Nat}{q:Rat}
theorem zTV(h:¬0<el col k):znH cols xs col (k+1)=znH cols xs col k:=by simp only[znH];rw[if_neg h]
theorem zTU(h:0<el col k)(e:znH cols xs col k=none):znH cols xs col (k+1)=some k:=by simp only[znH];rw[if_pos h,e]
theorem zTc(h:0<el col k)(e:znH cols xs col k=some b)(a:el xs k/el col k<el xs b/el col b∨(el xs k/el col k=el xs b/el col b∧cols.getD k 0<cols.getD b 0)):znH cols xs col (k+1)=some k:=by simp only[znH];rw[if_pos h,e];simp only;rw[if_pos a]
theorem zTb(h:0<el col k)(e:znH cols xs col k=some b)(a:¬(el xs k/el col k<el xs b/el col b∨(el xs k/el col k=el xs b/el col b∧cols.getD k 0<cols.getD b 0))):znH cols xs col (k+1)=some b:=by simp only[znH];rw[if_pos h,e];simp only;rw[if_neg a]
theorem zTh(h:znH cols xs col k=some b):b<k:=by
 have s:=zKk cols xs col k;rw[h]at s;exact s.1
theorem z0m(h:0<q):q≠0:=by grind
theorem zYp:0<q.num↔0<q:=by
 have h:=Rat.num_nonneg (q := -q);rw[Rat.neg_num]at h;constructor
 ·intro h1;have:¬0 ≤ -q:=fun a=>by have:=h.2 a;omega
  grind
 ·intro h1;have:¬0 ≤ -q.num:=fun a=>by have:=h.1 a;grind
  omega
section
variable {W0 w:World} {H q:Nat} {rA:OA} {rc:Nat} {lA:List Value} {bA:OA} {bc_:Nat} {kA:OA} {kc:Nat} {eA:OA} {ec m N S own:Nat} {A:List (List Rat)} {b c:List Rat} {left:List Int}
  {tA:OA} {tc:Nat} {cols:List Nat}
namespace Tb
theorem leave(h:zhi W0 w H q rA rc lA bA bc_ kA kc eA ec m N S own A b c left tA tc cols)(Z:Nat)(hZ:16*Z+8≤LIM)(K:OA)(cK:Nat)(col:List Rat)(HK:Nat)(hk:VecS w HK (.slice K m cK) col)(zx:∀x∈za5 A b cols,mw x≤Z)(zc:∀x∈col,mw x≤Z) :
  Calls Tryz.prog 80 #[.pointer (some ⟨q,0,none⟩),.slice K m cK] w fun e w'=>e=.returned (.int .i64 (zbh (zDG cols (za5 A b cols) col)))∧Below w.heap.size w w':=by
 obtain⟨qb,xA,xc,s⟩:=h;have bz:=hid hk.len;have bw:=hid s.basis.len;have cQ:=hid (s.basis.vals_ok b).2;have bu:=hid hk;have bt:=hid s.colsI;have bC:=hid s.x;have KQ:=hid s.blk;have cU:=hid hZ;have ZX:=hid zx;have ZC:=hid zc;have eE:=s.std.hm;have q6:=zac s.blk 6;have q8:=zac s.blk 8;simp only[List.getElem?_toArray,List.getElem?_cons_zero,List.getElem?_cons_succ]at q6 q8;have dE:=zaa q6;have dB:w=w:=rfl;clear s hk zx zc hZ;have BB:=hid (Below.refl w.heap.size w);have hW:w=w:=rfl
 go_enter Tryz.func80,Tryz.ntmps80;go_upto_region 3 with fail
 clear hW dB;have eF:¬(m:Int)<(m:Int):=by omega
 go_cut[18,19] (fun a b wr=>a=(m:Int)∧b=.int .i64 0∧wr=w.alloc (.cells #[false,(),()] 49))
 case first =>
  have eK:=cell_al (ob:=.cells #[false,(),()] 49) q6;go_wp2
  all_goals
   go_meet
   case rel=>exact⟨by first | rfl | (simp;done),rfl,rfl⟩
 obtain⟨rfl,rfl,rfl⟩:=hcut;go_wp2
 go_loopw [5,19] (fun bv i wr=>∃(k:Nat) (E:Bool) (z:OA) (I D:Nat) (B:OA) (G C:Nat),i=.int .i64 k∧bv=.int .i64 (zbh (znH cols (za5 A b cols) col k))∧k≤m∧wr.heap[w.heap.size]? = some (.cells #[E,(z,I,D),(B,G,C)] 49 (0,0))∧(∀g,znH cols (za5 A b cols) col k=some g→RatS wr E (z,I,D) (B,G,C) (el (za5 A b cols) g/el col g))∧Below w.heap.size w wr)
  (fun _ i _=>m-(intOf i).toNat)
 case atStart=>exact⟨0,_,_,_,_,_,_,_,rfl,rfl,Nat.zero_le _,zal _ _ _,fun b h=>(by cases h),zae w _⟩
 case round =>
  obtain⟨k,E,z,I,D,B,G,C,rfl,rfl,hk,bE,s,o⟩:=hrel;by_cases bG:k<m
  ·obtain⟨P,rfl,_,_⟩:=bu.out.has (by omega);obtain⟨r,rfl,_,_⟩:=bt.out.has (by omega);obtain⟨v,rfl,_,_⟩:=bC.out.has (by omega);have bI:=zaH (xs:=za5 A b cols) (j:=k) (by rw[cQ.out];exact bG);have bF:=zaH (xs:=col) (j:=k) (by rw[←bz.out];exact bG);have c7:=zaO (L:=cols) (i:=k) (d:=0) (by rw[bw.out];exact bG);obtain⟨ga,Aa,ma,ca,Da,a3,aY,y0,y1,y2,c1⟩:=(bC.out.below o).at_ bI;obtain⟨gb,Ab,mb,cb,Db,aQ,aK,z0,z1,z2,c3⟩:=(bu.out.below o).at_ bF;have m0:=(bt.out.below o).at_ c7
   have db:=ZX.out _ (List.mem_of_getElem? bI);have be:=ZC.out _ (List.mem_of_getElem? bF);have d5:=hid (bu.out.below o);have d3:=hid (bt.out.below o);have d1:=hid (bC.out.below o);have du:=hid (show RatS wr ga (Aa,ma,ca) (Da,a3,aY) (el (za5 A b cols) k)from c1);have cS:=hid (show RatS wr gb (Ab,mb,cb) (Db,aQ,aK) (el col k)from c3);have dr:=hid (show ∀g,znH cols (za5 A b cols) col k=some g→RatS wr E (z,I,D) (B,G,C) (el (za5 A b cols) g/el col g)from s)
   have HW:=hid (show Bel w wr from Bel.mk o);have de:=hid (BB.out.trans ((o).mono BB.out.size));have bh:wr.cell? ⟨v,k*3,none⟩=some (.bool ga):=y0;have dG:=zaa bh;have bj:wr.cell? ⟨v,k*3+1,none⟩=some (Aa,ma,ca):=y1;have dK:=zaa bj;have bl:wr.cell? ⟨v,k*3+2,none⟩=some (Da,a3,aY):=y2;have dM:=zaa bl;have bn:wr.cell? ⟨P,k*3,none⟩=some (.bool gb):=z0;have dO:=zaa bn;have bo:wr.cell? ⟨P,k*3+1,none⟩=some (Ab,mb,cb):=z1;have dQ:=zaa bo
   have bp:wr.cell? ⟨P,k*3+2,none⟩=some (Db,aQ,aK):=z2;have dS:=zaa bp;have bq:wr.cell? ⟨r,k,none⟩=some (.int .i64 ((cols.getD k 0:Nat):Int)):=m0;have dU:=zaa bq;have br:wr.cell? ⟨q,6,none⟩=some (r,m,tc):=zab o q6;have dW:=zaa br;have bs:wr.cell? ⟨q,8,none⟩=some (v,m,xc):=zab o q8;have dY:=zaa bs;have cP:=dr;have cX:=hid bE;obtain⟨fa,fc,fh,fm,fb,fd,fi,fn,fg,fl,fz,fv⟩:=bf3 cX.out;have bh:=y0;have dG:=zaa bh;have bj:=y1;have dK:=zaa bj
   have bl:=y2;have dM:=zaa bl;have bn:=z0;have dO:=zaa bn;have bo:=z1;have dQ:=zaa bo;have bp:=z2;have dS:=zaa bp;have bq:=m0;have dU:=zaa bq;have br:=zab o q6;have dW:=zaa br;have bs:=zab o q8;have dY:=zaa bs;have cV:=hid db;have cW:=hid be;have ey:(0:Int)≤(k:Int):=Int.natCast_nonneg _;have ez:(k:Int)<(m:Int):=by omega
   clear bE s o bI bF c7 y0 y1 y2 z0 z1 z2 m0 c1 c3 db be q6 q8 dE;go_wp2_with fail
   with_reducible refine(Rt.sign gb Ab mb cb Db aQ aK (el col k) _ cS.out).mono ?_
   rintro e v1 ⟨rfl,hb⟩;have cc:=hid (zad hb cX.out);have d6:=hid (d5.out.below hb);have d4:=hid (d3.out.below hb);have d2:=hid (d1.out.below hb);have di:=hid (du.out.below hb);have dj:=hid (cS.out.below hb);have dg:=hid (HW.out.below hb);have df:=hid (de.out.trans ((hb).mono de.out.size));obtain⟨d8,e8,fo,fj,d9,e9,fp,fk,eh,fq,fD,fB⟩:=bf3 cc.out;have cg:=zab hb bh;have eM:=zaa cg;have ck:=zab hb bj;have eR:=zaa ck;have cp:=zab hb bl;have eT:=zaa cp;have cq:=zab hb bn;have eV:=zaa cq
   have cx:=zab hb bo;have eX:=zaa cx;have cz:=zab hb bp;have eZ:=zaa cz;have cB:=zab hb bq;have e1:=zaa cB;have cI:=zab hb br;have e3:=zaa cI;have cM:=zab hb bs;have e5:=zaa cM;have cO:=hid hb;clear hb;by_cases aO:0<el col k
   ·have c8:=zYp.2 aO;have da:¬(el col k).num.sign≤0:=by rw[Int.sign_eq_one_of_pos c8];decide
    have dA:¬(el col k).num≤0:=by omega
    have eH:decide ((el col k).num≤0)=false:=decide_eq_false dA;have eI:decide ((el col k).num.sign≤0)=false:=decide_eq_false da;have dt:=hid (z0m aO);have aW:=hid aO;have dp:=hid (show 4*(mw (el (za5 A b cols) k)+mw (el col k))+8≤LIM by have:=cU.out;have:=cV.out;have:=cW.out;omega);clear aO;go_upto_region 7 with fail
    have HS:=hid (show ∀w',Below v1.heap.size v1 w'→((w'.cell? ⟨w.heap.size,0,none⟩=some (.bool E)∧w'.cell? ⟨w.heap.size,1,none⟩=some (z,I,D)∧w'.cell? ⟨w.heap.size,2,none⟩=some (B,G,C)∧w'.cell? ⟨v,k*3,none⟩=some (.bool ga)∧w'.cell? ⟨v,k*3+1,none⟩=some (Aa,ma,ca)∧w'.cell? ⟨v,k*3+2,none⟩=some (Da,a3,aY)∧w'.cell? ⟨P,k*3,none⟩=some (.bool gb)∧w'.cell? ⟨P,k*3+1,none⟩=some (Ab,mb,cb)∧w'.cell? ⟨P,k*3+2,none⟩=some (Db,aQ,aK)∧w'.cell? ⟨r,k,none⟩=some (.int .i64 ((cols.getD k 0:Nat):Int))∧w'.cell? ⟨q,6,none⟩=some (r,m,tc)∧w'.cell? ⟨q,8,none⟩=some (v,m,xc))∧Below v1.heap.size v1 w')from fun w' h=>⟨⟨zab h d8,zab h d9,zab h eh,zab h cg,zab h ck,zab h cp,zab h cq,zab h cx,zab h cz,zab h cB,zab h cI,zab h cM⟩,h⟩)
    go_cut[8,9] (fun s8 s9 wz=>zcD v1 s8 wz (el (za5 A b cols) k/el col k))
    case first =>
     go_region_held3 (fun w'=>((w'.cell? ⟨w.heap.size,0,none⟩=some (.bool E)∧w'.cell? ⟨w.heap.size,1,none⟩=some (z,I,D)∧w'.cell? ⟨w.heap.size,2,none⟩=some (B,G,C)∧w'.cell? ⟨v,k*3,none⟩=some (.bool ga)∧w'.cell? ⟨v,k*3+1,none⟩=some (Aa,ma,ca)∧w'.cell? ⟨v,k*3+2,none⟩=some (Da,a3,aY)∧w'.cell? ⟨P,k*3,none⟩=some (.bool gb)∧w'.cell? ⟨P,k*3+1,none⟩=some (Ab,mb,cb)∧w'.cell? ⟨P,k*3+2,none⟩=some (Db,aQ,aK)∧w'.cell? ⟨r,k,none⟩=some (.int .i64 ((cols.getD k 0:Nat):Int))∧w'.cell? ⟨q,6,none⟩=some (r,m,tc)∧w'.cell? ⟨q,8,none⟩=some (v,m,xc))∧Below v1.heap.size v1 w'))
      ((refine HS.out _ ?_;repeat(first | exact Below.refl _ _ | exact(by assumption:_∧Below _ _ _).2 | with_reducible refine bdrew ?_ | with_reducible refine al2 ?_ _ | with_reducible refine set2 ?_ (by omega) | with_reducible refine zc1 ?_ (by assumption))))
      (first
       | (go_at_call 102;(with_reducible refine(Rt.div ga Aa ma ca Da a3 aY (el (za5 A b cols) k) gb Ab mb cb Db aQ aK (el col k) _ (di.out.below (by assumption:_∧Below _ _ _).2) (dj.out.below (by assumption:_∧Below _ _ _).2) dt.out dp.out).mono ?_);rintro e u2 ⟨g2,A2,m2,c2,D2,md2,cd2,rfl,hn,hb2⟩;have be:=hb2.size;(try simp at be);have eJ:v1.heap.size≤u2.heap.size:=(by omega);(try((first | (have O:=hid (zbc (cs:=#[.bool false,.slice none 0 0,.slice none 0 0]) (t:=49) hb2 O.out)) | (have O:=hid (zbc (cs:=#[.bool false,.slice none 0 0,.slice none 0 0]) (t:=49) hb2 (zal _ _ _))));have ep:=zac O.out 0;have es:=zag O.out 0;have eq:=zac O.out 1;have et:=zag O.out 1;have er:=zac O.out 2;have eu:=zag O.out 2));have N7:=hid hn;clear hn)
       | fail)
     all_goals
      go_wp2;go_meet
      case rel=>(have F:=(by assumption:_∧Below v1.heap.size v1 _).2;(first | (with_reducible refine zcD.of F ?_ O.out N7.out;omega) | (with_reducible refine zcD.al F ?_ N7.out;omega) | (with_reducible refine zcD.of F ?_ (zal _ _ _) (N7.out.alloc _);omega)))
    case rest =>
     obtain⟨p,y,J,T,Q,M,U,R,rfl,n,eG,bd,hi⟩:=hcut;rename World=>wz
     have ds:=hid (fun b h=>((cP.out b h).below cO.out).below n);have cd:=hid (zad n cc.out);have dd:=hid (d6.out.below n);have b4:=hid (d4.out.below n);have dc:=hid (d2.out.below n);have dk:=hid (di.out.below n);have dl:=hid (dj.out.below n);have dh:=hid (dg.out.below n);have HR:=hid (show RatS wz y (J,T,Q) (M,U,R) (el (za5 A b cols) k/el col k)from hi);have bm:=hid (df.out.trans ((n).mono df.out.size));obtain⟨ft,fe,fw,fr,fu,ff,fx,fs,fA,fy,fE,fC⟩:=bf3 cd.out;have ch:=zab n cg
     have eN:=zaa ch;have cr:=zab n ck;have eS:=zaa cr;have cw:=zab n cp;have eU:=zaa cw;have ct:=zab n cq;have eW:=zaa ct;have cy:=zab n cx;have eY:=zaa cy;have cA:=zab n cz;have e0:=zaa cA;have cD:=zab n cB;have e2:=zaa cD;have cE:=zab n cI;have e4:=zaa cE;have cF:=zab n cM;have e6:=zaa cF;have cJ:wz.cell? ⟨p,0,none⟩=some (.bool y):=zac bd 0;have e7:=zaa cJ;have cG:wz.cell? ⟨p,1,none⟩=some (J,T,Q):=zac bd 1;have eO:=zaa cG;have cL:wz.cell? ⟨p,2,none⟩=some (M,U,R):=zac bd 2
     have eP:=zaa cL;clear n HS;clear hi bd;cases F:znH cols (za5 A b cols) col k with
     | none =>
      have hp:zbh none = -1:=rfl;rw[hp];have aI:=hid F;clear F;go_upto_region 11 with fail
      go_cut[70] (fun c W=>c=true∧Below wz.heap.size wz W)
      case first =>
       refine wp_region_noPanic ?_;refine wp_region_held_drew (S:=fun w'=>w'.cell? ⟨p,0,none⟩=some (.bool y)) (by kernel_rfl) kp fun hHeld=>?_
       refine zaw [0,1,2] ?_;repeat refine tkH (hS:=hHeld) (h:=?_)
       refine zao ?_;refine zaw [3,4,5,6,7,8,9,10,11,12,13,14,15,16,17,18,19,20,21] ?_;repeat refine skH (hS:=hHeld) (h:=?_)
       refine zao ?_;refine zaw [22] ?_;repeat refine tkH (hS:=hHeld) (h:=?_)
       refine zao ?_;refine wpAnyH_done (by kernel_rfl) ?_ _;refine NoPanic.normal ?_;go_wp2;go_meet;exact⟨by first | rfl | (simp at aM ⊢;omega) | (simp;omega),zap _ 1⟩
      obtain⟨rfl,f⟩:=hcut;rename World=>wy
      have X:=hid (zad f cd.out);have a6:=hid (dd.out.below f);have a5:=hid (b4.out.below f);have ba:=hid (dc.out.below f);have a8:=hid (dk.out.below f);have a9:=hid (dl.out.below f);have aS:=hid (dh.out.below f);have aT:=hid (HR.out.below f);have Y:=hid (bm.out.trans ((f).mono bm.out.size));obtain⟨ed,ea,ei,ef,ee,eb,ej,eg,em,ek,d7,en⟩:=bf3 X.out;have ag:=zab f ch;have dH:=zaa ag;have ah:=zab f cr;have dL:=zaa ah;have ai:=zab f cw;have dN:=zaa ai;have aj:=zab f ct;have dP:=zaa aj
      have ak:=zab f cy;have dR:=zaa ak;have ao:=zab f cA;have dT:=zaa ao;have ax:=zab f cD;have dV:=zaa ax;have ay:=zab f cE;have dX:=zaa ay;have az:=zab f cF;have dZ:=zaa az;have aA:=zab f cJ;have d0:=zaa aA;have am:=zab f cG;have dI:=zaa am;have ap:=zab f cL;have dJ:=zaa ap;have l:=hid (zTU aW.out aI.out);go_wp2_with fail
      refine zaS (S:=fun w'=>w'.cell? ⟨p,0,none⟩=some (.bool y)∧w'.cell? ⟨p,1,none⟩=some (J,T,Q)∧w'.cell? ⟨p,2,none⟩=some (M,U,R)) [3] (h:=fun hHeld=>?_);refine zaw [0,1,2] ?_;repeat refine tkL (hS:=hHeld) (h:=?_)
      refine zao ?_;refine zay 3 (h:=fun K hK=>?_);go_simp;refine hK.out _ _ ?_;clear hK K;try simp only[Act.put,pu1,pu2,pu3,pu4,pu5,pu6]
      refine zaM (h:=?_);go_wp2;go_roundw
      case rel=>exact⟨k+1,y,J,T,Q,M,U,R,by go_num,by rw[l.out];rfl,by omega,zar _ (zar _ (zar _ X.out)),fun b h=>by rw[l.out]at h;injection h with h;subst h;exact(aT.out.set3 X.out (by decide) _ _ _).drew,(Bel.set3 aS.out (Nat.le_refl _) _ _ _).drew.b⟩
      case measure=>simp[intOf];omega
     | some g =>
      have hp:zbh (some g)=(g:Int):=rfl;rw[hp];have aI:=hid F;have cR:=hid (ds.out g F);have ew:=zTh F;have eB:¬(g:Int)<0:=by omega
      have eC:(0:Int)≤(g:Int):=Int.natCast_nonneg _;have eD:(g:Int)<(m:Int):=by omega
      have dC:=ZX.out _ (List.mem_of_getElem? (zaH (xs:=za5 A b cols) (j:=g) (by rw[cQ.out];omega)));have dD:=ZC.out _ (List.mem_of_getElem? (zaH (xs:=col) (j:=g) (by rw[←bz.out];omega)));have dq:=hid (show 4*(mw (el (za5 A b cols) k/el col k)+mw (el (za5 A b cols) g/el col g))+8≤LIM by have h1:=zyw (el (za5 A b cols) k) (el col k);have h2:=zyw (el (za5 A b cols) g) (el col g);have:=cU.out;have:=cV.out;have:=cW.out;omega);have c5:=b4.out.at_ (zaO (L:=cols) (i:=g) (d:=0) (by rw[bw.out];omega))
      clear F dC dD;have ex:=zaa c5;go_wp2_with fail
      with_reducible refine(Rt.cmpr y J T Q M U R (el (za5 A b cols) k/el col k) E z I D B G C (el (za5 A b cols) g/el col g) _ HR.out cR.out dq.out).mono ?_
      rintro e V ⟨rfl,hb⟩;have X:=hid (zad hb cd.out);have a6:=hid (dd.out.below hb);have a5:=hid (b4.out.below hb);have ba:=hid (dc.out.below hb);have a8:=hid (dk.out.below hb);have a9:=hid (dl.out.below hb);have aS:=hid (dh.out.below hb);have aT:=hid (HR.out.below hb);have bg:=hid (cR.out.below hb);have Y:=hid (bm.out.trans ((hb).mono bm.out.size));obtain⟨ed,ea,ei,ef,ee,eb,ej,eg,em,ek,d7,en⟩:=bf3 X.out;have ag:=zab hb ch;have dH:=zaa ag;have ah:=zab hb cr;have dL:=zaa ah;have ai:=zab hb cw
      have dN:=zaa ai;have aj:=zab hb ct;have dP:=zaa aj;have ak:=zab hb cy;have dR:=zaa ak;have ao:=zab hb cA;have dT:=zaa ao;have ax:=zab hb cD;have dV:=zaa ax;have ay:=zab hb cE;have dX:=zaa ay;have az:=zab hb cF;have dZ:=zaa az;have aA:=zab hb cJ;have d0:=zaa aA;have am:=zab hb cG;have dI:=zaa am;have ap:=zab hb cL;have dJ:=zaa ap;have bb:V.cell? ⟨r,g,none⟩=some (.int .i64 ((cols.getD g 0:Nat):Int)):=zab hb c5;have eQ:=zaa bb;clear hb
      by_cases hc:el (za5 A b cols) k/el col k<el (za5 A b cols) g/el col g
      ·have a0:=zm9.2 hc;have a1:=decide_eq_true a0;have ab:=hid (zTc aW.out aI.out (.inl hc));clear hc;go_upto_region 11 with fail
       go_cut[70] (fun c W=>c=true∧Below V.heap.size V W)
       case first =>
        refine wp_region_noPanic ?_;refine wp_region_held_drew (S:=fun w'=>w'.cell? ⟨p,0,none⟩=some (.bool y)) (by kernel_rfl) kp fun hHeld=>?_
        refine zaw [0,1,2] ?_;repeat refine tkH (hS:=hHeld) (h:=?_)
        refine zao ?_;try simp only[a1]
        refine zaw [3,4,5,6,7,8,9,10,11,12,13,14,15,16,17,18,19,20,21] ?_;repeat refine skH (hS:=hHeld) (h:=?_)
        refine zao ?_;refine zaw [22] ?_;repeat refine tkH (hS:=hHeld) (h:=?_)
        refine zao ?_;refine wpAnyH_done (by kernel_rfl) ?_ _;refine NoPanic.normal ?_;go_wp2;go_meet;exact⟨by first | rfl | (simp at aM ⊢;omega) | (simp;omega),zap _ 1⟩
       obtain⟨rfl,f⟩:=hcut;rename World=>wy
       have u:=hid (zad f X.out);have b6:=hid (a6.out.below f);have b5:=hid (a5.out.below f);have b9:=hid (ba.out.below f);have b7:=hid (a8.out.below f);have b8:=hid (a9.out.below f);have aE:=hid (aS.out.below f);have a4:=hid (aT.out.below f);have a7:=hid (bg.out.below f);have cm:=hid (Y.out.trans ((f).mono Y.out.size));obtain⟨ci,ce,cu,cn,cj,cf,cv,co,cH,cC,b3,b2⟩:=bf3 u.out;have an:=zab f ag;have bK:=zaa an;have aq:=zab f ah;have bO:=zaa aq;have ar:=zab f ai;have bP:=zaa ar;have au:=zab f aj
       have bQ:=zaa au;have av:=zab f ak;have bR:=zaa av;have aw:=zab f ao;have bS:=zaa aw;have aF:=zab f ax;have bT:=zaa aF;have ad:=zab f ay;have bU:=zaa ad;have ae:=zab f az;have bV:=zaa ae;have af:=zab f aA;have bW:=zaa af;have aB:=zab f am;have bL:=zaa aB;have aC:=zab f ap;have bM:=zaa aC;have aD:=zab f bb;have bN:=zaa aD;have l:=hid (ab.out);go_wp2_with fail
       refine zaS (S:=fun w'=>w'.cell? ⟨p,0,none⟩=some (.bool y)∧w'.cell? ⟨p,1,none⟩=some (J,T,Q)∧w'.cell? ⟨p,2,none⟩=some (M,U,R)) [3] (h:=fun hHeld=>?_);refine zaw [0,1,2] ?_;repeat refine tkL (hS:=hHeld) (h:=?_)
       refine zao ?_;refine zay 3 (h:=fun K hK=>?_);go_simp;refine hK.out _ _ ?_;clear hK K;try simp only[Act.put,pu1,pu2,pu3,pu4,pu5,pu6]
       refine zaM (h:=?_);go_wp2;go_roundw
       case rel=>exact⟨k+1,y,J,T,Q,M,U,R,by go_num,by rw[l.out];rfl,by omega,zar _ (zar _ (zar _ u.out)),fun b h=>by rw[l.out]at h;injection h with h;subst h;exact(a4.out.set3 u.out (by decide) _ _ _).drew,(Bel.set3 aE.out (Nat.le_refl _) _ _ _).drew.b⟩
       case measure=>simp[intOf];omega
      ·have a0:¬zlX (el (za5 A b cols) k/el col k) (el (za5 A b cols) g/el col g)<0:=fun h=>hc (zm9.1 h)
       have a1:=decide_eq_false a0;by_cases he:el (za5 A b cols) k/el col k=el (za5 A b cols) g/el col g
       ·have aN:=(zkD _ _).2 he;rw[aN];by_cases bc:cols.getD k 0<cols.getD g 0
        ·have aM:((cols.getD k 0:Nat):Int)<((cols.getD g 0:Nat):Int):=by omega
         have ab:=hid (zTc aW.out aI.out (.inr ⟨he,bc⟩));clear he hc bc a0 a1 aN;go_upto_region 11 with fail
         go_cut[70] (fun c W=>c=true∧Below V.heap.size V W)
         case first =>
          refine wp_region_noPanic ?_;refine wp_region_held_drew (S:=fun w'=>w'.cell? ⟨r,k,none⟩=some (.int .i64 ((cols.getD k 0:Nat):Int))∧w'.cell? ⟨q,6,none⟩=some (r,m,tc)∧w'.cell? ⟨r,g,none⟩=some (.int .i64 ((cols.getD g 0:Nat):Int))) (by kernel_rfl) kp fun hHeld=>?_
          refine zaw [0,1,2,3,4,5,6,7,8,9,10,11,12,13,14,15,16,17,18,19,20,21,22] ?_;repeat refine tkH (hS:=hHeld) (h:=?_)
          refine zao ?_;refine wpAnyH_done (by kernel_rfl) ?_ _;refine NoPanic.normal ?_;go_wp2;go_meet;exact⟨by first | rfl | (simp at aM ⊢;omega) | (simp;omega),zap _ 1⟩
         obtain⟨rfl,f⟩:=hcut;rename World=>wy
         have u:=hid (zad f X.out);have b6:=hid (a6.out.below f);have b5:=hid (a5.out.below f);have b9:=hid (ba.out.below f);have b7:=hid (a8.out.below f);have b8:=hid (a9.out.below f);have aE:=hid (aS.out.below f);have a4:=hid (aT.out.below f);have a7:=hid (bg.out.below f);have cm:=hid (Y.out.trans ((f).mono Y.out.size));obtain⟨ci,ce,cu,cn,cj,cf,cv,co,cH,cC,b3,b2⟩:=bf3 u.out;have an:=zab f ag;have bK:=zaa an;have aq:=zab f ah;have bO:=zaa aq;have ar:=zab f ai;have bP:=zaa ar;have au:=zab f aj
         have bQ:=zaa au;have av:=zab f ak;have bR:=zaa av;have aw:=zab f ao;have bS:=zaa aw;have aF:=zab f ax;have bT:=zaa aF;have ad:=zab f ay;have bU:=zaa ad;have ae:=zab f az;have bV:=zaa ae;have af:=zab f aA;have bW:=zaa af;have aB:=zab f am;have bL:=zaa aB;have aC:=zab f ap;have bM:=zaa aC;have aD:=zab f bb;have bN:=zaa aD;have l:=hid (ab.out);go_wp2_with fail
         refine zaS (S:=fun w'=>w'.cell? ⟨p,0,none⟩=some (.bool y)∧w'.cell? ⟨p,1,none⟩=some (J,T,Q)∧w'.cell? ⟨p,2,none⟩=some (M,U,R)) [3] (h:=fun hHeld=>?_);refine zaw [0,1,2] ?_;repeat refine tkL (hS:=hHeld) (h:=?_)
         refine zao ?_;refine zay 3 (h:=fun K hK=>?_);go_simp;refine hK.out _ _ ?_;clear hK K;try simp only[Act.put,pu1,pu2,pu3,pu4,pu5,pu6]
         refine zaM (h:=?_);go_wp2;go_roundw
         case rel=>exact⟨k+1,y,J,T,Q,M,U,R,by go_num,by rw[l.out];rfl,by omega,zar _ (zar _ (zar _ u.out)),fun b h=>by rw[l.out]at h;injection h with h;subst h;exact(a4.out.set3 u.out (by decide) _ _ _).drew,(Bel.set3 aE.out (Nat.le_refl _) _ _ _).drew.b⟩
         case measure=>simp[intOf];omega
        ·have aM:¬((cols.getD k 0:Nat):Int)<((cols.getD g 0:Nat):Int):=by omega
         have ab:=hid (zTb aW.out aI.out (fun h=>h.elim hc fun h=>bc h.2));clear he hc bc a0 a1 aN;go_upto_region 11 with fail
         go_cut[70] (fun c W=>c=false∧Below V.heap.size V W)
         case first =>
          refine wp_region_noPanic ?_;refine wp_region_held_drew (S:=fun w'=>w'.cell? ⟨r,k,none⟩=some (.int .i64 ((cols.getD k 0:Nat):Int))∧w'.cell? ⟨q,6,none⟩=some (r,m,tc)∧w'.cell? ⟨r,g,none⟩=some (.int .i64 ((cols.getD g 0:Nat):Int))) (by kernel_rfl) kp fun hHeld=>?_
          refine zaw [0,1,2,3,4,5,6,7,8,9,10,11,12,13,14,15,16,17,18,19,20,21,22] ?_;repeat refine tkH (hS:=hHeld) (h:=?_)
          refine zao ?_;refine wpAnyH_done (by kernel_rfl) ?_ _;refine NoPanic.normal ?_;go_wp2;go_meet;exact⟨by first | rfl | (simp at aM ⊢;omega) | (simp;omega),zap _ 1⟩
         obtain⟨rfl,f⟩:=hcut;rename World=>wy
         have u:=hid (zad f X.out);have b6:=hid (a6.out.below f);have b5:=hid (a5.out.below f);have b9:=hid (ba.out.below f);have b7:=hid (a8.out.below f);have b8:=hid (a9.out.below f);have aE:=hid (aS.out.below f);have a4:=hid (aT.out.below f);have a7:=hid (bg.out.below f);have cm:=hid (Y.out.trans ((f).mono Y.out.size));obtain⟨ci,ce,cu,cn,cj,cf,cv,co,cH,cC,b3,b2⟩:=bf3 u.out;have an:=zab f ag;have bK:=zaa an;have aq:=zab f ah;have bO:=zaa aq;have ar:=zab f ai;have bP:=zaa ar;have au:=zab f aj
         have bQ:=zaa au;have av:=zab f ak;have bR:=zaa av;have aw:=zab f ao;have bS:=zaa aw;have aF:=zab f ax;have bT:=zaa aF;have ad:=zab f ay;have bU:=zaa ad;have ae:=zab f az;have bV:=zaa ae;have af:=zab f aA;have bW:=zaa af;have aB:=zab f am;have bL:=zaa aB;have aC:=zab f ap;have bM:=zaa aC;have aD:=zab f bb;have bN:=zaa aD;have l:=hid (ab.out);go_wp2;go_roundw
         case rel=>exact⟨k+1,E,z,I,D,B,G,C,by go_num,by rw[l.out];rfl,by omega,u.out,fun b h=>by rw[l.out]at h;injection h with h;subst h;exact a7.out,aE.out.b⟩
         case measure=>simp[intOf];omega
       ·have aN:¬zlX (el (za5 A b cols) k/el col k) (el (za5 A b cols) g/el col g)=0:=fun h=>he ((zkD _ _).1 h)
        have dy:decide (zlX (el (za5 A b cols) k/el col k) (el (za5 A b cols) g/el col g)=0)=false:=decide_eq_false aN;have dz:(zlX (el (za5 A b cols) k/el col k) (el (za5 A b cols) g/el col g) == 0)=false:=by simpa using aN
        have ab:=hid (zTb aW.out aI.out (fun h=>h.elim hc fun h=>he h.1));clear he hc;go_upto_region 11 with fail
        go_cut[70] (fun c W=>c=false∧Below V.heap.size V W)
        case first =>
         refine wp_region_noPanic ?_;refine wp_region_held_drew (S:=fun w'=>w'.cell? ⟨p,0,none⟩=some (.bool y)) (by kernel_rfl) kp fun hHeld=>?_
         refine zaw [0,1,2] ?_;repeat refine tkH (hS:=hHeld) (h:=?_)
         refine zao ?_;try simp only[a1]
         refine zaw [3,4,5] ?_;repeat refine tkH (hS:=hHeld) (h:=?_)
         refine zao ?_;try simp only[dy,dz]
         refine zaw [6,7,8,9,10,11,12,13,14,15,16,17,18,19,20] ?_;repeat refine skH (hS:=hHeld) (h:=?_)
         refine zao ?_;refine zaw [21,22] ?_;repeat refine tkH (hS:=hHeld) (h:=?_)
         refine zao ?_;refine wpAnyH_done (by kernel_rfl) ?_ _;refine NoPanic.normal ?_;go_wp2;go_meet;exact⟨by first | rfl | (simp at aM ⊢;omega) | (simp;omega),zap _ 1⟩
        obtain⟨rfl,f⟩:=hcut;rename World=>wy
        have u:=hid (zad f X.out);have b6:=hid (a6.out.below f);have b5:=hid (a5.out.below f);have b9:=hid (ba.out.below f);have b7:=hid (a8.out.below f);have b8:=hid (a9.out.below f);have aE:=hid (aS.out.below f);have a4:=hid (aT.out.below f);have a7:=hid (bg.out.below f);have cm:=hid (Y.out.trans ((f).mono Y.out.size));obtain⟨ci,ce,cu,cn,cj,cf,cv,co,cH,cC,b3,b2⟩:=bf3 u.out;have an:=zab f ag;have bK:=zaa an;have aq:=zab f ah;have bO:=zaa aq;have ar:=zab f ai;have bP:=zaa ar;have au:=zab f aj
        have bQ:=zaa au;have av:=zab f ak;have bR:=zaa av;have aw:=zab f ao;have bS:=zaa aw;have aF:=zab f ax;have bT:=zaa aF;have ad:=zab f ay;have bU:=zaa ad;have ae:=zab f az;have bV:=zaa ae;have af:=zab f aA;have bW:=zaa af;have aB:=zab f am;have bL:=zaa aB;have aC:=zab f ap;have bM:=zaa aC;have aD:=zab f bb;have bN:=zaa aD;have l:=hid (ab.out);go_wp2;go_roundw
        case rel=>exact⟨k+1,E,z,I,D,B,G,C,by go_num,by rw[l.out];rfl,by omega,u.out,fun b h=>by rw[l.out]at h;injection h with h;subst h;exact a7.out,aE.out.b⟩
        case measure=>simp[intOf];omega
   ·have c8:(el col k).num≤0:=Int.not_lt.1 fun h=>aO (zYp.1 h)
    have da:(el col k).num.sign≤0:=by rcases Int.lt_trichotomy (el col k).num 0 with h | h | h;rw[Int.sign_eq_neg_one_of_neg h];decide;rw[h];decide;omega
    have l:=hid (zTV (cols:=cols) (xs:=za5 A b cols) (col:=col) (k:=k) aO);go_wp2;go_roundw
    case rel=>exact⟨k+1,E,z,I,D,B,G,C,by go_num,by rw[l.out],by omega,cc.out,fun b h=>by rw[l.out]at h;exact(cP.out b h).below cO.out,dg.out.b⟩
    case measure=>simp[intOf];omega
  ·obtain rfl:m=k:=by omega
   have l:=hid (show zDG cols (za5 A b cols) col=znH cols (za5 A b cols) col m by unfold zDG;rw[←bz.out,bw.out,Nat.min_self]);have dm:=hid o;clear bE s o;go_wp2;go_ret
   exact⟨by rw[l.out];rfl,dm.out⟩
end Tb
end
