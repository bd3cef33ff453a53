/- Contracts and lemmas: Open DuB Tb5 Sv Law3 Lit Is08. Conditions: as each says. -/
import Derived.Test.YtbhfhkcdfmmmiaaGreatRows
import Derived.Test.YtbhfhkcdfmmmiaaGreatBoolsZr
import Derived.ProofKit
import Derived.OpenShut
import Derived.JoinedCond
import Derived.Deep.Slices
import Derived.Deep.Grids
import Derived.Test.YtbhfhkcdfmmmiaaGreatBasTZr
import Derived.Test.YtbhfhkcdfmmmiaaGreatVec7Zr
set_option linter.all false
set_option maxHeartbeats 4000000
set_option maxRecDepth 100000
namespace Go.Proofs.YtbhfhkcdfmmmiaaGreat
open Go.Proofs.Tryz
open Go.ChangeShapes Go.WideShapes Go.ChangeAt Go.RowKit Go.Deep
variable {cols:List Nat}{xs:List Rat}{b k:Nat}{A:OA}{u w w':World}
theorem own:ownKnob prog.godebug=none:=by kernel_rfl
theorem zqj:laidOutB prog=true:=by kernel_rfl
theorem zkC:prog.cellsOf 58=2:=by kernel_rfl
theorem zwz:prog.cellsOf 3=1:=by kernel_rfl
theorem i64_of{x:Int}(h:(Lit.int .i64 x).wf=true):I64 x:=by
 simp[Lit.wf,IntKind.min,IntKind.max,IntKind.signed,IntKind.bits]at h;exact⟨h.1,h.2⟩
section
variable {H:Type} {enc:TypeId × Value→H} {W:World} {base:Nat} {sp:Nat→Bool} {held:Bool}
theorem zAH{fuel:Nat}{cs:List Value}{x:DataW H × List MemPlace}(h:DataW.trod enc prog W base sp held fuel 58 cs=some x):∃a b:Int,cs=[.int .i64 a,.int .i64 b]∧I64 a∧I64 b:=by
 obtain⟨ys,j,_,_,i,k,hg⟩:=DataW.trod_struct underlying58 h;rw[zkC]at i
 match cs,i with
 | [c0,c1],_ =>
  have d:DataW.trod enc prog W base sp held j 3 ([c0,c1].take (prog.cellsOf 3))=ys[0]?:=hg 0 _ rfl;have e:DataW.trod enc prog W base sp held j 3 ([c1].take (prog.cellsOf 3))=ys[1]?:=hg 1 _ rfl;rw[zwz]at d e;have o:ys.length=2:=k;rw[List.getElem?_eq_getElem (show 0<ys.length by omega)]at d;rw[List.getElem?_eq_getElem (show 1<ys.length by omega)]at e;obtain⟨a,f,_,l⟩:=DataW.trod_int underlying3 d;obtain⟨b,g,_,n⟩:=DataW.trod_int underlying3 e;simp at f g;subst f g
  exact⟨a,b,rfl,i64_of l,i64_of n⟩
end
theorem zup:prog.cellsOf 4=1:=by kernel_rfl
open Go.RowKit Am
attribute [local go_sem ↓] Go.wp_at_zero Go.wp_at_succ
theorem zoJ(h:zbk cols xs k=none)(a:el xs k<0):zbk cols xs (k+1)=some k:=by simp only[zbk,h,if_pos a]
theorem zqk(a:¬el xs k<0):zbk cols xs (k+1)=zbk cols xs k:=by
 simp only[zbk];cases zbk cols xs k with
 | none=>simp only[if_neg a]
 | some b=>simp only;rw[if_neg (fun h=>a h.1)]
theorem zsh(h:zbk cols xs k=some b)(a:el xs k<0)(hc:cols.getD k 0<cols.getD b 0):zbk cols xs (k+1)=some k:=by simp only[zbk,h];rw[if_pos ⟨a,hc⟩]
theorem zsg(h:zbk cols xs k=some b)(hc:¬cols.getD k 0<cols.getD b 0):zbk cols xs (k+1)=some b:=by simp only[zbk,h];rw[if_neg (fun h=>hc h.2)]
theorem znI(h:zbk cols xs k=some b):b<k:=by
 have s:=zdk cols xs k;rw[h]at s;exact s.1
section
variable {W0 w:World} {H q:Nat} {rA:OA} {rc:Nat} {lA:List Value} {bA:OA} {bc_:Nat} {kA:OA} {kc:Nat} {eA:OA} {ec m N S own:Nat} {A:List (List Rat)} {b c:List Rat} {left:List Int}
  {tA:OA} {tc:Nat} {cols:List Nat}
namespace Du
theorem leave(h:zhi W0 w H q rA rc lA bA bc_ kA kc eA ec m N S own A b c left tA tc cols) :
  Calls prog 127 #[.pointer (some ⟨q,0,none⟩)] w fun e w'=>e=.returned (.int .i64 (zbh (zi5 cols (za5 A b cols))))∧Below w w w':=by
 have HP:=un h;obtain⟨qb,xA,xc,E⟩:=h;have HL:=un E.basis.len;have ad:=un (E.basis.vals_ok b).2;have aD:=E.std.hm;clear E;go_enter func127,ntmps127;go_wp2_with fail
 refine(Tb.basis HP.o).mono ?_;rintro e w1 ⟨A1,c1,rfl,hv1,hb⟩;have I:=un hb;have ao:=un hv1;clear hv1 hb;go_wp2_with fail
 refine(Tb.values (HP.o.below I.o)).mono ?_;rintro e O ⟨A2,c2,rfl,hv2,hb⟩;have HI:=un (ao.o.below hb);have HX:=un hv2;have X:=un (I.o.trans (hb.mono I.o.size));clear hv2 hb;go_wp2
 go_loopw [3,12] (fun bv i wr=>∃k:Nat,i=.int .i64 k∧bv=.int .i64 (zbh (zbk cols (za5 A b cols) k))∧k≤m∧Below O O wr)
  (fun _ i _=>m-(intOf i).toNat)
 case atStart=>exact⟨0,rfl,rfl,Nat.zero_le _,Below.refl _ _⟩
 case round =>
  obtain⟨k,rfl,rfl,hk,z⟩:=hrel;have V:=un z;by_cases ai:k<m
  ·have ae:=un (HX.o.below z);have aa:=un (HI.o.below z);obtain⟨bx,rfl,_,_⟩:=ae.o.has (by omega);obtain⟨y,rfl,_,_⟩:=aa.o.has (by omega);have hq:=zaH (xs:=za5 A b cols) (j:=k) (by rw[ad.o];exact ai);obtain⟨g,a,p,n,d,o,l,k0,k1,k2,hR⟩:=ae.o.at_ hq;have HR:=un hR;have ah:cols[k]? = some (cols.getD k 0):=zaO (by rw[HL.o];exact ai);have am:=un ah;have az:(0:Int)≤(k:Int):=Int.natCast_nonneg _;have aA:(k:Int)<(m:Int):=by omega
   clear z hR hq ah;have al:=un (Bel.mk V.o);go_wp2_with fail
   have D:=un (show Bel O (wr.alloc (.cells #[g,(a,p,n),(d,o,l)] 41))from al.o.alloc _);have C:=un (show RatS (wr.alloc (.cells #[g,(a,p,n),(d,o,l)] 41)) g (a,p,n) (d,o,l) (el (za5 A b cols) k)from HR.o.alloc _);have Z:=un (show IntsS (wr.alloc (.cells #[g,(a,p,n),(d,o,l)] 41)) w.heap.size (y,m,c1) cols from aa.o.alloc _);have x:=un (zal wr #[g,(a,p,n),(d,o,l)] 41)
   obtain⟨x0,_,x1,_,x2,_⟩:=bc3 x.o;have L:=Z.o.at_ am.o;have F:=zaa L;by_cases s:el (za5 A b cols) k<0
   ·have hs:=zrN s;have ak:=zeh.2 s;cases hbe:zbk cols (za5 A b cols) k with
    | none =>
     have t:=un (zoJ hbe s);have J:zbh none = -1:=rfl;rw[J];clear hbe s;refine wp_region_noPanic ?_;refine wp_region_held_drew (S:=fun w'=>w'.cell? ⟨wr.heap.size,0,none⟩=some (.bool g)∧w'.cell? ⟨wr.heap.size,1,none⟩=some (a,p,n)∧w'.cell? ⟨wr.heap.size,2,none⟩=some (d,o,l)) (by kernel_rfl) kp fun hHeld=>?_
     refine zaw [0] ?_;repeat refine tkH (hS:=hHeld) (h:=?_)
     refine zao ?_;refine wpAnyH_ready (rs:=[1]) (by kernel_rfl) (by simp) ?_;refine AllReadyH.cons rfl (fun K r=>?_) AllReadyH.nil;go_simp
     (go_at_call 105;(with_reducible refine(Rt.sign g a p n d o l (el (za5 A b cols) k) _ C.o.drew).mono ?_);rintro e v1 ⟨rfl,hb⟩;have u:=un (zad hb x.o);have v:=un (D.o.drew.below hb);obtain⟨R,_,T,_,U,_⟩:=bc3 u.o;clear hb)
     (try go_wp2_with fail)
     refine r.o _ _ kp fun hHeld=>?_
     clear r K;try simp only[Act.put,pu1,pu2,pu3,pu4,pu5,pu6]
     refine zaw [2,3,4,5,6] ?_;repeat refine tkH (hS:=hHeld) (h:=?_)
     refine zao ?_;refine zaw [7,8,9,10,11,12,13,14,15] ?_;repeat refine skH (hS:=hHeld) (h:=?_)
     refine zao ?_;refine zaw [16,17] ?_;repeat refine tkH (hS:=hHeld) (h:=?_)
     refine zao ?_;refine wpAnyH_done (by kernel_rfl) ?_ _;refine NoPanic.normal ?_;go_wp2;go_roundw
     case rel=>exact⟨k+1,by go_num,by rw[t.o];rfl,by omega,v.o.b⟩
     case measure=>simp[intOf];omega
    | some f =>
     have J:zbh (some f)=(f:Int):=rfl;rw[J];have ay:=znI hbe;have ag:cols[f]? = some (cols.getD f 0):=zaO (by rw[HL.o];omega);have aB:(0:Int)≤(f:Int):=Int.natCast_nonneg _;have aC:(f:Int)<(m:Int):=by omega
     have M:=Z.o.at_ ag;have G:=zaa M;have Y:=un hbe;have ap:=un s;clear hbe s ag;by_cases hc:cols.getD k 0<cols.getD f 0
     ·have t:=un (zsh Y.o ap.o hc);have B:((cols.getD k 0:Nat):Int)<((cols.getD f 0:Nat):Int):=by omega
      clear hc;generalize cols.getD k 0=P at B L F;generalize cols.getD f 0=Q at B M G;refine wp_region_noPanic ?_;refine wp_region_held_drew (S:=fun w'=>w'.cell? ⟨wr.heap.size,0,none⟩=some (.bool g)∧w'.cell? ⟨wr.heap.size,1,none⟩=some (a,p,n)∧w'.cell? ⟨wr.heap.size,2,none⟩=some (d,o,l)∧w'.cell? ⟨y,k,none⟩=some (.int .i64 (P:Int))∧w'.cell? ⟨y,f,none⟩=some (.int .i64 (Q:Int))) (by kernel_rfl) kp fun hHeld=>?_
      refine zaw [0] ?_;repeat refine tkH (hS:=hHeld) (h:=?_)
      refine zao ?_;refine wpAnyH_ready (rs:=[1]) (by kernel_rfl) (by simp) ?_;refine AllReadyH.cons rfl (fun K r=>?_) AllReadyH.nil;go_simp
      (go_at_call 105;(with_reducible refine(Rt.sign g a p n d o l (el (za5 A b cols) k) _ C.o.drew).mono ?_);rintro e v1 ⟨rfl,hb⟩;have u:=un (zad hb x.o);have v:=un (D.o.drew.below hb);obtain⟨R,_,T,_,U,_⟩:=bc3 u.o;have aw:=zab hb F;have ax:=zab hb G;clear hb)
      (try go_wp2_with fail)
      refine r.o _ _ kp fun hHeld=>?_
      clear r K;try simp only[Act.put,pu1,pu2,pu3,pu4,pu5,pu6]
      refine zaw [2,3,4,5,6,7,8,9,10,11,12,13,14,15,16,17] ?_;repeat refine tkH (hS:=hHeld) (h:=?_)
      refine zao ?_;refine wpAnyH_done (by kernel_rfl) ?_ _;refine NoPanic.normal ?_;go_wp2;go_roundw
      case rel=>exact⟨k+1,by go_num,by rw[t.o];rfl,by omega,v.o.b⟩
      case measure=>simp[intOf];omega
     ·have t:=un (zsg Y.o hc);have B:¬((cols.getD k 0:Nat):Int)<((cols.getD f 0:Nat):Int):=by omega
      clear hc;generalize cols.getD k 0=P at B L F;generalize cols.getD f 0=Q at B M G;refine wp_region_noPanic ?_;refine wp_region_held_drew (S:=fun w'=>w'.cell? ⟨wr.heap.size,0,none⟩=some (.bool g)∧w'.cell? ⟨wr.heap.size,1,none⟩=some (a,p,n)∧w'.cell? ⟨wr.heap.size,2,none⟩=some (d,o,l)∧w'.cell? ⟨y,k,none⟩=some (.int .i64 (P:Int))∧w'.cell? ⟨y,f,none⟩=some (.int .i64 (Q:Int))) (by kernel_rfl) kp fun hHeld=>?_
      refine zaw [0] ?_;repeat refine tkH (hS:=hHeld) (h:=?_)
      refine zao ?_;refine wpAnyH_ready (rs:=[1]) (by kernel_rfl) (by simp) ?_;refine AllReadyH.cons rfl (fun K r=>?_) AllReadyH.nil;go_simp
      (go_at_call 105;(with_reducible refine(Rt.sign g a p n d o l (el (za5 A b cols) k) _ C.o.drew).mono ?_);rintro e v1 ⟨rfl,hb⟩;have u:=un (zad hb x.o);have v:=un (D.o.drew.below hb);obtain⟨R,_,T,_,U,_⟩:=bc3 u.o;have aw:=zab hb F;have ax:=zab hb G;clear hb)
      (try go_wp2_with fail)
      refine r.o _ _ kp fun hHeld=>?_
      clear r K;try simp only[Act.put,pu1,pu2,pu3,pu4,pu5,pu6]
      refine zaw [2,3,4,5,6,7,8,9,10,11,12,13,14,15,16,17] ?_;repeat refine tkH (hS:=hHeld) (h:=?_)
      refine zao ?_;refine wpAnyH_done (by kernel_rfl) ?_ _;refine NoPanic.normal ?_;go_wp2;go_roundw
      case rel=>exact⟨k+1,by go_num,by rw[t.o];rfl,by omega,v.o.b⟩
      case measure=>simp[intOf];omega
   ·have hs:=zrO s;have ak:¬(el (za5 A b cols) k).num<0:=fun e=>s (zeh.1 e)
    have aE:decide ((el (za5 A b cols) k).num<0)=false:=decide_eq_false ak;have t:=un (zqk (cols:=cols) s);clear s;refine wp_region_noPanic ?_;refine wp_region_held_drew (S:=fun w'=>w'.cell? ⟨wr.heap.size,0,none⟩=some (.bool g)∧w'.cell? ⟨wr.heap.size,1,none⟩=some (a,p,n)∧w'.cell? ⟨wr.heap.size,2,none⟩=some (d,o,l)) (by kernel_rfl) kp fun hHeld=>?_
    refine zaw [0] ?_;repeat refine tkH (hS:=hHeld) (h:=?_)
    refine zao ?_;refine wpAnyH_ready (rs:=[1]) (by kernel_rfl) (by simp) ?_;refine AllReadyH.cons rfl (fun K r=>?_) AllReadyH.nil;go_simp
    (go_at_call 105;(with_reducible refine(Rt.sign g a p n d o l (el (za5 A b cols) k) _ C.o.drew).mono ?_);rintro e v1 ⟨rfl,hb⟩;have u:=un (zad hb x.o);have v:=un (D.o.drew.below hb);obtain⟨R,_,T,_,U,_⟩:=bc3 u.o;clear hb)
    (try go_wp2_with fail)
    refine r.o _ _ kp fun hHeld=>?_
    clear r K;try simp only[Act.put,pu1,pu2,pu3,pu4,pu5,pu6]
    refine zaw [2,3] ?_;repeat refine tkH (hS:=hHeld) (h:=?_)
    refine zao ?_;refine zaw [4,5,6,7,8,9,10,11,12,13,14,15,16] ?_;repeat refine skH (hS:=hHeld) (h:=?_)
    refine zao ?_;refine zaw [17] ?_;repeat refine tkH (hS:=hHeld) (h:=?_)
    refine zao ?_;refine wpAnyH_done (by kernel_rfl) ?_ _;refine NoPanic.normal ?_;go_wp2;go_roundw
    case rel=>exact⟨k+1,by go_num,by rw[t.o],by omega,v.o.b⟩
    case measure=>simp[intOf];omega
  ·obtain rfl:m=k:=by omega
   have t:=un (show zi5 cols (za5 A b cols)=zbk cols (za5 A b cols) m by unfold zi5;rw[ad.o]);clear z;go_wp2;go_ret
   exact⟨by rw[t.o];rfl,X.o.trans (V.o.mono X.o.size)⟩
end Du
end
def zsF (N:Nat) (cols:List Nat) (xs:List Rat):Nat→List Rat
  | 0=>List.replicate N 0
  | k+1=>(zsF N cols xs k).set (cols.getD k 0) (el xs k)
theorem zh2(N:Nat)(cols:List Nat)(xs:List Rat):∀k,(zsF N cols xs k).length=N
 | 0=>by simp[zsF]
 | k+1=>by rw[zsF,List.length_set];exact zh2 N cols xs k
theorem zvi{m N:Nat}{A:List (List Rat)}{cols:List Nat}(d:Basis m N A cols)(xs:List Rat):∀k,k≤m→∀j,j<N→el (zsF N cols xs k) j=pt k (fun k=>cols.getD k 0) (el xs) j
 | 0,_,j,hj=>by rw[zsF,zrm];rfl
 | k+1,hk,j,hj=>by
  have g:=zvi d xs k (by omega) j hj;have f:=d.lt k (by omega);rw[zsF,ziZ (by rw[zh2];exact f),g];by_cases e:cols.getD k 0=j
  ·rw[if_pos e];subst e;exact(zA7 (m:=k+1) (β:=fun k=>cols.getD k 0) (fun a b i l=>d.inj a b (by omega) (by omega)) (el xs) (k:=k) (by omega)).symm
  ·rw[if_neg e];show _=pt (k+1) _ _ j
   unfold pt;rw[zai,if_neg e];grind
theorem zxy{m N:Nat}{A:List (List Rat)}(a:Basis m N A cols)(xs:List Rat):zsF N cols xs m=zh1 N cols xs:=by
 apply List.ext_getElem?;intro j;by_cases hj:j<N
 ·rw[zaH (by rw[zh2];exact hj),zaH (by rw[zl8];exact hj),zvi a xs m (Nat.le_refl _) j hj,zvg hj,a.len]
 ·rw[List.getElem?_eq_none (by rw[zh2];omega),List.getElem?_eq_none (by rw[zl8];omega)]
section
variable {W0 w:World} {H q:Nat} {rA:OA} {rc:Nat} {lA:List Value} {bA:OA} {bc_:Nat} {kA:OA} {kc:Nat} {eA:OA} {ec m N S own:Nat} {A:List (List Rat)} {b c:List Rat} {left:List Int}
  {tA:OA} {tc:Nat} {cols:List Nat}
namespace Tb
theorem point(h:zhi W0 w H q rA rc lA bA bc_ kA kc eA ec m N S own A b c left tA tc cols) :
  Calls prog 74 #[.pointer (some ⟨q,0,none⟩)] w fun e w'=>∃(s:OA) (c':Nat),e=.returned (s,N,c')∧VecS w' w (s,N,c') (zh1 N cols (za5 A b cols))∧Below w w w':=by
 obtain⟨qb,xA,xc,g⟩:=h;have d:=un g;have ao:=g.std.hm;have aj:=g.std.hN;have t:=un (Below.refl w.heap.size w);obtain⟨k0,_,k1,_,_,_,_,_,_,_,_,_,T,ar,_,_,U,au⟩:=bc9 g.blk;clear g;go_enter func74,ntmps74;go_wp2_with fail
 with_reducible refine(Mt.cols N m rc rA _).mono ?_
 rintro e w1 ⟨rfl,hb⟩;have r:=un (d.o.below hb);have E:=un (t.o.trans ((hb).mono t.o.size));have F:=zab hb T;have aM:=zaa F;have G:=zab hb U;have aN:=zaa G;clear hb;have v:=un (E.o.size);have P:=un (d.o.basis.vals_ok b).2;go_wp2_with (at_make;go_must (refine zdv rfl _ _ rfl N _ rfl rfl rfl (by omega) w1.heap.size rfl ?_;intro w2 C l;have L:=un C;have J:=un l;have m6:=zab l F;have m8:=zab l G;clear C l))
 go_loopw [18] (fun i wr=>∃k:Nat,i=.int .i64 k∧k≤m∧VecS wr w1 (w1.heap.size,N,N) (zsF N cols (za5 A b cols) k)∧Below w1 w1 wr)
  (fun i _=>m-(intOf i).toNat)
 case atStart=>exact⟨0,rfl,Nat.zero_le _,L.o,J.o⟩
 case round =>
  obtain⟨k,rfl,hk,a,f⟩:=hrel;by_cases o:k<m
  ·have hj:cols[k]? = some (cols.getD k 0):=zaO (by rw[d.o.basis.len];exact o);have B:=d.o.basis.lt k o;have u:=un (show zsF N cols (za5 A b cols) (k+1)=(zsF N cols (za5 A b cols) k).set (cols.getD k 0) (el (za5 A b cols) k)from rfl);have p:=zaH (xs:=zsF N cols (za5 A b cols) k) (j:=cols.getD k 0) (by rw[zh2];exact B);generalize cols.getD k 0=j at hj B p u;have D:=zaH (xs:=za5 A b cols) (j:=k) (by rw[P.o];exact o);have y:=(r.o.below f).blk
   obtain⟨_,_,_,_,_,_,_,_,_,_,_,_,t6,aI,_,_,t8,aK⟩:=bc9 y;obtain⟨bt,R,_,_⟩:=d.o.colsI.has (by omega);subst R;obtain⟨bs,Q,_,_⟩:=d.o.x.has (by omega);subst Q;have p0:=(r.o.colsI.below f).at_ hj;obtain⟨ga,V,ma,ca,Y,ay,ag,a0,a1,a2,z⟩:=(r.o.x.below f).at_ D;obtain⟨go,X,mo,co,Z,az,ah,o0,o1,o2,_⟩:=a.at_ p;have aE:=a.fro (j*3);have of1:=a.fro (j*3+1);have aF:=a.fro (j*3+2);have n:=un a;have K:=un (Bel.mk f);have O:=un z;clear a f z p D y hj;have ak:(0:Int)≤(k:Int):=Int.natCast_nonneg _
   have al:(k:Int)<(m:Int):=by omega
   have am:(0:Int)≤(j:Int):=Int.natCast_nonneg _;have an:(j:Int)<(N:Int):=by omega
   go_wp2;go_roundw
   case rel=>exact⟨k+1,by go_num,by omega,by rw[u.o];exact n.o.store j O.o,(Bel.set3 K.o (Nat.le_refl _) _ _ _).b⟩
   case measure=>simp[intOf];omega
  ·obtain rfl:m=k:=by omega
   have n:=un a;have I:=un f;have M:=un (zxy d.o.basis (za5 A b cols));clear a f;go_wp2;go_ret
   exact⟨_,_,rfl,by have h:=n.o.base v.o;rw[M.o]at h;exact h,E.o.trans (I.o.mono v.o)⟩
end Tb
end
def zPA (n:Nat) (ys:List Rat) (rows:List PRow):Nat→List Rat
  | 0=>List.replicate n 0
  | k+1=>zly (zPA n ys rows k) (el ys k) (rows.getD k default).coef
def sv (n:Nat) (ys:List Rat) (rows:List PRow):List Rat:=zPA n ys rows rows.length
def zPV (ys:List Rat) (rows:List PRow) (k:Nat):Rat:=zai k fun i=>el ys i*(rows.getD i default).rhs
def sb (ys:List Rat) (rows:List PRow):Rat:=zPV ys rows rows.length
theorem VecS.set3{H:Nat}{v:Value}{qs:List Rat}{cs:Array Value}{t:TypeId}(h:VecS w H v qs)(a:w.heap[b]? = some (.cells cs t (0,0)))(f:165≠t)(g:b<H)(i j k:Nat)(u x y:Value) :
  VecS (((w.setCell ⟨b,i,none⟩ u).setCell ⟨b,j,none⟩ x).setCell ⟨b,k,none⟩ y) H v qs:=by
 have d:v.ownBlock≠some b:=fun e=>by have:=(h.lt e).1;omega
 exact((h.setCell (p:=⟨b,i,none⟩) d a f u).setCell (p:=⟨b,j,none⟩) d (zar u a) f x).setCell (p:=⟨b,k,none⟩) d (zar x (zar u a)) f y
theorem zcs.take{w:World}{A:OA}{ps:List (Int × Int)}(h:zcs w A ps)(n:Nat):zcs w A (ps.take n):=by
 intro k x a;rw[List.getElem?_take]at a;split at a
 ·exact h k x a
 ·cases a
theorem zex.take{w:World}{A:OA}{d:List LineV}(h:zex w A d)(n:Nat):zex w A (d.take n):=by
 intro k x a;rw[List.getElem?_take]at a;split at a
 ·exact h k x a
 ·cases a
theorem zcs.below'{ps:List (Int × Int)}(h:zcs w A ps)(a:Below w w w'):zcs w' A ps:=h.below a
theorem zex.below'{a:List LineV}(h:zex w A a)(d:Below w w w'):zex w' A a:=h.below d
abbrev S1 (xs:List Rat):Prop:=∀q∈xs,mw q≤1
structure Good1 (nc nr:Nat) (cost:List Rat) (rows:List PRow):Prop where
  hc:nc≤5
  hr:nr≤4
  sc:S1 cost
  rw_:∀p∈rows,p.coef.length=nc∧S1 p.coef∧mw p.rhs≤1
  kd:Kinds rows
def PR (nC k:Nat) (ps:List PRow):Prop:=∀(i:Nat) (p:PRow),ps[i]? = some p→S1 p.coef∧mw p.rhs≤1∧(i<k→p.coef.length=nC∧1≤p.kind∧p.kind≤3)
theorem RowsS.setT{w:World}{H:Nat}{v:Value}{ps:List PRow}(h:RowsS w H v ps){a:Addr}{t:TypeId}{cs:Array Value}(hg:w.heap[a.block]? = some (.cells cs t (0,0)))(h1:165≠t)(g:41≠t)(i:43≠t)(u:Value):RowsS (w.setCell a u) H v ps:=by
 obtain⟨l,d,e,f⟩:=h.row;exact(RowsL.setT (l:=l) ⟨d,e,f⟩ hg h1 g i u).toS
def zKx:Value→Nat
  | .slice _ n _=>n
  | _=>0
def zLo (w:World) (e:Ending) (w':World):Prop:=∃(C:OA) (nC cC:Nat) (R:OA) (nR cR:Nat) (l:List RR) (cost:List Rat) (rows:List PRow),e=.returned (.agg #[(C,nC,cC),(R,nR,cR)]) ∧
  VecS w' w (C,nC,cC) cost∧RowsL w' w (R,nR,cR) l rows∧Apart (C,nC,cC) l∧From w.heap.size l∧Good1 nC nR cost rows∧Below w w w'
namespace Lw
end Lw
theorem zqg(w:World)(a b:Int):∀(j:Nat) (x:Int),[a,b][j]? = some x→(w.alloc (.cells #[.int .i64 a,.int .i64 b] 3)).cell? ⟨w,j,none⟩=some (.int .i64 x):=by
 intro j x h
 match j,h with
 | 0,h=>simp at h;subst h;exact zax rfl rfl
 | 1,h=>simp at h;subst h;exact zax rfl rfl
 | j+2,h=>simp at h
theorem z6g(n:u.heap.size=b){g g':Bool}{s d i f:Value}{q j:Rat}(h:RatS u g s d q)(l:RatS u g' i f j):VecS (u.alloc (.cells #[g,s,d,g',i,f] 41)) 0 (.slice (some ⟨b,0,none⟩) 2 2) [q,j]:=by
 subst n;have o:=World.ownsRow_lit (e:=41) (size:=3) (base:=0) u #[g,s,d,g',i,f] 2 (Nat.zero_le _) (by decide) rfl;refine⟨[(g,s,d),(g',i,f)],rfl,?_,o⟩;intro k r p h1 a
 match k,h1,a with
 | 0,h1,a=>simp at h1 a;subst h1 a;exact h.alloc _
 | 1,h1,a=>simp at h1 a;subst h1 a;exact l.alloc _
 | k+2,h1,_=>simp at h1
theorem zoX(i:u.heap.size=b){r r':RR}{p p':PRow}(h:RowS u r p)(f:RowS u r' p'):RowsS (u.alloc (.cells #[r.c,.int .i64 r.k,.bool r.g,r.s,r.d,r'.c,.int .i64 r'.k,.bool r'.g,r'.s,r'.d] 43)) 0 (.slice (some ⟨b,0,none⟩) 2 2) [p,p']:=by
 subst i;have j:=World.ownsRow_lit (e:=43) (size:=5) (base:=0) u #[r.c,.int .i64 r.k,.bool r.g,r.s,r.d,r'.c,.int .i64 r'.k,.bool r'.g,r'.s,r'.d] 2 (Nat.zero_le _) (by decide) rfl;refine⟨[r,r'],rfl,?_,j⟩;intro k n l h1 a
 match k,h1,a with
 | 0,h1,a=>simp at h1 a;subst h1 a;exact h.below (zae u _)
 | 1,h1,a=>simp at h1 a;subst h1 a;exact f.below (zae u _)
 | k+2,h1,_=>simp at h1
namespace Ct
theorem same_yes(g:Bool)(A:OA)(m c:Nat)(D:OA)(k i:Nat)(a:Rat)(g':Bool)(d:OA)(m' c':Nat)(f:OA)(l j:Nat)(b:Rat)(w:World)(h:RatS w g (A,m,c) (D,k,i) a)(n:RatS w g' (d,m',c') (f,l,j) b)(p:4*(mw a+mw b)+8≤LIM)(o:a=b) :
  Calls prog 30 #[.agg #[g,(A,m,c),(D,k,i)],.agg #[g',(d,m',c'),(f,l,j)]] w fun e w'=>e=.returned true∧Below w w w':=by
 have h:=Rt.same g A m c D k i a g' d m' c' f l j b w h n p;rw[show zA9 a b=true from decide_eq_true o]at h;exact h
end Ct
namespace Rt
theorem num_of(g:Bool)(A:OA)(m c:Nat)(D:OA)(d a:Nat)(q:Rat)(w:World)(h:RatS w g (A,m,c) (D,d,a) q) :
  Calls prog 87 #[.agg #[g,(A,m,c),(D,d,a)]] w (zfg w q.num) :=
 (num g A m c D d a q w h).mono (by rintro e w' ⟨rfl,hb⟩;exact⟨g,A,m,c,rfl,(h.below hb).num,hb⟩)
theorem icmp_same(g:Bool)(A:OA)(m c:Nat)(x:Int)(g':Bool)(B:OA)(m' c':Nat)(y:Int)(w:World)(h:IntS w g (A,m,c) x)(a:IntS w g' (B,m',c') y)(e:x=y) :
  Calls prog 63 #[.agg #[g,(A,m,c)],.agg #[g',(B,m',c')]] w fun e w'=>e=.returned (.int .i64 0)∧Below w w w':=by
 have h1:=It.cmp g A m c x g' B m' c' y w h a;rw[zgN e]at h1;exact h1
theorem ncmp_same(A B:OA)(m c m' c' a b:Nat)(w:World)(d:zas w (A,m,c) a)(f:zas w (B,m',c') b)(e:a=b) :
  Calls prog 88 #[.agg #[(A,m,c)],.agg #[(B,m',c')]] w fun e w'=>e=.returned (.int .i64 0)∧Below w w w':=by
 have h1:=Nt.cmp A B m c m' c' a b w d f;rw[zgN (by rw[e])]at h1;exact h1
end Rt
namespace Lw
theorem z6u(g:Bool)(A:OA)(m c:Nat)(D:OA)(f d:Nat)(a:Rat)(p q:Int)(w:World)(h:RatS w g (A,m,c) (D,f,d) a)(u:q≠0)(t:I64 p)(v:I64 q)(i:a=Rat.divInt p q)(hm:mw a≤1000000) :
  Calls prog 41 #[.agg #[g,(A,m,c),(D,f,d)],.int .i64 p,.int .i64 q] w fun e w'=>e=.returned true∧Below w w w':=by
 have HQ:=un u;have l:=un t;have n:=un v;have HA:=un i;have HL:=un (show 4*(mw a+mw (Rat.divInt p q))+8≤LIM by rw[←i];have:=zaP;omega);have HN:=un (show a.num=(Rat.divInt p q).num by rw[i]);have HD:=un (show a.den=(Rat.divInt p q).den by rw[i]);clear u t v i hm;generalize hr:Rat.divInt p q=r at *
 have HR:=un hr;clear hr;obtain⟨W,k⟩:∃W,(w.alloc (.cells #[g,(A,m,c),(D,f,d)] 41))=W:=⟨_,rfl⟩
 have s:=un (show W.heap[w.heap.size]? = some (.cells #[g,(A,m,c),(D,f,d)] 41 (0,0))by rw[←k];exact zam (by simp));have j:=un (show Below w w W by rw[←k];exact zae w _);have HX:=un (show RatS W g (A,m,c) (D,f,d) a by rw[←k];exact(h).alloc _);clear h;go_enter func41,ntmps41;go_wp2_with fail
 clear k;with_reducible refine(Rt.of p q HQ.o l.o.1 l.o.2 n.o.1 n.o.2 _).mono ?_
 rintro e w1 ⟨g2,A2,m2,c2,D2,md2,cd2,rfl,hn,hb⟩;have C:=un (show(w1.alloc (.cells #[g2,(A2,m2,c2),(D2,md2,cd2)] 41)).heap[w.heap.size]? = some (.cells #[g,(A,m,c),(D,f,d)] 41 (0,0))from zak (zad hb s.o));have U:=un (show RatS (w1.alloc (.cells #[g2,(A2,m2,c2),(D2,md2,cd2)] 41)) g (A,m,c) (D,f,d) a from(HX.o.below hb).alloc _)
 have o:=un (show RatS (w1.alloc (.cells #[g2,(A2,m2,c2),(D2,md2,cd2)] 41)) g2 (A2,m2,c2) (D2,md2,cd2) r from((HR.o▸hn)).alloc _);have B:=un (show Below w w (w1.alloc (.cells #[g2,(A2,m2,c2),(D2,md2,cd2)] 41))from((j.o.trans ((hb).mono j.o.size))).alloc ((j.o.trans ((hb).mono j.o.size))).size _)
 have y:=un (show(w1.alloc (.cells #[g2,(A2,m2,c2),(D2,md2,cd2)] 41)).heap[w1.heap.size]? = some (.cells #[g2,(A2,m2,c2),(D2,md2,cd2)] 41 (0,0))from zam (by simp));obtain⟨aT,_,aU,_,a7,_⟩:=bc3 C.o;obtain⟨ba,_,be,_,a6,_⟩:=bc3 y.o;clear hn hb;go_wp2_with fail
 go_region_held3 (fun w'=>w'.cell? ⟨w,0,none⟩=some (.bool g)∧w'.cell? ⟨w,1,none⟩=some (A,m,c)∧w'.cell? ⟨w,2,none⟩=some (D,f,d)∧w'.cell? ⟨w1,0,none⟩=some (.bool g2)∧w'.cell? ⟨w1,1,none⟩=some (A2,m2,c2)∧w'.cell? ⟨w1,2,none⟩=some (D2,md2,cd2))
  (((try go_split_ands);(try simp only[World.cell?_drew]);(repeat' apply And.intro)<;>(repeat(first | with_reducible assumption | with_reducible refine cell_set (by omega) ?_ | with_reducible refine cell_al ?_))))
  (first
   | (go_at_call 30;(with_reducible refine(Ct.same_yes g A m c D f d a g2 A2 m2 c2 D2 md2 cd2 r _ U.o.drew o.o.drew HL.o HA.o).mono ?_);rintro e v1 ⟨rfl,hb⟩;have z:=un (zad hb C.o);have E:=un (zad hb y.o);have aa:=un (U.o.drew.below hb);have ax:=un (o.o.drew.below hb);have F:=un (B.o.trans ((It.bdrew0' hb).mono B.o.size));obtain⟨aX,_,aY,_,bx,_⟩:=bc3 z.o;obtain⟨bc,_,bd,_,bj,_⟩:=bc3 E.o;clear hb)
   | (go_at_call 87;(with_reducible refine(Rt.num_of g A m c D f d a _ aa.o).mono ?_);rintro e v2 ⟨g3,A3,m3,c3,rfl,hn,hb⟩;have G:=un (zad hb z.o);have R:=un (zad hb E.o);have aC:=un (aa.o.below hb);have x:=un (ax.o.below hb);have HI:=un (hn);have K:=un (F.o.trans ((hb).mono F.o.size));obtain⟨bv,_,bw,_,b1,_⟩:=bc3 G.o;obtain⟨bN,_,bP,_,bS,_⟩:=bc3 R.o;clear hn hb)
   | (go_at_call 87;(with_reducible refine(Rt.num_of g2 A2 m2 c2 D2 md2 cd2 r _ x.o).mono ?_);rintro e v3 ⟨g4,A4,m4,c4,rfl,hn,hb⟩;have I:=un (zad hb G.o);have J:=un (zad hb R.o);have av:=un (aC.o.below hb);have ay:=un (x.o.below hb);have az:=un (HI.o.below hb);have HJ:=un (hn);have P:=un (K.o.trans ((hb).mono K.o.size));obtain⟨bo,_,bp,_,b5,_⟩:=bc3 I.o;obtain⟨bt,_,bu,_,bR,_⟩:=bc3 J.o;clear hn hb)
   | (go_at_call 63;(with_reducible refine(Rt.icmp_same g3 A3 m3 c3 a.num g4 A4 m4 c4 r.num _ az.o HJ.o HN.o).mono ?_);rintro e v4 ⟨rfl,hb⟩;have L:=un (zad hb I.o);have O:=un (zad hb J.o);have aw:=un (av.o.below hb);have aq:=un (ay.o.below hb);have Q:=un (P.o.trans ((hb).mono P.o.size));obtain⟨br,_,bs,_,b6,_⟩:=bc3 L.o;obtain⟨bO,_,bQ,_,bT,_⟩:=bc3 O.o;clear hb)
   | (go_at_call 51;(with_reducible refine(Rt.den g A m c D f d a _ aw.o).mono ?_);rintro e v5 ⟨A5,m5,c5,rfl,hn,hb⟩;have M:=un (zad hb L.o);have V:=un (zad hb O.o);have ar:=un (aq.o.below hb);have HK:=un (hn);have X:=un (Q.o.trans ((hb).mono Q.o.size));obtain⟨bL,_,bM,_,aM,_⟩:=bc3 M.o;obtain⟨b2,_,b3,_,b7,_⟩:=bc3 V.o;clear hn hb)
   | (go_at_call 51;(with_reducible refine(Rt.den g2 A2 m2 c2 D2 md2 cd2 r _ ar.o).mono ?_);rintro e v6 ⟨A6,m6,c6,rfl,hn,hb⟩;have T:=un (zad hb M.o);have Y:=un (zad hb V.o);have au:=un (HK.o.below hb);have HM:=un (hn);have Z:=un (X.o.trans ((hb).mono X.o.size));obtain⟨bX,_,bY,_,aN,_⟩:=bc3 T.o;obtain⟨aG,_,aI,_,aK,_⟩:=bc3 Y.o;clear hn hb)
   | (go_at_call 88;(with_reducible refine(Rt.ncmp_same A5 A6 m5 c5 m6 c6 a.den r.den _ au.o HM.o HD.o).mono ?_);rintro e v7 ⟨rfl,hb⟩;have aD:=un (zad hb T.o);have aA:=un (zad hb Y.o);have aB:=un (Z.o.trans ((hb).mono Z.o.size));obtain⟨b8,_,ca,_,cc,_⟩:=bc3 aD.o;obtain⟨aH,_,aJ,_,aL,_⟩:=bc3 aA.o;clear hb)
   | fail)
 all_goals
  go_wp2;go_ret
  exact⟨rfl,aB.o⟩
