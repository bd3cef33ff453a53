/- Contracts and lemmas: Open DuB Tb5 Sv Law3 Lit Vec11 Is08. Conditions: as each says. -/
import Derived.Test.YtbhfhkcdfmmmiaaGreatRows
import Derived.Test.YtbhfhkcdfmmmiaaGreatBoolsZj
import Derived.ProofKit
import Derived.OpenShut
import Derived.JoinedCond
import Derived.Deep.Slices
import Derived.Deep.Grids
import Derived.Test.YtbhfhkcdfmmmiaaGreatBasTZj
import Derived.Test.YtbhfhkcdfmmmiaaGreatVec7Zj
import Derived.Laws.Small
set_option linter.all false
set_option maxHeartbeats 4000000
set_option maxRecDepth 100000
namespace Go.Proofs.YtbhfhkcdfmmmiaaGreat
open Go.Proofs.Tryz
open Go.ChangeShapes Go.WideShapes Go.ChangeAt Go.RowKit Go.Deep
variable {cols:List Nat}{qs xs ys:List Rat}{cs:List Value}{b fuel k:Nat}{A:OA}{u w w':World}
theorem own:ownKnob prog.godebug=none:=by kernel_rfl
theorem zqj:laidOutB prog=true:=by kernel_rfl
theorem zkC:prog.cellsOf 58=2:=by kernel_rfl
theorem zKC:prog.cellsOf 163=4:=by kernel_rfl
theorem zwz:prog.cellsOf 3=1:=by kernel_rfl
theorem zLd:prog.cellsOf 34=1:=by kernel_rfl
theorem zKr:prog.cellsOf 22=1:=by kernel_rfl
theorem zK3:prog.cellsOf 23=1:=by kernel_rfl
theorem zLt:prog.cellsOf 25=2:=by kernel_rfl
theorem zmS(b o k:Nat):(⟨b,o,none⟩:Addr).add k=⟨b,o+k,none⟩:=by unfold Addr.add;split<;>simp_all
theorem zuZ{α:Type}{Q:Nat→α→Prop}:∀n:Nat,(∀i,i<n→∃x,Q i x)→∃l:List α,l.length=n∧∀i x,l[i]? = some x→Q i x
 | 0,_=>⟨[],rfl,fun i x h=>by simp at h⟩
 | n+1,h=>by
  obtain⟨l,d,e⟩:=zuZ n (fun i hi=>h i (by omega));obtain⟨x,f⟩:=h n (by omega);refine⟨l++[x],by simp[d],fun i y a=>?_⟩;grind
theorem zDM{H:Type}(d:DataW H):1≤Rows.uptoBulk d:=by
 cases d with
 | lit l=>cases l<;>simp[Rows.uptoBulk]
 | nil=>simp[Rows.uptoBulk]
 | ptr d=>simp[Rows.uptoBulk]
 | slice elems spare=>simp[Rows.uptoBulk]
 | agg parts=>simp[Rows.uptoBulk]
 | iface t d=>simp[Rows.uptoBulk]
 | map entries=>simp[Rows.uptoBulk]
 | held h=>simp[Rows.uptoBulk]
theorem zKR{H:Type}{d:DataW H}{l:List (DataW H)}(h:d∈l):Rows.uptoBulk d≤Rows.uptoBulkAll l:=by
 induction l with
 | nil=>cases h
 | cons x r ih =>
  simp only[Rows.uptoBulkAll];grind
theorem zoK{H:Type}(l:List (DataW H)):l.length≤Rows.uptoBulkAll l:=by
 induction l with
 | nil=>grind
 | cons x r ih=>have:=zDM x;simp only[Rows.uptoBulkAll,XI];omega
theorem i64_of{x:Int}(h:(Lit.int .i64 x).wf=true):I64 x:=by
 simp[Lit.wf,IntKind.min,IntKind.max,IntKind.signed,IntKind.bits]at h;omega
section
variable {H:Type} {enc:TypeId × Value→H} {W:World} {base:Nat} {sp:Nat→Bool} {held:Bool}
theorem zAH{x:DataW H × List MemPlace}(h:DataW.trod enc prog W base sp held fuel 58 cs=some x):∃a b:Int,cs=[.int .i64 a,.int .i64 b]∧I64 a∧I64 b:=by
 obtain⟨ys,j,_,_,i,k,hg⟩:=Y3 underlying58 h;rw[zkC]at i
 match cs,i with
 | [c0,c1],_ =>
  have d:DataW.trod enc prog W base sp held j 3 ([c0,c1].take (prog.cellsOf 3))=ys[0]?:=hg 0 _ rfl;have e:DataW.trod enc prog W base sp held j 3 ([c1].take (prog.cellsOf 3))=ys[1]?:=hg 1 _ rfl;rw[zwz]at d e;have o:ys.length=2:=k;rw[Ze (show 0<ys.length by omega)]at d;rw[Ze (show 1<ys.length by omega)]at e;obtain⟨a,f,_,l⟩:=DataW.trod_int underlying3 d;obtain⟨b,g,_,n⟩:=DataW.trod_int underlying3 e;simp at f g;subst f g
  exact⟨a,b,rfl,i64_of l,i64_of n⟩
theorem zrv{x:DataW H × List MemPlace}(h:DataW.trod enc prog W base sp held fuel 22 cs=some x) :
  ∃(A:OA) (n cp:Nat) (ps:List (Int × Int)),cs=[.slice A n cp]∧n=ps.length∧zcs W A ps∧n≤cp∧cp≤9223372036854775807∧n≤Rows.uptoBulk x.1:=by
 rcases open_slice underlying22 h with ⟨f,t⟩ | ⟨a,len,cap,m,q,D,P,f,_,E,hm,r,t,p⟩
 ·exact⟨none,0,0,[],f,rfl,fun k y K=>by simp at K,Za _,by decide,Zb _⟩
 ·have M:0<len→a.spot=none:=by
   intro h0;obtain⟨z,l,_⟩:=p 0 (by rw[r];split<;>omega);rw[zkC]at l;obtain⟨_,T,B⟩:=YD l;have g:=B 0 (by omega);rw[Ze (show 0<z.length by omega)]at g;have:=World.cell?_spot g;simpa[Addr.add]using this
  have L:∀i,i<len→∃y:Int × Int,I64 y.1∧I64 y.2∧∃b o,some a=some ⟨b,o,none⟩∧W.cell? ⟨b,o+i*2,none⟩=some (.int .i64 y.1)∧W.cell? ⟨b,o+i*2+1,none⟩=some (.int .i64 y.2):=by
   intro i hi;have C:i<m:=by rw[r];split<;>omega
   obtain⟨Q,hc,J⟩:=p i C;rw[zkC]at hc;obtain⟨_,R,j⟩:=YD hc;obtain⟨u,v,rfl,wu,O⟩:=zAH J;have d:=j 0 (by omega);have e:=j 1 (by omega);simp only[Zz,ZU]at d e;have I:=M (by omega);obtain⟨b,o,s⟩:=a;obtain rfl:s=none:=I;rw[zmS,zmS]at d e;exact⟨(u,v),wu,O,b,o,rfl,d,e⟩
  obtain⟨ps,F,G⟩:=zuZ len L;refine⟨some a,len,cap,ps,f,F.symm,G,E,by unfold maxLen at hm;omega,?_⟩;have h1:=zoK ((List.range len).map D);rw[Zl,List.length_range]at h1;rw[t];simp only[Rows.uptoBulk];omega
theorem zLz{x:DataW H × List MemPlace}(h:DataW.trod enc prog W base sp held fuel 23 cs=some x)(hb:Rows.uptoBulk x.1≤1048576) :
  ∃(A:OA) (n cp:Nat) (f:List LineV),cs=[.slice A n cp]∧n=f.length∧zex W A f∧n≤cp∧cp≤9223372036854775807:=by
 rcases open_slice underlying23 h with ⟨E,M⟩ | ⟨a,len,cap,m,q,D,Pl,E,_,Z,hm,L,M,K⟩
 ·exact⟨none,0,0,[],E,rfl,fun k y O=>by simp at O,Za _,by decide⟩
 ·have ai:0<len→a.spot=none:=by
   intro h0;obtain⟨R,J,_⟩:=K 0 (by rw[L];split<;>omega);rw[zKC]at J;obtain⟨_,ap,U⟩:=YD J;have G:=U 0 (by omega);rw[Ze (show 0<R.length by omega)]at G;have:=World.cell?_spot G;simpa[Addr.add]using this
  have ah:∀i,i<len→∃y:LineV,y.coef.length≤1048576∧I64 y.rhs.1∧I64 y.rhs.2∧∃b o C cc,some a=some ⟨b,o,none⟩∧zcs W C y.coef ∧
    W.cell? ⟨b,o+i*4,none⟩=some (.slice C y.coef.length cc)∧W.cell? ⟨b,o+i*4+1,none⟩=some (.int .i64 y.kind)∧W.cell? ⟨b,o+i*4+2,none⟩=some (.int .i64 y.rhs.1)∧W.cell? ⟨b,o+i*4+3,none⟩=some (.int .i64 y.rhs.2):=by
   intro i hi;have Y:i<m:=by rw[L];split<;>omega
   obtain⟨Q,hc,ht⟩:=K i Y;rw[zKC]at hc;obtain⟨_,V,e⟩:=YD hc;obtain⟨ys,F,_,af,_,ag,hg⟩:=Y3 underlying163 ht
   match Q,V with
   | [c0,c1,c2,c3],_ =>
    have t:DataW.trod enc prog W base sp held F 22 ([c0,c1,c2,c3].take (prog.cellsOf 22))=ys[0]?:=hg 0 _ rfl;have z:DataW.trod enc prog W base sp held F 34 ([c1,c2,c3].take (prog.cellsOf 34))=ys[1]?:=hg 1 _ rfl;have B:DataW.trod enc prog W base sp held F 58 ([c2,c3].take (prog.cellsOf 58))=ys[2]?:=hg 2 _ rfl;rw[zKr]at t;rw[zLd]at z;rw[zkC]at B;have O:ys.length=3:=ag;rw[Ze (show 0<ys.length by omega)]at t
    rw[Ze (show 1<ys.length by omega)]at z;rw[Ze (show 2<ys.length by omega)]at B;obtain⟨C,nC,P,ps,h0,hn,X,_,_,ao⟩:=zrv t;obtain⟨kd,h1,_,_⟩:=DataW.trod_int underlying34 z;obtain⟨u,v,I,wu,wv⟩:=zAH B;simp at h0 h1 I;obtain⟨rfl,rfl⟩:=I;subst h0 h1;have T:D i=.agg (ys.map (·.1)):=(Prod.mk.inj af).1;have b1:Rows.uptoBulk (D i)≤Rows.uptoBulk x.1:=by
     have:=zKR (d:=D i) (l:=(List.range len).map D) (Zq.2 ⟨i,Xa.2 hi,rfl⟩);rw[M];simp only[Rows.uptoBulk];omega
    have b2:Rows.uptoBulk ys[0].1≤Rows.uptoBulk (D i):=by
     have:=zKR (d:=ys[0].1) (l:=ys.map (·.1)) (Zq.2 ⟨ys[0],XS _,rfl⟩);rw[T];simp only[Rows.uptoBulk];omega
    have g:=e 0 (by omega);have j:=e 1 (by omega);have p:=e 2 (by omega);have r:=e 3 (by omega);simp only[Zz,ZU]at g j p r;have ad:=ai (by omega);obtain⟨b,o,s⟩:=a;obtain rfl:s=none:=ad;rw[zmS,zmS]at g j p r;subst hn;exact⟨⟨ps,kd,(u,v)⟩,by grind,wu,wv,b,o,C,P,rfl,X,g,j,p,r⟩
  obtain⟨f,aa,hq⟩:=zuZ len ah;exact⟨some a,len,cap,f,E,aa.symm,hq,Z,by unfold maxLen at hm;omega⟩
end
open Go.RowKit Am
attribute [local go_sem ↓] Go.wp_at_zero Go.wp_at_succ
theorem zoJ(h:zbk cols xs k=none)(a:el xs k<0):zbk cols xs (k+1)=some k:=by simp only[zbk,h,if_pos a]
theorem zqk(a:¬el xs k<0):zbk cols xs (k+1)=zbk cols xs k:=by
 simp only[zbk];grind
theorem zsh(h:zbk cols xs k=some b)(a:el xs k<0)(hc:cols.getD k 0<cols.getD b 0):zbk cols xs (k+1)=some k:=by simp only[zbk,h];rw[if_pos ⟨a,hc⟩]
theorem zsg(h:zbk cols xs k=some b)(hc:¬cols.getD k 0<cols.getD b 0):zbk cols xs (k+1)=some b:=by simp only[zbk,h];rw[if_neg (fun h=>hc h.2)]
theorem znI(h:zbk cols xs k=some b):b<k:=by
 have s:=zdk cols xs k;rw[h]at s;exact s.1
section
variable {W0 w:World} {H q:Nat} {rA:OA} {rc:Nat} {lA:List Value} {bA:OA} {bc_:Nat} {kA:OA} {kc:Nat} {eA:OA} {ec m N S own:Nat} {A:List (List Rat)} {b c:List Rat} {left:List Int}
  {tA:OA} {tc:Nat} {cols:List Nat}
namespace Du
theorem leave(h:zhi W0 w H q rA rc lA bA bc_ kA kc eA ec m N S own A b c left tA tc cols) :
  Calls prog 127 #[.pointer (some ⟨q,0,none⟩)] w fun e w'=>e=.returned (.int .i64 (zbh (zi5 cols (za5 A b cols))))∧Below w w w':=by
 have HP:=un h;obtain⟨qb,xA,xc,E⟩:=h;have HL:=un E.basis.len;have ad:=un (E.basis.vals_ok b).2;have aE:=E.std.hm;clear E;go_enter func127,ntmps127;go_wp2_with fail
 refine(Tb.basis HP.o).mono ?_;rintro e w1 ⟨A1,c1,rfl,hv1,hb⟩;have I:=un hb;have ao:=un hv1;clear hv1 hb;go_wp2_with fail
 refine(Tb.values (HP.o.below I.o)).mono ?_;rintro e O ⟨A2,c2,rfl,hv2,hb⟩;have HI:=un (ao.o.below hb);have HX:=un hv2;have X:=un (I.o.trans (hb.mono I.o.size));clear hv2 hb;go_wp2
 go_loopw [3,12] (fun bv i wr=>∃k:Nat,i=.int .i64 k∧bv=.int .i64 (zbh (zbk cols (za5 A b cols) k))∧k≤m∧Below O O wr)
  (fun _ i _=>m-(intOf i).toNat)
 case atStart=>exact⟨0,rfl,rfl,Zb _,Zg _ _⟩
 case round =>
  obtain⟨k,rfl,rfl,hk,z⟩:=hrel;have V:=un z;by_cases ai:k<m
  ·have ae:=un (HX.o.below z);have aa:=un (HI.o.below z);obtain⟨bx,rfl,_,_⟩:=ae.o.has (by omega);obtain⟨y,rfl,_,_⟩:=aa.o.has (by omega);have hq:=zaH (xs:=za5 A b cols) (j:=k) (by rw[ad.o];exact ai);obtain⟨g,a,p,n,d,o,l,k0,k1,k2,hR⟩:=ae.o.at_ hq;have HR:=un hR;have ah:cols[k]? = some (cols.getD k 0):=zaO (by rw[HL.o];exact ai);have am:=un ah;have aA:(0:Int)≤(k:Int):=Zf _;have aB:(k:Int)<(m:Int):=by omega
   clear z hR hq ah;have al:=un (Bel.mk V.o);go_wp2_with fail
   have D:=un (show Bel O (wr.alloc (.cells #[g,(a,p,n),(d,o,l)] 41))from al.o.alloc _);have C:=un (show RatS (wr.alloc (.cells #[g,(a,p,n),(d,o,l)] 41)) g (a,p,n) (d,o,l) (el (za5 A b cols) k)from HR.o.alloc _);have Z:=un (show IntsS (wr.alloc (.cells #[g,(a,p,n),(d,o,l)] 41)) w.heap.size (y,m,c1) cols from aa.o.alloc _);have x:=un (zal wr #[g,(a,p,n),(d,o,l)] 41)
   obtain⟨x0,_,x1,_,x2,_⟩:=bc3 x.o;have L:=Z.o.at_ am.o;have F:=zaa L;by_cases s:el (za5 A b cols) k<0
   ·have hs:=zrN s;have ak:=zeh.2 s;cases hbe:zbk cols (za5 A b cols) k with
    | none =>
     have t:=un (zoJ hbe s);have J:zbh none = -1:=rfl;rw[J];clear hbe s;refine wp_region_noPanic ?_;refine wp_region_held_drew (S:=fun w'=>w'.cell? ⟨wr.heap.size,0,none⟩=some (.bool g)∧w'.cell? ⟨wr.heap.size,1,none⟩=some (a,p,n)∧w'.cell? ⟨wr.heap.size,2,none⟩=some (d,o,l)) (by kernel_rfl) kp fun hHeld=>?_
     refine zaw [0] ?_;repeat refine tkH (hS:=hHeld) (h:=?_)
     refine zao ?_;refine wpAnyH_ready (rs:=[1]) (by kernel_rfl) (by simp) ?_;refine AllReadyH.cons rfl (fun K r=>?_) AllReadyH.nil;go_simp
     (go_at_call 105;(with_reducible refine(Rt.sign g a p n d o l (el (za5 A b cols) k) _ C.o.drew).mono ?_);rintro e v1 ⟨rfl,hb⟩;have u:=un (zad hb x.o);have v:=un (D.o.drew.below hb);obtain⟨R,_,T,_,U,_⟩:=bc3 u.o;clear hb)
     (try go_wp2_with fail)
     refine r.o _ _ kp fun hHeld=>?_
     clear r K;try simp only[Act.put,pu1,pu2,pu3,pu4,pu5,pu6]
     refine zaw [2,3,4,5,6] ?_;repeat refine tkH (hS:=hHeld) (h:=?_)
     refine zao ?_;refine zaw [7,8,9,10,11,12,13,14,15] ?_;repeat refine skH (hS:=hHeld) (h:=?_)
     refine zao ?_;refine zaw [16,17] ?_;repeat refine tkH (hS:=hHeld) (h:=?_)
     refine zao ?_;refine wpAnyH_done (by kernel_rfl) ?_ _;refine NoPanic.normal ?_;go_wp2;go_roundw
     case rel=>exact⟨k+1,by go_num,by rw[t.o];rfl,by omega,v.o.b⟩
     case measure=>simp[intOf];omega
    | some f =>
     have J:zbh (some f)=(f:Int):=rfl;rw[J];have az:=znI hbe;have ag:cols[f]? = some (cols.getD f 0):=zaO (by rw[HL.o];omega);have aC:(0:Int)≤(f:Int):=Zf _;have aD:(f:Int)<(m:Int):=by omega
     have M:=Z.o.at_ ag;have G:=zaa M;have Y:=un hbe;have ap:=un s;clear hbe s ag;by_cases hc:cols.getD k 0<cols.getD f 0
     ·have t:=un (zsh Y.o ap.o hc);have B:((cols.getD k 0:Nat):Int)<((cols.getD f 0:Nat):Int):=by omega
      clear hc;generalize cols.getD k 0=P at B L F;generalize cols.getD f 0=Q at B M G;refine wp_region_noPanic ?_;refine wp_region_held_drew (S:=fun w'=>w'.cell? ⟨wr.heap.size,0,none⟩=some (.bool g)∧w'.cell? ⟨wr.heap.size,1,none⟩=some (a,p,n)∧w'.cell? ⟨wr.heap.size,2,none⟩=some (d,o,l)∧w'.cell? ⟨y,k,none⟩=some (.int .i64 (P:Int))∧w'.cell? ⟨y,f,none⟩=some (.int .i64 (Q:Int))) (by kernel_rfl) kp fun hHeld=>?_
      refine zaw [0] ?_;repeat refine tkH (hS:=hHeld) (h:=?_)
      refine zao ?_;refine wpAnyH_ready (rs:=[1]) (by kernel_rfl) (by simp) ?_;refine AllReadyH.cons rfl (fun K r=>?_) AllReadyH.nil;go_simp
      (go_at_call 105;(with_reducible refine(Rt.sign g a p n d o l (el (za5 A b cols) k) _ C.o.drew).mono ?_);rintro e v1 ⟨rfl,hb⟩;have u:=un (zad hb x.o);have v:=un (D.o.drew.below hb);obtain⟨R,_,T,_,U,_⟩:=bc3 u.o;have aw:=zab hb F;have ax:=zab hb G;clear hb)
      (try go_wp2_with fail)
      refine r.o _ _ kp fun hHeld=>?_
      clear r K;try simp only[Act.put,pu1,pu2,pu3,pu4,pu5,pu6]
      refine zaw [2,3,4,5,6,7,8,9,10,11,12,13,14,15,16,17] ?_;repeat refine tkH (hS:=hHeld) (h:=?_)
      refine zao ?_;refine wpAnyH_done (by kernel_rfl) ?_ _;refine NoPanic.normal ?_;go_wp2;go_roundw
      case rel=>exact⟨k+1,by go_num,by rw[t.o];rfl,by omega,v.o.b⟩
      case measure=>simp[intOf];omega
     ·have t:=un (zsg Y.o hc);have B:¬((cols.getD k 0:Nat):Int)<((cols.getD f 0:Nat):Int):=by omega
      clear hc;generalize cols.getD k 0=P at B L F;generalize cols.getD f 0=Q at B M G;refine wp_region_noPanic ?_;refine wp_region_held_drew (S:=fun w'=>w'.cell? ⟨wr.heap.size,0,none⟩=some (.bool g)∧w'.cell? ⟨wr.heap.size,1,none⟩=some (a,p,n)∧w'.cell? ⟨wr.heap.size,2,none⟩=some (d,o,l)∧w'.cell? ⟨y,k,none⟩=some (.int .i64 (P:Int))∧w'.cell? ⟨y,f,none⟩=some (.int .i64 (Q:Int))) (by kernel_rfl) kp fun hHeld=>?_
      refine zaw [0] ?_;repeat refine tkH (hS:=hHeld) (h:=?_)
      refine zao ?_;refine wpAnyH_ready (rs:=[1]) (by kernel_rfl) (by simp) ?_;refine AllReadyH.cons rfl (fun K r=>?_) AllReadyH.nil;go_simp
      (go_at_call 105;(with_reducible refine(Rt.sign g a p n d o l (el (za5 A b cols) k) _ C.o.drew).mono ?_);rintro e v1 ⟨rfl,hb⟩;have u:=un (zad hb x.o);have v:=un (D.o.drew.below hb);obtain⟨R,_,T,_,U,_⟩:=bc3 u.o;have aw:=zab hb F;have ax:=zab hb G;clear hb)
      (try go_wp2_with fail)
      refine r.o _ _ kp fun hHeld=>?_
      clear r K;try simp only[Act.put,pu1,pu2,pu3,pu4,pu5,pu6]
      refine zaw [2,3,4,5,6,7,8,9,10,11,12,13,14,15,16,17] ?_;repeat refine tkH (hS:=hHeld) (h:=?_)
      refine zao ?_;refine wpAnyH_done (by kernel_rfl) ?_ _;refine NoPanic.normal ?_;go_wp2;go_roundw
      case rel=>exact⟨k+1,by go_num,by rw[t.o];rfl,by omega,v.o.b⟩
      case measure=>simp[intOf];omega
   ·have hs:=zrO s;have ak:¬(el (za5 A b cols) k).num<0:=fun e=>s (zeh.1 e)
    have aF:=Zu ak;have t:=un (zqk (cols:=cols) s);clear s;refine wp_region_noPanic ?_;refine wp_region_held_drew (S:=fun w'=>w'.cell? ⟨wr.heap.size,0,none⟩=some (.bool g)∧w'.cell? ⟨wr.heap.size,1,none⟩=some (a,p,n)∧w'.cell? ⟨wr.heap.size,2,none⟩=some (d,o,l)) (by kernel_rfl) kp fun hHeld=>?_
    refine zaw [0] ?_;repeat refine tkH (hS:=hHeld) (h:=?_)
    refine zao ?_;refine wpAnyH_ready (rs:=[1]) (by kernel_rfl) (by simp) ?_;refine AllReadyH.cons rfl (fun K r=>?_) AllReadyH.nil;go_simp
    (go_at_call 105;(with_reducible refine(Rt.sign g a p n d o l (el (za5 A b cols) k) _ C.o.drew).mono ?_);rintro e v1 ⟨rfl,hb⟩;have u:=un (zad hb x.o);have v:=un (D.o.drew.below hb);obtain⟨R,_,T,_,U,_⟩:=bc3 u.o;clear hb)
    (try go_wp2_with fail)
    refine r.o _ _ kp fun hHeld=>?_
    clear r K;try simp only[Act.put,pu1,pu2,pu3,pu4,pu5,pu6]
    refine zaw [2,3] ?_;repeat refine tkH (hS:=hHeld) (h:=?_)
    refine zao ?_;refine zaw [4,5,6,7,8,9,10,11,12,13,14,15,16] ?_;repeat refine skH (hS:=hHeld) (h:=?_)
    refine zao ?_;refine zaw [17] ?_;repeat refine tkH (hS:=hHeld) (h:=?_)
    refine zao ?_;refine wpAnyH_done (by kernel_rfl) ?_ _;refine NoPanic.normal ?_;go_wp2;go_roundw
    case rel=>exact⟨k+1,by go_num,by rw[t.o],by omega,v.o.b⟩
    case measure=>simp[intOf];omega
  ·obtain rfl:m=k:=by omega
   have t:=un (show zi5 cols (za5 A b cols)=zbk cols (za5 A b cols) m by unfold zi5;rw[ad.o]);clear z;go_wp2;go_ret
   exact⟨by rw[t.o];rfl,X.o.trans (V.o.mono X.o.size)⟩
end Du
end
def zsF (N:Nat) (cols:List Nat) (xs:List Rat):Nat→List Rat
  | 0=>List.replicate N 0
  | k+1=>(zsF N cols xs k).set (cols.getD k 0) (el xs k)
theorem zh2(N:Nat)(cols:List Nat)(xs:List Rat):∀k,(zsF N cols xs k).length=N
 | 0=>by simp[zsF]
 | k+1=>by rw[zsF,ZE];simp[zh2]
theorem zvi{m N:Nat}{A:List (List Rat)}{cols:List Nat}(d:Basis m N A cols)(xs:List Rat):∀k,k≤m→∀j,j<N→el (zsF N cols xs k) j=pt k (fun k=>cols.getD k 0) (el xs) j
 | 0,_,j,hj=>by rw[zsF,zrm];rfl
 | k+1,hk,j,hj=>by
  have g:=zvi d xs k (by omega) j hj;have f:=d.lt k (by omega);rw[zsF,ziZ (by rw[zh2];exact f),g];by_cases e:cols.getD k 0=j
  ·rw[if_pos e];subst e;exact(zA7 (m:=k+1) (β:=fun k=>cols.getD k 0) (fun a b i l=>d.inj a b (by omega) (by omega)) (el xs) (k:=k) (by omega)).symm
  ·rw[if_neg e];show _=pt (k+1) _ _ j
   unfold pt;rw[zai,if_neg e];grind
theorem zxy{m N:Nat}{A:List (List Rat)}(a:Basis m N A cols)(xs:List Rat):zsF N cols xs m=zh1 N cols xs:=by
 apply ZT;intro j;by_cases hj:j<N
 ·rw[zaH (by rw[zh2];exact hj),zaH (by rw[zl8];exact hj),zvi a xs m (Za _) j hj,zvg hj,a.len]
 grind[List.getElem?_eq_none,zh2,zl8]
section
variable {W0 w:World} {H q:Nat} {rA:OA} {rc:Nat} {lA:List Value} {bA:OA} {bc_:Nat} {kA:OA} {kc:Nat} {eA:OA} {ec m N S own:Nat} {A:List (List Rat)} {b c:List Rat} {left:List Int}
  {tA:OA} {tc:Nat} {cols:List Nat}
namespace Tb
theorem point(h:zhi W0 w H q rA rc lA bA bc_ kA kc eA ec m N S own A b c left tA tc cols) :
  Calls prog 74 #[.pointer (some ⟨q,0,none⟩)] w fun e w'=>∃(s:OA) (c':Nat),e=.returned (s,N,c')∧VecS w' w (s,N,c') (zh1 N cols (za5 A b cols))∧Below w w w':=by
 obtain⟨qb,xA,xc,g⟩:=h;have d:=un g;have ao:=g.std.hm;have aj:=g.std.hN;have t:=un (Zg w.heap.size w);obtain⟨k0,_,k1,_,_,_,_,_,_,_,_,_,T,ar,_,_,U,au⟩:=bc9 g.blk;clear g;go_enter func74,ntmps74;go_wp2_with fail
 with_reducible refine(Mt.cols N m rc rA _).mono ?_
 rintro e w1 ⟨rfl,hb⟩;have r:=un (d.o.below hb);have E:=un (t.o.trans ((hb).mono t.o.size));have F:=zab hb T;have aM:=zaa F;have G:=zab hb U;have aN:=zaa G;clear hb;have v:=un (E.o.size);have P:=un (d.o.basis.vals_ok b).2;go_wp2_with (at_make;go_must (refine zdv rfl _ _ rfl N _ rfl rfl rfl (by omega) w1.heap.size rfl ?_;intro w2 C l;have L:=un C;have J:=un l;have m6:=zab l F;have m8:=zab l G;clear C l))
 go_loopw [18] (fun i wr=>∃k:Nat,i=.int .i64 k∧k≤m∧VecS wr w1 (w1.heap.size,N,N) (zsF N cols (za5 A b cols) k)∧Below w1 w1 wr)
  (fun i _=>m-(intOf i).toNat)
 case atStart=>exact⟨0,rfl,Zb _,L.o,J.o⟩
 case round =>
  obtain⟨k,rfl,hk,a,f⟩:=hrel;by_cases o:k<m
  ·have hj:cols[k]? = some (cols.getD k 0):=zaO (by rw[d.o.basis.len];exact o);have B:=d.o.basis.lt k o;have u:=un (show zsF N cols (za5 A b cols) (k+1)=(zsF N cols (za5 A b cols) k).set (cols.getD k 0) (el (za5 A b cols) k)from rfl);have p:=zaH (xs:=zsF N cols (za5 A b cols) k) (j:=cols.getD k 0) (by rw[zh2];exact B);generalize cols.getD k 0=j at hj B p u;have D:=zaH (xs:=za5 A b cols) (j:=k) (by rw[P.o];exact o);have y:=(r.o.below f).blk
   obtain⟨_,_,_,_,_,_,_,_,_,_,_,_,t6,aI,_,_,t8,aK⟩:=bc9 y;obtain⟨bt,R,_,_⟩:=d.o.colsI.has (by omega);subst R;obtain⟨bs,Q,_,_⟩:=d.o.x.has (by omega);subst Q;have p0:=(r.o.colsI.below f).at_ hj;obtain⟨ga,V,ma,ca,Y,ay,ag,a0,a1,a2,z⟩:=(r.o.x.below f).at_ D;obtain⟨go,X,mo,co,Z,az,ah,o0,o1,o2,_⟩:=a.at_ p;have aE:=a.fro (j*3);have of1:=a.fro (j*3+1);have aF:=a.fro (j*3+2);have n:=un a;have K:=un (Bel.mk f);have O:=un z;clear a f z p D y hj;have ak:(0:Int)≤(k:Int):=Zf _
   have al:(k:Int)<(m:Int):=by omega
   have am:(0:Int)≤(j:Int):=Zf _;have an:(j:Int)<(N:Int):=by omega
   go_wp2;go_roundw
   case rel=>exact⟨k+1,by go_num,by omega,by rw[u.o];exact n.o.store j O.o,(Bel.set3 K.o (Za _) _ _ _).b⟩
   case measure=>simp[intOf];omega
  ·obtain rfl:m=k:=by omega
   have n:=un a;have I:=un f;have M:=un (zxy d.o.basis (za5 A b cols));clear a f;go_wp2;go_ret
   exact⟨_,_,rfl,by have h:=n.o.base v.o;rw[M.o]at h;exact h,E.o.trans (I.o.mono v.o)⟩
end Tb
end
def zPA (n:Nat) (ys:List Rat) (rows:List PRow):Nat→List Rat
  | 0=>List.replicate n 0
  | k+1=>zly (zPA n ys rows k) (el ys k) (rows.getD k default).coef
def sv (n:Nat) (ys:List Rat) (rows:List PRow):List Rat:=zPA n ys rows rows.length
def zPV (ys:List Rat) (rows:List PRow) (k:Nat):Rat:=zai k fun i=>el ys i*(rows.getD i default).rhs
def sb (ys:List Rat) (rows:List PRow):Rat:=zPV ys rows rows.length
theorem zPw{n:Nat}{ys:List Rat}{rows:List PRow}(h:Rows n rows):∀k,k≤rows.length→(zPA n ys rows k).length=n
 | 0,_=>by simp[zPA]
 | k+1,hk=>by
  have d:=zPw (ys:=ys) h k (by omega);obtain⟨p,a⟩:∃p,rows[k]? = some p:=⟨rows[k]'(by omega),Ze _⟩
  have hc:=(h p (Zh a)).1;show(zly _ _ _).length=n
  rw[zfC a,zdt (by omega),d]
theorem VecS.set3{H:Nat}{v:Value}{cs:Array Value}{t:TypeId}(h:VecS w H v qs)(a:w.heap[b]? = some (.cells cs t (0,0)))(f:165≠t)(g:b<H)(i j k:Nat)(u x y:Value) :
  VecS (((w.setCell ⟨b,i,none⟩ u).setCell ⟨b,j,none⟩ x).setCell ⟨b,k,none⟩ y) H v qs:=by
 have d:v.ownBlock≠some b:=fun e=>by have:=(h.lt e).1;omega
 exact((h.setCell (p:=⟨b,i,none⟩) d a f u).setCell (p:=⟨b,j,none⟩) d (zar u a) f x).setCell (p:=⟨b,k,none⟩) d (zar x (zar u a)) f y
theorem zcs.take{w:World}{A:OA}{ps:List (Int × Int)}(h:zcs w A ps)(n:Nat):zcs w A (ps.take n):=by
 intro k x a;rw[Yj]at a;split at a
 ·exact h k x a
 ·cases a
theorem zex.take{w:World}{A:OA}{d:List LineV}(h:zex w A d)(n:Nat):zex w A (d.take n):=by
 intro k x a;rw[Yj]at a;split at a
 ·exact h k x a
 ·cases a
theorem zcs.below'{ps:List (Int × Int)}(h:zcs w A ps)(a:Below w w w'):zcs w' A ps:=h.below a
theorem zex.below'{a:List LineV}(h:zex w A a)(d:Below w w w'):zex w' A a:=h.below d
theorem zKA{o a:Nat}{x:Obj}(u:Value)(d:a≠b)(h:w.heap[a]? = some x):(w.setCell ⟨b,o,none⟩ u).heap[a]? = some x:=by grind[Below.heap_setCell]
abbrev S1 (xs:List Rat):Prop:=∀q∈xs,mw q≤1
structure Good1 (nc nr:Nat) (cost:List Rat) (rows:List PRow):Prop where
  hc:nc≤5
  hr:nr≤4
  sc:S1 cost
  rw_:∀p∈rows,p.coef.length=nc∧S1 p.coef∧mw p.rhs≤1
  kd:Kinds rows
def PR (nC k:Nat) (ps:List PRow):Prop:=∀(i:Nat) (p:PRow),ps[i]? = some p→S1 p.coef∧mw p.rhs≤1∧(i<k→p.coef.length=nC∧1≤p.kind∧p.kind≤3)
theorem zLC{d:List LineV}(h:zex w A d)(nC:Nat):PR nC 0 (zJI d):=by
 intro i p a;unfold zJI at a;rw[Zw]at a;cases e:d[i]? with
 | none=>rw[e]at a;simp at a
 | some x =>
  rw[e]at a;simp at a;subst a;obtain⟨_,h1,f,b,o,C,cc,_,g,_⟩:=h i x e;exact⟨zyq g,zH7 h1 f,fun h=>by omega⟩
theorem zLZ{nC:Nat}{ps:List PRow}(h:PR nC k ps)(g:S1 qs)(j:nC≤qs.length){z:Int}(d:1≤z∧z≤3):PR nC (k+1) ((ps.modify k fun p=>{ p with coef:=qs.take nC }).modify k fun p=>{ p with kind:=z }):=by
 intro i p a;rw[Xk,Xk]at a;cases e:ps[i]? with
 | none=>rw[e]at a;simp at a
 | some p0 =>
  rw[e]at a;have h0:=h i p0 e;grind
theorem zLX(x:Int):1≤wrap64 (IntKind.u64.wrap (1+(IntKind.u64.wrap x).tmod 3))∧wrap64 (IntKind.u64.wrap (1+(IntKind.u64.wrap x).tmod 3))≤3:=by
 have h0:0≤IntKind.u64.wrap x:=by unfold IntKind.wrap IntKind.signed IntKind.bits;simp;omega
 generalize IntKind.u64.wrap x=y at *
 have h1:0≤y.tmod 3∧y.tmod 3<3:=by rw[Int.tmod_eq_emod_of_nonneg h0];omega
 generalize y.tmod 3=m at *
 have a:IntKind.u64.wrap (1+m)=1+m:=by unfold IntKind.wrap IntKind.signed IntKind.bits;simp;omega
 rw[a];unfold wrap64;omega
theorem RowsS.setT{w:World}{H:Nat}{v:Value}{ps:List PRow}(h:RowsS w H v ps){a:Addr}{t:TypeId}{cs:Array Value}(hg:w.heap[a.block]? = some (.cells cs t (0,0)))(h1:165≠t)(g:41≠t)(i:43≠t)(u:Value):RowsS (w.setCell a u) H v ps:=by
 obtain⟨l,d,e,f⟩:=h.row;exact(RowsL.setT (l:=l) ⟨d,e,f⟩ hg h1 g i u).toS
def zKx:Value→Nat
  | .slice _ n _=>n
  | _=>0
def zLo (w:World) (e:Ending) (w':World):Prop:=∃(C:OA) (nC cC:Nat) (R:OA) (nR cR:Nat) (l:List RR) (cost:List Rat) (rows:List PRow),e=.returned (.agg #[(C,nC,cC),(R,nR,cR)]) ∧
  VecS w' w (C,nC,cC) cost∧RowsL w' w (R,nR,cR) l rows∧Apart (C,nC,cC) l∧From w.heap.size l∧Good1 nC nR cost rows∧Below w w w'
namespace Lw
theorem zLD(A:OA)(u cA:Nat)(L:OA)(o x:Nat)(cs:List (Int × Int))(ls:List LineV)(w:World)(hf:zcs w A cs)(aJ:zex w L ls)(hn:u=cs.length)(hm:o=ls.length)(n:u≤cA)(aE:o≤x)(hc:cA≤9223372036854775807)(bn:x≤9223372036854775807) :
  Calls prog 11 #[.agg #[(A,u,cA),(L,o,x)]] w (zLo w):=by
 have K:=un hn;have HM:=un hm;have HF:=un hf;have HL:=un aJ;clear hn hm hf aJ;obtain⟨W,Z⟩:∃W,((w.alloc (.cells #[(A,u,cA),(L,o,x)] 25)).alloc (.cells #[(),()] 31))=W:=⟨_,rfl⟩
 have ai:=un (show W.heap[w.heap.size]? = some (.cells #[(A,u,cA),(L,o,x)] 25 (0,0))by rw[←Z];exact zak (zam (by simp)));have aB:=un (show W.heap[w.heap.size+1]? = some (.cells #[(),()] 31 (0,0))by rw[←Z];exact zam (by simp));have BB:=un (show Below w w W by rw[←Z];exact(zae w _).alloc (by simp) _);obtain⟨bJ,_,bN,_⟩:=bf2 ai.o;obtain⟨B,aN⟩:∃B,B=min u 5:=⟨_,rfl⟩
 have F:=un aN;clear aN;obtain⟨I,aM⟩:∃I,I=min o 4:=⟨_,rfl⟩
 have E:=un aM;clear aM;go_enter func11,ntmps11;go_upto_if 9 with fail
 clear Z;go_cut[] (fun wr=>wr.heap[w.heap.size]? = some (.cells #[.slice A B cA,(L,o,x)] 25 (0,0))∧wr.heap[w.heap.size+1]? = some (.cells #[(),()] 31 (0,0))∧Below w w wr)
 case first =>
  by_cases h9:5<u
  ·have ak:(5:Int)<(u:Int):=by omega
   obtain rfl:B=5:=by have:=F.o;have:=E.o;omega
   go_wp2;go_meet
   case rel=>exact⟨zar _ ai.o,zKA _ (by omega) aB.o,ZQ BB.o (by show w.heap.size≤w.heap.size;omega) _⟩
  ·have ak:¬((5:Int)<(u:Int)):=by omega
   have am:B=u:=by have:=F.o;have:=E.o;omega
   clear n aE;go_wp2;go_meet
   case rel=>exact⟨by rw[am];exact ai.o,aB.o,BB.o⟩
 case rest =>
  obtain⟨T,U,O⟩:=hcut;rename World=>wa
  have ah:=un T;have az:=un U;have aA:=un O;clear T U O;obtain⟨_,_,_,_,bI,_,bM,_⟩:=bf2 ah.o;go_upto_if 17 with fail
  go_cut[] (fun wr=>wr.heap[w.heap.size]? = some (.cells #[.slice A B cA,.slice L I x] 25 (0,0))∧wr.heap[w.heap.size+1]? = some (.cells #[(),()] 31 (0,0))∧Below w w wr)
  case first =>
   by_cases h9:4<o
   ·have ak:(4:Int)<(o:Int):=by omega
    obtain rfl:I=4:=by have:=F.o;have:=E.o;omega
    go_wp2;go_meet
    case rel=>exact⟨zar _ ah.o,zKA _ (by omega) az.o,ZQ aA.o (by show w.heap.size≤w.heap.size;omega) _⟩
   ·have ak:¬((4:Int)<(o:Int)):=by omega
    have am:I=o:=by have:=F.o;have:=E.o;omega
    clear n aE;go_wp2;go_meet
    case rel=>exact⟨by rw[am];exact ah.o,az.o,aA.o⟩
  case rest =>
   obtain⟨T,U,O⟩:=hcut;rename World=>wb
   have a6:=un T;have a7:=un U;have X:=un O;clear T U O;obtain⟨bK,_,_,_,bL,_⟩:=bf2 a6.o;go_wp2_with fail
   with_reducible refine(zMg A B cA L I x (cs.take 5) (ls.take 4) _ ((HF.o.below' X.o).take 5) ((HL.o.below' X.o).take 4) (by rw[Zn,←K.o,F.o];omega) (by rw[Zn,←HM.o,E.o];omega) (by rw[F.o];omega) (by rw[E.o];omega)).mono ?_
   rintro e w1 ⟨C,nC,cC,R,d,cR,l,rfl,hv,hl,ha,hfm,n⟩;have bk:=un (zad n a7.o);have M:=un (show w.heap.size≤wb.heap.size from X.o.size);have a4:=un (n.size);obtain⟨cost,al⟩:∃cost,frs (cs.take 5)=cost:=⟨_,rfl⟩
   obtain⟨J,aa⟩:∃J,zJI (ls.take 4)=J:=⟨_,rfl⟩
   have aZ:=un (show PR nC 0 J by rw[←aa];exact zLC (HL.o.take 4) nC);have aV:=un (show S1 cost by rw[←al];exact zyq (HF.o.take 5));have ad:=un (show nC≤5 by rw[hv.len];simp[frs];omega);have ae:=un (show d≤4∧J.length=d by rw[hl.toS.len,←aa];simp[zJI];omega);rw[al]at hv;rw[aa]at hl
   have f:=un (show ROut w (w1.alloc (.cells #[(C,nC,cC),(R,d,cR)] 31)) w1.heap.size (C,nC,cC) cost (R,d,cR) l J from⟨zak bk.o,zal _ _ _,(hv.base M.o).alloc _,(hl.base' M.o).alloc _,ha,fun i ri b hi n=>Zc M.o (hfm i ri b hi n),(X.o.trans (n.mono M.o)).alloc (Zc M.o a4.o) _⟩);clear hv hl ha hfm n al aa;go_wp2
   go_loopw [4] (fun i wr=>∃(k:Nat) (l:List RR) (ps:List PRow),i=.int .i64 k∧k≤d∧ps.length=d∧ROut w wr w1.heap.size (C,nC,cC) cost (R,d,cR) l ps∧PR nC k ps)
    (fun i _=>d-(intOf i).toNat)
   case atStart=>exact⟨0,l,J,rfl,Zb _,ae.o.2,f.o,aZ.o⟩
   case round =>
    obtain⟨k,l,ps,rfl,hk,aQ,t,hP⟩:=hrel;have f:=un t;have V:=un hP;have s:=un aQ;clear hP aQ;have p0:=zac t.pbx 0;have p1:=zac t.pbx 1;simp only[ZF,Zz,ZU]at p0 p1;have bw:d≤9223372036854775807:=by have:=ae.o.1;omega
    have bv:nC≤9223372036854775807:=by have:=ad.o;omega
    by_cases aK:k<d
    ·obtain⟨p,y⟩:∃p,ps[k]? = some p:=⟨ps[k]'(by rw[s.o];exact aK),Ze _⟩
     obtain⟨j,rfl,bl,bm⟩:=f.o.rows.toS.has (by omega);obtain⟨r,hr⟩:∃r,l[k]? = some r:=⟨l[k]'(by rw[f.o.rows.len,s.o];exact aK),Ze _⟩
     obtain⟨Q,nq,cq,an⟩:=(f.o.rows.each k r p hr y).coef.slice;have q0:wr.cell? ⟨j,k*5,none⟩=some (Q,nq,cq):=by have ho:=f.o.rows.own;have e:=s.o;rw[←an];rw[e]at ho;rw[ho.cellAt (k*5) (by omega)];exact(zqG l k r hr).1
     have HS:=un (show RSt w wr w1.heap.size (C,nC,cC) cost (j,d,cR) l ps k (Q,nq,cq) p.coef by rw[←an];exact RSt.start f.o hr y);have a3:=un (V.o k p y).1;have aW:=un (show k<l.length from(Zm.1 hr).1);have ax:=un hr;have bs:(0:Int)≤(k:Int):=Zf _;have bt:(k:Int)<(d:Int):=by omega
     clear t y hr an;go_wp2
     go_loopw [5] (fun cv wz=>∃(D:OA) (z c':Nat) (qs:List Rat),cv=(D,z,c')∧RSt w wz w1.heap.size (C,nC,cC) cost (j,d,cR) l ps k (D,z,c') qs∧S1 qs)
      (fun cv _=>nC-zKx cv)
     case atStart=>exact⟨Q,nq,cq,_,rfl,HS.o,a3.o⟩
     case round =>
      rename World=>wz
      obtain⟨D,z,c',qs,rfl,G,aD⟩:=hrel;have ag:=un G;have ay:=un aD;have z0:=zac G.pbx 0;have z1:=zac G.pbx 1;simp only[ZF,Zz,ZU]at z0 z1;have K:=un G.cur.len;have au:=un G.cur.form.2;clear G aD;by_cases bu:z<nC
      ·have ba:(z:Int)<(nC:Int):=by omega
       go_wp2_with fail
       refine(Rt.int (z:Int) (by omega) (by omega) _).mono ?_;rintro e w2 ⟨g,A2,m2,c2,D2,md2,cd2,rfl,hq,n⟩;have af:=un (ag.o.below n);have a0:=un hq;clear hq n;go_wp2_with (at_builtin;go_loud (refine zKm rfl _ _ rfl rfl (af.o.cur.alloc _) rfl (zal _ _ _) (a0.o.alloc _) (by have:=K.o;have:=ad.o;omega) (Zc af.o.bel.size (by simp)) ?_;intro A3 n3 c3 w3 aR aH aG aP bb;have a2:=un ((af.o.alloc _).append aW.o aR aH aG aP);clear aR aH aG aP))
       subst bb;exact⟨⟨A3,_,c3,_,rfl,a2.o,fun q hq=>by rcases ZD.1 hq with h | h;exact ay.o q h;rw[Yi.1 h];exact zu9 _ (by constructor<;>omega)⟩,by have:=K.o;simp[zKx];omega⟩
      ·have ba:¬((z:Int)<(nC:Int)):=by omega
       have aX:=un (show nC≤qs.length by have:=K.o;omega);have bo:nC≤c':=Zc (by omega) au.o.1;have bp:c'≤9223372036854775807:=by have:=au.o.2.1;unfold maxLen at this;omega
       have bq:(nC:Int)≤(c':Int):=by omega
       have br:(0:Int)≤(nC:Int):=Zf _;have own:=ag.o.own;rw[s.o]at own;have y0:wz.cell? ⟨j,k*5,none⟩=some r.c:=by rw[own.cellAt (k*5) (by omega)];exact(zqG l k r ax.o).1
       have aT:=own.frozenAt (k*5);clear own;go_wp2_with fail
       have bi:wz.drew.cell? ⟨w1,0,none⟩=some (C,nC,cC):=z0;have bj:wz.drew.cell? ⟨w1,1,none⟩=some (j,d,cR):=z1;have bf:wz.drew.cell? ⟨j,k*5,none⟩=some r.c:=y0;have bg:wz.drew.frozen? ⟨j,k*5,none⟩=false:=aT;go_cut[] (fun wy=>ROut w wy w1.heap.size (C,nC,cC) cost (j,d,cR) (zei l k (D,nC,c')) (ps.modify k fun p=>{ p with coef:=qs.take nC }))
       case first =>
        go_region
        all_goals
         go_wp2;go_meet
         case rel=>exact(ag.o.put s.o.symm nC (by omega)).drew
       case rest =>
        have HY:=un hcut;have aI:(zei l k (D,nC,c'))[k]? = some { r with c:=.slice D nC c' }:=by unfold zei;rw[Xk,ax.o];simp
        have own:=hcut.rows.own;rw[Ya,s.o]at own;have v1:=zac hcut.pbx 1;simp only[ZF,Zz,ZU]at v1;have y1:wc.cell? ⟨j,k*5+1,none⟩=some (.int .i64 r.k):=by rw[own.cellAt (k*5+1) (by omega)];exact(zqG _ k _ aI).2.1
        have bh:=own.frozenAt (k*5+1);clear own hcut aI z0 z1 y0 aT bi bj bf bg;have bD:wc.drew.cell? ⟨w1,1,none⟩=some (j,d,cR):=v1;have bG:wc.drew.cell? ⟨j,k*5+1,none⟩=some (.int .i64 r.k):=y1;have bH:wc.drew.frozen? ⟨j,k*5+1,none⟩=false:=bh;go_wp2_with fail
        go_region
        all_goals
         go_wp2;exact⟨⟨k+1,_,_,by simp,by omega,by rw[Ya,Ya,s.o],(HY.o.putK (by rw[Ya,s.o]) k _).drew,zLZ V.o ay.o aX.o (zLX r.k)⟩,by simp[intOf];omega⟩
    ·obtain rfl:d=k:=by omega
     have Y:=un t.res;have s0:=zac t.res 0;have s1:=zac t.res 1;have bB:=zag t.res 0;have bC:=zag t.res 1;simp only[ZF,Zz,ZU]at s0 s1;clear t;go_wp2;refine Zd (v:=.agg #[(C,nC,cC),(R,d,cR)]) (by simp[results,results11,go_sem,s0,s1]) rfl ?_
     have hg:Good1 nC d cost ps:=⟨ad.o,ae.o.1,aV.o,fun p y=>by obtain⟨i,hi⟩:=Z0.1 y;have P:=V.o i p hi;exact⟨(P.2.2 (by have:=(Zm.1 hi).1;have:=s.o;omega)).1,P.1,P.2.1⟩,fun p y=>by obtain⟨i,hi⟩:=Z0.1 y;have P:=V.o i p hi;exact(P.2.2 (by have:=(Zm.1 hi).1;have:=s.o;omega)).2⟩
     exact⟨_,_,_,_,_,_,_,cost,ps,rfl,(f.o.cost.setT (p:=⟨w.heap.size+1,0,none⟩) Y.o (by decide) (by decide) _).setT (p:=⟨w.heap.size+1,1,none⟩) (zar _ Y.o) (by decide) (by decide) _,(f.o.rows.setT (a:=⟨w.heap.size+1,0,none⟩) Y.o (by decide) (by decide) (by decide) _).setT (a:=⟨w.heap.size+1,1,none⟩) (zar _ Y.o) (by decide) (by decide) (by decide) _,f.o.ap,f.o.fr,hg,bsc (bsc f.o.bel)⟩
end Lw
theorem zqg(w:World)(a b:Int):∀(j:Nat) (x:Int),[a,b][j]? = some x→(w.alloc (.cells #[.int .i64 a,.int .i64 b] 3)).cell? ⟨w,j,none⟩=some (.int .i64 x):=by
 intro j x h
 match j,h with
 | 0,h=>simp_all
 | 1,h=>simp at h;subst h;exact zax rfl rfl
 | j+2,h=>simp at h
theorem z6g(n:u.heap.size=b){g g':Bool}{s d i f:Value}{q j:Rat}(h:RatS u g s d q)(l:RatS u g' i f j):VecS (u.alloc (.cells #[g,s,d,g',i,f] 41)) 0 (.slice (some ⟨b,0,none⟩) 2 2) [q,j]:=by
 subst n;have o:=YR (e:=41) (size:=3) (base:=0) u #[g,s,d,g',i,f] 2 (Zb _) (by decide) rfl;refine⟨[(g,s,d),(g',i,f)],rfl,?_,o⟩;intro k r p h1 a
 match k,h1,a with
 | 0,h1,a=>simp at h1 a;subst h1 a;exact h.alloc _
 | 1,h1,a=>simp at h1 a;subst h1 a;exact l.alloc _
 | k+2,h1,_=>simp at h1
theorem zoX(i:u.heap.size=b){r r':RR}{p p':PRow}(h:RowS u r p)(f:RowS u r' p'):RowsS (u.alloc (.cells #[r.c,.int .i64 r.k,.bool r.g,r.s,r.d,r'.c,.int .i64 r'.k,.bool r'.g,r'.s,r'.d] 43)) 0 (.slice (some ⟨b,0,none⟩) 2 2) [p,p']:=by
 subst i;have j:=YR (e:=43) (size:=5) (base:=0) u #[r.c,.int .i64 r.k,.bool r.g,r.s,r.d,r'.c,.int .i64 r'.k,.bool r'.g,r'.s,r'.d] 2 (Zb _) (by decide) rfl;refine⟨[r,r'],rfl,?_,j⟩;intro k n l h1 a
 match k,h1,a with
 | 0,h1,a=>simp at h1 a;subst h1 a;exact h.below (zae u _)
 | 1,h1,a=>simp at h1 a;subst h1 a;exact f.below (zae u _)
 | k+2,h1,_=>simp at h1
def zlz:List Rat→List Rat→Int
  | [],[]=>0
  | [],_::_ => -1
  | _::_,[]=>1
  | a::xs,b::ys=>if zlX a b=0 then zlz xs ys else zlX a b
theorem zot:∀xs ys:List Rat,zlz xs ys=0↔xs=ys
 | [],[]=>by simp[zlz]
 | [],_::_=>by simp[zlz]
 | _::_,[]=>by simp[zlz]
 | a::xs,b::ys=>by
  unfold zlz;by_cases h:zlX a b=0
  ·rw[if_pos h,zot xs ys,(zkD a b).1 h];simp
  ·rw[if_neg h];constructor
   ·intro e;exact absurd e h
   ·intro e;injection e with e1 _;exact absurd ((zkD a b).2 e1) h
theorem zuu{a b:Rat}(d:xs[k]? = some a)(e:ys[k]? = some b):zlz (xs.drop k) (ys.drop k)=if zlX a b=0 then zlz (xs.drop (k+1)) (ys.drop (k+1))else zlX a b:=by
 have h1:xs.drop k=a::xs.drop (k+1):=by
  rw[XE (Zm.1 d).1,(Zm.1 d).2]
 have f:ys.drop k=b::ys.drop (k+1):=by
  rw[XE (Zm.1 e).1,(Zm.1 e).2]
 rw[h1,f,zlz]
theorem zwD(h:k=min xs.length ys.length):zlz (xs.drop k) (ys.drop k)=if xs.length<ys.length then -1 else if ys.length<xs.length then 1 else 0:=by
 rcases Xr xs.length ys.length with h1 | h1 | h1
 ·have a:xs.drop k=[]:=Xh (by omega);rw[if_pos h1,a];cases e:ys.drop k with
  | nil=>have:=congrArg List.length e;simp at this;omega
  | cons=>rfl
 ·have a:xs.drop k=[]:=Xh (by omega);have d:ys.drop k=[]:=Xh (by omega);rw[if_neg (by omega),if_neg (by omega),a,d];rfl
 ·have d:ys.drop k=[]:=Xh (by omega);rw[if_neg (by omega),if_pos h1,d];cases e:xs.drop k with
  | nil=>have:=congrArg List.length e;simp at this;omega
  | cons=>rfl
namespace Vc
theorem cmp(S:Nat)(hS:8*S+8≤LIM)(A:OA)(n c:Nat)(xs:List Rat)(H:Nat)(B:OA)(d c':Nat)(ys:List Rat)(H':Nat)(w:World)(p:VecS w H (A,n,c) xs)(r:VecS w H' (B,d,c') ys)(zx:∀q∈xs,mw q≤S)(zy:∀q∈ys,mw q≤S) :
  Calls prog 38 #[(A,n,c),(B,d,c')] w fun e w'=>e=.returned (.int .i64 (zlz xs ys))∧Below w w w':=by
 have T:=un p.len;have U:=un r.len;have HX:=un p;have HY:=un r;have ap:=un hS;have ZX:=un zx;have ZY:=un zy;have aQ:n≤9223372036854775807:=by have h1:=p.form.2.1;have V:=p.form.2.2.1;unfold maxLen at V;omega
 have aR:d≤9223372036854775807:=by have h1:=r.form.2.1;have V:=r.form.2.2.1;unfold maxLen at V;omega
 clear zx zy hS p r;obtain⟨N,hN⟩:∃N,N=min n d:=⟨_,rfl⟩
 have Z:=un hN;have aK:N≤9223372036854775807:=by omega
 have aI:N≤n:=by omega
 have aJ:N≤d:=by omega
 clear hN;go_enter func38,ntmps38;go_upto_region 1 with fail
 go_cut[11,12] (fun a b wr=>a=.int .i64 (N:Int)∧b=.int .i64 0∧wr=w)
 case first =>
  go_wp2
  all_goals
   go_meet
   case rel=>exact⟨by congr 1;have:=Z.o;omega,rfl,rfl⟩
 case rest =>
  obtain⟨rfl,rfl,rfl⟩:=hcut;rename World=>w
  go_wp2
  go_loopw [12] (fun i wr=>∃k:Nat,i=.int .i64 k∧k≤N∧zlz xs ys=zlz (xs.drop k) (ys.drop k)∧Below w w wr)
   (fun i _=>N-(intOf i).toNat)
  case atStart=>exact⟨0,rfl,Zb _,rfl,Zg _ _⟩
  case round =>
   obtain⟨k,rfl,hk,I,l⟩:=hrel;have X:=un I;by_cases aP:k<N
   ·obtain⟨g,rfl,_,_⟩:=HX.o.has (by omega);obtain⟨by_,rfl,_,_⟩:=HY.o.has (by omega);have J:=zaH (xs:=xs) (j:=k) (by rw[←T.o];omega);have L:=zaH (xs:=ys) (j:=k) (by rw[←U.o];omega);obtain⟨F,s,M,x,u,P,C,y0,y1,y2,ae⟩:=(HX.o.below l).at_ J;obtain⟨G,t,O,y,v,Q,D,z0,z1,z2,af⟩:=(HY.o.below l).at_ L;have Y:=un (zuu J L);have am:=un (show 4*(mw (el xs k)+mw (el ys k))+8≤LIM by have:=ap.o;have:=ZX.o _ (Zh J);have:=ZY.o _ (Zh L);omega)
    have an:=un (show RatS wr F (s,M,x) (u,P,C) (el xs k)from ae);have ao:=un (show RatS wr G (t,O,y) (v,Q,D) (el ys k)from af);have HW:=un (Bel.mk l);have aC:wr.cell? ⟨g,k*3,none⟩=some (.bool F):=y0;have aw:=zaa aC;have aD:wr.cell? ⟨g,k*3+1,none⟩=some (s,M,x):=y1;have ax:=zaa aD;have aE:wr.cell? ⟨g,k*3+2,none⟩=some (u,P,C):=y2;have ay:=zaa aE;have aF:wr.cell? ⟨by_,k*3,none⟩=some (.bool G):=z0;have az:=zaa aF
    have aG:wr.cell? ⟨by_,k*3+1,none⟩=some (t,O,y):=z1;have aA:=zaa aG;have aH:wr.cell? ⟨by_,k*3+2,none⟩=some (v,Q,D):=z2;have aB:=zaa aH;have aL:(0:Int)≤(k:Int):=Zf _;have aM:(k:Int)<(N:Int):=by omega
    have aN:(k:Int)<(n:Int):=by omega
    have aO:(k:Int)<(d:Int):=by omega
    clear l I J L y0 y1 y2 z0 z1 z2 ae af;go_wp2_with fail
    refine zaS (S:=fun w'=>w'.cell? ⟨g,k*3,none⟩=some (.bool F)∧w'.cell? ⟨g,k*3+1,none⟩=some (s,M,x)∧w'.cell? ⟨g,k*3+2,none⟩=some (u,P,C)∧w'.cell? ⟨by_,k*3,none⟩=some (.bool G)∧w'.cell? ⟨by_,k*3+1,none⟩=some (t,O,y)∧w'.cell? ⟨by_,k*3+2,none⟩=some (v,Q,D)) [] (h:=fun hHeld=>?_);refine zaw [0,1,2,3,4,5,6,7] ?_;repeat refine tkL (hS:=hHeld) (h:=?_)
    refine zao ?_;refine zaB 8 (h:=fun K hK=>?_);go_simp
    (go_at_call 23;(with_reducible refine(Rt.cmpr F s M x u P C (el xs k) G t O y v Q D (el ys k) _ an.o.drew ao.o.drew am.o).mono ?_);rintro e v1 ⟨rfl,hb⟩;have ak:=un (HW.o.drew.below hb);have aT:=zab hb aw;have aU:=zab hb ax;have aV:=zab hb ay;have aW:=zab hb az;have aX:=zab hb aA;have aY:=zab hb aB;clear hb)
    (try go_wp2_with fail)
    refine shutOn hK fun hHeld=>?_
    clear hK K
    refine zaw [9] ?_;repeat refine tkL (hS:=hHeld) (h:=?_)
    refine zao ?_;refine zaM (h:=?_);by_cases o:zlX (el xs k) (el ys k)=0
    ·rw[o];have f:=un (show zlz xs ys=zlz (xs.drop (k+1)) (ys.drop (k+1))by rw[X.o,Y.o,if_pos o]);clear o;go_wp2;go_roundw
     case rel=>exact⟨k+1,by go_num,by omega,f.o,ak.o.b⟩
     case measure=>simp[intOf];omega
    ·have f:=un (show zlz xs ys=zlX (el xs k) (el ys k)by rw[X.o,Y.o,if_neg o]);generalize zlX (el xs k) (el ys k)=z at o f;have aS:(z != 0)=true:=by simp[o]
     go_wp2;go_ret
     exact⟨by rw[f.o];rfl,ak.o.b⟩
   ·obtain rfl:N=k:=by omega
    have f:=un (show zlz xs ys=if n<d then -1 else if d<n then 1 else 0 by rw[I,zwD (by rw[←T.o,←U.o];exact Z.o),←T.o,←U.o]);have R:=un l;clear I l;rcases Xr n d with h1 | h1 | h1
    ·have e:zlz xs ys = -1:=(by rw[f.o,if_pos h1])
     have d1:(n:Int)<(d:Int):=(by omega)
     have E:=un e;clear e;go_wp2;go_ret
     exact⟨by rw[E.o];rfl,R.o⟩
    ·have e:zlz xs ys=0:=(by rw[f.o,if_neg (by omega),if_neg (by omega)])
     have d1:¬(n:Int)<(d:Int):=(by omega)
     have d2:¬(d:Int)<(n:Int):=(by omega)
     have E:=un e;clear e;go_wp2;go_ret
     exact⟨by rw[E.o];rfl,R.o⟩
    ·have e:zlz xs ys=1:=(by rw[f.o,if_neg (by omega),if_pos h1])
     have d1:¬(n:Int)<(d:Int):=(by omega)
     have d2:(d:Int)<(n:Int):=(by omega)
     have E:=un e;clear e;go_wp2;go_ret
     exact⟨by rw[E.o];rfl,R.o⟩
theorem same(S:Nat)(hS:8*S+8≤LIM)(A:OA)(n c:Nat)(xs:List Rat)(H:Nat)(B:OA)(g c':Nat)(ys:List Rat)(i:Nat)(w:World)(k:VecS w H (A,n,c) xs)(l:VecS w i (B,g,c') ys)(zx:∀q∈xs,mw q≤S)(zy:∀q∈ys,mw q≤S) :
  Calls prog 42 #[(A,n,c),(B,g,c')] w fun e w'=>e=.returned (.bool (decide (xs=ys)))∧Below w w w':=by
 have o:=un (cmp S hS A n c xs H B g c' ys i w k l zx zy);have a:=un (show(zlz xs ys == 0)=decide (xs=ys)by rw[Bool.eq_iff_iff];simp[zot]);clear k l zx zy hS;go_enter func42,ntmps42;go_wp2_with fail
 refine o.o.mono ?_;rintro e w1 ⟨rfl,hb⟩;have j:=un hb;clear hb;generalize zlz xs ys=z at a;by_cases f:z=0
 ·have d:(z == 0)=true:=by simp[f]
  have E:=un (show decide (xs=ys)=true by rw[←a.o,d]);subst f;go_wp2;go_ret
  exact⟨by rw[E.o];rfl,j.o⟩
 ·have d:(z == 0)=false:=by simp[f]
  have E:=un (show decide (xs=ys)=false by rw[←a.o,d]);go_wp2;go_ret
  exact⟨by rw[E.o];rfl,j.o⟩
end Vc
namespace Ct
theorem same_yes(g:Bool)(A:OA)(m c:Nat)(D:OA)(k i:Nat)(a:Rat)(g':Bool)(d:OA)(m' c':Nat)(f:OA)(l j:Nat)(b:Rat)(w:World)(h:RatS w g (A,m,c) (D,k,i) a)(n:RatS w g' (d,m',c') (f,l,j) b)(p:4*(mw a+mw b)+8≤LIM)(o:a=b) :
  Calls prog 30 #[.agg #[g,(A,m,c),(D,k,i)],.agg #[g',(d,m',c'),(f,l,j)]] w fun e w'=>e=.returned true∧Below w w w':=by
 have h:=Rt.same g A m c D k i a g' d m' c' f l j b w h n p;rw[show zA9 a b=true from Zs o]at h;exact h
end Ct
namespace Rt
theorem num_of(g:Bool)(A:OA)(m c:Nat)(D:OA)(d a:Nat)(q:Rat)(w:World)(h:RatS w g (A,m,c) (D,d,a) q) :
  Calls prog 87 #[.agg #[g,(A,m,c),(D,d,a)]] w (zfg w q.num) :=
 (num g A m c D d a q w h).mono (by rintro e w' ⟨rfl,hb⟩;exact⟨g,A,m,c,rfl,(h.below hb).num,hb⟩)
theorem icmp_same(g:Bool)(A:OA)(m c:Nat)(x:Int)(g':Bool)(B:OA)(m' c':Nat)(y:Int)(w:World)(h:IntS w g (A,m,c) x)(a:IntS w g' (B,m',c') y)(e:x=y) :
  Calls prog 63 #[.agg #[g,(A,m,c)],.agg #[g',(B,m',c')]] w fun e w'=>e=.returned (.int .i64 0)∧Below w w w':=by
 have h1:=It.cmp g A m c x g' B m' c' y w h a;rw[zgN e]at h1;exact h1
theorem ncmp_same(A B:OA)(m c m' c' a b:Nat)(w:World)(d:zas w (A,m,c) a)(f:zas w (B,m',c') b)(e:a=b) :
  Calls prog 88 #[.agg #[(A,m,c)],.agg #[(B,m',c')]] w fun e w'=>e=.returned (.int .i64 0)∧Below w w w':=by
 have h1:=Nt.cmp A B m c m' c' a b w d f;rw[zgN (by rw[e])]at h1;exact h1
end Rt
namespace Lw
theorem z6u(g:Bool)(A:OA)(m c:Nat)(D:OA)(f d:Nat)(a:Rat)(p q:Int)(w:World)(h:RatS w g (A,m,c) (D,f,d) a)(u:q≠0)(t:I64 p)(v:I64 q)(i:a=Rat.divInt p q)(hm:mw a≤1000000) :
  Calls prog 41 #[.agg #[g,(A,m,c),(D,f,d)],.int .i64 p,.int .i64 q] w fun e w'=>e=.returned true∧Below w w w':=by
 have HQ:=un u;have l:=un t;have n:=un v;have HA:=un i;have HL:=un (show 4*(mw a+mw (Rat.divInt p q))+8≤LIM by rw[←i];have:=zaP;omega);have HN:=un (show a.num=(Rat.divInt p q).num by rw[i]);have HD:=un (show a.den=(Rat.divInt p q).den by rw[i]);clear u t v i hm;generalize hr:Rat.divInt p q=r at *
 have HR:=un hr;clear hr;obtain⟨W,k⟩:∃W,(w.alloc (.cells #[g,(A,m,c),(D,f,d)] 41))=W:=⟨_,rfl⟩
 have s:=un (show W.heap[w.heap.size]? = some (.cells #[g,(A,m,c),(D,f,d)] 41 (0,0))by rw[←k];exact zam (by simp));have j:=un (show Below w w W by rw[←k];exact zae w _);have HX:=un (show RatS W g (A,m,c) (D,f,d) a by rw[←k];exact(h).alloc _);clear h;go_enter func41,ntmps41;go_wp2_with fail
 clear k;with_reducible refine(Rt.of p q HQ.o l.o.1 l.o.2 n.o.1 n.o.2 _).mono ?_
 rintro e w1 ⟨g2,A2,m2,c2,D2,md2,cd2,rfl,hn,hb⟩;have C:=un (show(w1.alloc (.cells #[g2,(A2,m2,c2),(D2,md2,cd2)] 41)).heap[w.heap.size]? = some (.cells #[g,(A,m,c),(D,f,d)] 41 (0,0))from zak (zad hb s.o));have U:=un (show RatS (w1.alloc (.cells #[g2,(A2,m2,c2),(D2,md2,cd2)] 41)) g (A,m,c) (D,f,d) a from(HX.o.below hb).alloc _)
 have o:=un (show RatS (w1.alloc (.cells #[g2,(A2,m2,c2),(D2,md2,cd2)] 41)) g2 (A2,m2,c2) (D2,md2,cd2) r from((HR.o▸hn)).alloc _);have B:=un (show Below w w (w1.alloc (.cells #[g2,(A2,m2,c2),(D2,md2,cd2)] 41))from((j.o.trans ((hb).mono j.o.size))).alloc ((j.o.trans ((hb).mono j.o.size))).size _)
 have y:=un (show(w1.alloc (.cells #[g2,(A2,m2,c2),(D2,md2,cd2)] 41)).heap[w1.heap.size]? = some (.cells #[g2,(A2,m2,c2),(D2,md2,cd2)] 41 (0,0))from zam (by simp));obtain⟨aT,_,aU,_,a7,_⟩:=bc3 C.o;obtain⟨ba,_,be,_,a6,_⟩:=bc3 y.o;clear hn hb;go_wp2_with fail
 go_region_held3 (fun w'=>w'.cell? ⟨w,0,none⟩=some (.bool g)∧w'.cell? ⟨w,1,none⟩=some (A,m,c)∧w'.cell? ⟨w,2,none⟩=some (D,f,d)∧w'.cell? ⟨w1,0,none⟩=some (.bool g2)∧w'.cell? ⟨w1,1,none⟩=some (A2,m2,c2)∧w'.cell? ⟨w1,2,none⟩=some (D2,md2,cd2))
  (((try go_split_ands);(try simp only[Z3]);(repeat' apply And.intro)<;>(repeat(first | with_reducible assumption | with_reducible refine cell_set (by omega) ?_ | with_reducible refine cell_al ?_))))
  (first
   | (go_at_call 30;(with_reducible refine(Ct.same_yes g A m c D f d a g2 A2 m2 c2 D2 md2 cd2 r _ U.o.drew o.o.drew HL.o HA.o).mono ?_);rintro e v1 ⟨rfl,hb⟩;have z:=un (zad hb C.o);have E:=un (zad hb y.o);have aa:=un (U.o.drew.below hb);have ax:=un (o.o.drew.below hb);have F:=un (B.o.trans ((It.bdrew0' hb).mono B.o.size));obtain⟨aX,_,aY,_,bx,_⟩:=bc3 z.o;obtain⟨bc,_,bd,_,bj,_⟩:=bc3 E.o;clear hb)
   | (go_at_call 87;(with_reducible refine(Rt.num_of g A m c D f d a _ aa.o).mono ?_);rintro e v2 ⟨g3,A3,m3,c3,rfl,hn,hb⟩;have G:=un (zad hb z.o);have R:=un (zad hb E.o);have aC:=un (aa.o.below hb);have x:=un (ax.o.below hb);have HI:=un (hn);have K:=un (F.o.trans ((hb).mono F.o.size));obtain⟨bv,_,bw,_,b1,_⟩:=bc3 G.o;obtain⟨bN,_,bP,_,bS,_⟩:=bc3 R.o;clear hn hb)
   | (go_at_call 87;(with_reducible refine(Rt.num_of g2 A2 m2 c2 D2 md2 cd2 r _ x.o).mono ?_);rintro e v3 ⟨g4,A4,m4,c4,rfl,hn,hb⟩;have I:=un (zad hb G.o);have J:=un (zad hb R.o);have av:=un (aC.o.below hb);have ay:=un (x.o.below hb);have az:=un (HI.o.below hb);have HJ:=un (hn);have P:=un (K.o.trans ((hb).mono K.o.size));obtain⟨bo,_,bp,_,b5,_⟩:=bc3 I.o;obtain⟨bt,_,bu,_,bR,_⟩:=bc3 J.o;clear hn hb)
   | (go_at_call 63;(with_reducible refine(Rt.icmp_same g3 A3 m3 c3 a.num g4 A4 m4 c4 r.num _ az.o HJ.o HN.o).mono ?_);rintro e v4 ⟨rfl,hb⟩;have L:=un (zad hb I.o);have O:=un (zad hb J.o);have aw:=un (av.o.below hb);have aq:=un (ay.o.below hb);have Q:=un (P.o.trans ((hb).mono P.o.size));obtain⟨br,_,bs,_,b6,_⟩:=bc3 L.o;obtain⟨bO,_,bQ,_,bT,_⟩:=bc3 O.o;clear hb)
   | (go_at_call 51;(with_reducible refine(Rt.den g A m c D f d a _ aw.o).mono ?_);rintro e v5 ⟨A5,m5,c5,rfl,hn,hb⟩;have M:=un (zad hb L.o);have V:=un (zad hb O.o);have ar:=un (aq.o.below hb);have HK:=un (hn);have X:=un (Q.o.trans ((hb).mono Q.o.size));obtain⟨bL,_,bM,_,aM,_⟩:=bc3 M.o;obtain⟨b2,_,b3,_,b7,_⟩:=bc3 V.o;clear hn hb)
   | (go_at_call 51;(with_reducible refine(Rt.den g2 A2 m2 c2 D2 md2 cd2 r _ ar.o).mono ?_);rintro e v6 ⟨A6,m6,c6,rfl,hn,hb⟩;have T:=un (zad hb M.o);have Y:=un (zad hb V.o);have au:=un (HK.o.below hb);have HM:=un (hn);have Z:=un (X.o.trans ((hb).mono X.o.size));obtain⟨bX,_,bY,_,aN,_⟩:=bc3 T.o;obtain⟨aG,_,aI,_,aK,_⟩:=bc3 Y.o;clear hn hb)
   | (go_at_call 88;(with_reducible refine(Rt.ncmp_same A5 A6 m5 c5 m6 c6 a.den r.den _ au.o HM.o HD.o).mono ?_);rintro e v7 ⟨rfl,hb⟩;have aD:=un (zad hb T.o);have aA:=un (zad hb Y.o);have aB:=un (Z.o.trans ((hb).mono Z.o.size));obtain⟨b8,_,ca,_,cc,_⟩:=bc3 aD.o;obtain⟨aH,_,aJ,_,aL,_⟩:=bc3 aA.o;clear hb)
   | fail)
 all_goals
  go_wp2;go_ret
  exact⟨rfl,aB.o⟩
