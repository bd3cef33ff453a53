/- Contracts and lemmas: Open DuB Tb5 Sv Law3 Vec11 Is08 Lit Bnd Dual Cs20 Cert1 Cert2 Cert3 Tb4 DuR PrR DuS PrN PrF. Conditions: as each says. -/
import Derived.Test.YtbpjabgfcbjjmaaGreatRows
import Derived.Test.YtbpjabgfcbjjmaaGreatBoolsYn
import Derived.ProofKit
import Derived.OpenShut
import Derived.JoinedCond
import Derived.Deep.Slices
import Derived.Deep.Grids
import Derived.Test.YtbpjabgfcbjjmaaGreatMat6Yn
import Derived.Test.YtbpjabgfcbjjmaaGreatMat3Yn
import Derived.Laws.Small
import Derived.Test.YtbpjabgfcbjjmaaGreatBasRYn
import Derived.Test.YtbpjabgfcbjjmaaGreatStdWYn
import Derived.Test.YtbpjabgfcbjjmaaGreatLuFacYn
set_option linter.all false
set_option maxHeartbeats 4000000
set_option maxRecDepth 100000
namespace Go.Proofs.YtbpjabgfcbjjmaaGreat
open Go.Proofs.Tryz
open Go.ChangeShapes Go.WideShapes Go.ChangeAt Go.RowKit Go.Deep
variable {cols:List Nat}{rows:List PRow}{xs ys:List Rat}{cs:List Value}{b fuel k n:Nat}{A:OA}{p:PRow}{q:Rat}{u w w':World}
def own:ownKnob prog.godebug=none:=ξ
def zqj:laidOutB prog=true:=ξ
def zkC:prog.cellsOf 109=2:=ξ
def zwz:prog.cellsOf 3=1:=ξ
def zmS(b o k:Nat):(⟨b,o,none⟩:Addr).add k=⟨b,o+k,none⟩:=by unfold Addr.add;split<;>simp_all
def zuZ{α:Type}{Q:Nat->α->Prop}:∀n:Nat,(∀i,i<n->∃x,Q i x)->∃l:List α,l.length=n/\∀i x,l[i]? = some x->Q i x
 | 0,_=>⟨[],rfl,λi x h=>by simp at h⟩
 | n+1,h=>by obtain⟨l,d,e⟩:=zuZ n (λi hi=>h i ω);obtain⟨x,f⟩:=h n ω;refine⟨l++[x],by simp[d],λi y a=>?_⟩;grind
def zDM{H:Type}(d:DataW H):1<=Rows.uptoBulk d:=by
 cases d with
 | lit l=>cases l<;>simp[Rows.uptoBulk]
 | nil=>simp[Rows.uptoBulk]
 | ptr d=>simp[Rows.uptoBulk]
 | slice elems spare=>simp[Rows.uptoBulk]
 | agg parts=>simp[Rows.uptoBulk]
 | iface t d=>simp[Rows.uptoBulk]
 | map entries=>simp[Rows.uptoBulk]
 | held h=>simp[Rows.uptoBulk]
def zoK{H:Type}(l:List (DataW H)):l.length<=Rows.uptoBulkAll l:=by
 induction l with
 | nil=>grind
 | cons x r ih=>have:=zDM x;simp only[Rows.uptoBulkAll,Yt];omega
def i64_of{x:Int}(h:(Lit.int .i64 x).wf=true):I64 x:=by simp[Lit.wf,IntKind.min,IntKind.max,IntKind.signed,IntKind.bits]at h;omega
section
variable {H:Type} {enc:TypeId × Value->H} {W:World} {base:Nat} {sp:Nat->Bool} {held:Bool}
def zAH{x:DataW H × List MemPlace}(h:DataW.trod enc prog W base sp held fuel 109 cs=some x):∃a b:Int,cs=[.int .i64 a,.int .i64 b]/\I64 a/\I64 b:=by
 obtain⟨ys,j,_,_,i,k,hg⟩:=DataW.trod_struct underlying109 h;rw[zkC]at i
 match cs,i with
 | [c0,c1],_ =>
  have d:DataW.trod enc prog W base sp held j 3 ([c0,c1].take (prog.cellsOf 3))=ys[0]?:=hg 0 _ rfl;have e:DataW.trod enc prog W base sp held j 3 ([c1].take (prog.cellsOf 3))=ys[1]?:=hg 1 _ rfl;rw[zwz]at d e;have o:ys.length=2:=k;rw[Ze (show 0<ys.length by omega)]at d;rw[Ze (show 1<ys.length by omega)]at e;obtain⟨a,f,_,l⟩:=XW underlying3 d;obtain⟨b,g,_,n⟩:=XW underlying3 e;simp at f g;subst f g;exact⟨a,b,rfl,i64_of l,i64_of n⟩
def zrv{x:DataW H × List MemPlace}(h:DataW.trod enc prog W base sp held fuel 27 cs=some x) :
  ∃(A:OA) (n cp:Nat) (ps:List (Int × Int)),cs=[.slice A n cp]/\n=ps.length/\zcs W A ps/\n<=cp/\cp<=9223372036854775807/\n<=Rows.uptoBulk x.1:=by
 rcases open_slice underlying27 h with ⟨f,t⟩ | ⟨a,len,cap,m,q,D,P,f,_,E,hm,r,t,p⟩
 exact⟨none,0,0,[],f,rfl,λk y K=>by simp at K,Za _,δ,Zb _⟩;have M:0<len->a.spot=none:=by intro h0;obtain⟨z,l,_⟩:=p 0 (by rw[r];split<;>omega);rw[zkC]at l;obtain⟨_,T,B⟩:=Vn l;have g:=B 0 ω;rw[Ze (show 0<z.length by omega)]at g;have:=World.cell?_spot g;simpa[Addr.add]using this
 have L:∀i,i<len->∃y:Int × Int,I64 y.1/\I64 y.2/\∃b o,some a=some ⟨b,o,none⟩/\χ W b (o+i*2) (.int .i64 y.1)/\χ W b (o+i*2+1) (.int .i64 y.2):=by
  intro i hi;have C:i<m:=by rw[r];split<;>omega
  obtain⟨Q,hc,J⟩:=p i C;rw[zkC]at hc;obtain⟨_,R,j⟩:=Vn hc;obtain⟨u,v,rfl,wu,O⟩:=zAH J;have d:=j 0 ω;have e:=j 1 ω;simp only[Z8,XJ]at d e;have I:=M ω;obtain⟨b,o,s⟩:=a;obtain rfl:s=none:=I;rw[zmS,zmS]at d e;exact⟨(u,v),wu,O,b,o,rfl,d,e⟩
 obtain⟨ps,F,G⟩:=zuZ len L;refine⟨some a,len,cap,ps,f,F.symm,G,E,by unfold maxLen at hm;omega,?_⟩;have h1:=zoK ((List.range len).map D);rw[ZK,VF]at h1;rw[t];simp only[Rows.uptoBulk];omega
end
open Go.RowKit Am
attribute [local go_sem ↓] Go.wp_at_zero Go.wp_at_succ
def zoJ(h:zbk cols xs k=none)(a:el xs k<0):zbk cols xs (k+1)=some k:=by simp only[zbk,h,if_pos a]
def zqk(a:¬el xs k<0):zbk cols xs (k+1)=zbk cols xs k:=by simp only[zbk];grind
def zsh(h:zbk cols xs k=some b)(a:el xs k<0)(hc:cols.getD k 0<cols.getD b 0):zbk cols xs (k+1)=some k:=by simp only[zbk,h];rw[if_pos ⟨a,hc⟩]
def zsg(h:zbk cols xs k=some b)(hc:¬cols.getD k 0<cols.getD b 0):zbk cols xs (k+1)=some b:=by simp only[zbk,h];rw[if_neg (λh=>hc h.2)]
def znI(h:zbk cols xs k=some b):b<k:=by have s:=zdk cols xs k;rw[h]at s;exact s.1
section
variable {W0 w:World} {H q:Nat} {rA:OA} {rc:Nat} {lA:List Value} {bA:OA} {bc_:Nat} {kA:OA} {kc:Nat} {eA:OA} {ec m N S own:Nat} {A:List (List Rat)} {b c:List Rat} {left:List Int}
  {tA:OA} {tc:Nat} {cols:List Nat}
namespace Du
def leave(h:zhi W0 w H q rA rc lA bA bc_ kA kc eA ec m N S own A b c left tA tc cols) :
  Calls prog 149 #[.pointer (some ⟨q,0,none⟩)] w λe w'=>e=.returned (.int .i64 (zbh (zi5 cols (za5 A b cols))))/\Below w w w':=by
 have HP:=un h;obtain⟨qb,xA,xc,E⟩:=h;have HL:=un E.basis.len;have ac:=un (E.basis.vals_ok b).2;have aD:=E.std.hm;clear E;go_enter func149,ntmps149;go_wp2_with fail
 refine(Tb.basis HP.o).mono ?_;rintro e w1 ⟨A1,c1,rfl,hv1,hb⟩;have I:=un hb;have an:=un hv1;clear hv1 hb;go_wp2_with fail
 refine(Tb.values (HP.o.below I.o)).mono ?_;rintro e M ⟨A2,c2,rfl,hv2,hb⟩;refine μ3 (an.o.below hb) hv2 (I.o.trans (hb.mono I.o.size)) λHI HX V=>?_;clear hv2 hb;go_wp2
 go_loopw [3,12] (λbv i wr=>∃k:Nat,i=.int .i64 k/\bv=.int .i64 (zbh (zbk cols (za5 A b cols) k))/\k<=m/\Below M M wr)
  (λ_ i _=>m-(intOf i).toNat)
 case atStart=>exact⟨0,rfl,rfl,Zb _,Zl _ _⟩
 obtain⟨k,rfl,rfl,hk,z⟩:=hrel;have U:=un z;by_cases ah:k<m
 ·have ad:=un (HX.o.below z);have Z:=un (HI.o.below z);obtain⟨bx,rfl,_,_⟩:=ad.o.has ω;obtain⟨y,rfl,_,_⟩:=Z.o.has ω;have hq:=zaH (xs:=za5 A b cols) (j:=k) (by rw[ac.o];exact ah);obtain⟨g,a,p,n,d,o,l,k0,k1,k2,hR⟩:=ad.o.at_ hq;have HR:=un hR;have ag:cols[k]? = some (cols.getD k 0):=zaO (by rw[HL.o];exact ah);have al:=un ag;have az:(0:Int)<=(k:Int):=Zg _;have aA:(k:Int)<(m:Int):=ω
  clear z hR hq ag;have ak:=un (Bel.mk U.o);go_wp2_with fail
  refine μ4 (show Bel M (wr.alloc (.cells #[g,(a,p,n),(d,o,l)] 62))from ak.o.alloc _) (show RatS (wr.alloc (.cells #[g,(a,p,n),(d,o,l)] 62)) g (a,p,n) (d,o,l) (el (za5 A b cols) k)from HR.o.alloc _) (show IntsS (wr.alloc (.cells #[g,(a,p,n),(d,o,l)] 62)) w.heap.size (y,m,c1) cols from Z.o.alloc _) (zal wr #[g,(a,p,n),(d,o,l)] 62) λD C Y x=>?_;obtain⟨x0,_,x1,_,x2,_⟩:=bc3 x.o;have L:=Y.o.at_ al.o;have F:=zaa L;by_cases s:el (za5 A b cols) k<0
  ·have hs:=zrN s;have aj:=zeh.2 s;cases hbe:zbk cols (za5 A b cols) k with
   | none =>
    have t:=un (zoJ hbe s);have J:zbh none = -1:=rfl;rw[J];clear hbe s;refine wp_region_noPanic ?_;refine wp_region_held_drew (S:=λw'=>χ w' wr.heap.size 0 (.bool g)/\χ w' wr.heap.size 1 (a,p,n)/\χ w' wr.heap.size 2 (d,o,l)) ξ kp λhHeld=>?_;refine zaw [0] ?_;repeat refine tkH hHeld ?_
    refine zao ?_;refine wpAnyH_ready (rs:=[1]) ξ σ ?_;refine AllReadyH.cons rfl (λK r=>?_) AllReadyH.nil;go_simp;(go_at_call 61;(with_reducible refine(Rt.sign g a p n d o l (el (za5 A b cols) k) _ C.o.drew).mono ?_);rintro e v1 ⟨rfl,hb⟩;have u:=un (zad hb x.o);have v:=un (D.o.drew.below hb);obtain⟨Q,_,R,_,T,_⟩:=bc3 u.o;clear hb);(try go_wp2_with fail);refine r.o _ _ kp λhHeld=>?_;clear r K;try simp only[Act.put,pu1,pu2,pu3,pu4,pu5,pu6]
    refine zaw [2,3,4,5,6] ?_;repeat refine tkH hHeld ?_
    refine zao ?_;refine zaw [7,8,9,10,11,12,13,14,15] ?_;repeat refine skH hHeld ?_
    refine zao ?_;refine zaw [16,17] ?_;repeat refine tkH hHeld ?_
    refine zao ?_;refine wpAnyH_done ξ ?_ _;refine NoPanic.normal ?_;go_wp2;go_roundw
    case rel=>exact⟨k+1,by go_num,by rw[t.o];rfl,ω,v.o.b⟩
    case measure=>simp[intOf];omega
   | some f =>
    have J:zbh (some f)=(f:Int):=rfl;rw[J];have ay:=znI hbe;have af:cols[f]? = some (cols.getD f 0):=zaO (by rw[HL.o];omega);have aB:(0:Int)<=(f:Int):=Zg _;have aC:(f:Int)<(m:Int):=ω;have i1:=Y.o.at_ af;have G:=zaa i1;have X:=un hbe;have ao:=un s;clear hbe s af;by_cases hc:cols.getD k 0<cols.getD f 0
    ·have t:=un (zsh X.o ao.o hc);have B:((cols.getD k 0:Nat):Int)<((cols.getD f 0:Nat):Int):=ω
     clear hc;generalize cols.getD k 0=O at B L F;generalize cols.getD f 0=P at B i1 G;refine wp_region_noPanic ?_;refine wp_region_held_drew (S:=λw'=>χ w' wr.heap.size 0 (.bool g)/\χ w' wr.heap.size 1 (a,p,n)/\χ w' wr.heap.size 2 (d,o,l)/\χ w' y k (.int .i64 (O:Int))/\χ w' y f (.int .i64 (P:Int))) ξ kp λhHeld=>?_;refine zaw [0] ?_;repeat refine tkH hHeld ?_
     refine zao ?_;refine wpAnyH_ready (rs:=[1]) ξ σ ?_;refine AllReadyH.cons rfl (λK r=>?_) AllReadyH.nil;go_simp;(go_at_call 61;(with_reducible refine(Rt.sign g a p n d o l (el (za5 A b cols) k) _ C.o.drew).mono ?_);rintro e v1 ⟨rfl,hb⟩;have u:=un (zad hb x.o);have v:=un (D.o.drew.below hb);obtain⟨Q,_,R,_,T,_⟩:=bc3 u.o;have av:=zab hb F;have aw:=zab hb G;clear hb);(try go_wp2_with fail);refine r.o _ _ kp λhHeld=>?_;clear r K;try simp only[Act.put,pu1,pu2,pu3,pu4,pu5,pu6]
     refine zaw [2,3,4,5,6,7,8,9,10,11,12,13,14,15,16,17] ?_;repeat refine tkH hHeld ?_
     refine zao ?_;refine wpAnyH_done ξ ?_ _;refine NoPanic.normal ?_;go_wp2;go_roundw
     case rel=>exact⟨k+1,by go_num,by rw[t.o];rfl,ω,v.o.b⟩
     case measure=>simp[intOf];omega
    have t:=un (zsg X.o hc);have B:¬((cols.getD k 0:Nat):Int)<((cols.getD f 0:Nat):Int):=ω;clear hc;generalize cols.getD k 0=O at B L F;generalize cols.getD f 0=P at B i1 G;refine wp_region_noPanic ?_;refine wp_region_held_drew (S:=λw'=>χ w' wr.heap.size 0 (.bool g)/\χ w' wr.heap.size 1 (a,p,n)/\χ w' wr.heap.size 2 (d,o,l)/\χ w' y k (.int .i64 (O:Int))/\χ w' y f (.int .i64 (P:Int))) ξ kp λhHeld=>?_;refine zaw [0] ?_;repeat refine tkH hHeld ?_
    refine zao ?_;refine wpAnyH_ready (rs:=[1]) ξ σ ?_;refine AllReadyH.cons rfl (λK r=>?_) AllReadyH.nil;go_simp;(go_at_call 61;(with_reducible refine(Rt.sign g a p n d o l (el (za5 A b cols) k) _ C.o.drew).mono ?_);rintro e v1 ⟨rfl,hb⟩;have u:=un (zad hb x.o);have v:=un (D.o.drew.below hb);obtain⟨Q,_,R,_,T,_⟩:=bc3 u.o;have av:=zab hb F;have aw:=zab hb G;clear hb);(try go_wp2_with fail);refine r.o _ _ kp λhHeld=>?_;clear r K;try simp only[Act.put,pu1,pu2,pu3,pu4,pu5,pu6]
    refine zaw [2,3,4,5,6,7,8,9,10,11,12,13,14,15,16,17] ?_;repeat refine tkH hHeld ?_
    refine zao ?_;refine wpAnyH_done ξ ?_ _;refine NoPanic.normal ?_;go_wp2;go_roundw
    case rel=>exact⟨k+1,by go_num,by rw[t.o];rfl,ω,v.o.b⟩
    case measure=>simp[intOf];omega
  have hs:=zrO s;have aj:¬(el (za5 A b cols) k).num<0:=λe=>s (zeh.1 e)
  have aE:decide ((el (za5 A b cols) k).num<0)=false:=ZJ aj;have t:=un (zqk (cols:=cols) s);clear s;refine wp_region_noPanic ?_;refine wp_region_held_drew (S:=λw'=>χ w' wr.heap.size 0 (.bool g)/\χ w' wr.heap.size 1 (a,p,n)/\χ w' wr.heap.size 2 (d,o,l)) ξ kp λhHeld=>?_;refine zaw [0] ?_;repeat refine tkH hHeld ?_
  refine zao ?_;refine wpAnyH_ready (rs:=[1]) ξ σ ?_;refine AllReadyH.cons rfl (λK r=>?_) AllReadyH.nil;go_simp;(go_at_call 61;(with_reducible refine(Rt.sign g a p n d o l (el (za5 A b cols) k) _ C.o.drew).mono ?_);rintro e v1 ⟨rfl,hb⟩;have u:=un (zad hb x.o);have v:=un (D.o.drew.below hb);obtain⟨Q,_,R,_,T,_⟩:=bc3 u.o;clear hb);(try go_wp2_with fail);refine r.o _ _ kp λhHeld=>?_;clear r K;try simp only[Act.put,pu1,pu2,pu3,pu4,pu5,pu6]
  refine zaw [2,3] ?_;repeat refine tkH hHeld ?_
  refine zao ?_;refine zaw [4,5,6,7,8,9,10,11,12,13,14,15,16] ?_;repeat refine skH hHeld ?_
  refine zao ?_;refine zaw [17] ?_;repeat refine tkH hHeld ?_
  refine zao ?_;refine wpAnyH_done ξ ?_ _;refine NoPanic.normal ?_;go_wp2;go_roundw
  case rel=>exact⟨k+1,by go_num,by rw[t.o],ω,v.o.b⟩
  case measure=>simp[intOf];omega
 obtain rfl:m=k:=ω;have t:=un (show zi5 cols (za5 A b cols)=zbk cols (za5 A b cols) m by unfold zi5;rw[ac.o]);clear z;go_wp2;go_ret;exact⟨by rw[t.o];rfl,V.o.trans (U.o.mono V.o.size)⟩
end Du
end
def zsF (N:Nat) (cols:List Nat) (xs:List Rat):Nat->List Rat
  | 0=>List.replicate N 0
  | k+1=>(zsF N cols xs k).set (cols.getD k 0) (el xs k)
theorem zh2(N:Nat)(cols:List Nat)(xs:List Rat):∀k,(zsF N cols xs k).length=N
 | 0=>by simp[zsF]
 | k+1=>by rw[zsF,ZW];simp[zh2]
def zvi{m N:Nat}{A:List (List Rat)}{cols:List Nat}(d:Basis m N A cols)(xs:List Rat):∀k,k<=m->∀j,j<N->el (zsF N cols xs k) j=pt k (λk=>cols.getD k 0) (el xs) j
 | 0,_,j,hj=>by rw[zsF,zrm];rfl
 | k+1,hk,j,hj=>by
  have g:=zvi d xs k ω j hj;have f:=d.lt k ω;rw[zsF,ziZ (by rw[zh2];exact f),g];by_cases e:cols.getD k 0=j;rw[if_pos e];subst e;exact(zA7 (m:=k+1) (β:=λk=>cols.getD k 0) (λa b i l=>d.inj a b ω ω) (el xs) (k:=k) ω).symm;rw[if_neg e];show _=pt (k+1) _ _ j
  unfold pt;rw[zai,if_neg e];grind
def zxy{m N:Nat}{A:List (List Rat)}(a:Basis m N A cols)(xs:List Rat):zsF N cols xs m=zh1 N cols xs:=by apply Xf;intro j;by_cases hj:j<N;rw[zaH (by rw[zh2];exact hj),zaH (by rw[zl8];exact hj),zvi a xs m (Za _) j hj,zvg hj,a.len];grind[List.getElem?_eq_none,zh2,zl8]
section
variable {W0 w:World} {H q:Nat} {rA:OA} {rc:Nat} {lA:List Value} {bA:OA} {bc_:Nat} {kA:OA} {kc:Nat} {eA:OA} {ec m N S own:Nat} {A:List (List Rat)} {b c:List Rat} {left:List Int}
  {tA:OA} {tc:Nat} {cols:List Nat}
namespace Tb
def point(h:zhi W0 w H q rA rc lA bA bc_ kA kc eA ec m N S own A b c left tA tc cols) :
  Calls prog 50 #[.pointer (some ⟨q,0,none⟩)] w λe w'=>∃(s:OA) (c':Nat),e=.returned (s,N,c')/\VecS w' w (s,N,c') (zh1 N cols (za5 A b cols))/\Below w w w':=by
 obtain⟨qb,xA,xc,g⟩:=h;have d:=un g;have am:=g.std.hm;have ah:=g.std.hN;have t:=un (Zl w.heap.size w);obtain⟨k0,_,k1,_,_,_,_,_,_,_,_,_,T,ap,_,_,U,aq⟩:=bc9 g.blk;clear g;go_enter func50,ntmps50;go_wp2_with fail
 with_reducible refine(Mt.cols N m rc rA _).mono ?_
 rintro e w1 ⟨rfl,hb⟩;have r:=un (d.o.below hb);have E:=un (t.o.trans ((hb).mono t.o.size));have F:=zab hb T;have aK:=zaa F;have G:=zab hb U;have aL:=zaa G;clear hb;have v:=un (E.o.size);have P:=un (d.o.basis.vals_ok b).2;go_wp2_with (at_make;go_must (refine zdv rfl _ _ rfl N _ rfl rfl rfl ω w1.heap.size rfl ?_;intro w2 C l;have L:=un C;have J:=un l;have m6:=zab l F;have m8:=zab l G;clear C l))
 go_loopw [18] (λi wr=>∃k:Nat,i=.int .i64 k/\k<=m/\VecS wr w1 (w1.heap.size,N,N) (zsF N cols (za5 A b cols) k)/\Below w1 w1 wr)
  (λi _=>m-(intOf i).toNat)
 case atStart=>exact⟨0,rfl,Zb _,L.o,J.o⟩
 obtain⟨k,rfl,hk,a,f⟩:=hrel;by_cases o:k<m
 ·have hj:cols[k]? = some (cols.getD k 0):=zaO (by rw[d.o.basis.len];exact o);have B:=d.o.basis.lt k o;have u:=un (show zsF N cols (za5 A b cols) (k+1)=(zsF N cols (za5 A b cols) k).set (cols.getD k 0) (el (za5 A b cols) k)from rfl);have p:=zaH (xs:=zsF N cols (za5 A b cols) k) (j:=cols.getD k 0) (by rw[zh2];exact B);generalize cols.getD k 0=j at hj B p u;have D:=zaH (xs:=za5 A b cols) (j:=k) (by rw[P.o];exact o);have y:=(r.o.below f).blk
  obtain⟨_,_,_,_,_,_,_,_,_,_,_,_,t6,aG,_,_,t8,aI⟩:=bc9 y;obtain⟨bt,R,_,_⟩:=d.o.colsI.has ω;subst R;obtain⟨bs,Q,_,_⟩:=d.o.x.has ω;subst Q;have p0:=(r.o.colsI.below f).at_ hj;obtain⟨ga,V,ma,ca,Y,aw,ae,a0,a1,a2,z⟩:=(r.o.x.below f).at_ D;obtain⟨go,X,mo,co,Z,ax,af,o0,o1,o2,_⟩:=a.at_ p;have aC:=a.fro (j*3);have of1:=a.fro (j*3+1);have aD:=a.fro (j*3+2);refine μ3 a (Bel.mk f) z λn K O=>?_;clear a f z p D y hj;have ai:(0:Int)<=(k:Int):=Zg _;have aj:(k:Int)<(m:Int):=ω;have ak:(0:Int)<=(j:Int):=Zg _;have al:(j:Int)<(N:Int):=ω;go_wp2;go_roundw
  case rel=>exact⟨k+1,by go_num,ω,by rw[u.o];exact n.o.store j O.o,(Bel.set3 K.o (Za _) _ _ _).b⟩
  case measure=>simp[intOf];omega
 obtain rfl:m=k:=ω;refine μ3 a f (zxy d.o.basis (za5 A b cols)) λn I M=>?_;clear a f;go_wp2;go_ret;exact⟨_,_,rfl,by have h:=n.o.base v.o;rw[M.o]at h;exact h,E.o.trans (I.o.mono v.o)⟩
end Tb
end
def zPA (n:Nat) (ys:List Rat) (rows:List PRow):Nat->List Rat
  | 0=>List.replicate n 0
  | k+1=>zly (zPA n ys rows k) (el ys k) (rows.getD k default).coef
def sv (n:Nat) (ys:List Rat) (rows:List PRow):List Rat:=zPA n ys rows rows.length
def zPV (ys:List Rat) (rows:List PRow) (k:Nat):Rat:=zai k λi=>el ys i*(rows.getD i default).rhs
def sb (ys:List Rat) (rows:List PRow):Rat:=zPV ys rows rows.length
def zPw{n:Nat}{ys:List Rat}{rows:List PRow}(h:Rows n rows):∀k,k<=rows.length->(zPA n ys rows k).length=n
 | 0,_=>by simp[zPA]
 | k+1,hk=>by
  have d:=zPw (ys:=ys) h k ω;obtain⟨p,a⟩:∃p,rows[k]? = some p:=⟨rows[k]' ω,Ze _⟩
  have hc:=(h p (Zj a)).1;show(zly _ _ _).length=n
  rw[zfC a,zdt ω,d]
def zQr{r:Rat}(h:q∈zly xs r ys):∃a∈xs,∃b∈ys,q=a+r*b:=by
 obtain⟨k,hk⟩:=Xh.1 h;unfold zly at hk;rw[VD]at hk;cases ha:xs[k]? with
 | none=>rw[ha]at hk;simp at hk
 | some a =>
  cases hb:ys[k]? with
  | none=>rw[ha,hb]at hk;simp at hk
  | some b=>rw[ha,hb]at hk;simp at hk;exact⟨a,Zj ha,b,Zj hb,hk.symm⟩
def zPD{n:Nat}{ys:List Rat}{rows:List PRow}(h:Rows n rows)(zy:Sm ys):∀k,k<=rows.length->∀q∈zPA n ys rows k,mw q<=k*8000001+1
 | 0,_=>by intro q d;rw[zPA]at d;rw[List.eq_of_mem_replicate d];exact zvb
 | k+1,hk=>by
  intro q d;obtain⟨p,e⟩:∃p,rows[k]? = some p:=⟨rows[k]' ω,Ze _⟩
  have hc:=(h p (Zj e)).2.1;rw[zPA,zfC e]at d;obtain⟨a,f,b,g,rfl⟩:=zQr d;have h1:=zPD h zy k ω a f;have i:=hc b g;have j:=zDJ ω zy k;have l:=zrI a (el ys k*b);have o:=zdI (el ys k) b;omega
def zRr(h:Rows n rows)(i:Nat):mw (rows.getD i default).rhs<=4000000:=by
 rw[Zh];cases e:rows[i]? with
 | none=>exact Zf zvb δ
 | some p=>grind
def zQY(h:Rows n rows)(zy:Sm ys)(k:Nat):mw (zPV ys rows k)<=k*8000001+1 :=
 zrK (λi=>Zf (zdI _ _) (by have:=zDJ ω zy i;have:=zRr h i;omega)) k
def zQd(a:rows[k]? = some p)(d:ys[k]? = some q):zPV ys rows (k+1)=zPV ys rows k+q*p.rhs:=by unfold zPV;rw[zai,znd d,zfC a]
def zQg(a:rows[k]? = some p)(d:ys[k]? = some q):zPA n ys rows (k+1)=zly (zPA n ys rows k) q p.coef:=by rw[zPA,znd d,zfC a]
def VecS.set3{H:Nat}{v:Value}{qs:List Rat}{cs:Array Value}{t:TypeId}(h:VecS w H v qs)(a:θ w b cs t)(f:206≠t)(g:b<H)(i j k:Nat)(u x y:Value) :
  VecS (((w.setCell ⟨b,i,none⟩ u).setCell ⟨b,j,none⟩ x).setCell ⟨b,k,none⟩ y) H v qs:=by
 have d:v.ownBlock≠some b:=λe=>by have:=(h.lt e).1;omega
 exact((h.setCell (p:=⟨b,i,none⟩) d a f u).setCell (p:=⟨b,j,none⟩) d (zar u a) f x).setCell (p:=⟨b,k,none⟩) d (zar x (zar u a)) f y
def zcs.take{w:World}{A:OA}{ps:List (Int × Int)}(h:zcs w A ps)(n:Nat):zcs w A (ps.take n):=by
 intro k x a;rw[Ys]at a;split at a
 exact h k x a;cases a
def zex.take{w:World}{A:OA}{ls:List LineV}(h:zex w A ls)(n:Nat):zex w A (ls.take n):=by
 intro k x a;rw[Ys]at a;split at a
 exact h k x a;cases a
def zcs.below'{ps:List (Int × Int)}(h:zcs w A ps)(a:Below w w w'):zcs w' A ps:=h.below a
def zex.below'{ls:List LineV}(h:zex w A ls)(a:Below w w w'):zex w' A ls:=h.below a
abbrev S1 (xs:List Rat):Prop:=∀q∈xs,mw q<=1
structure Good1 (nc nr:Nat) (cost:List Rat) (rows:List PRow):Prop where
  hc:nc<=5
  hr:nr<=4
  sc:S1 cost
  rw_:∀p∈rows,p.coef.length=nc/\S1 p.coef/\mw p.rhs<=1
  kd:Kinds rows
def RowsS.setT{w:World}{H:Nat}{v:Value}{ps:List PRow}(h:RowsS w H v ps){a:Addr}{t:TypeId}{cs:Array Value}(hg:θ w a.block cs t)(h1:206≠t)(g:62≠t)(i:101≠t)(u:Value):RowsS (w.setCell a u) H v ps:=by obtain⟨l,d,e,f⟩:=h.row;exact(RowsL.setT (l:=l) ⟨d,e,f⟩ hg h1 g i u).toS
def zKx:Value->Nat
  | .slice _ n _=>n
  | _=>0
def zlz:List Rat->List Rat->Int
  | [],[]=>0
  | [],_::_ => -1
  | _::_,[]=>1
  | a::xs,b::ys=>if zlX a b=0 then zlz xs ys else zlX a b
def zot:∀xs ys:List Rat,zlz xs ys=0↔xs=ys
 | [],[]=>by simp[zlz]
 | [],_::_=>by simp[zlz]
 | _::_,[]=>by simp[zlz]
 | a::xs,b::ys=>by unfold zlz;by_cases h:zlX a b=0;rw[if_pos h,zot xs ys,(zkD a b).1 h];simp;rw[if_neg h];constructor;intro e;exact absurd e h;intro e;injection e with e1 _;exact absurd ((zkD a b).2 e1) h
def zuu{a b:Rat}(d:xs[k]? = some a)(e:ys[k]? = some b):zlz (xs.drop k) (ys.drop k)=if zlX a b=0 then zlz (xs.drop (k+1)) (ys.drop (k+1))else zlX a b:=by
 have h1:xs.drop k=a::xs.drop (k+1):=by rw[Yd (ZF.1 d).1,(ZF.1 d).2]
 have f:ys.drop k=b::ys.drop (k+1):=by rw[Yd (ZF.1 e).1,(ZF.1 e).2]
 rw[h1,f,zlz]
def zwD(h:k=min xs.length ys.length):zlz (xs.drop k) (ys.drop k)=if xs.length<ys.length then -1 else if ys.length<xs.length then 1 else 0:=by
 rcases XM xs.length ys.length with h1 | h1 | h1;have a:xs.drop k=[]:=XK ω;rw[if_pos h1,a];cases e:ys.drop k with
 | nil=>have:=congrArg List.length e;simp at this;omega
 | cons=>rfl
 have a:xs.drop k=[]:=XK ω;have d:ys.drop k=[]:=XK ω;rw[if_neg ω,if_neg ω,a,d];rfl;have d:ys.drop k=[]:=XK ω;rw[if_neg ω,if_pos h1,d];cases e:xs.drop k with
 | nil=>have:=congrArg List.length e;simp at this;omega
 | cons=>rfl
namespace Vc
theorem cmp(S:Nat)(hS:8*S+8<=LIM)(A:OA)(n c:Nat)(xs:List Rat)(H:Nat)(B:OA)(d c':Nat)(ys:List Rat)(H':Nat)(w:World)(p:VecS w H (A,n,c) xs)(r:VecS w H' (B,d,c') ys)(zx:∀q∈xs,mw q<=S)(zy:∀q∈ys,mw q<=S) :
  Calls prog 131 #[(A,n,c),(B,d,c')] w λe w'=>e=.returned (.int .i64 (zlz xs ys))/\Below w w w':=by
 refine μ7 p.len r.len p r hS zx zy λT U HX HY ap ZX ZY=>?_;have aQ:n<=9223372036854775807:=by have h1:=p.form.2.1;have V:=p.form.2.2.1;unfold maxLen at V;omega
 have aR:d<=9223372036854775807:=by have h1:=r.form.2.1;have V:=r.form.2.2.1;unfold maxLen at V;omega
 clear zx zy hS p r;obtain⟨N,hN⟩:∃N,N=min n d:=⟨_,rfl⟩
 have Z:=un hN;have aK:N<=9223372036854775807:=ω;have aI:N<=n:=ω;have aJ:N<=d:=ω;clear hN;go_enter func131,ntmps131;go_upto_region 1 with fail
 go_cut[11,12] (λa b wr=>a=.int .i64 (N:Int)/\b=.int .i64 0/\wr=w)
 case first =>
  go_wp2
  all_goals
   go_meet
   case rel=>exact⟨by congr 1;have:=Z.o;omega,rfl,rfl⟩
 obtain⟨rfl,rfl,rfl⟩:=hcut;rename World=>w
 go_wp2
 go_loopw [12] (λi wr=>∃k:Nat,i=.int .i64 k/\k<=N/\zlz xs ys=zlz (xs.drop k) (ys.drop k)/\Below w w wr)
  (λi _=>N-(intOf i).toNat)
 case atStart=>exact⟨0,rfl,Zb _,rfl,Zl _ _⟩
 obtain⟨k,rfl,hk,I,l⟩:=hrel;have X:=un I;by_cases aP:k<N
 ·obtain⟨g,rfl,_,_⟩:=HX.o.has ω;obtain⟨by_,rfl,_,_⟩:=HY.o.has ω;have J:=zaH (xs:=xs) (j:=k) (by rw[<-T.o];omega);have L:=zaH (xs:=ys) (j:=k) (by rw[<-U.o];omega);obtain⟨F,s,M,x,u,P,C,y0,y1,y2,ae⟩:=(HX.o.below l).at_ J;obtain⟨G,t,O,y,v,Q,D,z0,z1,z2,af⟩:=(HY.o.below l).at_ L;have Y:=un (zuu J L);have am:=un (show 4*(mw (el xs k)+mw (el ys k))+8<=LIM by have:=ap.o;have:=ZX.o _ (Zj J);have:=ZY.o _ (Zj L);omega)
  refine μ3 (show RatS wr F (s,M,x) (u,P,C) (el xs k)from ae) (show RatS wr G (t,O,y) (v,Q,D) (el ys k)from af) (Bel.mk l) λan ao HW=>?_;have aC:χ wr g (k*3) (.bool F):=y0;have aw:=zaa aC;have aD:χ wr g (k*3+1) (s,M,x):=y1;have ax:=zaa aD;have aE:χ wr g (k*3+2) (u,P,C):=y2;have ay:=zaa aE;have aF:χ wr by_ (k*3) (.bool G):=z0;have az:=zaa aF;have aG:χ wr by_ (k*3+1) (t,O,y):=z1;have aA:=zaa aG;have aH:χ wr by_ (k*3+2) (v,Q,D):=z2;have aB:=zaa aH;have aL:(0:Int)<=(k:Int):=Zg _;have aM:(k:Int)<(N:Int):=ω;have aN:(k:Int)<(n:Int):=ω;have aO:(k:Int)<(d:Int):=ω;clear l I J L y0 y1 y2 z0 z1 z2 ae af;go_wp2_with fail
  refine zaS (S:=λw'=>χ w' g (k*3) (.bool F)/\χ w' g (k*3+1) (s,M,x)/\χ w' g (k*3+2) (u,P,C)/\χ w' by_ (k*3) (.bool G)/\χ w' by_ (k*3+1) (t,O,y)/\χ w' by_ (k*3+2) (v,Q,D)) [] (h:=λhHeld=>?_);refine zaw [0,1,2,3,4,5,6,7] ?_;repeat refine tkL hHeld ?_
  refine zao ?_;refine zaB 8 (h:=λK hK=>?_);go_simp;(go_at_call 27;(with_reducible refine(Rt.cmpr F s M x u P C (el xs k) G t O y v Q D (el ys k) _ an.o.drew ao.o.drew am.o).mono ?_);rintro e v1 ⟨rfl,hb⟩;have ak:=un (HW.o.drew.below hb);have aT:=zab hb aw;have aU:=zab hb ax;have aV:=zab hb ay;have aW:=zab hb az;have aX:=zab hb aA;have aY:=zab hb aB;clear hb);(try go_wp2_with fail);refine shutOn hK λhHeld=>?_;clear hK K;refine zaw [9] ?_;repeat refine tkL hHeld ?_
  refine zao ?_;refine zaM (h:=?_);by_cases o:zlX (el xs k) (el ys k)=0
  ·rw[o];have f:=un (show zlz xs ys=zlz (xs.drop (k+1)) (ys.drop (k+1))by rw[X.o,Y.o,if_pos o]);clear o;go_wp2;go_roundw
   case rel=>exact⟨k+1,by go_num,ω,f.o,ak.o.b⟩
   case measure=>simp[intOf];omega
  have f:=un (show zlz xs ys=zlX (el xs k) (el ys k)by rw[X.o,Y.o,if_neg o]);generalize zlX (el xs k) (el ys k)=z at o f;have aS:(z != 0)=true:=by simp[o]
  go_wp2;go_ret;exact⟨by rw[f.o];rfl,ak.o.b⟩
 obtain rfl:N=k:=ω;have f:=un (show zlz xs ys=if n<d then -1 else if d<n then 1 else 0 by rw[I,zwD (by rw[<-T.o,<-U.o];exact Z.o),<-T.o,<-U.o]);have R:=un l;clear I l;rcases XM n d with h1 | h1 | h1
 ·have e:zlz xs ys = -1:=(by rw[f.o,if_pos h1])
  have d1:(n:Int)<(d:Int):=ω;have E:=un e;clear e;go_wp2;go_ret;exact⟨by rw[E.o];rfl,R.o⟩
 ·have e:zlz xs ys=0:=(by rw[f.o,if_neg ω,if_neg ω])
  have d1:¬(n:Int)<(d:Int):=ω;have d2:¬(d:Int)<(n:Int):=ω;have E:=un e;clear e;go_wp2;go_ret;exact⟨by rw[E.o];rfl,R.o⟩
 have e:zlz xs ys=1:=(by rw[f.o,if_neg ω,if_pos h1])
 have d1:¬(n:Int)<(d:Int):=ω;have d2:(d:Int)<(n:Int):=ω;have E:=un e;clear e;go_wp2;go_ret;exact⟨by rw[E.o];rfl,R.o⟩
def same(S:Nat)(hS:8*S+8<=LIM)(A:OA)(n c:Nat)(xs:List Rat)(H:Nat)(B:OA)(g c':Nat)(ys:List Rat)(i:Nat)(w:World)(k:VecS w H (A,n,c) xs)(l:VecS w i (B,g,c') ys)(zx:∀q∈xs,mw q<=S)(zy:∀q∈ys,mw q<=S) :
  Calls prog 69 #[(A,n,c),(B,g,c')] w λe w'=>e=.returned (.bool (decide (xs=ys)))/\Below w w w':=by
 have o:=un (cmp S hS A n c xs H B g c' ys i w k l zx zy);have a:=un (show(zlz xs ys == 0)=decide (xs=ys)by rw[Bool.eq_iff_iff];simp[zot]);clear k l zx zy hS;go_enter func69,ntmps69;go_wp2_with fail
 refine o.o.mono ?_;rintro e w1 ⟨rfl,hb⟩;have j:=un hb;clear hb;generalize zlz xs ys=z at a;by_cases f:z=0
 ·have d:(z == 0)=true:=by simp[f]
  have E:=un (show decide (xs=ys)=true by rw[<-a.o,d]);subst f;go_wp2;go_ret;exact⟨by rw[E.o];rfl,j.o⟩
 have d:(z == 0)=false:=by simp[f]
 have E:=un (show decide (xs=ys)=false by rw[<-a.o,d]);go_wp2;go_ret;exact⟨by rw[E.o];rfl,j.o⟩
end Vc
namespace Ct
def same_yes(g:Bool)(A:OA)(m c:Nat)(D:OA)(k i:Nat)(a:Rat)(g':Bool)(d:OA)(m' c':Nat)(f:OA)(l j:Nat)(b:Rat)(w:World)(h:RatS w g (A,m,c) (D,k,i) a)(n:RatS w g' (d,m',c') (f,l,j) b)(p:4*(mw a+mw b)+8<=LIM)(o:a=b) :
  Calls prog 55 #[.agg #[g,(A,m,c),(D,k,i)],.agg #[g',(d,m',c'),(f,l,j)]] w λe w'=>e=.returned true/\Below w w w':=by
 have h:=Rt.same g A m c D k i a g' d m' c' f l j b w h n p;rw[show zA9 a b=true from ZG o]at h;exact h
end Ct
namespace Rt
def num_of(g:Bool)(A:OA)(m c:Nat)(D:OA)(d a:Nat)(q:Rat)(w:World)(h:RatS w g (A,m,c) (D,d,a) q) :
  Calls prog 65 #[.agg #[g,(A,m,c),(D,d,a)]] w (zfg w q.num) :=
 (num g A m c D d a q w h).mono (by rintro e w' ⟨rfl,hb⟩;exact⟨g,A,m,c,rfl,(h.below hb).num,hb⟩)
def icmp_same(g:Bool)(A:OA)(m c:Nat)(x:Int)(g':Bool)(B:OA)(m' c':Nat)(y:Int)(w:World)(h:IntS w g (A,m,c) x)(a:IntS w g' (B,m',c') y)(e:x=y) :
  Calls prog 64 #[.agg #[g,(A,m,c)],.agg #[g',(B,m',c')]] w λe w'=>e=.returned (.int .i64 0)/\Below w w w':=by
 have h1:=It.cmp g A m c x g' B m' c' y w h a;rw[zgN e]at h1;exact h1
def ncmp_same(A B:OA)(m c m' c' a b:Nat)(w:World)(d:zas w (A,m,c) a)(f:zas w (B,m',c') b)(e:a=b) :
  Calls prog 66 #[.agg #[(A,m,c)],.agg #[(B,m',c')]] w λe w'=>e=.returned (.int .i64 0)/\Below w w w':=by
 have h1:=Nt.cmp A B m c m' c' a b w d f;rw[zgN (by rw[e])]at h1;exact h1
end Rt
namespace Lw
def z6u(g:Bool)(A:OA)(m c:Nat)(D:OA)(f d:Nat)(a:Rat)(p q:Int)(w:World)(h:RatS w g (A,m,c) (D,f,d) a)(u:q≠0)(t:I64 p)(v:I64 q)(i:a=Rat.divInt p q)(hm:mw a<=1000000) :
  Calls prog 18 #[.agg #[g,(A,m,c),(D,f,d)],.int .i64 p,.int .i64 q] w λe w'=>e=.returned true/\Below w w w':=by
 refine μ7 u t v i (show 4*(mw a+mw (Rat.divInt p q))+8<=LIM by rw[<-i];have:=zaP;omega) (show a.num=(Rat.divInt p q).num by rw[i]) (show a.den=(Rat.divInt p q).den by rw[i]) λHQ l n HA HL HN HD=>?_;clear u t v i hm;generalize hr:Rat.divInt p q=r at *
 have HR:=un hr;clear hr;obtain⟨W,k⟩:∃W,(w.alloc (.cells #[g,(A,m,c),(D,f,d)] 62))=W:=⟨_,rfl⟩
 refine μ3 (show θ W w.heap.size #[g,(A,m,c),(D,f,d)] 62by rw[<-k];exact zam σ) (show Below w w W by rw[<-k];exact zae w _) (show RatS W g (A,m,c) (D,f,d) a by rw[<-k];exact(h).alloc _) λs j HX=>?_;clear h;go_enter func18,ntmps18;go_wp2_with fail
 clear k;with_reducible refine(Rt.of p q HQ.o l.o.1 l.o.2 n.o.1 n.o.2 _).mono ?_
 rintro e w1 ⟨g2,A2,m2,c2,D2,md2,cd2,rfl,hn,hb⟩;refine μ5 (show θ (w1.alloc (.cells #[g2,(A2,m2,c2),(D2,md2,cd2)] 62)) w.heap.size #[g,(A,m,c),(D,f,d)] 62from zak (zad hb s.o)) (show RatS (w1.alloc (.cells #[g2,(A2,m2,c2),(D2,md2,cd2)] 62)) g (A,m,c) (D,f,d) a from(HX.o.below hb).alloc _) (show RatS (w1.alloc (.cells #[g2,(A2,m2,c2),(D2,md2,cd2)] 62)) g2 (A2,m2,c2) (D2,md2,cd2) r from((HR.o▸hn)).alloc _) (show Below w w (w1.alloc (.cells #[g2,(A2,m2,c2),(D2,md2,cd2)] 62))from((j.o.trans ((hb).mono j.o.size))).alloc ((j.o.trans ((hb).mono j.o.size))).size _) (show θ (w1.alloc (.cells #[g2,(A2,m2,c2),(D2,md2,cd2)] 62)) w1.heap.size #[g2,(A2,m2,c2),(D2,md2,cd2)] 62from zam σ) λC U o B y=>?_;obtain⟨aT,_,aU,_,a7,_⟩:=bc3 C.o;obtain⟨ba,_,be,_,a6,_⟩:=bc3 y.o;clear hn hb;go_wp2_with fail
 go_region_held3 (λw'=>χ w' w 0 (.bool g)/\χ w' w 1 (A,m,c)/\χ w' w 2 (D,f,d)/\χ w' w1 0 (.bool g2)/\χ w' w1 1 (A2,m2,c2)/\χ w' w1 2 (D2,md2,cd2))
  (((try go_split_ands);(try simp only[Xi]);(repeat' apply And.intro)<;>(repeat(first | with_reducible assumption | with_reducible refine cell_set ω ?_ | with_reducible refine cell_al ?_))))
  (first
   | (go_at_call 55;(with_reducible refine(Ct.same_yes g A m c D f d a g2 A2 m2 c2 D2 md2 cd2 r _ U.o.drew o.o.drew HL.o HA.o).mono ?_);rintro e v1 ⟨rfl,hb⟩;refine μ5 (zad hb C.o) (zad hb y.o) (U.o.drew.below hb) (o.o.drew.below hb) (B.o.trans ((It.bdrew0' hb).mono B.o.size)) λz E aa ax F=>?_;obtain⟨aX,_,aY,_,bx,_⟩:=bc3 z.o;obtain⟨bc,_,bd,_,bj,_⟩:=bc3 E.o;clear hb)
   | (go_at_call 65;(with_reducible refine(Rt.num_of g A m c D f d a _ aa.o).mono ?_);rintro e v2 ⟨g3,A3,m3,c3,rfl,hn,hb⟩;refine μ6 (zad hb z.o) (zad hb E.o) (aa.o.below hb) (ax.o.below hb) (hn) (F.o.trans ((hb).mono F.o.size)) λG R aC x HI K=>?_;obtain⟨bv,_,bw,_,b1,_⟩:=bc3 G.o;obtain⟨bN,_,bP,_,bS,_⟩:=bc3 R.o;clear hn hb)
   | (go_at_call 65;(with_reducible refine(Rt.num_of g2 A2 m2 c2 D2 md2 cd2 r _ x.o).mono ?_);rintro e v3 ⟨g4,A4,m4,c4,rfl,hn,hb⟩;refine μ7 (zad hb G.o) (zad hb R.o) (aC.o.below hb) (x.o.below hb) (HI.o.below hb) (hn) (K.o.trans ((hb).mono K.o.size)) λI J av ay az HJ P=>?_;obtain⟨bo,_,bp,_,b5,_⟩:=bc3 I.o;obtain⟨bt,_,bu,_,bR,_⟩:=bc3 J.o;clear hn hb)
   | (go_at_call 64;(with_reducible refine(Rt.icmp_same g3 A3 m3 c3 a.num g4 A4 m4 c4 r.num _ az.o HJ.o HN.o).mono ?_);rintro e v4 ⟨rfl,hb⟩;refine μ5 (zad hb I.o) (zad hb J.o) (av.o.below hb) (ay.o.below hb) (P.o.trans ((hb).mono P.o.size)) λL O aw aq Q=>?_;obtain⟨br,_,bs,_,b6,_⟩:=bc3 L.o;obtain⟨bO,_,bQ,_,bT,_⟩:=bc3 O.o;clear hb)
   | (go_at_call 67;(with_reducible refine(Rt.den g A m c D f d a _ aw.o).mono ?_);rintro e v5 ⟨A5,m5,c5,rfl,hn,hb⟩;refine μ5 (zad hb L.o) (zad hb O.o) (aq.o.below hb) (hn) (Q.o.trans ((hb).mono Q.o.size)) λM V ar HK X=>?_;obtain⟨bL,_,bM,_,aM,_⟩:=bc3 M.o;obtain⟨b2,_,b3,_,b7,_⟩:=bc3 V.o;clear hn hb)
   | (go_at_call 67;(with_reducible refine(Rt.den g2 A2 m2 c2 D2 md2 cd2 r _ ar.o).mono ?_);rintro e v6 ⟨A6,m6,c6,rfl,hn,hb⟩;refine μ5 (zad hb M.o) (zad hb V.o) (HK.o.below hb) (hn) (X.o.trans ((hb).mono X.o.size)) λT Y au HM Z=>?_;obtain⟨bX,_,bY,_,aN,_⟩:=bc3 T.o;obtain⟨aG,_,aI,_,aK,_⟩:=bc3 Y.o;clear hn hb)
   | (go_at_call 66;(with_reducible refine(Rt.ncmp_same A5 A6 m5 c5 m6 c6 a.den r.den _ au.o HM.o HD.o).mono ?_);rintro e v7 ⟨rfl,hb⟩;refine μ3 (zad hb T.o) (zad hb Y.o) (Z.o.trans ((hb).mono Z.o.size)) λaD aA aB=>?_;obtain⟨b8,_,ca,_,cc,_⟩:=bc3 aD.o;obtain⟨aH,_,aJ,_,aL,_⟩:=bc3 aA.o;clear hb)
   | fail)
 all_goals
  go_wp2;go_ret;exact⟨rfl,aB.o⟩
end Lw
def zqg(w:World)(a b:Int):∀(j:Nat) (x:Int),[a,b][j]? = some x->χ (w.alloc (.cells #[.int .i64 a,.int .i64 b] 3)) w j (.int .i64 x):=by
 intro j x h
 match j,h with
 | 0,h=>simp_all
 | 1,h=>simp at h;subst h;exact zax rfl rfl
 | j+2,h=>simp at h
def z6h(w:World)(a:Int):∀(j:Nat) (x:Int),[a][j]? = some x->χ (w.alloc (.cells #[.int .i64 a] 3)) w j (.int .i64 x):=by
 intro j x h
 match j,h with
 | 0,h=>simp at h;subst h;exact zax rfl rfl
 | j+1,h=>simp at h
def zyt(e:w.heap.size=b)(a d:Int):∀(j:Nat) (x:Int),[a,d][j]? = some x->χ (w.alloc (.cells #[.int .i64 a,.int .i64 d] 3)) b j (.int .i64 x):=by subst e;exact zqg w a d
def z6k(d:w.heap.size=b)(a:Int):∀(j:Nat) (x:Int),[a][j]? = some x->χ (w.alloc (.cells #[.int .i64 a] 3)) b j (.int .i64 x):=by subst d;exact z6h w a
def zuW{xs:List Int}(h:∀(j:Nat) (x:Int),xs[j]? = some x->χ w b j (.int .i64 x)):∀(j:Nat) (x:Int),xs[j]? = some x->χ w.drew b j (.int .i64 x):=h
def zAV{xs:List Int}{o:Obj}(h:∀(j:Nat) (x:Int),xs[j]? = some x->χ w b j (.int .i64 x)):∀(j:Nat) (x:Int),xs[j]? = some x->χ (w.alloc o) b j (.int .i64 x):=λj x a=>cell_al (h j x a)
def z6g(n:u.heap.size=b){g g':Bool}{s d i f:Value}{j:Rat}(h:RatS u g s d q)(l:RatS u g' i f j):VecS (u.alloc (.cells #[g,s,d,g',i,f] 62)) 0 (.slice (some ⟨b,0,none⟩) 2 2) [q,j]:=by
 subst n;have o:=YJ (e:=62) (size:=3) (base:=0) u #[g,s,d,g',i,f] 2 (Zb _) δ rfl;refine⟨[(g,s,d),(g',i,f)],rfl,?_,o⟩;intro k r p h1 a
 match k,h1,a with
 | 0,h1,a=>simp at h1 a;subst h1 a;exact h.alloc _
 | 1,h1,a=>simp at h1 a;subst h1 a;exact l.alloc _
 | k+2,h1,_=>simp at h1
def zMk(f:u.heap.size=b){r:RR}(h:RowS u r p):RowsS (u.alloc (.cells #[r.c,.int .i64 r.k,.bool r.g,r.s,r.d] 101)) 0 (.slice (some ⟨b,0,none⟩) 1 1) [p]:=by
 subst f;have i:=YJ (e:=101) (size:=5) (base:=0) u #[r.c,.int .i64 r.k,.bool r.g,r.s,r.d] 1 (Zb _) δ rfl;refine⟨[r],rfl,?_,i⟩;intro k l j h1 a
 match k,h1,a with
 | 0,h1,a=>simp at h1 a;subst h1 a;exact h.below (zae u _)
 | k+1,h1,_=>simp at h1
def zoX(i:u.heap.size=b){r r':RR}{p':PRow}(h:RowS u r p)(f:RowS u r' p'):RowsS (u.alloc (.cells #[r.c,.int .i64 r.k,.bool r.g,r.s,r.d,r'.c,.int .i64 r'.k,.bool r'.g,r'.s,r'.d] 101)) 0 (.slice (some ⟨b,0,none⟩) 2 2) [p,p']:=by
 subst i;have j:=YJ (e:=101) (size:=5) (base:=0) u #[r.c,.int .i64 r.k,.bool r.g,r.s,r.d,r'.c,.int .i64 r'.k,.bool r'.g,r'.s,r'.d] 2 (Zb _) δ rfl;refine⟨[r,r'],rfl,?_,j⟩;intro k n l h1 a
 match k,h1,a with
 | 0,h1,a=>simp at h1 a;subst h1 a;exact h.below (zae u _)
 | 1,h1,a=>simp at h1 a;subst h1 a;exact f.below (zae u _)
 | k+2,h1,_=>simp at h1
end Go.Proofs.YtbpjabgfcbjjmaaGreat
namespace Go.Proofs.YtbpjabgfcbjjmaaGreat
open Go.RowKit Am Go.Proofs.Tryz
variable {rows:List PRow}{cost x y ys:List Rat}{j k n:Nat}{p:PRow}
def yew (n:Nat) (cost:List Rat) (rows:List PRow) (ys:List Rat):Bool:=(zly cost ((-1:Int):Rat) (sv n ys rows)).any λq=>decide (q<0)
def ydS (n:Nat) (cost:List Rat) (rows:List PRow) (ys:List Rat):Bool:=zId rows ys && !(yew n cost rows ys)
structure Good (nc nr:Nat) (cost:List Rat) (rows:List PRow):Prop where
  hc:nc<=24
  hr:nr<=4
  sc:Sm cost
  rw_:Rows nc rows
  kd:Kinds rows
def yee(h:Rows n rows):(sv n ys rows).length=n:=zPw h _ (Za _)
def yeT(h:Rows n rows)(zy:Sm ys)(hr:rows.length<=4):∀q∈sv n ys rows,mw q<=100000000:=λq a=>Zf (zPD h zy _ (Za _) q a) ω
def yeX(h:Rows n rows)(zy:Sm ys)(hr:rows.length<=4):mw (sb ys rows)<=100000000:=Zf (zQY h zy rows.length) ω
open Am
def tj (rows:List PRow) (ys:List Rat) (j n:Nat):Rat:=zai n λk=>el ys k*el (rows.getD k default).coef j
def yek{n:Nat}{rows:List PRow}(ys:List Rat)(h:Rows n rows){j:Nat}(hj:j<n):∀k,k<=rows.length->el (zPA n ys rows k) j=tj rows ys j k
 | 0,_=>zrm n j
 | k+1,hk=>by
  have f:=yek ys h hj k ω;obtain⟨p,a⟩:∃p,rows[k]? = some p:=⟨rows[k]' ω,Ze _⟩
  have g:=(h p (Zj a)).1;have i:=zPw (ys:=ys) h k ω;have b:(zPA n ys rows k)[j]? = some (el (zPA n ys rows k) j):=by rw[Ze ω];unfold el;rw[Zh,Ze ω];rfl
  have c:p.coef[j]? = some (el p.coef j):=by rw[Ze ω];unfold el;rw[Zh,Ze ω];rfl
  have e:=znd (zmR (r:=el ys k) b c);show el (zly (zPA n ys rows k) (el ys k) (rows.getD k default).coef) j=tj rows ys j (k+1)
  rw[zfC a,e,f];unfold tj;rw[zai,zfC a]
def yej(ys:List Rat)(h:Rows n rows)(hj:j<n):el (sv n ys rows) j=tj rows ys j rows.length:=yek ys h hj _ (Za _)
def yd6 (cost:List Rat) (rows:List PRow) (ys:List Rat) (j:Nat):Bool:=(List.range j).all λi=>decide (tj rows ys i rows.length<=el cost i)
def yeg(h:Rows n rows)(hc:cost.length=n):yd6 cost rows ys n = !(yew n cost rows ys):=by
 have g:=yee (ys:=ys) h;have f:(zly cost ((-1:Int):Rat) (sv n ys rows)).length=n:=by rw[zdt ω,hc]
 have hg:∀j,j<n->(zly cost ((-1:Int):Rat) (sv n ys rows))[j]? = some (el cost j+((-1:Int):Rat)*tj rows ys j rows.length):=by intro j hj;rw[zmR (zaH ω) (zaH ω),yej ys h hj]
 have a:((-1:Int):Rat) = -1:=by rfl
 rw[Bool.eq_iff_iff];unfold yd6 yew;simp only[XO,Xb,decide_eq_true_eq,YF,Ya];constructor;grind[List.mem_iff_getElem?,List.getElem?_eq_some_iff,Option.some.inj];intro h1 j hj;have b:=h1 _ (Zj (hg j hj));rw[a]at b;grind
def yd8(h:Rows n rows)(hc:cost.length=n):ydS n cost rows ys=(yd6 cost rows ys n&&zxD rows ys rows.length):=by unfold ydS zId;rw[yeg h hc,Bool.and_comm]
def yed{q:Rat}(hk:1<=p.kind/\p.kind<=3)(c:zIc p q=true)(a:zdH p x=true):q*p.rhs<=q*dot p.coef x:=by have f:zdp p x=dot p.coef x-p.rhs:=rfl;rcases(by omega:p.kind=1\/p.kind=2\/p.kind=3)with e | e | e;rw[yd3 e]at c;rw[<-zxh e]at a;have b:=(zsp _).1 (Xx a);rw[f]at b;have h0:0 <= -q:=ψ;have h1:=Rat.mul_le_mul_of_nonneg_left (show dot p.coef x<=p.rhs by grind) h0;grind;rw[yd4 e]at c;rw[<-zxg e]at a;have b:=Xx a;rw[f]at b;grind[Rat.mul_le_mul_of_nonneg_left];rw[<-zxf e]at a;have b:zdp p x=0:=Xx a;rw[f]at b;grind
def weak(h:Rows n rows)(hk:Kinds rows)(hc:cost.length=n)(p:ydS n cost rows y=true)(hf:znD cost rows x=true):sb y rows<=dot cost x:=by
 unfold znD at hf;rw[Z5,Z5]at hf;obtain⟨⟨t,f⟩,hr⟩:=hf;have z:=Xx t;rw[YF,Ya]at f;rw[XO]at hr;have c:=p;rw[yd8 h hc,Z5]at c;obtain⟨a,b⟩:=c;have q:∀j,j<n->tj rows y j rows.length<=el cost j:=by intro j hj;unfold yd6 at a;rw[XO]at a;exact Xx (a j (Xb.2 hj))
 have s:∀k,k<rows.length->zIc (rows.getD k default) (el y k)=true:=by intro k hk;unfold zxD at b;rw[XO]at b;exact b k (Xb.2 hk)
 have r:∀k,k<rows.length->rows.getD k default∈rows:=by intro k hk;rw[zfC (Ze hk)];exact Xk hk
 have i:zai rows.length (λk=>el y k*zai n (λj=>el (rows.getD k default).coef j*el x j))=zai n (λj=>tj rows y j rows.length*el x j):=by
  have l:∀k,el y k*zai n (λj=>el (rows.getD k default).coef j*el x j)=zai n (λj=>el y k*el (rows.getD k default).coef j*el x j):=by intro k;rw[<-za7];exact zaj λj _=>ψ
  rw[zaj (λk _=>l k),zbq];refine zaj λj _=>?_;unfold tj;rw[YK,<-za7];exact zaj λk _=>ψ
 have h1:sb y rows<=zai rows.length (λk=>el y k*zai n (λj=>el (rows.getD k default).coef j*el x j)):=by
  refine zUD λk e=>?_;have hm:=r k e;have g:=yed (x:=x) (hk _ hm) (s k e) (hr _ hm);have m:dot (rows.getD k default).coef x=zai n (λj=>el (rows.getD k default).coef j*el x j):=by unfold dot ziw;rw[(h _ hm).1]
  rw[m]at g;exact g
 have o:zai n (λj=>tj rows y j rows.length*el x j)<=dot cost x:=by
  unfold dot ziw;rw[hc];refine zUD λj hj=>?_
  have u:0<=el x j:=by
   have:=f _ (Zj (zaH (xs:=x) (j:=j) ω));have v:¬el x j<0:=by simpa using this
   grind
  exact Vi (q j hj) u
 rw[i]at h1;exact YE h1 o
def ydV{f:Nat->Rat}:∀ {n:Nat},(∀i,i<n->0<=f i)->0<=zai n f:=λ{n} h=>by have:=zUD (f:=λ_=>0) h;rw[zgd]at this;exact this
def yel(hk:1<=p.kind/\p.kind<=3):zdH p x=true↔(p.kind=1->zdp p x<=0)/\(p.kind=2->0<=zdp p x)/\(p.kind=3->zdp p x=0):=by unfold zdH;grind
def ydW(t:Rat)(y:List Rat)(k:Nat):el (scale t y) k=t*el y k:=by by_cases hk:k<y.length;exact znd (zvn (zaH hk));rw[zDb (by rw[zfH];omega),zDb ω,Rat.mul_zero]
section
variable {n:Nat} {cost x y d:List Rat} {rows:List PRow} (h:Rows n rows) (hc:cost.length=n)
include h hc in
theorem ydU:ydS n cost rows y=true↔(∀j,j<n->tj rows y j rows.length<=el cost j)/\∀k,k<rows.length->zIc (rows.getD k default) (el y k)=true:=by rw[yd8 h hc,Z5];unfold yd6 zxD;rw[XO,XO];exact⟨λ⟨a,b⟩=>⟨λj hj=>Xx (a j (Xb.2 hj)),λk hk=>b k (Xb.2 hk)⟩,λ⟨a,b⟩=>⟨λj hj=>ZG (a j (Xb.1 hj)),λk hk=>b k (Xb.1 hk)⟩⟩
theorem ydT:znD cost rows x=true↔x.length=cost.length/\(∀j,0<=el x j)/\∀p∈rows,zdH p x=true:=by unfold znD;rw[Z5,Z5,decide_eq_true_iff,YF,Ya,XO];refine⟨λ⟨⟨a,b⟩,c⟩=>⟨a,λj=>?_,c⟩,λ⟨a,b,c⟩=>⟨⟨a,λq e=>?_⟩,c⟩⟩;by_cases hj:j<x.length;have:=b _ (Zj (zaH hj));grind;grind[zDb,Rat.le_refl];obtain⟨j,hj⟩:=Xh.1 e;have:=b j;rw[znd hj]at this;grind
theorem yd2(hk:k<rows.length):rows.getD k default∈rows:=by rw[zfC (Ze hk)];grind
include h in
theorem yex(hk:k<rows.length):dot (rows.getD k default).coef x=zai n λj=>el (rows.getD k default).coef j*el x j:=by unfold dot ziw;rw[(h _ (yd2 hk)).1]
include h in
theorem yd7:zai rows.length (λk=>el y k*dot (rows.getD k default).coef x)=zai n λj=>tj rows y j rows.length*el x j:=by
 rw[zaj λk hk=>by rw[yex h hk]];have a:∀k,el y k*zai n (λj=>el (rows.getD k default).coef j*el x j)=zai n (λj=>el y k*el (rows.getD k default).coef j*el x j):=by intro k;rw[<-za7];exact zaj λj _=>ψ
 rw[zaj (λk _=>a k),zbq];refine zaj λj _=>?_;unfold tj;rw[YK,<-za7];exact zaj λk _=>ψ
include hc in
theorem ydY:dot cost x=zai n λj=>el cost j*el x j:=by unfold dot ziw;rw[hc]
def ydZ (n:Nat) (cost:List Rat) (rows:List PRow) (x y:List Rat):Bool:=((List.range n).all λj=>decide (el x j=0)||decide (el (sv n y rows) j=el cost j))&&(List.range rows.length).all λk=>decide (zdp (rows.getD k default) x=0)||decide (el y k=0)
def yeu (n:Nat) (rows:List PRow) (y:List Rat):Bool:=zId rows y && !((scale ((-1:Int):Rat) (sv n y rows)).any λq=>decide (q<0))&&decide (0<sb y rows)
include h in
theorem yea(hi:yeu n rows y=true):(∀j,j<n->tj rows y j rows.length<=0)/\(∀k,k<rows.length->zIc (rows.getD k default) (el y k)=true)/\0<sb y rows:=by
 unfold yeu zId zxD at hi;rw[Z5,Z5,decide_eq_true_iff,YF,Ya,XO]at hi;obtain⟨⟨a,b⟩,c⟩:=hi;refine⟨λj hj=>?_,λk hk=>a k (Xb.2 hk),c⟩;have i:=yee (ys:=y) h;have:=b _ (Zj (zvn (r:=((-1:Int):Rat)) (zaH (xs:=sv n y rows) (j:=j) ω)));have f:¬((-1:Int):Rat)*el (sv n y rows) j<0:=λg=>this (ZG g)
 rw[yej y h hj]at f;have e:((-1:Int):Rat) = -1:=rfl;rw[e]at f;grind
include h in
theorem yeq(hk:Kinds rows)(hc:cost.length=n)(hi:yeu n rows y=true):znD cost rows x=false:=by
 obtain⟨a,b,c⟩:=yea h hi;rw[Bool.eq_false_iff];intro hf;obtain⟨m,g,i⟩:=ydT.1 hf;have h1:sb y rows<=zai rows.length (λk=>el y k*dot (rows.getD k default).coef x):=zUD λk e=>yed (hk _ (yd2 e)) (b k e) (i _ (yd2 e))
 rw[yd7 h]at h1;have l:=ydV (f:=λj=>(-1)*(tj rows y j rows.length*el x j)) (n:=n) λj hj=>by have:=Xt (show 0 <= -tj rows y j rows.length by have:=a j hj;grind) (g j);grind
 rw[za7]at l;grind
def yey (cost:List Rat) (rows:List PRow) (x d:List Rat):Bool:=znD cost rows x&&decide (d.length=x.length) && !(d.any λq=>decide (q<0))&&(rows.all λp=>zdH ⟨p.coef,p.kind,0⟩ d)&&decide (dot cost d<0)
theorem yec:yey cost rows x d=true↔znD cost rows x=true/\znD cost (rows.map λp=>⟨p.coef,p.kind,0⟩) d=true/\dot cost d<0:=by unfold yey;rw[Z5,Z5,Z5,Z5,decide_eq_true_iff,decide_eq_true_iff];unfold znD;rw[Z5,Z5,Z5,Z5,decide_eq_true_iff,decide_eq_true_iff,List.all_map];constructor;intro⟨⟨⟨⟨⟨⟨a,b⟩,c⟩,e⟩,f⟩,g⟩,i⟩;exact⟨⟨⟨a,b⟩,c⟩,⟨⟨ω,f⟩,g⟩,i⟩;intro⟨⟨⟨a,b⟩,c⟩,⟨⟨e,f⟩,g⟩,i⟩;exact⟨⟨⟨⟨⟨⟨a,b⟩,c⟩,ω⟩,f⟩,g⟩,i⟩
include h hc in
theorem yes(hk:Kinds rows)(o:yey cost rows x d=true):ydS n cost rows y=false:=by
 rw[Bool.eq_false_iff];intro m;obtain⟨b,c⟩:=(ydU h hc).1 m;obtain⟨_,u2,s⟩:=yec.1 o;obtain⟨r,e,i⟩:=ydT.1 u2;have h1:0<=zai rows.length (λk=>el y k*dot (rows.getD k default).coef d):=ydV λk a=>by have:=yed (p:=⟨(rows.getD k default).coef,(rows.getD k default).kind,0⟩) (x:=d) (q:=el y k) (hk (rows.getD k default) (yd2 a)) (c k a) (i _ (ZH.2 ⟨_,yd2 a,rfl⟩));rw[Rat.mul_zero]at this;exact this
 rw[yd7 h]at h1;have l:=zUD (f:=λj=>tj rows y j rows.length*el d j) (g:=λj=>el cost j*el d j) (n:=n) λj hj=>Vi (b j hj) (e j)
 rw[<-ydY hc]at l;grind
include h hc in
theorem yeU(hk:Kinds rows)(v:yey cost rows x d=true){t:Rat}(f:0<t):znD cost rows (zly x t d)=true/\dot cost (zly x t d)<dot cost x:=by
 obtain⟨u1,u2,D⟩:=yec.1 v;obtain⟨E,z,A⟩:=ydT.1 u1;obtain⟨B,s,u⟩:=ydT.1 u2;have C:(zly x t d).length=x.length:=zdt ω;have i:∀j,j<n->el (zly x t d) j=el x j+t*el d j:=λj hj=>zuD t ω ω
 have g:∀c:List Rat,c.length=n->dot c (zly x t d)=dot c x+t*dot c d:=λc lc=>by rw[ydY (x:=zly x t d) lc,ydY (x:=x) lc,ydY (x:=d) lc,<-za7,<-zcm];exact zaj λj hj=>by rw[i j hj];grind
 constructor;refine ydT.2 ⟨ω,λj=>?_,λp e=>?_⟩;by_cases hj:j<n;rw[i j hj];have:=Xt (XZ f) (s j);have:=z j;grind;rw[zDb ω];exact XG;have a:=A p e;have b:=u _ (ZH.2 ⟨p,e,rfl⟩);have r:zdp p (zly x t d)=zdp p x+t*zdp ⟨p.coef,p.kind,0⟩ d:=by unfold zdp;rw[g _ (h p e).1];grind
 have l:=hk p e;rw[yel l]at a ⊢;rw[yel (p:=⟨p.coef,p.kind,0⟩) l]at b;obtain⟨a1,a2,a3⟩:=a;obtain⟨m,o,q⟩:=b;rw[r];refine⟨λk=>?_,λk=>?_,λk=>?_⟩;have:=Xt (XZ f) (show 0 <= -zdp ⟨p.coef,p.kind,0⟩ d by have:=m k;grind);have:=a1 k;grind;have:=Xt (XZ f) (o k);have:=a2 k;grind;rw[a3 k,q k];grind;rw[g cost hc];have:=Rat.mul_pos f (show 0 < -dot cost d by grind);grind
include h in
theorem yem:yeu n rows y=true↔(∀j,j<n->tj rows y j rows.length<=0)/\(∀k,k<rows.length->zIc (rows.getD k default) (el y k)=true)/\0<sb y rows:=by refine⟨yea h,λ⟨a,b,c⟩=>?_⟩;unfold yeu zId zxD;rw[Z5,Z5,decide_eq_true_iff,YF,Ya,XO];refine⟨⟨λk hk=>b k (Xb.1 hk),λq l=>?_⟩,c⟩;obtain⟨j,hj⟩:=Xh.1 l;have f:=(ZF.1 hj).1;rw[zfH,yee h]at f;have e:=znd hj;rw[ydW,yej y h f]at e;have:=a j f;have g:((-1:Int):Rat) = -1:=rfl;rw[g]at e;intro i;have:=Xx i;grind
end
def yep (n:Nat) (cost:List Rat) (rows:List PRow) (y:List Rat):Bool:=decide (y.length=rows.length)&&ydS n cost rows y
def yeG (n:Nat) (cost:List Rat) (rows:List PRow) (x y:List Rat):Bool:=yep n cost rows y&&(znD cost rows x&&decide (sb y rows=dot cost x))
def yeD (n:Nat) (rows:List PRow) (y:List Rat):Bool:=decide (y.length=rows.length)&&yeu n rows y
def yei(h:yep n cost rows y=true):y.length=rows.length/\ydS n cost rows y=true:=by unfold yep at h;rw[Z5,decide_eq_true_iff]at h;exact h
def yeH(h:yep n cost rows y=false\/znD cost rows x=false):yeG n cost rows x y=false:=by unfold yeG;rcases h with h | h<;>rw[h]<;>simp
def yeI(hj:j<n)(h1:el x j≠0)(a:el (sv n y rows) j≠el cost j):ydZ n cost rows x y=false:=by unfold ydZ;rw[Vo,Vm];exact .inl ⟨j,Xb.2 hj,by rw[ZJ h1,ZJ a];decide⟩
def yeJ(hk:k<rows.length)(h1:zdp (rows.getD k default) x≠0)(a:el y k≠0):ydZ n cost rows x y=false:=by unfold ydZ;rw[Vo,Vm (l:=List.range rows.length)];exact .inr ⟨k,Xb.2 hk,by rw[ZJ h1,ZJ a];decide⟩
def yeL(h1:∀j,j<n->el x j=0\/el (sv n y rows) j=el cost j)(a:∀k,k<rows.length->zdp (rows.getD k default) x=0\/el y k=0):ydZ n cost rows x y=true:=by unfold ydZ;rw[Z5,XO,XO];refine⟨λj hj=>?_,λk hk=>?_⟩;rw[Bool.or_eq_true,decide_eq_true_iff,decide_eq_true_iff];exact h1 j (Xb.1 hj);rw[Bool.or_eq_true,decide_eq_true_iff,decide_eq_true_iff];exact a k (Xb.1 hk)
def yeF{z:List Rat}(h:Rows n rows)(hc:cost.length=n)(hk:Kinds rows)(hi:yeD n rows y=true):znD cost rows x=false/\yeG n cost rows x z=false/\yey cost rows x z=false:=by unfold yeD at hi;rw[Z5]at hi;have e:=yeq (x:=x) h hk hc hi.2;refine⟨e,yeH (.inr e),?_⟩;unfold yey;rw[e];rfl
def yeE{d:List Rat}(h:Rows n rows)(hc:cost.length=n)(hk:Kinds rows)(a:yey cost rows x d=true):yep n cost rows y=false:=by unfold yep;rw[yes h hc hk a,Bool.and_false]
attribute [local go_sem ↓] Go.wp_at_zero Go.wp_at_succ
def yet (w:World) (v:List Rat) (q:Rat) (b:Bool) (e:Ending) (w':World):Prop:=∃(S:OA) (ns cs:Nat) (g:Bool) (A:OA) (m c:Nat) (D:OA) (md cd:Nat),
  e=.returned (.tuple #[(S,ns,cs),.agg #[g,(A,m,c),(D,md,cd)],b])/\VecS w' w (S,ns,cs) v/\RatS w' g (A,m,c) (D,md,cd) q/\Below w w w'
namespace Ct
def yeM(C:OA)(nc cc:Nat)(R:OA)(nr c:Nat)(cost:List Rat)(rows:List PRow)(Y:OA)(a e:Nat)(y:List Rat)(w:World)(hc:VecS w 0 (C,nc,cc) cost)(hr:RowsS w 0 (R,nr,c) rows)(b:VecS w 0 (Y,a,e) y)(f:y.length≠rows.length) :
  Calls prog 56 #[.agg #[(C,nc,cc),(R,nr,c)],(Y,a,e)] w (yet w [] 0 false):=by
 have h1:¬((a:Int)=(nr:Int)):=by rw[b.len,hr.len];omega
 have g:¬a=nr:=by rw[b.len,hr.len];omega
 go_enter func56,ntmps56;go_wp2;refine Zi (v:=.tuple #[(),.agg #[false,(),()],false]) (by simp[results,results56,go_sem]) rfl ?_;exact⟨_,_,_,_,_,_,_,_,_,_,rfl,VecS.nil _ _,RatS.zero _,(zae w _).alloc σ _⟩
def yeN(C:OA)(nc cc:Nat)(R:OA)(nr cr:Nat)(cost:List Rat)(rows:List PRow)(Y:OA)(ny cy:Nat)(y:List Rat)(w:World)(hc:VecS w 0 (C,nc,cc) cost)(hr:RowsS w 0 (R,nr,cr) rows)(hy:VecS w 0 (Y,ny,cy) y)(hl:y.length=rows.length)(bP:nr<=4)(cV:nc<=1000)(ba:Rows nc rows)(zy:Sm y) :
  Calls prog 56 #[.agg #[(C,nc,cc),(R,nr,cr)],(Y,ny,cy)] w (yet w (sv nc y rows) (sb y rows) true):=by
 have bO:=hy.len;have a7:=hr.len;have en:nr=ny:=ω;subst en;refine μ6 hl a7 bP (show nc<=1048576 by omega) ba zy λHL HN aV aU af ZY=>?_;clear hl bO a7 ba zy;obtain⟨W,I⟩:∃W,((w.alloc (.cells #[(C,nc,cc),(R,nr,cr)] 33)).alloc (.cells #[false,(),()] 62))=W:=⟨_,rfl⟩
 refine μ6 (show θ W w.heap.size #[(C,nc,cc),(R,nr,cr)] 33by rw[<-I];exact zak (zam σ)) (show θ W (w.heap.size+1) #[false,(),()] 62by rw[<-I];exact zam σ) (show Below w w W by rw[<-I];exact(zae w _).alloc σ _) (show w.heap.size+2<=W.heap.size by rw[<-I];simp) (show VecS W 0 (Y,nr,cy) y by rw[<-I];exact((hy).alloc _).alloc _) (show RowsS W 0 (R,nr,cr) rows by rw[<-I];exact((hr).alloc _).alloc _) λa1 a2 BB HZ HY HR=>?_;obtain⟨dq,_,dr,dm⟩:=bc2 a1.o;clear hc hr hy;go_enter func56,ntmps56;go_wp2_with (at_make;go_must (refine zdv rfl _ _ rfl nc _ rfl rfl rfl aU.o W.heap.size rfl ?_;intro w1 ho F;have cY:=F.size;refine μ6 (zad F a1.o) (zad F a2.o) (HY.o.below F) (HR.o.below F) (show VecS w1 W.heap.size (.slice (some ⟨W.heap.size,0,none⟩) nc nc) (List.replicate nc 0)from ho) (BB.o.trans ((F).mono BB.o.size)) λan ad aw av HO aa=>?_;obtain⟨_,_,dp,du⟩:=bc2 an.o;have L:=zae w1 (.cells #[false,(),()] 62);refine μ5 (zad L an.o) (zad L ad.o) (aw.o.below L) (av.o.below L) (aa.o.trans ((L).mono aa.o.size)) λM G be bz aN=>?_;obtain⟨_,_,aK,aI⟩:=bc2 M.o;obtain⟨ap,am,_,aO,aq,al,aP,_,ar,ao,aR,_⟩:=bf3 G.o;clear ho F))
 clear I
 go_loopw [7,27] (λov i wr=>∃(k:Nat) (S:OA) (cs:Nat) (u:Bool) (j:OA) (E s:Nat) (l:OA) (B r:Nat),i=.int .i64 k/\ov=(S,nc,cs)/\k<=nr/\VecS wr W.heap.size (S,nc,cs) (zPA nc y rows k)/\θ wr w1.heap.size #[u,(j,E,s),(l,B,r)] 62/\RatS wr u (j,E,s) (l,B,r) (zPV y rows k)/\Below w1 w1 wr)
  (λ_ i _=>nr-(intOf i).toNat)
 case atStart=>exact⟨0,_,_,_,_,_,_,_,_,_,rfl,rfl,Zb _,HO.o.alloc _,zal _ _ _,RatS.zero _,zae w1 _⟩
 obtain⟨k,S,cs,u,j,E,s,l,B,r,rfl,rfl,hk,hV,aj,hP,a⟩:=hrel;by_cases a6:k<nr
 ·obtain⟨p,hp⟩:∃p,rows[k]? = some p:=⟨rows[k]'(by rw[<-HN.o];exact a6),Ze _⟩
  obtain⟨q,J⟩:∃q,y[k]? = some q:=⟨y[k]'(by rw[HL.o,<-HN.o];exact a6),Ze _⟩
  obtain⟨b,rfl,cQ,F⟩:=HR.o.has ω;obtain⟨by_,rfl,cR,cS⟩:=HY.o.has ω;obtain⟨Q,nq,t,g,A,m,c,D,z,o,k0,k1,k2,k3,k4,aE,a9⟩:=(av.o.below a).at_ hp;obtain⟨V,N,X,T,O,Z,U,l0,l1,l2,a4⟩:=(aw.o.below a).at_ J;refine μ4 hp J (af.o p (Zj hp)) (ZY.o q (Zj J)) λHP HQ P az=>?_;obtain rfl:nc=nq:=by rw[aE.len,P.o.1]
  refine μ11 (zad a an.o) (zad a ad.o) (aw.o.below a) (av.o.below a) (show VecS wr W.heap.size (S,nc,cs) (zPA nc y rows k)from hV) (show RatS wr u (j,E,s) (l,B,r) (zPV y rows k)from hP) (show RatS wr V (N,X,T) (O,Z,U) q from a4) (show VecS wr 0 (Q,nc,t) p.coef from aE) (show RatS wr g (A,m,c) (D,z,o) p.rhs from a9) (show Bel w1 wr from Bel.mk a) (aa.o.trans ((a).mono aa.o.size)) λM G be bz HV ay bG bI bF HW aN=>?_;obtain⟨_,_,aK,aI⟩:=bc2 M.o;obtain⟨ap,am,_,aO,aq,al,aP,_,ar,ao,aR,_⟩:=bf3 G.o;have bj:χ wr by_ (k*3) (.bool V):=l0;have bm:χ wr by_ (k*3+1) (N,X,T):=l1;have bn:χ wr by_ (k*3+2) (O,Z,U):=l2;have ag:=un aj;clear hV aj hP a hp J a4 aE a9 l0 l1 l2;refine μ4 (show(zPA nc y rows k).length=p.coef.length by rw[zPw af.o k (by rw[<-HN.o];exact hk),P.o.1]) (show ∀q∈zPA nc y rows k,mw q<=100000000 from λq J=>Zf (zPD af.o ZY.o k (by rw[<-HN.o];exact hk) q J) (by have:=aV.o;omega)) (show 4*(mw q+mw p.rhs)+8<=LIM by have:=az.o;have:=P.o.2.2;have:=zaP;omega) (show 4*(mw (zPV y rows k)+mw (q*p.rhs))+8<=LIM by have:=az.o;have:=P.o.2.2;have:=zaP;have:=zdI q p.rhs;have:=zQY af.o ZY.o k;have:=aV.o;omega) λax bK L1 L2=>?_;have cT:(0:Int)<=(k:Int):=Zg _;have cU:(k:Int)<(nr:Int):=ω;have f:=zae wr (.cells #[(Q,nc,t),.int .i64 p.kind,g,(A,m,c),(D,z,o)] 101);refine μ7 (zad f ag.o) (HV.o.below f) (ay.o.below f) (bG.o.below f) (bI.o.below f) (bF.o.below f) (HW.o.below f) λbx cH b8 bB cf cg cF=>?_;have cl:=zab f bj;have bU:=zaa cl;have cn:=zab f bm;have bW:=zaa cn;have cp:=zab f bn;have bY:=zaa cp;have co:χ (wr.alloc (.cells #[(Q,nc,t),.int .i64 p.kind,g,(A,m,c),(D,z,o)] 101)) wr.heap.size 0 (Q,nc,t):=zax rfl rfl;have b0:=zaa co;have cv:χ (wr.alloc (.cells #[(Q,nc,t),.int .i64 p.kind,g,(A,m,c),(D,z,o)] 101)) wr.heap.size 2 (.bool g):=zax rfl rfl;have b2:=zaa cv;have cA:χ (wr.alloc (.cells #[(Q,nc,t),.int .i64 p.kind,g,(A,m,c),(D,z,o)] 101)) wr.heap.size 3 (A,m,c):=zax rfl rfl;have b4:=zaa cA;have cC:χ (wr.alloc (.cells #[(Q,nc,t),.int .i64 p.kind,g,(A,m,c),(D,z,o)] 101)) wr.heap.size 4 (D,z,o):=zax rfl rfl;have b6:=zaa cC;go_wp2_with fail
  have bQ:w1.heap.size<wr.heap.size:=(ZU.1 ag.o).1
  go_region_held3 (λw'=>χ w' by_ (k*3) (.bool V)/\χ w' by_ (k*3+1) (N,X,T)/\χ w' by_ (k*3+2) (O,Z,U)/\χ w' wr.heap.size 0 (Q,nc,t)/\χ w' wr.heap.size 2 (.bool g)/\χ w' wr.heap.size 3 (A,m,c)/\χ w' wr.heap.size 4 (D,z,o))
   (((try go_split_ands);(try simp only[Xi]);(repeat' apply And.intro)<;>(repeat(first | with_reducible assumption | refine cell_set ω ?_ | refine cell_al ?_))))
   (first
    | (go_at_call 125;(refine(Vc.addTimes S nc cs (zPA nc y rows k) V N X T O Z U q Q nc t p.coef W.heap.size 0 _ cH.o.drew bB.o.drew cf.o.drew ax.o aU.o bK.o (Zf az.o δ) (λq J=>Zf (P.o.2.1 q J) δ)).mono ?_);rintro e v1 ⟨S2,ns2,cs2,rfl,hn,hb⟩;refine μ6 (zad hb bx.o) (b8.o.drew.below hb) (bB.o.drew.below hb) (cg.o.drew.below hb) (cF.o.drew.below hb) (show VecS v1 wr.heap.size (S2,ns2,cs2) (zly (zPA nc y rows k) q p.coef)from(hn.base (by show wr.heap.size<=(wr.alloc _).heap.size;simp))) λbp b9 ci ce cx aZ=>?_;obtain⟨eY,_,_,_,eZ,_,_,_,e5,_⟩:=bf3 bp.o;have cj:=zab hb bU;have bV:=zaa cj;have cm:=zab hb bW;have bX:=zaa cm;have ct:=zab hb bY;have bZ:=zaa ct;have cu:=zab hb b0;have b1:=zaa cu;have cw:=zab hb b2;have b3:=zaa cw;have cB:=zab hb b4;have b5:=zaa cB;have cD:=zab hb b6;have b7:=zaa cD;clear hn hb)
    | fail)
  go_wp2_with fail
  obtain rfl:nc=ns2:=by rw[aZ.o.len,zdt ax.o,ax.o,P.o.1]
  refine za2 (S:=λw'=>χ w' w1 0 (.bool u)/\χ w' w1 1 (j,E,s)/\χ w' w1 2 (l,B,r)/\χ w' by_ (k*3) (.bool V)/\χ w' by_ (k*3+1) (N,X,T)/\χ w' by_ (k*3+2) (O,Z,U)/\χ w' wr.heap.size 0 (Q,nc,t)/\χ w' wr.heap.size 2 (.bool g)/\χ w' wr.heap.size 3 (A,m,c)/\χ w' wr.heap.size 4 (D,z,o)) 11 (h:=λhHeld=>?_);refine zaw [0,1,2,3,4,5,6,7] ?_;repeat refine tkE hHeld ?_
  refine zao ?_;refine zaN 8 (h:=λK H=>?_);go_simp;(go_at_call 29;(refine(Rt.mul V N X T O Z U q g A m c D z o p.rhs _ ci.o.drew ce.o.drew L1.o).mono ?_);rintro e v2 ⟨g3,A3,m3,c3,D3,md3,cd3,rfl,hn,hb⟩;refine μ5 (zad hb bp.o) (b9.o.drew.below hb) (cx.o.drew.below hb) (aZ.o.drew.below hb) (show RatS v2 g3 (A3,m3,c3) (D3,md3,cd3) (q*p.rhs)from hn) λbq ca cG cO HM=>?_;obtain⟨fm,_,_,_,fn,_,_,_,fo,_⟩:=bf3 bq.o;have br:=zab hb bV;have bs:=zab hb bX;have bt:=zab hb bZ;have bu:=zab hb b1;have bv:=zab hb b3;have bw:=zab hb b5;have bA:=zab hb b7;clear hn hb);(try go_wp2_with fail);refine shutOn H λhHeld=>?_;clear H K;refine zaN 9 (h:=λK H=>?_);go_simp;(go_at_call 28;(refine(Rt.add u j E s l B r (zPV y rows k) g3 A3 m3 c3 D3 md3 cd3 (q*p.rhs) _ ca.o HM.o L2.o).mono ?_);rintro e v3 ⟨g4,A4,m4,c4,D4,md4,cd4,rfl,hn,hb⟩;refine μ4 (zad hb bq.o) (cG.o.below hb) (cO.o.below hb) (show RatS v3 g4 (A4,m4,c4) (D4,md4,cd4) (zPV y rows k+q*p.rhs)from hn) λau ch cP HS=>?_;obtain⟨fr,_,fA,_,fs,_,fB,_,ft,_,fC,_⟩:=bf3 au.o;have cE:=zab hb br;have cI:=zab hb bs;have cJ:=zab hb bt;have cK:=zab hb bu;have cL:=zab hb bv;have cM:=zab hb bw;have cN:=zab hb bA;clear hn hb);(try go_wp2_with fail);refine shutOn H λhHeld=>?_;clear H K;refine zaw [10] ?_;repeat refine tkE hHeld ?_
  refine zao ?_;refine zba (h:=λK H=>?_);go_simp;refine shutOff H ?_;clear H K;refine za1 (h:=?_)
  all_goals
   go_wp2;go_roundw
   case rel=>exact⟨k+1,S2,cs2,g4,A4,m4,c4,D4,md4,cd4,by go_num,rfl,ω,by rw[zQg HP.o HQ.o];exact(VecS.set3 cP.o au.o δ bQ 0 1 2 _ _ _).base ω,zar _ (zar _ (zar _ au.o)),by rw[zQd HP.o HQ.o];exact HS.o.set3 au.o δ _ _ _,(Bel.set3 ch.o (Za _) _ _ _).b⟩
   case measure=>simp[intOf];omega
 have bN:k=nr:=ω;refine μ7 (zad a an.o) (zad a ad.o) (aw.o.below a) (av.o.below a) (show VecS wr W.heap.size (S,nc,cs) (zPA nc y rows k)from hV) (show RatS wr u (j,E,s) (l,B,r) (zPV y rows k)from hP) (aa.o.trans ((a).mono aa.o.size)) λM G be bz HV ay aN=>?_;obtain⟨_,_,aK,aI⟩:=bc2 M.o;obtain⟨ap,am,_,aO,aq,al,aP,_,ar,ao,aR,_⟩:=bf3 G.o;have ag:=un aj;obtain⟨_,ec,_,ed,_,d1⟩:=bc3 ag.o;clear hV aj hP a;go_wp2_with fail
 go_region
 all_goals
  go_wp2;refine Zi (v:=.tuple #[(S,nc,cs),.agg #[u,(j,E,s),(l,B,r)],true]) (by simp[results,results56,go_sem,ap,am,aq,al,ar,ao]) rfl ?_;have h1:=VecS.set3 HV.o G.o δ (show w.heap.size+1<W.heap.size by have:=HZ.o;omega) 0 1 2 u (j,E,s) (l,B,r);have h2:=ay.o.set3 G.o δ u (j,E,s) (l,B,r);rw[bN,HN.o]at h1 h2;exact⟨_,_,_,_,_,_,_,_,_,_,rfl,(h1.base (by have:=HZ.o;omega)).drew,h2.drew,bdrew (bsc (bsc (bsc aN.o)))⟩
end Ct
def Vc.below_dear(A:OA)(n c:Nat)(nc:Nat)(cost:List Rat)(rows:List PRow)(y:List Rat)(H:Nat)(w:World)(h:VecS w H (A,n,c) (zly cost ((-1:Int):Rat) (sv nc y rows)))(b:Bool)(a:yew nc cost rows y=b) :
  Calls prog 60 #[(A,n,c)] w λe w'=>e=.returned b/\Below w w w':=by
 rw[<-a];exact Vc.below A n c _ H w h
namespace Ct
theorem yeB(C:OA)(nc cc:Nat)(R:OA)(nr a:Nat)(cost:List Rat)(rows:List PRow)(Y:OA)(g f:Nat)(y:List Rat)(w:World)(hc:VecS w 0 (C,nc,cc) cost)(hr:RowsS w 0 (R,nr,a) rows)(l:VecS w 0 (Y,g,f) y)(k:y.length≠rows.length) :
  Calls prog 38 #[.agg #[(C,nc,cc),(R,nr,a)],(Y,g,f)] w (zii w 0 false):=by
 have q:=un k;obtain⟨W,b⟩:∃W,((w.alloc (.cells #[(C,nc,cc),(R,nr,a)] 33)).alloc (.cells #[false,(),()] 62))=W:=⟨_,rfl⟩
 refine μ6 (show θ W w.heap.size #[(C,nc,cc),(R,nr,a)] 33by rw[<-b];exact zak (zam σ)) (show θ W (w.heap.size+1) #[false,(),()] 62by rw[<-b];exact zam σ) (show Below w w W by rw[<-b];exact(zae w _).alloc σ _) (show VecS W 0 (C,nc,cc) cost by rw[<-b];exact((hc).alloc _).alloc _) (show VecS W 0 (Y,g,f) y by rw[<-b];exact((l).alloc _).alloc _) (show RowsS W 0 (R,nr,a) rows by rw[<-b];exact((hr).alloc _).alloc _) λi j c o s r=>?_;obtain⟨K,_,L,_⟩:=bc2 i.o;obtain⟨_,_,_,S,_⟩:=bf3 j.o;go_enter func38,ntmps38;go_wp2_with fail
 refine(yeM C nc cc R nr a cost rows Y g f y _ o.o r.o s.o q.o).mono ?_;rintro e w1 ⟨S2,ns2,cs2,g2,A2,m2,c2,D2,md2,cd2,rfl,hv,hn,hb⟩;refine μ3 (show θ (w1.alloc (.cells #[g2,(A2,m2,c2),(D2,md2,cd2)] 62)) w.heap.size #[(C,nc,cc),(R,nr,a)] 33from zak (zad hb i.o)) (show θ (w1.alloc (.cells #[g2,(A2,m2,c2),(D2,md2,cd2)] 62)) (w.heap.size+1) #[false,(),()] 62from zak (zad hb j.o)) (show Below w w (w1.alloc (.cells #[g2,(A2,m2,c2),(D2,md2,cd2)] 62))from((c.o.trans ((hb).mono c.o.size))).alloc ((c.o.trans ((hb).mono c.o.size))).size _) λA m u=>?_;obtain⟨D,z,ai,_,E,t,af,_,B,F,ak,_⟩:=bf3 m.o;go_wp2;refine Zi (v:=.tuple #[.agg #[false,(),()],false]) (by simp[results,results38,go_sem,D,z,E,t,B,F]) rfl ?_;exact⟨_,_,_,_,_,_,_,rfl,(RatS.zero _).set3 m.o δ _ _ _,bsc (bsc (bsc u.o))⟩
def yeC(C:OA)(nc cc:Nat)(R:OA)(nr b:Nat)(cost:List Rat)(rows:List PRow)(Y:OA)(i g:Nat)(y:List Rat)(w:World)(hc:VecS w 0 (C,nc,cc) cost)(hr:RowsS w 0 (R,nr,b) rows)(Z:VecS w 0 (Y,i,g) y)(X:y.length=rows.length)(hg:Good nc nr cost rows)(zy:Sm y)(V:cost.length=nc) :
  Calls prog 38 #[.agg #[(C,nc,cc),(R,nr,b)],(Y,i,g)] w (zii w (if ydS nc cost rows y then sb y rows else 0) (ydS nc cost rows y)):=by
 refine μ5 X hg zy V (show rows.length<=4 by rw[<-hr.len];exact hg.hr) λO a U az aA=>?_;generalize hBB:ydS nc cost rows y=bb;generalize hBQ:(if bb=true then sb y rows else 0)=bq;have s:=un hBB;have t:=un hBQ;obtain⟨W,f⟩:∃W,((w.alloc (.cells #[(C,nc,cc),(R,nr,b)] 33)).alloc (.cells #[false,(),()] 62))=W:=⟨_,rfl⟩
 refine μ6 (show θ W w.heap.size #[(C,nc,cc),(R,nr,b)] 33by rw[<-f];exact zak (zam σ)) (show θ W (w.heap.size+1) #[false,(),()] 62by rw[<-f];exact zam σ) (show Below w w W by rw[<-f];exact(zae w _).alloc σ _) (show VecS W 0 (C,nc,cc) cost by rw[<-f];exact((hc).alloc _).alloc _) (show VecS W 0 (Y,i,g) y by rw[<-f];exact((Z).alloc _).alloc _) (show RowsS W 0 (R,nr,b) rows by rw[<-f];exact((hr).alloc _).alloc _) λS T m N Q P=>?_;obtain⟨bn,_,bo,_⟩:=bc2 S.o;go_enter func38,ntmps38;go_wp2_with fail
 refine(yeN C nc cc R nr b cost rows Y i g y _ N.o P.o Q.o O.o a.o.hr (Zf a.o.hc δ) a.o.rw_ U.o).mono ?_;rintro e w1 ⟨S2,ns2,cs2,g2,A2,m2,c2,D2,md2,cd2,rfl,hv,hn,hb⟩;refine μ9 (show θ (w1.alloc (.cells #[g2,(A2,m2,c2),(D2,md2,cd2)] 62)) w.heap.size #[(C,nc,cc),(R,nr,b)] 33from zak (zad hb S.o)) (show θ (w1.alloc (.cells #[g2,(A2,m2,c2),(D2,md2,cd2)] 62)) (w.heap.size+1) #[false,(),()] 62from zak (zad hb T.o)) (show VecS (w1.alloc (.cells #[g2,(A2,m2,c2),(D2,md2,cd2)] 62)) 0 (C,nc,cc) cost from(N.o.below hb).alloc _) (show VecS (w1.alloc (.cells #[g2,(A2,m2,c2),(D2,md2,cd2)] 62)) 0 (Y,i,g) y from(Q.o.below hb).alloc _) (show RowsS (w1.alloc (.cells #[g2,(A2,m2,c2),(D2,md2,cd2)] 62)) 0 (R,nr,b) rows from(P.o.below hb).alloc _) (show VecS (w1.alloc (.cells #[g2,(A2,m2,c2),(D2,md2,cd2)] 62)) 0 (S2,ns2,cs2) (sv nc y rows)from((hv.base (Zb _))).alloc _) (show RatS (w1.alloc (.cells #[g2,(A2,m2,c2),(D2,md2,cd2)] 62)) g2 (A2,m2,c2) (D2,md2,cd2) (sb y rows)from(hn).alloc _) (show Below w w (w1.alloc (.cells #[g2,(A2,m2,c2),(D2,md2,cd2)] 62))from((m.o.trans ((hb).mono m.o.size))).alloc ((m.o.trans ((hb).mono m.o.size))).size _) (show θ (w1.alloc (.cells #[g2,(A2,m2,c2),(D2,md2,cd2)] 62)) w1.heap.size #[g2,(A2,m2,c2),(D2,md2,cd2)] 62from zam σ) λak ah ax bd ar HV HS aj ao=>?_;obtain⟨bl,_,bm,_⟩:=bc2 ak.o;go_wp2_with fail
 refine(Pb.may C nc cc R nr b cost rows _ ax.o ar.o a.o.hc (Zf a.o.hr δ) a.o.rw_ a.o.kd).mono ?_;rintro e w2 ⟨rfl,hb⟩;refine μ9 (zad hb ak.o) (zad hb ah.o) (zad hb ao.o) (ax.o.below hb) (bd.o.below hb) (ar.o.below hb) (HV.o.below hb) (HS.o.below hb) (aj.o.trans ((hb).mono aj.o.size)) λai al aq ac aa aw bc aL am=>?_;obtain⟨bp,_,br,_⟩:=bc2 ai.o;obtain⟨_,_,_,_,_,cd⟩:=bc3 aq.o;go_wp2_with fail
 refine(signed C nc cc R nr b cost rows Y i g y _ ac.o aw.o aa.o O.o (Zf a.o.hr δ)).mono ?_;rintro e w3 ⟨rfl,hb⟩;refine μ7 (zad hb ai.o) (zad hb al.o) (zad hb aq.o) (ac.o.below hb) (bc.o.below hb) (aL.o.below hb) (am.o.trans ((hb).mono am.o.size)) λan G au ad av aM A=>?_;obtain⟨cn,_⟩:=bc2 an.o;obtain⟨a4,aS,cO,_,a5,aT,cL,_,a6,aX,cM,_⟩:=bf3 G.o;cases hsg:zId rows y
 ·have k:ydS nc cost rows y=false:=by unfold ydS;rw[hsg];rfl
  go_wp2;refine Zi (v:=.tuple #[.agg #[false,(),()],false]) (by simp[results,results38,go_sem,a4,aS,a5,aT,a6,aX]) rfl ?_;have c:bb=false:=s.o.symm.trans k;have j:bq=0:=by rw[<-t.o,c];rfl
  subst c j;exact⟨_,_,_,_,_,_,_,rfl,(RatS.zero _).set3 G.o δ _ _ _,bsc (bsc (bsc A.o))⟩
 skip
 go_wp2_with fail
 refine(Vc.sub C nc cc cost S2 ns2 cs2 (sv nc y rows) 0 0 _ ad.o av.o (by rw[yee a.o.rw_,az.o]) (Zf a.o.hc δ) (λq hq=>Zf (a.o.sc q hq) δ) (yeT a.o.rw_ U.o aA.o)).mono ?_;rintro e w4 ⟨T3,nt3,ct3,rfl,hv,hb⟩;refine μ5 (zad hb G.o) (zad hb au.o) (aM.o.below hb) (show VecS w4 0 (T3,nt3,ct3) (zly cost ((-1:Int):Rat) (sv nc y rows))from(hv.base (Zb _))) (A.o.trans ((hb).mono A.o.size)) λz I ae o r=>?_;obtain⟨_,_,_,_,_,_,_,_,_,_,_,cs⟩:=bf3 z.o;go_wp2_with fail
 cases hde:yew nc cost rows y
 ·have k:ydS nc cost rows y=true:=by unfold ydS;rw[hsg,hde];rfl
  refine(Vc.below_dear T3 nt3 ct3 nc cost rows y 0 _ o.o false hde).mono ?_;rintro e w5 ⟨rfl,hb⟩;refine μ4 (zad hb z.o) (zad hb I.o) (ae.o.below hb) (r.o.trans ((hb).mono r.o.size)) λl J ag D=>?_;obtain⟨K,E,a1,_,L,F,a2,_,M,H,a3,_⟩:=bf3 l.o;obtain⟨a7,_,a8,_,a9,_⟩:=bc3 J.o;go_wp2;refine Zi (v:=.tuple #[.agg #[g2,(A2,m2,c2),(D2,md2,cd2)],true]) (by simp[results,results38,go_sem,K,E,L,F,M,H]) rfl ?_;have c:bb=true:=s.o.symm.trans k;have j:bq=sb y rows:=by rw[<-t.o,c];rfl
  subst c j;exact⟨_,_,_,_,_,_,_,rfl,ag.o.set3 l.o δ _ _ _,bsc (bsc (bsc D.o))⟩
 have k:ydS nc cost rows y=false:=by unfold ydS;rw[hsg,hde];rfl
 refine(Vc.below_dear T3 nt3 ct3 nc cost rows y 0 _ o.o true hde).mono ?_;rintro e w5 ⟨rfl,hb⟩;refine μ4 (zad hb z.o) (zad hb I.o) (ae.o.below hb) (r.o.trans ((hb).mono r.o.size)) λl J ag D=>?_;obtain⟨K,E,a1,_,L,F,a2,_,M,H,a3,_⟩:=bf3 l.o;obtain⟨a7,_,a8,_,a9,_⟩:=bc3 J.o;go_wp2;refine Zi (v:=.tuple #[.agg #[false,(),()],false]) (by simp[results,results38,go_sem,K,E,L,F,M,H]) rfl ?_;have c:bb=false:=s.o.symm.trans k;have j:bq=0:=by rw[<-t.o,c];rfl
 subst c j;exact⟨_,_,_,_,_,_,_,rfl,(RatS.zero _).set3 l.o δ _ _ _,bsc (bsc (bsc D.o))⟩
end Ct
namespace Ct
open Pb (zPu)
def bounds_yes(C:OA)(nc cc:Nat)(R:OA)(nr a:Nat)(cost:List Rat)(rows:List PRow)(Y:OA)(c b:Nat)(y:List Rat)(w:World)(hc:VecS w 0 (C,nc,cc) cost)(hr:RowsS w 0 (R,nr,a) rows)(i:VecS w 0 (Y,c,b) y)(g:y.length=rows.length)(hg:Good nc nr cost rows)(zy:Sm y)(f:cost.length=nc)(e:ydS nc cost rows y=true) :
  Calls prog 38 #[.agg #[(C,nc,cc),(R,nr,a)],(Y,c,b)] w (zii w (sb y rows) true):=by
 have h:=yeC C nc cc R nr a cost rows Y c b y w hc hr i g hg zy f;rw[e]at h;exact h
def yxe(C:OA)(nc cc:Nat)(R:OA)(nr a:Nat)(cost:List Rat)(rows:List PRow)(Y:OA)(g c:Nat)(y:List Rat)(w:World)(hc:VecS w 0 (C,nc,cc) cost)(hr:RowsS w 0 (R,nr,a) rows)(j:VecS w 0 (Y,g,c) y)(hg:Good nc nr cost rows)(zy:Sm y)(k:cost.length=nc)(b:Bool)(i:yep nc cost rows y=b) :
  Calls prog 38 #[.agg #[(C,nc,cc),(R,nr,a)],(Y,g,c)] w (zii w (if b then sb y rows else 0) b):=by
 by_cases f:y.length=rows.length;have h:=yeC C nc cc R nr a cost rows Y g c y w hc hr j f hg zy k;have e:ydS nc cost rows y=b:=by rw[<-i];unfold yep;rw[ZG f];rfl
 rw[e]at h;exact h;have e:b=false:=by rw[<-i];unfold yep;rw[ZJ f];rfl
 grind[yeB]
def yi8(C:OA)(nc cc:Nat)(R:OA)(nr a:Nat)(cost:List Rat)(rows:List PRow)(X:OA)(f c:Nat)(x:List Rat)(w:World)(hc:VecS w 0 (C,nc,cc) cost)(hr:RowsS w 0 (R,nr,a) rows)(g:VecS w 0 (X,f,c) x)(hg:Good nc nr cost rows)(zx:Sm x)(b:Bool)(hf:znD cost rows x=b) :
  Calls prog 54 #[.agg #[(C,nc,cc),(R,nr,a)],(X,f,c)] w λe w'=>e=.returned b/\Below w w w':=by
 rw[<-hf];exact Pb.fits C nc cc R nr a cost rows X f c x w hc hr g (Zf hg.hc δ) hg.rw_ zx (Zf hg.hr δ)
def yi7(C:OA)(nc cc:Nat)(R:OA)(nr b:Nat)(cost:List Rat)(rows:List PRow)(X:OA)(i g:Nat)(x:List Rat)(Y:OA)(m l:Nat)(y:List Rat)(w:World)(hc:VecS w 0 (C,nc,cc) cost)(hr:RowsS w 0 (R,nr,b) rows)(M:VecS w 0 (X,i,g) x)(N:VecS w 0 (Y,m,l) y)(hg:Good nc nr cost rows)(zy:Sm y)(zx:Sm x)(E:cost.length=nc) :
  Calls prog 14 #[.agg #[(C,nc,cc),(R,nr,b)],(X,i,g),(Y,m,l)] w λe w'=>e=.returned (.bool (yeG nc cost rows x y))/\Below w w w':=by
 refine μ5 hg zy zx E (show 4*(mw (sb y rows)+mw (dot cost x))+8<=LIM by have:=yeX hg.rw_ zy (by rw[<-hr.len];exact hg.hr);have:=zDI hg.sc zx (by rw[E];have:=hg.hc;omega);have:=zaP;omega) λf L B H L1=>?_;generalize hob:yeG nc cost rows x y=ob;have z:=un hob;obtain⟨W,c⟩:∃W,(w.alloc (.cells #[(C,nc,cc),(R,nr,b)] 33))=W:=⟨_,rfl⟩
 refine μ6 (show θ W w.heap.size #[(C,nc,cc),(R,nr,b)] 33by rw[<-c];exact zam σ) (show Below w w W by rw[<-c];exact zae w _) (show VecS W 0 (C,nc,cc) cost by rw[<-c];exact(hc).alloc _) (show RowsS W 0 (R,nr,b) rows by rw[<-c];exact(hr).alloc _) (show VecS W 0 (X,i,g) x by rw[<-c];exact(M).alloc _) (show VecS W 0 (Y,m,l) y by rw[<-c];exact(N).alloc _) λA s t u J K=>?_;obtain⟨am,_,an,_⟩:=bc2 A.o;go_enter func14,ntmps14;go_wp2_with fail
 cases hbb:yep nc cost rows y
 ·have k:=un (show ob=false by rw[<-z.o];exact yeH (.inl hbb));refine(yxe C nc cc R nr b cost rows Y m l y _ t.o u.o K.o f.o L.o H.o false hbb).mono ?_
  rintro e w1 ⟨g2,A2,m2,c2,D2,md2,cd2,rfl,hn,hb⟩;have a:=(hb).alloc (hb).size (.cells #[g2,(A2,m2,c2),(D2,md2,cd2)] 62);refine μ6 (zad a A.o) (t.o.below a) (u.o.below a) (J.o.below a) (s.o.trans ((a).mono s.o.size)) (zal w1 #[g2,(A2,m2,c2),(D2,md2,cd2)] 62) λo r q p j F=>?_;obtain⟨ae,_,af,_⟩:=bc2 o.o;go_wp2;go_ret;exact⟨by rw[k.o];first | done | rfl,j.o⟩
 skip
 refine(yxe C nc cc R nr b cost rows Y m l y _ t.o u.o K.o f.o L.o H.o true hbb).mono ?_;rintro e w1 ⟨g2,A2,m2,c2,D2,md2,cd2,rfl,hn,hb⟩;have a:=(hb).alloc (hb).size (.cells #[g2,(A2,m2,c2),(D2,md2,cd2)] 62);refine μ7 (zad a A.o) (t.o.below a) (u.o.below a) (J.o.below a) (show RatS (w1.alloc (.cells #[g2,(A2,m2,c2),(D2,md2,cd2)] 62)) g2 (A2,m2,c2) (D2,md2,cd2) (sb y rows)from(hn).alloc _) (s.o.trans ((a).mono s.o.size)) (zal w1 #[g2,(A2,m2,c2),(D2,md2,cd2)] 62) λo r q p I j F=>?_;obtain⟨ae,_,af,_⟩:=bc2 o.o;go_wp2_with fail
 cases hf:znD cost rows x
 ·have k:=un (show ob=false by rw[<-z.o];exact yeH (.inr hf));refine(yi8 C nc cc R nr b cost rows X i g x _ r.o q.o p.o f.o B.o false hf).mono ?_
  rintro e w2 ⟨rfl,hb⟩;refine μ7 (zad hb o.o) (zad hb F.o) (r.o.below hb) (q.o.below hb) (p.o.below hb) (I.o.below hb) (j.o.trans ((hb).mono j.o.size)) λG S Q U V P v=>?_;obtain⟨ag,_,ah,_⟩:=bc2 G.o;go_wp2;go_ret;exact⟨by rw[k.o];first | done | rfl,v.o⟩
 have k:=un (show zA9 (sb y rows) (dot cost x)=ob by rw[<-z.o];unfold yeG;rw[hbb,hf];rfl);have aa:=un (show cost.length=x.length from(ydT.1 hf).1.symm);refine(yi8 C nc cc R nr b cost rows X i g x _ r.o q.o p.o f.o B.o true hf).mono ?_;rintro e w2 ⟨rfl,hb⟩;refine μ7 (zad hb o.o) (zad hb F.o) (r.o.below hb) (q.o.below hb) (p.o.below hb) (I.o.below hb) (j.o.trans ((hb).mono j.o.size)) λG S Q U V P v=>?_;obtain⟨ag,_,ah,_⟩:=bc2 G.o;go_wp2_with fail
 refine(zPu C nc cc R nr b cost rows X i g x _ Q.o U.o V.o aa.o (Zf f.o.hc δ) f.o.sc B.o).mono ?_;rintro e O ⟨g3,A3,m3,c3,D3,md3,cd3,rfl,hn,hb⟩;have D:=(hb).alloc (hb).size (.cells #[g3,(A3,m3,c3),(D3,md3,cd3)] 62);refine μ5 (zad D S.o) (P.o.below D) (show RatS (O.alloc (.cells #[g3,(A3,m3,c3),(D3,md3,cd3)] 62)) g3 (A3,m3,c3) (D3,md3,cd3) (dot cost x)from(hn).alloc _) (v.o.trans ((D).mono v.o.size)) (zal O #[g3,(A3,m3,c3),(D3,md3,cd3)] 62) λaj ad Z T ak=>?_;obtain⟨ao,_,ap,_,aq,_⟩:=bc3 aj.o;obtain⟨ar,_,au,_,av,_⟩:=bc3 ak.o;go_wp2_with fail
 refine(Rt.same g2 A2 m2 c2 D2 md2 cd2 (sb y rows) g3 A3 m3 c3 D3 md3 cd3 (dot cost x) _ ad.o Z.o L1.o).mono ?_;rintro e w4 ⟨rfl,hb⟩;have ai:=un (T.o.trans ((hb).mono T.o.size));go_wp2;go_ret;exact⟨by rw[k.o];first | done | rfl,ai.o⟩
def optimal(C:OA)(nc cc:Nat)(R:OA)(nr a:Nat)(cost:List Rat)(rows:List PRow)(X:OA)(f b:Nat)(x:List Rat)(Y:OA)(g c:Nat)(y:List Rat)(w:World)(hc:VecS w 0 (C,nc,cc) cost)(hr:RowsS w 0 (R,nr,a) rows)(m:VecS w 0 (X,f,b) x)(o:VecS w 0 (Y,g,c) y)(l:y.length=rows.length)(hg:Good nc nr cost rows)(zy:Sm y)(zx:Sm x)(j:cost.length=nc)(i:ydS nc cost rows y=true)(hf:znD cost rows x=true)(_:cost.length=x.length)(k:sb y rows=dot cost x) :
  Calls prog 14 #[.agg #[(C,nc,cc),(R,nr,a)],(X,f,b),(Y,g,c)] w λe w'=>e=.returned true/\Below w w w':=by
 have h:=yi7 C nc cc R nr a cost rows X f b x Y g c y w hc hr m o hg zy zx j;rw[show yeG nc cost rows x y=true by unfold yeG yep;rw[i,hf,ZG l,ZG k];rfl]at h;exact h
def y0f(C:OA)(nc cc:Nat)(R:OA)(nr f:Nat)(cost:List Rat)(rows:List PRow)(Y:OA)(j g:Nat)(y:List Rat)(w:World)(hc:VecS w 0 (C,nc,cc) cost)(hr:RowsS w 0 (R,nr,f) rows)(H:VecS w 0 (Y,j,g) y)(hg:Good nc nr cost rows)(zy:Sm y) :
  Calls prog 15 #[.agg #[(C,nc,cc),(R,nr,f)],(Y,j,g)] w λe w'=>e=.returned (.bool (yeD nc rows y))/\Below w w w':=by
 refine μ3 hg zy (show rows.length<=4 by rw[<-hr.len];exact hg.hr) λa G T=>?_;generalize hob:yeD nc rows y=ob;have k:=un hob;obtain⟨W,i⟩:∃W,(w.alloc (.cells #[(C,nc,cc),(R,nr,f)] 33))=W:=⟨_,rfl⟩
 refine μ5 (show θ W w.heap.size #[(C,nc,cc),(R,nr,f)] 33by rw[<-i];exact zam σ) (show Below w w W by rw[<-i];exact zae w _) (show VecS W 0 (C,nc,cc) cost by rw[<-i];exact(hc).alloc _) (show RowsS W 0 (R,nr,f) rows by rw[<-i];exact(hr).alloc _) (show VecS W 0 (Y,j,g) y by rw[<-i];exact(H).alloc _) λz o p s t=>?_;obtain⟨ay,_,az,_⟩:=bc2 z.o;go_enter func15,ntmps15;go_wp2_with fail
 by_cases A:y.length=rows.length
 ·have r:=un A;refine(yeN C nc cc R nr f cost rows Y j g y _ p.o s.o t.o r.o a.o.hr (Zf a.o.hc δ) a.o.rw_ G.o).mono ?_
  rintro e w1 ⟨S2,ns2,cs2,g2,A2,m2,c2,D2,md2,cd2,rfl,hv,hn,hb⟩;have b:=(hb).alloc (hb).size (.cells #[g2,(A2,m2,c2),(D2,md2,cd2)] 62);refine μ8 (zad b z.o) (p.o.below b) (s.o.below b) (t.o.below b) (show VecS (w1.alloc (.cells #[g2,(A2,m2,c2),(D2,md2,cd2)] 62)) 0 (S2,ns2,cs2) (sv nc y rows)from((hv.base (Zb _))).alloc _) (show RatS (w1.alloc (.cells #[g2,(A2,m2,c2),(D2,md2,cd2)] 62)) g2 (A2,m2,c2) (D2,md2,cd2) (sb y rows)from(hn).alloc _) (o.o.trans ((b).mono o.o.size)) (zal w1 #[g2,(A2,m2,c2),(D2,md2,cd2)] 62) λv F D O U S u J=>?_;obtain⟨ai,_,aj,_⟩:=bc2 v.o;go_wp2_with fail
  refine(Pb.may C nc cc R nr f cost rows _ F.o D.o a.o.hc (Zf a.o.hr δ) a.o.rw_ a.o.kd).mono ?_;rintro e w2 ⟨rfl,hb⟩;refine μ8 (zad hb v.o) (zad hb J.o) (F.o.below hb) (D.o.below hb) (O.o.below hb) (U.o.below hb) (S.o.below hb) (u.o.trans ((hb).mono u.o.size)) λah ak ae ar ad ap ac K=>?_;obtain⟨aA,_,aB,_⟩:=bc2 ah.o;go_wp2_with fail
  refine(signed C nc cc R nr f cost rows Y j g y _ ae.o ar.o ad.o r.o (Zf a.o.hr δ)).mono ?_;rintro e w3 ⟨rfl,hb⟩;refine μ4 (zad hb ak.o) (ap.o.below hb) (ac.o.below hb) (K.o.trans ((hb).mono K.o.size)) λan aq ag B=>?_;cases hsg:zId rows y
  ·have c:=un (show ob=false by rw[<-k.o];unfold yeD yeu;rw[hsg];simp);go_wp2;go_ret
   exact⟨by rw[c.o];first | done | rfl,B.o⟩
  skip
  go_wp2_with fail
  refine(Rt.int (-1) δ δ _).mono ?_;rintro e X ⟨g3,A3,m3,c3,D3,md3,cd3,rfl,hn,hb⟩;refine μ5 (zad hb an.o) (aq.o.below hb) (ag.o.below hb) (show RatS X g3 (A3,m3,c3) (D3,md3,cd3) ((-1:Int):Rat)from hn) (B.o.trans ((hb).mono B.o.size)) λal N af P L=>?_;go_wp2_with fail
  refine(Vc.scale g3 A3 m3 c3 D3 md3 cd3 ((-1:Int):Rat) S2 ns2 cs2 (sv nc y rows) 0 _ N.o P.o (by rw[(N.o).len,yee a.o.rw_];have:=a.o.hc;omega) (yeT a.o.rw_ G.o T.o) (Zf (zu9 _ (by constructor<;>decide)) δ)).mono ?_;rintro e Z ⟨T3,nt3,ct3,rfl,hv,hb⟩;refine μ4 (zad hb al.o) (af.o.below hb) (show VecS Z 0 (T3,nt3,ct3) (scale ((-1:Int):Rat) (sv nc y rows))from(hv.base (Zb _))) (L.o.trans ((hb).mono L.o.size)) λam ab Q M=>?_;go_wp2_with fail
  refine(Vc.below T3 nt3 ct3 _ 0 _ Q.o).mono ?_;rintro e w6 ⟨rfl,hb⟩;refine μ3 (zad hb am.o) (ab.o.below hb) (M.o.trans ((hb).mono M.o.size)) λao I m=>?_;obtain⟨aC,_,aD,_,aE,_⟩:=bc3 ao.o;cases hd:((scale ((-1:Int):Rat) (sv nc y rows)).any λq=>decide (q<0))
  ·skip
   go_wp2_with fail
   by_cases l:0<sb y rows
   ·have c:=un (show ob=true by rw[<-k.o];unfold yeD yeu;rw[ZG r.o,hsg,hd,ZG l];rfl);have V:=(zPt (sb y rows)).2 l;refine(Rt.sign g2 A2 m2 c2 D2 md2 cd2 (sb y rows) _ I.o).mono ?_
    rintro e w7 ⟨rfl,hb⟩;have E:=un (m.o.trans ((hb).mono m.o.size));go_wp2;go_ret;exact⟨by rw[c.o];first | done | rfl,E.o⟩
   have c:=un (show ob=false by rw[<-k.o];unfold yeD yeu;rw[ZG r.o,hsg,hd,ZJ l];rfl);have V:decide (0<(sb y rows).num.sign)=false:=ZJ λh=>l ((zPt (sb y rows)).1 h)
   have au:decide (0<(sb y rows).num)=false:=ZJ λh=>l ((zPs (sb y rows)).1 h)
   refine(Rt.sign g2 A2 m2 c2 D2 md2 cd2 (sb y rows) _ I.o).mono ?_;rintro e w7 ⟨rfl,hb⟩;have E:=un (m.o.trans ((hb).mono m.o.size));go_wp2;go_ret;exact⟨by rw[c.o];first | done | rfl,E.o⟩
  have c:=un (show ob=false by rw[<-k.o];unfold yeD yeu;rw[hd];simp);go_wp2;go_ret;exact⟨by rw[c.o];first | done | rfl,m.o⟩
 have c:=un (show ob=false by rw[<-k.o];unfold yeD;rw[ZJ A];rfl);refine(yeM C nc cc R nr f cost rows Y j g y _ p.o s.o t.o A).mono ?_;rintro e w1 ⟨S2,ns2,cs2,g2,A2,m2,c2,D2,md2,cd2,rfl,hv,hn,hb⟩;have b:=(hb).alloc (hb).size (.cells #[g2,(A2,m2,c2),(D2,md2,cd2)] 62);refine μ6 (zad b z.o) (p.o.below b) (s.o.below b) (t.o.below b) (o.o.trans ((b).mono o.o.size)) (zal w1 #[g2,(A2,m2,c2),(D2,md2,cd2)] 62) λv F D O u J=>?_;obtain⟨ai,_,aj,_⟩:=bc2 v.o;go_wp2;go_ret;exact⟨by rw[c.o];first | done | rfl,u.o⟩
def infeasible(C:OA)(nc cc:Nat)(R:OA)(nr a:Nat)(cost:List Rat)(rows:List PRow)(Y:OA)(c b:Nat)(y:List Rat)(w:World)(hc:VecS w 0 (C,nc,cc) cost)(hr:RowsS w 0 (R,nr,a) rows)(k:VecS w 0 (Y,c,b) y)(g:y.length=rows.length)(hg:Good nc nr cost rows)(zy:Sm y)(j:zId rows y=true)(f:((scale ((-1:Int):Rat) (sv nc y rows)).any λq=>decide (q<0))=false)(i:0<sb y rows) :
  Calls prog 15 #[.agg #[(C,nc,cc),(R,nr,a)],(Y,c,b)] w λe w'=>e=.returned true/\Below w w w':=by
 have h:=y0f C nc cc R nr a cost rows Y c b y w hc hr k hg zy;rw[show yeD nc rows y=true by unfold yeD yeu;rw[ZG g,j,f,ZG i];rfl]at h;exact h
end Ct
end Go.Proofs.YtbpjabgfcbjjmaaGreat
namespace Go.Proofs.YtbpjabgfcbjjmaaGreat
open Go.RowKit Am Go.Proofs.Tryz
attribute [local go_sem ↓] Go.wp_at_zero Go.wp_at_succ
variable {A:List (List Rat)}{may:List Bool}{cols cs:List Nat}{b c:List Rat}{B N S f j k m n own:Nat}{w:World}
def zqq(h:j ∉ cols):(j:Int) ∉ cols.map fun(x:Nat)=>(x:Int):=ψ
def zhf.tkT{w':World}{H q:Nat}{C:List (List Rat)}{tb:Option Nat}(h:zhf w H q n S C tb)(hk:TKeep 202 w w'):zhf w' H q n S C tb:=h.tk hk δ δ δ δ δ δ δ
section
variable {W0 w:World} {H q:Nat} {rA:OA} {rc:Nat} {lA:List Value} {bA:OA} {bc_:Nat} {kA:OA} {kc:Nat} {eA:OA} {ec m N S own:Nat} {A:List (List Rat)} {b c:List Rat} {left:List Int}
  {tA:OA} {tc:Nat} {cols:List Nat}
namespace Tb
def swap(h:zhi W0 w H q rA rc lA bA bc_ kA kc eA ec m N S own A b c left tA tc cols)(k j:Nat)(hk:k<m)(hj:j<N)(G:el (zav A cols j) k≠0)(aa:j ∉ cols)(W:zor m S<=LIM) :
  Calls prog 123 #[.pointer (some ⟨q,0,none⟩),(k:Int),(j:Int)] w λe w'=>e=.returned .nilIface/\zhi W0 w' H q rA rc lA bA bc_ kA kc eA ec m N S own A b c left tA tc (cols.set k j)/\Below H w w'/\Kept TT (Value.slice tA m tc).ownBlock w w':=by
 obtain⟨qb,xA,xc,n⟩:=h;have a:=un n;have aH:=n.std.hm;have aE:=n.std.hN;have L:=un (Zl w.heap.size w);obtain⟨k0,_,f,_,_,_,_,_,_,_,_,_,k6,aJ,k7,_⟩:=bc9 n.blk;refine μ6 hj hk (show el (zes m (bc A cols) (zb4 A j)) k≠0 by have h:=G;unfold zav at h;rw[a.o.basis.len]at h;exact h) (a.o.basis.swap hk hj G) W a.o.hle λO HK an s M ai=>?_;have X:=ZJ (zqq aa);have HD:=un X;have aF:(0:Int)<=(k:Int):=Zg _;have aG:(k:Int)<(m:Int):=ω;have h1:decide ((k:Int)<0)=false:=σ;have h2:decide (m<=k)=false:=by simp;omega
 obtain⟨d,ap,aq,ar⟩:=a.o.colsI.has ω;subst ap;have D:cols[k]? = some (cols[k]'(by rw[a.o.basis.len];exact hk)):=Ze _;generalize cols[k]'(by rw[a.o.basis.len];exact hk)=x0 at D;have ag:=un D;go_enter func123,ntmps123;go_wp2_with fail
 refine(Mt.col N m rc rA lA A 0 j _ a.o.stdN.rows a.o.std.rl O.o ω ω).mono ?_
 rintro e w1 ⟨B,n1,c1,rfl,hv1,hb⟩;refine μ3 (a.o.below hb) (hv1) (L.o.trans ((hb).mono L.o.size)) λac P ab=>?_;have aS:=zab hb k6;have aC:=zab hb k7;obtain rfl:m=n1:=by rw[P.o.len,zbH,<-a.o.std.rows.nlen]
 go_wp2_with fail
 refine(Sl.has (some ⟨d,0,none⟩) m tc (cols.map fun(x:Nat)=>(x:Int)) (j:Int) H _ (ac.o.colsI.toZ)).mono ?_
 rintro e w2 ⟨rfl,hb⟩;refine μ3 (ac.o.below hb) (P.o.below hb) (ab.o.trans ((hb).mono ab.o.size)) λJ aA aB=>?_;have aT:=zab hb aC;rw[HD.o];have v:=un (aB.o);go_wp2_with fail
 refine(Bs.replace H qb m S k (bc A cols) B c1 (zb4 A j) w.heap.size _ (some d) (λg hg=>by injection hg with hg;subst hg;exact Yc ar v.o.size) J.o.basO aA.o ω HK.o (a.o.std.zcol O.o) a.o.std.hS an.o (ziY M.o)).mono ?_;rintro e I ⟨rfl,hs,hb,hkp⟩;refine μ5 (show zhf I H qb m S (bc A (cols.set k j)) (some d)by rw[zq6];exact hs) ((v.o.mono ai.o).trans hb) ((Kept.of_below v.o).trans hkp) (hkp.blk J.o.blk δ δ) (hkp.ints δ J.o.colsI (λg _=>σ)) λaf ad al T t=>?_;have z0:=t.o.at_ ag.o;have zf:=t.o.fro k;obtain⟨_,_,_,_,_,_,_,_,_,_,_,_,q6,_⟩:=bc9 T.o;go_upto_region 7 with fail
 go_cut[] (λwy=>θ wy q #[(rA,m,rc),(N:Int),(bA,m,bc_),(kA,N,kc),(own:Int),(eA,m,ec),(d,m,tc),.pointer (some ⟨qb,0,none⟩),(xA,m,xc)] 202/\IntsS wy H (d,m,tc) (cols.set k j)/\zhf wy H qb m S (bc A (cols.set k j)) (some d)/\Below H w wy/\Kept TT (some d) w wy)
 case first=>as_aux_lemma =>
  go_wp2;go_meet;obtain⟨cs,E⟩:=t.o.blk;have f:TKeep 3 I (I.setCell ⟨d,k,none⟩ (j:Int)):=TKeep.set E _
  case rel=>exact⟨f.blk T.o δ,t.o.store k j,af.o.setI E _,ad.o.setCell (p:=⟨d,k,none⟩) aq _,(al.o.any δ).trans (Kept.setInt E _)⟩
 rename World=>wy
 obtain⟨F,Y,V,C,Z⟩:=hcut;refine μ6 F Y V C Z (a.o.std.below (a.o.bel.trans (C.mono a.o.base))) λKQ aj y ae am z=>?_;obtain⟨_,_,_,_,_,_,_,_,p2,aw,_,_,_,_,_,_,_,_,_,_,_,_,_,_,_,_,_,_,p7,ax,_,_,_,ay,_⟩:=bf9 F;have R:=un y.o.hle;go_wp2_with fail
 refine zaS (S:=λw'=>χ w' q 2 (bA,m,bc_)/\χ w' q 7 (.pointer (some ⟨qb,0,none⟩))) [16] (h:=λhHeld=>?_);refine zaw [0,1,2,3,4,5,6,7,8,9] ?_;repeat refine tkL hHeld ?_
 refine zao ?_;refine zaB 10 (h:=λK l=>?_);go_simp
 (go_at_call 147;(refine(Bs.solve H qb m S S (bc A (cols.set k j)) bA bc_ b 0 _ (y.o.toS.drew) (z.o.B.drew) ω z.o.zb z.o.hS (ziY M.o)).mono ?_);rintro e r ⟨X6,n6,c6,rfl,hv6,hb⟩;have Q:=un (show VecS r wy.heap.size (X6,n6,c6) (zes m (bc A (cols.set k j)) b)from hv6);have i:=un (It.bdrew0' hb);have u:=un (zad i.o KQ.o);have r2:=zab hb aw;have r7:=zab hb ax;have r8:=zab hb ay;have aP:=zag u.o 8)
 (try go_wp2_with fail)
 refine shutOn l λhHeld=>?_;refine zaw [11,12] ?_;repeat refine tkL hHeld ?_
 refine zao ?_;refine zaw [13,14] ?_;repeat refine tkX (h:=?_)
 refine zao ?_;refine zaw [15] ?_;repeat refine tkL hHeld ?_
 refine zao ?_;refine zay 16 (h:=λK l=>?_);go_simp;refine shutOff l ?_;refine zaM (h:=?_);obtain rfl:m=n6:=by rw[Q.o.len,(zci s.o.sq s.o.reg b).2]
 go_wp2;go_ret;have f:TKeep 202 r (r.setCell ⟨q,8,none⟩ (X6,m,c6)):=TKeep.set u.o _;have U:Below H w (r.setCell ⟨q,8,none⟩ (X6,m,c6)):=(ae.o.trans (i.o.mono R.o)).setCell (p:=⟨q,8,none⟩) a.o.own_ _;refine⟨rfl,⟨qb,X6,c6,?_,a.o.std,a.o.bel.trans (U.mono a.o.base),a.o.base,(aj.o.below i.o).tk f δ,(y.o.below i.o).tkT f,?_,s.o,a.o.own_⟩,U,(am.o.below i.o).trans (Kept.set u.o δ _)⟩;have:=zar (o:=8) (X6,m,c6) u.o;simpa using this;unfold za5;rw[s.o.len];exact(Q.o.base R.o).tk f δ δ
end Tb
end
def upN (i:Nat) (r:RunOut):RunOut:={ r with n:=r.n+i }
def zvf{next:List Nat->Am.Next}(h:next cols=.stop):pivs next f cols=⟨cols,none,0,false⟩:=by cases f<;>simp only[pivs,h]
def zxw{next:List Nat->Am.Next}(h:next cols=.bad k):pivs next f cols=⟨cols,some k,0,false⟩:=by cases f<;>simp only[pivs,h]
def zsr{next:List Nat->Am.Next}(h:next cols=.piv k j):pivs next 0 cols=⟨cols,none,0,true⟩:=by simp only[pivs,h]
def zxx{next:List Nat->Am.Next}(h:next cols=.piv k j):pivs next (f+1) cols=upN 1 (pivs next f (cols.set k j)):=by simp only[pivs,h];rfl
def zDR(i:Nat)(r:RunOut):upN i (upN 1 r)=upN (i+1) r:=by simp only[upN,Nat.add_assoc,Nat.add_comm 1 i]
abbrev zve:ByteArray:={ data:=#[112,105,118,111,116] }
def zvh(d:Basis m N A cols)(hm:m<=64)(f:zhg mw m S (bc A cols))(zA:∀r∈A,∀q∈r,mw q<=S)(hS:1<=S)(hc:c.length=N)(zc:∀x∈c,mw x<=S):∀q∈zaC N A cols c,mw q<=2*pB m S+2:=λq e=>by
 unfold zaC at e;obtain⟨k,hk⟩:=Xh.1 e;unfold zly at hk;rw[VD]at hk;cases ha:c[k]? with
 | none=>rw[ha]at hk;cases hk
 | some a =>
  cases hb:(byL N A (zcl A cols c))[k]? with
  | none=>rw[ha,hb]at hk;cases hk
  | some b =>
   rw[ha,hb]at hk;injection hk with hk;subst hk;have h1:=zc a (Zj ha);have g:=zt3 d.rect.len hm zA (znb d f hc zc) (zma m S S) hS b (Zj hb);have i:=zrI a (-1*b);have j:=zdI (-1) b;have l:mw (-1)<=1:=by rw[zhY];exact mw1
   unfold pB;omega
def zAX{r:Nat}(a:Basis m N A cols)(hm:m<=64)(e:zhg mw m S (bc A cols))(zA:∀r∈A,∀q∈r,mw q<=S)(hS:1<=S)(hr:r<m):∀q∈zk8 N A cols r,mw q<=2*pB m S+2:=λq d=>by have:=zt3 a.rect.len hm zA (ziO a e hS hr) (zma m S S) hS q d;unfold pB;omega
def DPiv.o(a:Basis m N A cols)(p:DPiv m N A b c cols k j):j ∉ cols:=λh=>by
 obtain⟨l,e⟩:=Xh.1 h;have f:l<m:=by rw[<-a.len];grind
 have u:=(a.dic b).uni k l p.hk f;rw[getD_some (d:=0) e]at u;have t:=p.t;rw[u]at t;split at t<;>grind
section
variable {W0 w:World} {H q:Nat} {rA:OA} {rc:Nat} {lA:List Value} {bA:OA} {bc_:Nat} {kA:OA} {kc:Nat} {eA:OA} {ec m N S own:Nat} {A:List (List Rat)} {b c:List Rat} {left:List Int}
  {tA:OA} {tc:Nat} {cols:List Nat}
namespace Du
def right(h:zhi W0 w H q rA rc lA bA bc_ kA kc eA ec m N S own A b c left tA tc cols)(M:OA)(f k:Nat)(may:List Bool)(hm:BoolsS w k (M,N,f) may)(n:zor m S<=LIM) :
  Calls prog 148 #[.pointer (some ⟨q,0,none⟩),(kA,N,kc),(M,N,f)] w λe w'=>e=.returned (.bool (zdi (zaC N A cols c) may).isNone)/\Below w w w':=by
 refine μ3 h hm n λs r p=>?_;obtain⟨qb,xA,xc,g⟩:=h;have o:=un g.stdN.C;have u:=un g.std.zc;go_enter func148,ntmps148;go_wp2_with fail
 refine(Tb.prices s.o kA kc c 0 o.o u.o p.o).mono ?_;rintro e w1 ⟨A1,n1,c1,rfl,hv,hb⟩;have t:=un hv;have a:=un hb;go_wp2_with fail
 refine(Pr.enter A1 n1 c1 (zaC N A cols c) w.heap.size M N f may k _ t.o (r.o.below a.o)).mono ?_;rintro e v ⟨rfl,hb⟩;have l:=un (a.o.trans (hb.mono a.o.size));cases he:zdi (zaC N A cols c) may with
 | none =>
  have i:zbh none = -1:=rfl;rw[i];have d:=un (show(zdi (zaC N A cols c) may).isNone=true by rw[he];rfl);go_wp2;go_ret;exact⟨by rw[d.o];rfl,l.o⟩
 | some j =>
  have i:zbh (some j)=(j:Int):=rfl;rw[i];have d:=un (show(zdi (zaC N A cols c) may).isNone=false by rw[he];rfl);go_wp2;go_ret;exact⟨by rw[d.o];rfl,l.o⟩
def zCr (W0 w:World) (H q:Nat) (rA:OA) (rc:Nat) (lA:List Value) (bA:OA) (bc_:Nat) (kA:OA) (kc:Nat) (eA:OA) (ec m N S own:Nat) (A:List (List Rat)) (b c:List Rat) (left:List Int) (tA:OA) (tc:Nat) (r:RunOut) (e:Ending) (w':World):Prop :=
  ∃ ev,e = .returned (.tuple #[.int .i64 (zbh r.at_), .int .i64 (r.n:Int),ev]) /\
    ((r.err=false/\ev=.nilIface)\/(r.err=true/\∃fb,ev=.iface 239 (.pointer (some ⟨fb,0,none⟩))/\θ w' fb #[.string zve,(r.n:Int),.iface 93 (.int .i64 180)] 241)) /\
    zhi W0 w' H q rA rc lA bA bc_ kA kc eA ec m N S own A b c left tA tc r.cols/\Below H w w'/\Kept TT (Value.slice tA m tc).ownBlock w w'
def run(h:zhi W0 w H q rA rc lA bA bc_ kA kc eA ec m N S own A b c left tA tc cols)(M:OA)(B V:Nat)(hm:BoolsS w V (M,N,B) (List.replicate N true))(Q:zor m S<=LIM)(a:Int)(L:a<=9223372036854775807)(hr:zdi (zaC N A cols c) (List.replicate N true)=none) :
  Calls prog 94 #[.pointer (some ⟨q,0,none⟩),(kA,N,kc),(M,N,B),.int .i64 a] w (zCr W0 w H q rA rc lA bA bc_ kA kc eA ec m N S own A b c left tA tc (pivs (zbE N A b c (List.replicate N true)) a.toNat cols)):=by
 refine μ6 h hm Q h.std.clen (show(zdi (zaC N A cols c) (List.replicate N true)).isNone=true by rw[hr];rfl) h.hle λHP HM v X HR ax=>?_;have aL:=zos Q;have aG:=un (show 16*(2*pB m S+2)+8<=LIM by omega);have ap:=un L;obtain⟨l,T⟩:∃l,l=zbE N A b c (List.replicate N true):=⟨_,rfl⟩
 have x:=un T;rw[<-T];go_enter func94,ntmps94;go_wp2_with fail
 refine(right HP.o M B V _ HM.o v.o).mono ?_;rintro e w1 ⟨rfl,hb⟩;have D:=un hb;rw[HR.o];go_wp2
 go_loopw [11] (λU wr=>∃(i:Nat) (cs:List Nat),U=.int .i64 i/\i<=a.toNat/\pivs l a.toNat cols=upN i (pivs l (a.toNat-i) cs)/\zhi W0 wr H q rA rc lA bA bc_ kA kc eA ec m N S own A b c left tA tc cs/\Below H w wr/\Kept TT (Value.slice tA m tc).ownBlock w wr)
  (λU _=>a.toNat-(intOf U).toNat)
 case atStart=>exact⟨0,cols,rfl,Zb _,rfl,HP.o.below D.o,D.o.mono ax.o,Kept.of_below D.o⟩
 obtain⟨i,cs,rfl,hi,n,K,hB,hK⟩:=hrel;refine μ6 K hB hK n hi K.basis λI av HK y HI p=>?_;go_wp2_with fail
 refine(leave I.o).mono ?_;rintro e v1 ⟨rfl,hb⟩;refine μ3 (I.o.below hb) (av.o.trans (hb.mono I.o.hle)) (HK.o.below hb) λr W Z=>?_;cases hlv:zi5 cs (za5 A b cs)with
 | none =>
  have d:=un (show pivs l a.toNat cols=⟨cs,none,i,false⟩by rw[y.o,zvf (by rw[x.o];unfold zbE;rw[hlv])];simp only[upN,Xc]);have f:zbh none = -1:=rfl;rw[f];go_wp2;go_ret3
  exact⟨_,by rw[d.o];rfl,by rw[d.o];exact .inl ⟨rfl,rfl⟩,by rw[d.o];exact r.o,W.o,Z.o⟩
 | some k =>
  have f:zbh (some k)=(k:Int):=rfl;rw[f];go_upto_region 5 with fail
  go_cut[28] (λc u=>c=false/\u=v1)
  case first =>
   go_wp2;go_meet;exact⟨σ,rfl⟩
  obtain⟨rfl,rfl⟩:=hcut;rename World=>v1
  have ao:k<m:=by have s:=zdk cs (za5 A b cs) (za5 A b cs).length;unfold zi5 at hlv;rw[hlv,(p.o.vals_ok b).2]at s;exact s.1
  have ab:=un ao;have ac:=un hlv;obtain⟨aR,aT,aU,g⟩:=r.o;refine μ7 g.stdN.C g.std.zc g.std.zA g.bas.good.2.2 g.std.hS g.std.hm g.std.hN λaw ak ai aj Y ae aD=>?_;go_wp2_with fail
  refine(Tb.prices r.o kA kc c 0 aw.o ak.o v.o).mono ?_;rintro e v2 ⟨A2,n2,c2,rfl,hv2,hb⟩;refine μ4 hv2 (r.o.below hb) (W.o.trans (hb.mono r.o.hle)) (Z.o.below hb) λaI J aq aA=>?_;go_wp2_with fail
  refine(Tb.line J.o k ab.o v.o).mono ?_;rintro e v3 ⟨A3,n3,c3,rfl,hv3,hb⟩;refine μ5 hv3 (aI.o.below hb) (J.o.below hb) (aq.o.trans (hb.mono J.o.hle)) (aA.o.below hb) λaK aJ ah ar aa=>?_;have aC:=un (HM.o.kept aa.o δ);go_wp2_with fail
  refine(enter (2*pB m S+2) aG.o A2 n2 c2 (zaC N A cs c) v1.heap.size A3 n3 c3 (zk8 N A cs k) v2.heap.size M N B (List.replicate N true) _ aJ.o aK.o (by rw[ZQ]) (by have:=aD.o;omega) aC.o.reads (zvh p.o ae.o aj.o ai.o Y.o X.o ak.o) (zAX p.o ae.o aj.o ai.o Y.o ab.o)).mono ?_
  rintro e o ⟨rfl,hb⟩;refine μ3 (ah.o.below hb) (ar.o.trans (hb.mono ah.o.hle)) (aa.o.below hb) λz E F=>?_;cases hen:zhy (zaC N A cs c) (zk8 N A cs k) (List.replicate N true)with
  | none =>
   have d:=un (show pivs l a.toNat cols=⟨cs,some k,i,false⟩by rw[y.o,zxw (k:=k) (by rw[x.o];unfold zbE;rw[ac.o];simp only[hen])];simp only[upN,Xc]);have f:zbh none = -1:=rfl;rw[f];go_wp2;go_ret3
   exact⟨_,by rw[d.o];rfl,by rw[d.o];exact .inl ⟨rfl,rfl⟩,by rw[d.o];exact z.o,E.o,F.o⟩
  | some j =>
   have f:zbh (some j)=(j:Int):=rfl;rw[f];have R:l cs=.piv k j:=by rw[x.o];unfold zbE;rw[ac.o];simp only[hen]
   have n:=zwH p.o X.o (b:=b) (by rw[<-x.o];exact R);refine μ3 n R (DPiv.o p.o n) λG af aE=>?_;have aP:(0:Int)<=(i:Int):=Zg _;go_upto_region 10 with fail
   go_cut[47] (λc u=>c=false/\u=o)
   case first =>
    go_wp2;go_meet;exact⟨σ,rfl⟩
   obtain⟨rfl,rfl⟩:=hcut;rename World=>o
   go_upto_region 12 with fail
   go_cut[52] (λc u=>c=.bool (decide (a<=(i:Int)))/\u=o)
   case first =>
    go_wp2;go_meet;exact⟨σ,rfl⟩
   obtain⟨rfl,rfl⟩:=hcut;rename World=>o
   have hi:=HI.o;have L:=ap.o;by_cases aO:i<a.toNat
   ·have an:¬(i:Int)≥a:=ω
    have O:¬a<=(i:Int):=ω;have P:=ZJ O;rw[P];have aQ:(i:Int)<9223372036854775807:=ω;go_wp2_with fail
    refine(Tb.swap z.o k j G.o.hk G.o.hj (by have:=G.o.t;grind) aE.o v.o).mono ?_;rintro e v5 ⟨rfl,hT5,hb5,hk5⟩;refine μ3 hT5 (E.o.trans hb5) (F.o.trans hk5) λaH au aB=>?_;go_wp2;go_roundw
    case rel=>exact⟨i+1,cs.set k j,by go_num,ω,by rw[y.o,show a.toNat-i=(a.toNat-(i+1))+1 by omega,zxx af.o,zDR],aH.o,au.o,aB.o⟩
    case measure=>simp[intOf];omega
   have an:(i:Int)≥a:=ω;have O:a<=(i:Int):=an;have P:=ZG O;rw[P];have d:=un (show pivs l a.toNat cols=⟨cs,none,i,true⟩by rw[y.o,show a.toNat-i=0 by omega,zsr af.o];simp only[upN,Xc]);go_wp2_with fail
   refine(Err.wrap 180 zve (i:Int) _).mono ?_;rintro e v5 ⟨rfl,rfl⟩;go_wp2;go_ret3
   exact⟨_,by rw[d.o];rfl,by rw[d.o];exact .inr ⟨rfl,_,rfl,zal _ _ _⟩,by rw[d.o];exact z.o.alloc _,E.o.trans (zae o _ |>.mono z.o.hle),F.o.below (zae o _)⟩
end Du
end
def z0n(a:Basis m N A cols)(f:zhg mw m S (bc A cols))(d:b.length=m)(zb:∀x∈b,mw x<=S):∀x∈za5 A b cols,mw x<=sB m S S:=by have e:=a.len;unfold za5;rw[e];exact zrD (zci a.sq a.reg _).2 (zo0 zo5 a.sq a.reg f λi hi=>zrz zb (by rw[d];exact hi))
def zVc(a:Basis m N A cols)(e:zhg mw m S (bc A cols))(zc:∀q∈zb4 A j,mw q<=S):∀x∈zav A cols j,mw x<=sB m S S:=by have d:=a.len;unfold zav;rw[d];exact zrD (zci a.sq a.reg _).2 (zo0 zo5 a.sq a.reg e λi hi=>zrz zc (by unfold zb4;rw[ZK,a.rect.len];exact hi))
def zVf{p:List Rat}(h:zdi p may=some j):j<p.length:=by have s:=zKj p may p.length 0;unfold zdi at h;rw[h]at s;have:=s.2.1;omega
def PPiv.o(a:Basis m N A cols)(hc:c.length=N)(p:PPiv m N A b c may cols k j):j ∉ cols:=λh=>by
 obtain⟨l,e⟩:=Xh.1 h;have f:l<m:=by rw[<-a.len];exact(ZF.1 e).1
 have z:=(a.pri hc).zero l f;rw[getD_some (d:=0) e]at z;have d:=p.d;rw[z]at d;grind
section
variable {W0 w:World} {H q:Nat} {rA:OA} {rc:Nat} {lA:List Value} {bA:OA} {bc_:Nat} {kA:OA} {kc:Nat} {eA:OA} {ec m N S own:Nat} {A:List (List Rat)} {b c:List Rat} {left:List Int}
  {tA:OA} {tc:Nat} {cols:List Nat}
namespace Pr
open Du (zCr)
def prun(h:zhi W0 w H q rA rc lA bA bc_ kA kc eA ec m N S own A b c left tA tc cols)(C:OA)(cC Hc:Nat)(g:List Rat)(O:VecS w Hc (C,N,cC) g)(zC:∀x∈g,mw x<=S)(M:OA)(X L H':Nat)(may:List Bool)(hm:BoolsS w H' (M,X,L) may)(U:zor m S<=LIM)(a:Int)(Q:a<=9223372036854775807) :
  Calls prog 48 #[.pointer (some ⟨q,0,none⟩),(C,N,cC),(M,X,L),.int .i64 a] w (zCr W0 w H q rA rc lA bA bc_ kA kc eA ec m N S own A b c left tA tc (pivs (zBX N A b g may) a.toNat cols)):=by
 refine μ7 h O zC hm U (show g.length=N from O.len.symm) h.hle λHP HC aK HM E F aO=>?_;have al:=zos U;have aG:=un (show 16*sB m S S+8<=LIM by unfold pB at al;omega);have ao:=un Q;obtain⟨l,W⟩:∃l,l=zBX N A b g may:=⟨_,rfl⟩
 have s:=un W;rw[<-W];go_enter func48,ntmps48;go_wp2
 go_loopw [11] (λY wr=>∃(i:Nat) (cs:List Nat),Y=.int .i64 i/\i<=a.toNat/\pivs l a.toNat cols=upN i (pivs l (a.toNat-i) cs)/\zhi W0 wr H q rA rc lA bA bc_ kA kc eA ec m N S own A b c left tA tc cs/\Below H w wr/\Kept TT (Value.slice tA m tc).ownBlock w wr)
  (λY _=>a.toNat-(intOf Y).toNat)
 case atStart=>exact⟨0,cols,rfl,Zb _,rfl,HP.o,Zl _ _,Kept.refl _⟩
 obtain⟨i,cs,rfl,hi,n,P,hB,hK⟩:=hrel;refine μ6 P hB hK n hi P.basis λK au G u HI p=>?_;have aw:=un (G.o.vec δ δ HC.o);have aD:=un (HM.o.kept G.o δ);go_wp2_with fail
 refine(Tb.prices K.o C cC g Hc aw.o aK.o E.o).mono ?_;rintro e v1 ⟨A1,n1,c1,rfl,hv,hb⟩;refine μ5 hv (K.o.below hb) (au.o.trans (hb.mono K.o.hle)) (G.o.below hb) (aD.o.below hb) λaI ag ap ay aC=>?_;go_wp2_with fail
 refine(Pr.enter A1 n1 c1 (zaC N A cs g) wr.heap.size M X L may H' _ aI.o aC.o).mono ?_;rintro e Z ⟨rfl,hb⟩;refine μ3 (ag.o.below hb) (ap.o.trans (hb.mono ag.o.hle)) (ay.o.below hb) λv ab ae=>?_;cases hen:zdi (zaC N A cs g) may with
 | none =>
  have d:=un (show pivs l a.toNat cols=⟨cs,none,i,false⟩by rw[u.o,zvf (by rw[s.o];unfold zBX;rw[hen])];simp only[upN,Xc]);have f:zbh none = -1:=rfl;rw[f];go_wp2;go_ret3
  exact⟨_,by rw[d.o];rfl,by rw[d.o];exact .inl ⟨rfl,rfl⟩,by rw[d.o];exact v.o,ab.o,ae.o⟩
 | some j =>
  have f:zbh (some j)=(j:Int):=rfl;rw[f];have aS:(0:Int)<=(j:Int):=Zg _;have aL:¬(j:Int)<0:=ω;have ac:=un hen;have ad:=un (show j<N by have:=zVf hen;rwa [zKp F.o]at this);go_upto_region 6 with fail
  go_cut[33] (λc r=>c=false/\r=Z)
  case first =>
   go_wp2;go_meet;exact⟨σ,rfl⟩
  obtain⟨rfl,rfl⟩:=hcut;rename World=>Z
  go_wp2_with fail
  refine(Tb.column v.o j ad.o E.o).mono ?_;rintro e v3 ⟨A3,n3,c3,rfl,hv3,hb⟩;obtain rfl:n3=m:=by rw[hv3.len,(p.o.column_ok j).2]
  refine μ4 hv3 (v.o.below hb) (ab.o.trans (hb.mono v.o.hle)) (ae.o.below hb) λaJ y aq az=>?_;go_wp2_with fail
  have ah:=un (show(∀x∈za5 A b cs,mw x<=sB n3 S S)/\(∀x∈zav A cs j,mw x<=sB n3 S S)by obtain⟨_,_,_,B⟩:=y.o;have hz:=B.bas.good.2.2;exact⟨z0n p.o hz B.std.blen B.std.zb,zVc p.o hz (B.std.zcol ad.o)⟩);refine(Tb.leave y.o (sB n3 S S) aG.o A3 c3 (zav A cs j) Z.heap.size aJ.o ah.o.1 ah.o.2).mono ?_;rintro e o ⟨rfl,hb⟩;refine μ3 (y.o.below hb) (aq.o.trans (hb.mono y.o.hle)) (az.o.below hb) λz D I=>?_;cases hlv:zDG cs (za5 A b cs) (zav A cs j)with
  | none =>
   have d:=un (show pivs l a.toNat cols=⟨cs,some j,i,false⟩by rw[u.o,zxw (k:=j) (by rw[s.o];unfold zBX;rw[ac.o];simp only[hlv])];simp only[upN,Xc]);have f:zbh none = -1:=rfl;rw[f];go_wp2;go_ret3
   exact⟨_,by rw[d.o];rfl,by rw[d.o];exact .inl ⟨rfl,rfl⟩,by rw[d.o];exact z.o,D.o,I.o⟩
  | some k =>
   have f:zbh (some k)=(k:Int):=rfl;rw[f];have aT:(0:Int)<=(k:Int):=Zg _;have aM:¬(k:Int)<0:=ω;have V:l cs=.piv k j:=by rw[s.o];unfold zBX;rw[ac.o];simp only[hlv]
   have n:=zK6 p.o F.o (b:=b) (may:=may) (by rw[<-s.o];exact V);refine μ3 n V (PPiv.o p.o F.o n) λJ af aE=>?_;have aQ:(0:Int)<=(i:Int):=Zg _;go_upto_region 10 with fail
   go_cut[45] (λc r=>c=false/\r=o)
   case first =>
    go_wp2;go_meet;exact⟨σ,rfl⟩
   obtain⟨rfl,rfl⟩:=hcut;rename World=>o
   go_upto_region 12 with fail
   go_cut[50] (λc r=>c=.bool (decide (a<=(i:Int)))/\r=o)
   case first =>
    go_wp2;go_meet;exact⟨σ,rfl⟩
   obtain⟨rfl,rfl⟩:=hcut;rename World=>o
   have hi:=HI.o;have Q:=ao.o;by_cases aP:i<a.toNat
   ·have R:¬a<=(i:Int):=ω
    have T:decide (a<=(i:Int))=false:=ZJ R;rw[T];have aR:(i:Int)<9223372036854775807:=ω;go_wp2_with fail
    refine(Tb.swap z.o k j J.o.hk J.o.hj (by have:=J.o.t;grind) aE.o E.o).mono ?_;rintro e v5 ⟨rfl,hT5,hb5,hk5⟩;refine μ3 hT5 (D.o.trans hb5) (I.o.trans hk5) λaH ar aA=>?_;go_wp2;go_roundw
    case rel=>exact⟨i+1,cs.set k j,by go_num,ω,by rw[u.o,show a.toNat-i=(a.toNat-(i+1))+1 by omega,zxx af.o,zDR],aH.o,ar.o,aA.o⟩
    case measure=>simp[intOf];omega
   have R:a<=(i:Int):=ω;have T:decide (a<=(i:Int))=true:=ZG R;rw[T];have d:=un (show pivs l a.toNat cols=⟨cs,none,i,true⟩by rw[u.o,show a.toNat-i=0 by omega,zsr af.o];simp only[upN,Xc]);go_wp2_with fail
   refine(Err.wrap 180 zve (i:Int) _).mono ?_;rintro e v5 ⟨rfl,rfl⟩;go_wp2;go_ret3
   exact⟨_,by rw[d.o];rfl,by rw[d.o];exact .inr ⟨rfl,_,rfl,zal _ _ _⟩,by rw[d.o];exact z.o.alloc _,D.o.trans (zae o _ |>.mono z.o.hle),I.o.below (zae o _)⟩
end Pr
end
def Pb.standardN(S:Nat)(hS:1<=S)(C:OA)(nc cc:Nat)(R:OA)(nr a:Nat)(cost:List Rat)(rows:List PRow)(N:Nat)(hN:nc+cnt rows nr=N)(w:World)(hc:VecS w 0 (C,nc,cc) cost)(hr:RowsS w 0 (R,nr,a) rows)(d:nc<=24)(g:nr<=20)(i:Rows nc rows)(f:Kinds rows)(zc:∀q∈cost,mw q<=S)(zr:∀p∈rows,(∀q∈p.coef,mw q<=S)/\mw p.rhs<=S) :
  Calls prog 45 #[.agg #[(C,nc,cc),(R,nr,a)]] w λe w'=>∃(rA:OA) (rc:Nat) (lA:List Value) (bA:OA) (bc_:Nat) (kA:OA) (kc:Nat) (eA:OA) (ec:Nat),
   e=.returned (.tuple #[.agg #[(rA,nr,rc),(N:Int),(bA,nr,bc_),(kA,N,kc),(nc:Int),(eA,nr,ec)],.nilIface]) /\
   StdP w' rA rc lA bA bc_ kA kc eA ec nr N S (zc3 rows) (zg8 rows) (zjD cost rows) (zca nc rows nr)/\Below w w w':=by
 subst hN;exact Pb.standard S hS C nc cc R nr a cost rows w hc hr d g i f zc zr
def zqy{b:Nat}{cs:Array Value}{t:TypeId}(d:θ w b cs t)(v0 v1 g i j:Value):TKeep t w (((((w.setCell ⟨b,0,none⟩ v0).setCell ⟨b,1,none⟩ v1).setCell ⟨b,2,none⟩ g).setCell ⟨b,3,none⟩ i).setCell ⟨b,4,none⟩ j):=λk _ f=>by
 have a:k≠b:=λe=>f cs (by rw[e];exact d)
 rw[ZE _ _ _ _ (by exact a),ZE _ _ _ _ (by exact a),ZE _ _ _ _ (by exact a),ZE _ _ _ _ (by exact a),ZE _ _ _ _ (by exact a)]
def zT7{xs:List Rat}(h:j<n):el (xs.take n) j=el xs j:=by unfold el;rw[Zh,Zh,Ys,if_pos h]
def zTa(xs:List Rat)(n:Nat):∀f s,s+f<=n->zkZ (xs.take n) f s=zkZ xs f s
 | 0,_,_=>rfl
 | f+1,s,h=>by unfold zkZ;rw[zT7 ω,zTa xs n f (s+1) ω]
def zTn(h:¬own<=cs.getD k 0):zSz own N A B (f+1) k (cs,n)=zSz own N A B f (k+1) (cs,n):=by
 conv=>lhs;unfold zSz
 grind
def zS6(h:own<=cs.getD k 0)(e:zkZ (zk8 N A cs k) own 0=none):zSz own N A B (f+1) k (cs,n)=zSz own N A B f (k+1) (cs,n):=by
 conv=>lhs;unfold zSz
 grind
def zS7(h:own<=cs.getD k 0)(e:zkZ (zk8 N A cs k) own 0=some j)(a:B<=n):zSz own N A B (f+1) k (cs,n)=((cs,n),true):=by
 conv=>lhs;unfold zSz
 grind
def zTo(h:own<=cs.getD k 0)(e:zkZ (zk8 N A cs k) own 0=some j)(a:¬B<=n):zSz own N A B (f+1) k (cs,n)=zSz own N A B f (k+1) (cs.set k j,n+1):=by
 conv=>lhs;unfold zSz
 grind
def zWd(a:Basis m N A cols)(hk:k<m)(o:own<=cols.getD k 0)(p:own<=N)(e:zkZ (zk8 N A cols k) own 0=some j):j<own/\el (zav A cols j) k≠0/\j ∉ cols:=by
 have s:=zSM (zk8 N A cols k) own 0;rw[e]at s;obtain⟨_,s2,g⟩:=s;have hj:j<own:=ω;rw[a.line_el hk ω]at g;refine⟨hj,g,λh=>?_⟩;obtain⟨l,f⟩:=Xh.1 h;have n:l<m:=by rw[<-a.len];exact(ZF.1 f).1
 have u:=(a.dic []).uni k l hk n;rw[getD_some (d:=0) f]at u;grind
section
variable {W0 w:World} {H q:Nat} {rA:OA} {rc:Nat} {lA:List Value} {bA:OA} {bc_:Nat} {kA:OA} {kc:Nat} {eA:OA} {ec m NN S own:Nat} {A:List (List Rat)} {b c:List Rat} {left:List Int}
  {tA:OA} {tc:Nat} {cols:List Nat}
def zVL (W0 w:World) (H q:Nat) (rA:OA) (rc:Nat) (lA:List Value) (bA:OA) (bc_:Nat) (kA:OA) (kc:Nat) (eA:OA) (ec m NN S own:Nat) (A:List (List Rat)) (b c:List Rat) (left:List Int) (tA:OA) (tc:Nat) (r:(List Nat × Nat) × Bool) (e:Ending) (w':World):Prop :=
  ∃ ev,e = .returned (.tuple #[(r.1.2:Int),ev]) /\
    ((r.2=false/\ev=.nilIface)\/(r.2=true/\∃fb,ev=.iface 239 (.pointer (some ⟨fb,0,none⟩))/\θ w' fb #[.string zve,(r.1.2:Int),.iface 93 (.int .i64 180)] 241)) /\
    zhi W0 w' H q rA rc lA bA bc_ kA kc eA ec m NN S own A b c left tA tc r.1.1/\Below H w w'/\Kept TT (Value.slice tA m tc).ownBlock w w'
namespace Pr
def pdrive(h:zhi W0 w H q rA rc lA bA bc_ kA kc eA ec m NN S own A b c left tA tc cols)(M:OA)(O N:Nat)(hN:N<=NN)(al:zor m S<=LIM)(a:Int)(P:a<=9223372036854775807) :
  Calls prog 117 #[.agg #[(rA,m,rc),(NN:Int),(bA,m,bc_),(kA,NN,kc),(own:Int),(eA,m,ec),(M,m,O),(N:Int)],.pointer (some ⟨q,0,none⟩),.int .i64 a] w (zVL W0 w H q rA rc lA bA bc_ kA kc eA ec m NN S own A b c left tA tc (zSz N NN A a.toNat m 0 (cols,0))):=by
 refine μ5 h h.hle al hN P λHP ay X J au=>?_;have bc:=h.std.hm;have aF:=un (show ∀g,(Value.slice tA m tc).ownBlock=some g->g<w.heap.size by intro g hg;obtain⟨_,_,_,hP⟩:=h;exact(hP.colsI.own.lt g hg).2);obtain⟨W,x⟩:∃W,(w.alloc (.cells #[(rA,m,rc),(NN:Int),(bA,m,bc_),(kA,NN,kc),(own:Int),(eA,m,ec),(M,m,O),(N:Int)] 118))=W:=⟨_,rfl⟩
 refine μ3 (show θ W w.heap.size #[(rA,m,rc),(NN:Int),(bA,m,bc_),(kA,NN,kc),(own:Int),(eA,m,ec),(M,m,O),(N:Int)] 118by rw[<-x];exact zam σ) (show Below w w W by rw[<-x];exact zae w _) (show w.heap.size+1<=W.heap.size by rw[<-x];simp) λaf BB HZ=>?_;go_enter func117,ntmps117;go_wp2_with fail
 have B:=un (BB.o);have ae:=un (HP.o.below B.o);have bk:=HZ.o;refine(Tb.basis ae.o).mono ?_;rintro e w1 ⟨B0,cB,rfl,hi,hb⟩;refine μ5 hi (ae.o.below hb) (B.o.trans (hb.mono B.o.size)) (zad hb af.o) (HP.o.basis.len) λZ aD U aI ax=>?_;go_wp2
 go_loopw [8,18] (λnv i wr=>∃(k n:Nat) (cs:List Nat),i=.int .i64 k/\nv=.int .i64 n/\k<=m/\n<=k/\(zSz N NN A a.toNat m 0 (cols,0)=zSz N NN A a.toNat (m-k) k (cs,n))/\(∀l,k<=l->cs.getD l 0=cols.getD l 0)/\zhi W0 wr H q rA rc lA bA bc_ kA kc eA ec m NN S own A b c left tA tc cs/\Below H w wr/\Kept TT (Value.slice tA m tc).ownBlock w wr/\Kept TT (Value.slice tA m tc).ownBlock w1 wr)
  (λ_ i _=>m-(intOf i).toNat)
 case atStart=>exact⟨0,0,cols,rfl,rfl,Zb _,Zb _,rfl,λ_ _=>rfl,aD.o,U.o.mono ay.o,Kept.of_below U.o,Kept.refl _⟩
 obtain⟨k,n,cs,rfl,rfl,hk,bg,hd,am,hT,hB,hK,aj⟩:=hrel;refine μ6 hd am hT hB hK aj λE s o C G t=>?_;have ag:=un (t.o.blk aI.o δ δ);have aa:=un (t.o.ints δ Z.o λg hg e=>by have h1:=(Z.o.own.lt g hg).1;have h2:=aF.o g e.symm;omega);obtain⟨_,_,_,_,_,_,_,_,_,_,_,_,_,_,s7,_⟩:=bc8 ag.o;by_cases r:k<m
 ·have a9:(0:Int)<=(k:Int):=Zg _;have ba:(k:Int)<(m:Int):=ω
  obtain⟨bi,rfl,_,_⟩:=aa.o.has ω;have m0:=aa.o.at_ (zaO (L:=cols) (i:=k) (d:=0) (by rw[ax.o];exact r));have D:=un (s.o k (Za _));have V:=un o.o.basis;by_cases ho:N<=cols.getD k 0
  ·have aq:¬((cols.getD k 0:Nat):Int)<(N:Int):=ω
   have u:=un (show N<=cs.getD k 0 by rw[D.o];exact ho);generalize cols.getD k 0=ck at m0 D ho aq;have bj:=J.o;go_wp2_with fail
   refine(Tb.line o.o k r X.o).mono ?_;rintro e v1 ⟨A1,n1,c1,rfl,hv,hb⟩;obtain rfl:NN=n1:=by rw[hv.len];exact(zkb _ _ _).symm
   have aG:=un (hv.cut N J.o);have a6:=hv.form.2.1;have a8:N<=c1:=ω;refine μ5 (o.o.below hb) (C.o.trans (hb.mono o.o.hle)) (G.o.below hb) (t.o.below hb) (zad hb ag.o) λad av az aA aJ=>?_;obtain⟨_,_,_,_,_,_,_,_,_,_,_,_,_,_,t7,_⟩:=bc8 aJ.o;go_wp2_with fail
   refine(Vc.first A1 N c1 ((zk8 NN A cs k).take N) wr.heap.size _ aG.o).mono ?_;rintro e p ⟨rfl,hb⟩;rw[zTa (zk8 NN A cs k) N N 0 ω];refine μ4 (ad.o.below hb) (av.o.trans (hb.mono ad.o.hle)) (az.o.below hb) (aA.o.below hb) λv z I ab=>?_;have F:=un (show zSz N NN A a.toNat m 0 (cols,0)=zSz N NN A a.toNat (m-(k+1)+1) k (cs,n)by rw[E.o,show m-k=(m-(k+1))+1 by omega]);cases hfz:zkZ (zk8 NN A cs k) N 0 with
   | none =>
    have y:zbh none = -1:=rfl;rw[y];have f:=un (F.o.trans (zS6 u.o hfz));go_wp2;go_roundw
    case rel=>exact⟨k+1,n,cs,by go_num,rfl,ω,ω,f.o,λl hl=>s.o l ω,v.o,z.o,I.o,ab.o⟩
    case measure=>simp[intOf];omega
   | some j =>
    have y:zbh (some j)=(j:Int):=rfl;rw[y];have K:=un (zWd V.o r u.o J.o hfz);have Y:=un hfz;go_upto_region 8 with fail
    go_cut[39] (λc T=>c=false/\T=p)
    case first =>
     go_wp2;go_meet;exact⟨σ,rfl⟩
    obtain⟨rfl,rfl⟩:=hcut;rename World=>p
    go_upto_region 9 with fail
    go_cut[42] (λc T=>c=.bool (decide (a<=(n:Int)))/\T=p)
    case first =>
     go_wp2;go_meet;exact⟨σ,rfl⟩
    obtain⟨rfl,rfl⟩:=hcut;rename World=>p
    have P:=au.o;by_cases a5:n<a.toNat
    ·have Q:¬a<=(n:Int):=ω
     have R:=ZJ Q;rw[R];have f:=un (F.o.trans (zTo u.o Y.o ω));have bh:(n:Int)<9223372036854775807:=ω;go_wp2_with fail
     refine(Tb.swap v.o k j r (by have:=K.o.1;omega) K.o.2.1 K.o.2.2 X.o).mono ?_;rintro e v3 ⟨rfl,hT3,hb3,hk3⟩;refine μ4 hT3 (z.o.trans hb3) (I.o.trans hk3) (ab.o.trans hk3) λaE aw aB aC=>?_;go_wp2;go_roundw
     case rel=>exact⟨k+1,n+1,cs.set k j,by go_num,by go_num,ω,ω,f.o,λl hl=>by rw[gset (by rw[V.o.len];exact r),if_neg ω];exact s.o l ω,aE.o,aw.o,aB.o,aC.o⟩
     case measure=>simp[intOf];omega
    have Q:a<=(n:Int):=ω;have R:=ZG Q;rw[R];have f:=un (F.o.trans (zS7 u.o Y.o ω));go_wp2_with fail
    refine(Err.wrap 180 zve (n:Int) _).mono ?_;rintro e v3 ⟨rfl,rfl⟩;go_wp2;go_ret2
    exact⟨_,by rw[f.o];rfl,by rw[f.o];exact .inr ⟨rfl,_,rfl,zal _ _ _⟩,by rw[f.o];exact v.o.alloc _,z.o.trans (zae p _ |>.mono v.o.hle),I.o.below (zae p _)⟩
  have aq:((cols.getD k 0:Nat):Int)<(N:Int):=ω;have f:=un (show zSz N NN A a.toNat m 0 (cols,0)=zSz N NN A a.toNat (m-(k+1)) (k+1) (cs,n)by rw[E.o,show m-k=(m-(k+1))+1 by omega];exact zTn (by rw[D.o];omega));generalize cols.getD k 0=ck at *
  go_wp2;go_roundw
  case rel=>exact⟨k+1,n,cs,by go_num,rfl,ω,ω,f.o,λl hl=>s.o l ω,o.o,C.o,G.o,t.o⟩
  case measure=>simp[intOf];omega
 obtain rfl:m=k:=ω;have f:=un (show zSz N NN A a.toNat m 0 (cols,0)=((cs,n),false)by rw[E.o,Xz];rfl);go_wp2;go_ret2
 exact⟨_,by rw[f.o];rfl,by rw[f.o];exact .inl ⟨rfl,rfl⟩,by rw[f.o];exact o.o,C.o,G.o⟩
end Pr
end
end Go.Proofs.YtbpjabgfcbjjmaaGreat
namespace Go.Proofs.YtbpjabgfcbjjmaaGreat
open Go.RowKit Am Go.Proofs.Tryz
attribute [local go_sem ↓] Go.wp_at_zero Go.wp_at_succ
variable {A:List (List Rat)}{cols:List Nat}{N m:Nat}
def zVd{b:List Rat}(a:cols.length=m):dot (zJG N m) (zh1 (N+m) cols (za5 (zt0 A b) (zwh b) cols))=zSB N m A b cols:=by unfold dot ziw zSB;rw[zSD];grind[zaj,zvg]
def zTR(N m:Nat):∀q∈zJG N m,mw q<=1:=λq a=>by unfold zJG at a;grind[mw0,mw1]
def zVI(b:List Rat):∀z∈b.map sgI,z = -1\/z=1:=by grind[zTW]
def z0l{S:Nat}{xs:List Rat}(a:Basis m N A cols)(e:xs.length=m)(zx:∀x∈xs,mw x<=S)(hS:1<=S):∀q∈zh1 N cols xs,mw q<=S:=λq d=>by obtain⟨j,hj⟩:=Xh.1 d;have c:=(ZF.1 hj).1;rw[zl8]at c;rw[<-znd hj,zvg c,a.len];by_cases b:Bas m (λk=>cols.getD k 0) j;obtain⟨k,hk,rfl⟩:=b;rw[zA7 a.inj _ hk];exact zrz zx (by rw[e];exact hk);grind[zyz,Nat.le_trans,mw0]
def zSH{own N:Nat}{A:List (List Rat)}{B:Nat}:∀(f k:Nat) (a:List Nat × Nat),(zSz own N A B f k a).1.2<=a.2+f/\(a.2<=B->(zSz own N A B f k a).1.2<=B)
 | 0,_,a=>⟨Za _,λh=>h⟩
 | f+1,k,(cs,n)=>by
  by_cases h:own<=cs.getD k 0;cases e:zkZ (zk8 N A cs k) own 0 with
  | none =>
   rw[zS6 h e];obtain⟨h1,b⟩:=zSH f (k+1) (cs,n) (own:=own) (N:=N) (A:=A) (B:=B);exact⟨Zf h1 (by simp only;omega),b⟩
  | some j =>
   by_cases c:B<=n;rw[zS7 h e c];exact⟨Yx _ _,λh=>h⟩;rw[zTo h e c];obtain⟨h1,b⟩:=zSH f (k+1) (cs.set k j,n+1) (own:=own) (N:=N) (A:=A) (B:=B);exact⟨Zf h1 (by simp only;omega),λ_=>b (by simp only;omega)⟩
  rw[zTn h];obtain⟨h1,b⟩:=zSH f (k+1) (cs,n) (own:=own) (N:=N) (A:=A) (B:=B);exact⟨Zf h1 (by simp only;omega),b⟩
def Spent (w':World) (B:Nat) (ev:Value):Prop:=∃(fb num:Nat),ev=.iface 239 (.pointer (some ⟨fb,0,none⟩))/\num<=B/\θ w' fb #[.string zve,(num:Int),.iface 93 (.int .i64 180)] 241
def zXb (w:World) (rA:OA) (rc:Nat) (lA:List Value) (bA:OA) (bc_:Nat) (kA:OA) (kc:Nat) (eA:OA) (ec m N NN S own:Nat) (A0:List (List Rat)) (b0 c:List Rat) (left:List Int) (B:Nat) (r:RunOut) (d:(List Nat × Nat) × Bool) (e:Ending) (w':World):Prop :=
  Below w w w' /\
  ((r.err=true/\∃ev,e=.returned (.tuple #[.pointer none,(),(r.n:Int),ev])/\Spent w' B ev) \/
   (r.err=false/\0<zSB N m A0 b0 r.cols/\∃(Y:OA) (cY:Nat),e=.returned (.tuple #[.pointer none,(Y,m,cY),(r.n:Int),.nilIface])/\VecS w' w (Y,m,cY) (bkL (b0.map sgI) (zcl (zt0 A0 b0) r.cols (zJG N m)) m)) \/
   (r.err=false/\¬0<zSB N m A0 b0 r.cols/\d.2=true/\∃ev,e=.returned (.tuple #[.pointer none,(),((r.n+d.1.2:Nat):Int),ev])/\Spent w' B ev) \/
   (r.err=false/\¬0<zSB N m A0 b0 r.cols/\d.2=false/\∃(wn:World) (q:Nat) (tA:OA) (tc:Nat),e=.returned (.tuple #[.pointer (some ⟨q,0,none⟩),(),((r.n+d.1.2:Nat):Int),.nilIface]) /\
     zhi wn w' wn.heap.size q rA rc lA bA bc_ kA kc eA ec m NN S own (zt0 A0 b0) (zwh b0) c left tA tc d.1.1/\w.heap.size<=wn.heap.size/\Below w w wn))
namespace Pr
open Du (zCr)
def pfeasible(rA:OA)(rc:Nat)(bA:OA)(bc_:Nat)(kA:OA)(kc:Nat)(eA:OA)(ec:Nat)(i:OA)(j m b own N:Nat)(lA:List Value)(S:Nat)(f:List (List Rat))(a c:List Rat)(left:List Int)(R:Nat)(w:World)(hS:StdP w rA rc lA bA bc_ kA kc eA ec m b S (zt0 f a) (zwh a) c left)(hz:IntsZ w R (i,m,j) (a.map sgI))(u:N+m=b)(hA:Rect m N f)(a4:a.length=m)(an:zor m S<=LIM)(ao:sB m S S<=4000000)(B:Nat)(hB:B<=1000000) :
  Calls prog 47 #[.agg #[(rA,m,rc),(b:Int),(bA,m,bc_),(kA,b,kc),(own:Int),(eA,m,ec),(i,m,j),(N:Int)],(B:Int)] w (zXb w rA rc lA bA bc_ kA kc eA ec m N b S own f a c left B (pivs (zBX b (zt0 f a) (zwh a) (zJG N m) (zKc N m)) B (zKa N m)) (zSz N b (zt0 f a) (B-(pivs (zBX b (zt0 f a) (zwh a) (zJG N m) (zKc N m)) B (zKa N m)).n) m 0 ((pivs (zBX b (zt0 f a) (zwh a) (zJG N m) (zKc N m)) B (zKa N m)).cols,0))):=by
 refine μ6 u (show Basis m b (zt0 f a) (zKa N m)by rw[<-u];exact zSU hA) an ao hB (show 8*sB m S S+8<=LIM by rw[zaP];omega) λH aI G aY af aX=>?_;have a5:=hS.hm;have a6:=hS.hN;refine μ3 (show zsn b N=zKc N m by rw[<-u,zUB]) (show(zJG N m).length=b by rw[zSD,u]) (λq D=>Zf (zTR N m q D) hS.hS) λaS ah Q=>?_;obtain⟨r,hr⟩:∃r,pivs (zBX b (zt0 f a) (zwh a) (zJG N m) (zKc N m)) B (zKa N m)=r:=⟨_,rfl⟩
 have HR:=un hr;have ai:=un (show r.n<=B by rw[<-hr];exact zLj _ _ _);rw[hr];obtain⟨d,J⟩:∃d,zSz N b (zt0 f a) (B-r.n) m 0 (r.cols,0)=d:=⟨_,rfl⟩
 have HD:=un J;have ag:=un (show d.1.2<=m/\d.1.2<=B by have h:=zSH m 0 (r.cols,0) (own:=N) (N:=b) (A:=zt0 f a) (B:=B-r.n);rw[J]at h;have h2:=h.2 (Zb _);exact⟨by have:=h.1;simp only at this;omega,ω⟩);rw[J];obtain⟨W,y⟩:∃W,(w.alloc (.cells #[(rA,m,rc),(b:Int),(bA,m,bc_),(kA,b,kc),(own:Int),(eA,m,ec),(i,m,j),(N:Int)] 118))=W:=⟨_,rfl⟩
 refine μ4 (show θ W w.heap.size #[(rA,m,rc),(b:Int),(bA,m,bc_),(kA,b,kc),(own:Int),(eA,m,ec),(i,m,j),(N:Int)] 118by rw[<-y];exact zam σ) (show Below w w W by rw[<-y];exact zae w _) (show StdP W rA rc lA bA bc_ kA kc eA ec m b S (zt0 f a) (zwh a) c left by rw[<-y];exact(hS).alloc _) (show IntsZ W R (i,m,j) (a.map sgI)by rw[<-y];exact(hz).alloc _) λT F HS HG=>?_;obtain⟨cj,_,ck,cd,ct,_,dk,_,dm,_,bE,_,bS,_,bJ,_⟩:=bc8 T.o;go_enter func47,ntmps47;go_wp2_with fail
 refine(pfirst rA rc bA bc_ kA kc eA ec i j m b own N lA S (zt0 f a) (zwh a) c left _ HS.o H.o aI.o G.o).mono ?_;rintro e w1 ⟨wn,q,C,cC,tA,tc,rfl,hT,hC,hbn,hb⟩;refine μ3 (zad hb T.o) (hT) (hC) λaw HT HC=>?_;obtain⟨ch,_,ci,_,cs,_,dl,_,dn,_,bF,_,b6,_,b7,_⟩:=bc8 aw.o;refine μ3 (F.o.trans (hbn.mono F.o.size)) hbn hb λK aJ ad=>?_;go_wp2_with fail
 refine(pmay rA rc bA bc_ kA kc eA ec i j m b own N _ (by have:=H.o;omega) a6).mono ?_;rintro e w2 ⟨M,cM,rfl,hm,hb⟩;refine μ4 (HT.o.below hb) (HC.o.below hb) ((by have h:=hm;rw[aS.o]at h;exact h)) (ad.o.trans (hb.mono ad.o.size)) λbo ar HM aH=>?_;go_wp2_with fail
 refine(prun bo.o C cC W.heap.size (zJG N m) ar.o Q.o M b cM w1.heap.size (zKc N m) HM.o G.o (B:Int) (by have:=af.o;omega)).mono ?_;rintro e U ⟨ev,rfl,hev,hT3,hb3,hk3⟩;rw[show((B:Int)).toNat=B from YH B,HR.o]at hev hT3 ⊢;have aO:=un hev;have aj:=un hT3;have t:=aH.o.trans (hb3.mono aJ.o.size);have aL:=un (hk3.vec δ δ ar.o);refine μ3 (zad t T.o) (HG.o.below t) (F.o.trans ((t).mono F.o.size)) λax bj ab=>?_;rcases aO.o with ⟨g,rfl⟩ | ⟨g,s,rfl,z⟩
 ·have p:=un g;go_wp2_with fail
  refine(Tb.point aj.o).mono ?_;rintro e w4 ⟨P,cP,rfl,hv,hb⟩;refine μ6 (zad hb ax.o) (bj.o.below hb) (aj.o.below hb) (aL.o.below hb) (hv) (ab.o.trans ((hb).mono ab.o.size)) λay bx Z av aU aB=>?_;have l:=un Z.o.basis;have aT:=un (show ∀q∈zh1 b r.cols (za5 (zt0 f a) (zwh a) r.cols),mw q<=sB m S S by obtain⟨_,_,_,x⟩:=Z.o;exact z0l l.o (l.o.vals_ok _).2 (z0n l.o x.bas.good.2.2 x.std.blen x.std.zb) (zma _ _ _));have aG:=un (show dot (zJG N m) (zh1 b r.cols (za5 (zt0 f a) (zwh a) r.cols))=zSB N m f a r.cols by rw[<-H.o];exact zVd l.o.len);go_wp2_with fail
  refine(Vc.dot_ok C b cC (zJG N m) P b cP (zh1 b r.cols (za5 (zt0 f a) (zwh a) r.cols)) W.heap.size U.heap.size _ av.o aU.o (by rw[ah.o,zl8]) ω (λq D=>Zf (zTR N m q D) δ) (λq D=>Zf (aT.o q D) aY.o)).mono ?_;rintro e V ⟨g5,A5,m5,c5,D5,md5,cd5,rfl,hn,hb⟩;refine μ6 (zad hb ay.o) (bx.o.below hb) (Z.o.below hb) (av.o.below hb) ((by have h:=hn;rw[aG.o]at h;exact h)) (aB.o.trans ((hb).mono aB.o.size)) λaz bk bg cc aN aC=>?_;have o:=zae V (.cells #[g5,(A5,m5,c5),(D5,md5,cd5)] 62);refine μ7 (zad o az.o) (bk.o.below o) (bg.o.below o) (cc.o.below o) (aN.o.below o) (aC.o.trans ((o).mono aC.o.size)) (zal V #[g5,(A5,m5,c5),(D5,md5,cd5)] 62) λaA bl bh bd bf aE KV=>?_;obtain⟨cV,_,cW,_,c3,_⟩:=bc3 KV.o;go_wp2_with fail
  refine(Rt.sign g5 A5 m5 c5 D5 md5 cd5 (zSB N m f a r.cols) _ bf.o).mono ?_;rintro e w6 ⟨rfl,hb⟩;refine μ5 (zad hb aA.o) (bl.o.below hb) (bh.o.below hb) (bd.o.below hb) (aE.o.trans ((hb).mono aE.o.size)) λaD bm aa be ac=>?_;obtain⟨ef,_,eg,_,dY,_,dT,_,dU,_,d5,_,ea,_,eb,_⟩:=bc8 aD.o;by_cases k:0<zSB N m f a r.cols
  ·have a7:decide (0<(zSB N m f a r.cols).num.sign)=true:=ZG (Y0 (zYp.2 k)▸by decide);have a8:=ZG (zYp.2 k);have I:=un k;go_wp2_with fail
   refine(Tb.duals aa.o C cC (zJG N m) W.heap.size be.o Q.o G.o).mono ?_;rintro e E ⟨Y,nY,cY,rfl,hv,hb⟩;refine μ5 (zad hb aD.o) (bm.o.below hb) (aa.o.below hb) (hv) (ac.o.trans ((hb).mono ac.o.size)) λaF bn bi HY X=>?_;obtain⟨eh,_,ej,_,el,_,em,_,en,_,d7,_,dP,_,dR,_⟩:=bc8 aF.o;obtain rfl:m=nY:=by rw[hv.len,(l.o.duals_ok _).2]
   have a3:=un (show ∀q∈zcl (zt0 f a) r.cols (zJG N m),mw q<=sB m S S by obtain⟨_,_,_,x⟩:=bi.o;exact znb l.o x.bas.good.2.2 ah.o Q.o);go_wp2_with fail
   refine(pback rA rc bA bc_ kA kc eA ec i j m b own N (a.map sgI) R Y cY w6.heap.size (zcl (zt0 f a) r.cols (zJG N m)) (sB m S S) _ bn.o (zVI a) HY.o aX.o (zma _ _ _) a3.o a5).mono ?_;rintro e w8 ⟨Y2,nY2,cY2,rfl,hv,hb⟩;have a2:=un (hv);have au:=un (X.o.trans ((hb).mono X.o.size));obtain rfl:m=nY2:=by rw[hv.len,zSJ,(l.o.duals_ok _).2]
   have a9:=(X).o.size;go_wp2;refine Zi (v:=.tuple #[.pointer none,(Y2,m,cY2),.int .i64 (r.n:Int),.nilIface]) (by simp[results,results47,go_sem]) rfl ?_;exact⟨au.o,.inr (.inl ⟨p.o,I.o,Y2,cY2,rfl,a2.o.base a9⟩)⟩
  have a7:=ZJ λh=>k (zYp.1 (Int.sign_pos_iff.1 h))
  have a8:=ZJ λh=>k (zYp.1 h)
  have I:=un k;have dD:=ai.o;have dA:=af.o;have dC:=ag.o.1;go_wp2_with fail
  rw[show(B:Int)-(r.n:Int)=((B-r.n:Nat):Int)by omega];refine(pdrive aa.o i j N (by have:=H.o;omega) G.o ((B-r.n:Nat):Int) ω).mono ?_;rintro e E ⟨ev,rfl,hev,hT7,hb7,hk7⟩;rw[show(((B-r.n:Nat):Int)).toNat=B-r.n from YH _,HD.o]at hev hT7 ⊢;refine μ3 hev hT7 (ac.o.trans (hb7.mono K.o.size)) λaP a0 ae=>?_;rcases aP.o with ⟨g,rfl⟩ | ⟨g,s,rfl,z⟩
  ·have L:=un g;go_wp2;refine Zi (v:=.tuple #[.pointer (some ⟨q,0,none⟩),(),.int .i64 ((r.n+d.1.2:Nat):Int),.nilIface]) (by simp[results,results47,go_sem]) rfl ?_;exact⟨ae.o,.inr (.inr (.inr ⟨p.o,I.o,L.o,wn,q,tA,tc,rfl,a0.o,K.o.size,K.o⟩))⟩
  have L:=un g;have O:=un z;go_wp2;refine Zi (v:=.tuple #[.pointer none,(),.int .i64 ((r.n+d.1.2:Nat):Int),.iface 239 (.pointer (some ⟨s,0,none⟩))]) (by simp[results,results47,go_sem]) rfl ?_;exact⟨ae.o,.inr (.inr (.inl ⟨p.o,I.o,L.o,_,rfl,s,d.1.2,rfl,ag.o.2,O.o⟩))⟩
 have p:=un g;have O:=un z;go_wp2;refine Zi (v:=.tuple #[.pointer none,(),.int .i64 (r.n:Int),.iface 239 (.pointer (some ⟨s,0,none⟩))]) (by simp[results,results47,go_sem]) rfl ?_;exact⟨ab.o,.inl ⟨p.o,_,rfl,s,r.n,rfl,ai.o,O.o⟩⟩
