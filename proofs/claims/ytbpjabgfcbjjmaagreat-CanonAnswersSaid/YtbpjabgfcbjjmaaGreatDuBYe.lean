/- Contracts and lemmas: Open DuB Tb5 Sv Law3 Vec11 Is08 Lit. Conditions: as each says. -/
import Derived.Test.YtbpjabgfcbjjmaaGreatRows
import Derived.Test.YtbpjabgfcbjjmaaGreatBoolsYe
import Derived.ProofKit
import Derived.OpenShut
import Derived.JoinedCond
import Derived.Deep.Slices
import Derived.Deep.Grids
import Derived.Test.YtbpjabgfcbjjmaaGreatBasTYe
import Derived.Test.YtbpjabgfcbjjmaaGreatVec7Ye
import Derived.Laws.Small
set_option linter.all false
set_option maxHeartbeats 4000000
set_option maxRecDepth 100000
namespace Go.Proofs.YtbpjabgfcbjjmaaGreat
open Go.Proofs.Tryz
open Go.ChangeShapes Go.WideShapes Go.ChangeAt Go.RowKit Go.Deep
variable {cols:List Nat}{xs ys:List Rat}{b k:Nat}{A:OA}{w w':World}
theorem own:ownKnob prog.godebug=none:=ξ
theorem zqj:laidOutB prog=true:=ξ
theorem zmS(b o k:Nat):(⟨b,o,none⟩:Addr).add k=⟨b,o+k,none⟩:=by unfold Addr.add;split<;>simp_all
theorem zuZ{α:Type}{Q:Nat->α->Prop}:∀n:Nat,(∀i,i<n->∃x,Q i x)->∃l:List α,l.length=n/\∀i x,l[i]? = some x->Q i x
 | 0,_=>⟨[],rfl,λi x h=>by simp at h⟩
 | n+1,h=>by obtain⟨l,d,e⟩:=zuZ n (λi hi=>h i ω);obtain⟨x,f⟩:=h n ω;refine⟨l++[x],by simp[d],λi y a=>?_⟩;grind
section
variable {H:Type} {enc:TypeId × Value->H} {W:World} {base:Nat} {sp:Nat->Bool} {held:Bool}
end
open Go.RowKit Am
attribute [local go_sem ↓] Go.wp_at_zero Go.wp_at_succ
theorem zoJ(h:zbk cols xs k=none)(a:el xs k<0):zbk cols xs (k+1)=some k:=by simp only[zbk,h,if_pos a]
theorem zqk(a:¬el xs k<0):zbk cols xs (k+1)=zbk cols xs k:=by simp only[zbk];grind
theorem zsh(h:zbk cols xs k=some b)(a:el xs k<0)(hc:cols.getD k 0<cols.getD b 0):zbk cols xs (k+1)=some k:=by simp only[zbk,h];rw[if_pos ⟨a,hc⟩]
theorem zsg(h:zbk cols xs k=some b)(hc:¬cols.getD k 0<cols.getD b 0):zbk cols xs (k+1)=some b:=by simp only[zbk,h];rw[if_neg (λh=>hc h.2)]
theorem znI(h:zbk cols xs k=some b):b<k:=by have s:=zdk cols xs k;rw[h]at s;exact s.1
section
variable {W0 w:World} {H q:Nat} {rA:OA} {rc:Nat} {lA:List Value} {bA:OA} {bc_:Nat} {kA:OA} {kc:Nat} {eA:OA} {ec m N S own:Nat} {A:List (List Rat)} {b c:List Rat} {left:List Int}
  {tA:OA} {tc:Nat} {cols:List Nat}
namespace Du
theorem leave(h:zhi W0 w H q rA rc lA bA bc_ kA kc eA ec m N S own A b c left tA tc cols) :
  Calls prog 149 #[.pointer (some ⟨q,0,none⟩)] w λe w'=>e=.returned (.int .i64 (zbh (zi5 cols (za5 A b cols))))/\Below w w w':=by
 have HP:=un h;obtain⟨qb,xA,xc,E⟩:=h;have HL:=un E.basis.len;have ad:=un (E.basis.vals_ok b).2;have aE:=E.std.hm;clear E;go_enter func149,ntmps149;go_wp2_with fail
 refine(Tb.basis HP.o).mono ?_;rintro e w1 ⟨A1,c1,rfl,hv1,hb⟩;have I:=un hb;have ao:=un hv1;clear hv1 hb;go_wp2_with fail
 refine(Tb.values (HP.o.below I.o)).mono ?_;rintro e O ⟨A2,c2,rfl,hv2,hb⟩;refine μ3 (ao.o.below hb) hv2 (I.o.trans (hb.mono I.o.size)) λHI HX X=>?_;clear hv2 hb;go_wp2
 go_loopw [3,12] (λbv i wr=>∃k:Nat,i=.int .i64 k/\bv=.int .i64 (zbh (zbk cols (za5 A b cols) k))/\k<=m/\Below O O wr)
  (λ_ i _=>m-(intOf i).toNat)
 case atStart=>exact⟨0,rfl,rfl,Zb _,Zj _ _⟩
 obtain⟨k,rfl,rfl,hk,z⟩:=hrel;have V:=un z;by_cases ai:k<m
 ·have ae:=un (HX.o.below z);have aa:=un (HI.o.below z);obtain⟨bx,rfl,_,_⟩:=ae.o.has ω;obtain⟨y,rfl,_,_⟩:=aa.o.has ω;have hq:=zaH (xs:=za5 A b cols) (j:=k) (by rw[ad.o];exact ai);obtain⟨g,a,p,n,d,o,l,k0,k1,k2,hR⟩:=ae.o.at_ hq;have HR:=un hR;have ah:cols[k]? = some (cols.getD k 0):=zaO (by rw[HL.o];exact ai);have am:=un ah;have aA:(0:Int)<=(k:Int):=Zf _;have aB:(k:Int)<(m:Int):=ω
  clear z hR hq ah;have al:=un (Bel.mk V.o);go_wp2_with fail
  refine μ4 (show Bel O (wr.alloc (.cells #[g,(a,p,n),(d,o,l)] 62))from al.o.alloc _) (show RatS (wr.alloc (.cells #[g,(a,p,n),(d,o,l)] 62)) g (a,p,n) (d,o,l) (el (za5 A b cols) k)from HR.o.alloc _) (show IntsS (wr.alloc (.cells #[g,(a,p,n),(d,o,l)] 62)) w.heap.size (y,m,c1) cols from aa.o.alloc _) (zal wr #[g,(a,p,n),(d,o,l)] 62) λD C Z x=>?_;obtain⟨x0,_,x1,_,x2,_⟩:=bc3 x.o;have L:=Z.o.at_ am.o;have F:=zaa L;by_cases s:el (za5 A b cols) k<0
  ·have hs:=zrN s;have ak:=zeh.2 s;cases hbe:zbk cols (za5 A b cols) k with
   | none =>
    have t:=un (zoJ hbe s);have J:zbh none = -1:=rfl;rw[J];clear hbe s;refine wp_region_noPanic ?_;refine wp_region_held_drew (S:=λw'=>χ w' wr.heap.size 0 (.bool g)/\χ w' wr.heap.size 1 (a,p,n)/\χ w' wr.heap.size 2 (d,o,l)) ξ kp λhHeld=>?_;refine zaw [0] ?_;repeat refine tkH (hS:=hHeld) (h:=?_)
    refine zao ?_;refine wpAnyH_ready (rs:=[1]) ξ σ ?_;refine AllReadyH.cons rfl (λK r=>?_) AllReadyH.nil;go_simp;(go_at_call 61;(with_reducible refine(Rt.sign g a p n d o l (el (za5 A b cols) k) _ C.o.drew).mono ?_);rintro e v1 ⟨rfl,hb⟩;have u:=un (zad hb x.o);have v:=un (D.o.drew.below hb);obtain⟨R,_,T,_,U,_⟩:=bc3 u.o;clear hb);(try go_wp2_with fail);refine r.o _ _ kp λhHeld=>?_;clear r K;try simp only[Act.put,pu1,pu2,pu3,pu4,pu5,pu6]
    refine zaw [2,3,4,5,6] ?_;repeat refine tkH (hS:=hHeld) (h:=?_)
    refine zao ?_;refine zaw [7,8,9,10,11,12,13,14,15] ?_;repeat refine skH (hS:=hHeld) (h:=?_)
    refine zao ?_;refine zaw [16,17] ?_;repeat refine tkH (hS:=hHeld) (h:=?_)
    refine zao ?_;refine wpAnyH_done ξ ?_ _;refine NoPanic.normal ?_;go_wp2;go_roundw
    case rel=>exact⟨k+1,by go_num,by rw[t.o];rfl,ω,v.o.b⟩
    case measure=>simp[intOf];omega
   | some f =>
    have J:zbh (some f)=(f:Int):=rfl;rw[J];have az:=znI hbe;have ag:cols[f]? = some (cols.getD f 0):=zaO (by rw[HL.o];omega);have aC:(0:Int)<=(f:Int):=Zf _;have aD:(f:Int)<(m:Int):=ω;have M:=Z.o.at_ ag;have G:=zaa M;have Y:=un hbe;have ap:=un s;clear hbe s ag;by_cases hc:cols.getD k 0<cols.getD f 0
    ·have t:=un (zsh Y.o ap.o hc);have B:((cols.getD k 0:Nat):Int)<((cols.getD f 0:Nat):Int):=ω
     clear hc;generalize cols.getD k 0=P at B L F;generalize cols.getD f 0=Q at B M G;refine wp_region_noPanic ?_;refine wp_region_held_drew (S:=λw'=>χ w' wr.heap.size 0 (.bool g)/\χ w' wr.heap.size 1 (a,p,n)/\χ w' wr.heap.size 2 (d,o,l)/\χ w' y k (.int .i64 (P:Int))/\χ w' y f (.int .i64 (Q:Int))) ξ kp λhHeld=>?_;refine zaw [0] ?_;repeat refine tkH (hS:=hHeld) (h:=?_)
     refine zao ?_;refine wpAnyH_ready (rs:=[1]) ξ σ ?_;refine AllReadyH.cons rfl (λK r=>?_) AllReadyH.nil;go_simp;(go_at_call 61;(with_reducible refine(Rt.sign g a p n d o l (el (za5 A b cols) k) _ C.o.drew).mono ?_);rintro e v1 ⟨rfl,hb⟩;have u:=un (zad hb x.o);have v:=un (D.o.drew.below hb);obtain⟨R,_,T,_,U,_⟩:=bc3 u.o;have aw:=zab hb F;have ax:=zab hb G;clear hb);(try go_wp2_with fail);refine r.o _ _ kp λhHeld=>?_;clear r K;try simp only[Act.put,pu1,pu2,pu3,pu4,pu5,pu6]
     refine zaw [2,3,4,5,6,7,8,9,10,11,12,13,14,15,16,17] ?_;repeat refine tkH (hS:=hHeld) (h:=?_)
     refine zao ?_;refine wpAnyH_done ξ ?_ _;refine NoPanic.normal ?_;go_wp2;go_roundw
     case rel=>exact⟨k+1,by go_num,by rw[t.o];rfl,ω,v.o.b⟩
     case measure=>simp[intOf];omega
    have t:=un (zsg Y.o hc);have B:¬((cols.getD k 0:Nat):Int)<((cols.getD f 0:Nat):Int):=ω;clear hc;generalize cols.getD k 0=P at B L F;generalize cols.getD f 0=Q at B M G;refine wp_region_noPanic ?_;refine wp_region_held_drew (S:=λw'=>χ w' wr.heap.size 0 (.bool g)/\χ w' wr.heap.size 1 (a,p,n)/\χ w' wr.heap.size 2 (d,o,l)/\χ w' y k (.int .i64 (P:Int))/\χ w' y f (.int .i64 (Q:Int))) ξ kp λhHeld=>?_;refine zaw [0] ?_;repeat refine tkH (hS:=hHeld) (h:=?_)
    refine zao ?_;refine wpAnyH_ready (rs:=[1]) ξ σ ?_;refine AllReadyH.cons rfl (λK r=>?_) AllReadyH.nil;go_simp;(go_at_call 61;(with_reducible refine(Rt.sign g a p n d o l (el (za5 A b cols) k) _ C.o.drew).mono ?_);rintro e v1 ⟨rfl,hb⟩;have u:=un (zad hb x.o);have v:=un (D.o.drew.below hb);obtain⟨R,_,T,_,U,_⟩:=bc3 u.o;have aw:=zab hb F;have ax:=zab hb G;clear hb);(try go_wp2_with fail);refine r.o _ _ kp λhHeld=>?_;clear r K;try simp only[Act.put,pu1,pu2,pu3,pu4,pu5,pu6]
    refine zaw [2,3,4,5,6,7,8,9,10,11,12,13,14,15,16,17] ?_;repeat refine tkH (hS:=hHeld) (h:=?_)
    refine zao ?_;refine wpAnyH_done ξ ?_ _;refine NoPanic.normal ?_;go_wp2;go_roundw
    case rel=>exact⟨k+1,by go_num,by rw[t.o];rfl,ω,v.o.b⟩
    case measure=>simp[intOf];omega
  have hs:=zrO s;have ak:¬(el (za5 A b cols) k).num<0:=λe=>s (zeh.1 e)
  have aF:=Z3 ak;have t:=un (zqk (cols:=cols) s);clear s;refine wp_region_noPanic ?_;refine wp_region_held_drew (S:=λw'=>χ w' wr.heap.size 0 (.bool g)/\χ w' wr.heap.size 1 (a,p,n)/\χ w' wr.heap.size 2 (d,o,l)) ξ kp λhHeld=>?_;refine zaw [0] ?_;repeat refine tkH (hS:=hHeld) (h:=?_)
  refine zao ?_;refine wpAnyH_ready (rs:=[1]) ξ σ ?_;refine AllReadyH.cons rfl (λK r=>?_) AllReadyH.nil;go_simp;(go_at_call 61;(with_reducible refine(Rt.sign g a p n d o l (el (za5 A b cols) k) _ C.o.drew).mono ?_);rintro e v1 ⟨rfl,hb⟩;have u:=un (zad hb x.o);have v:=un (D.o.drew.below hb);obtain⟨R,_,T,_,U,_⟩:=bc3 u.o;clear hb);(try go_wp2_with fail);refine r.o _ _ kp λhHeld=>?_;clear r K;try simp only[Act.put,pu1,pu2,pu3,pu4,pu5,pu6]
  refine zaw [2,3] ?_;repeat refine tkH (hS:=hHeld) (h:=?_)
  refine zao ?_;refine zaw [4,5,6,7,8,9,10,11,12,13,14,15,16] ?_;repeat refine skH (hS:=hHeld) (h:=?_)
  refine zao ?_;refine zaw [17] ?_;repeat refine tkH (hS:=hHeld) (h:=?_)
  refine zao ?_;refine wpAnyH_done ξ ?_ _;refine NoPanic.normal ?_;go_wp2;go_roundw
  case rel=>exact⟨k+1,by go_num,by rw[t.o],ω,v.o.b⟩
  case measure=>simp[intOf];omega
 obtain rfl:m=k:=ω;have t:=un (show zi5 cols (za5 A b cols)=zbk cols (za5 A b cols) m by unfold zi5;rw[ad.o]);clear z;go_wp2;go_ret;exact⟨by rw[t.o];rfl,X.o.trans (V.o.mono X.o.size)⟩
end Du
end
def zsF (N:Nat) (cols:List Nat) (xs:List Rat):Nat->List Rat
  | 0=>List.replicate N 0
  | k+1=>(zsF N cols xs k).set (cols.getD k 0) (el xs k)
theorem zh2(N:Nat)(cols:List Nat)(xs:List Rat):∀k,(zsF N cols xs k).length=N
 | 0=>by simp[zsF]
 | k+1=>by rw[zsF,ZQ];simp[zh2]
theorem zvi{m N:Nat}{A:List (List Rat)}{cols:List Nat}(d:Basis m N A cols)(xs:List Rat):∀k,k<=m->∀j,j<N->el (zsF N cols xs k) j=pt k (λk=>cols.getD k 0) (el xs) j
 | 0,_,j,hj=>by rw[zsF,zrm];rfl
 | k+1,hk,j,hj=>by
  have g:=zvi d xs k ω j hj;have f:=d.lt k ω;rw[zsF,ziZ (by rw[zh2];exact f),g];by_cases e:cols.getD k 0=j;rw[if_pos e];subst e;exact(zA7 (m:=k+1) (β:=λk=>cols.getD k 0) (λa b i l=>d.inj a b ω ω) (el xs) (k:=k) ω).symm;rw[if_neg e];show _=pt (k+1) _ _ j
  unfold pt;rw[zai,if_neg e];grind
theorem zxy{m N:Nat}{A:List (List Rat)}(a:Basis m N A cols)(xs:List Rat):zsF N cols xs m=zh1 N cols xs:=by apply Xc;intro j;by_cases hj:j<N;rw[zaH (by rw[zh2];exact hj),zaH (by rw[zl8];exact hj),zvi a xs m (Za _) j hj,zvg hj,a.len];grind[List.getElem?_eq_none,zh2,zl8]
section
variable {W0 w:World} {H q:Nat} {rA:OA} {rc:Nat} {lA:List Value} {bA:OA} {bc_:Nat} {kA:OA} {kc:Nat} {eA:OA} {ec m N S own:Nat} {A:List (List Rat)} {b c:List Rat} {left:List Int}
  {tA:OA} {tc:Nat} {cols:List Nat}
namespace Tb
theorem point(h:zhi W0 w H q rA rc lA bA bc_ kA kc eA ec m N S own A b c left tA tc cols) :
  Calls prog 50 #[.pointer (some ⟨q,0,none⟩)] w λe w'=>∃(s:OA) (c':Nat),e=.returned (s,N,c')/\VecS w' w (s,N,c') (zh1 N cols (za5 A b cols))/\Below w w w':=by
 obtain⟨qb,xA,xc,g⟩:=h;have d:=un g;have ao:=g.std.hm;have aj:=g.std.hN;have t:=un (Zj w.heap.size w);obtain⟨k0,_,k1,_,_,_,_,_,_,_,_,_,T,ar,_,_,U,au⟩:=bc9 g.blk;clear g;go_enter func50,ntmps50;go_wp2_with fail
 with_reducible refine(Mt.cols N m rc rA _).mono ?_
 rintro e w1 ⟨rfl,hb⟩;have r:=un (d.o.below hb);have E:=un (t.o.trans ((hb).mono t.o.size));have F:=zab hb T;have aM:=zaa F;have G:=zab hb U;have aN:=zaa G;clear hb;have v:=un (E.o.size);have P:=un (d.o.basis.vals_ok b).2;go_wp2_with (at_make;go_must (refine zdv rfl _ _ rfl N _ rfl rfl rfl ω w1.heap.size rfl ?_;intro w2 C l;have L:=un C;have J:=un l;have m6:=zab l F;have m8:=zab l G;clear C l))
 go_loopw [18] (λi wr=>∃k:Nat,i=.int .i64 k/\k<=m/\VecS wr w1 (w1.heap.size,N,N) (zsF N cols (za5 A b cols) k)/\Below w1 w1 wr)
  (λi _=>m-(intOf i).toNat)
 case atStart=>exact⟨0,rfl,Zb _,L.o,J.o⟩
 obtain⟨k,rfl,hk,a,f⟩:=hrel;by_cases o:k<m
 ·have hj:cols[k]? = some (cols.getD k 0):=zaO (by rw[d.o.basis.len];exact o);have B:=d.o.basis.lt k o;have u:=un (show zsF N cols (za5 A b cols) (k+1)=(zsF N cols (za5 A b cols) k).set (cols.getD k 0) (el (za5 A b cols) k)from rfl);have p:=zaH (xs:=zsF N cols (za5 A b cols) k) (j:=cols.getD k 0) (by rw[zh2];exact B);generalize cols.getD k 0=j at hj B p u;have D:=zaH (xs:=za5 A b cols) (j:=k) (by rw[P.o];exact o);have y:=(r.o.below f).blk
  obtain⟨_,_,_,_,_,_,_,_,_,_,_,_,t6,aI,_,_,t8,aK⟩:=bc9 y;obtain⟨bt,R,_,_⟩:=d.o.colsI.has ω;subst R;obtain⟨bs,Q,_,_⟩:=d.o.x.has ω;subst Q;have p0:=(r.o.colsI.below f).at_ hj;obtain⟨ga,V,ma,ca,Y,ay,ag,a0,a1,a2,z⟩:=(r.o.x.below f).at_ D;obtain⟨go,X,mo,co,Z,az,ah,o0,o1,o2,_⟩:=a.at_ p;have aE:=a.fro (j*3);have of1:=a.fro (j*3+1);have aF:=a.fro (j*3+2);refine μ3 a (Bel.mk f) z λn K O=>?_;clear a f z p D y hj;have ak:(0:Int)<=(k:Int):=Zf _;have al:(k:Int)<(m:Int):=ω;have am:(0:Int)<=(j:Int):=Zf _;have an:(j:Int)<(N:Int):=ω;go_wp2;go_roundw
  case rel=>exact⟨k+1,by go_num,ω,by rw[u.o];exact n.o.store j O.o,(Bel.set3 K.o (Za _) _ _ _).b⟩
  case measure=>simp[intOf];omega
 obtain rfl:m=k:=ω;refine μ3 a f (zxy d.o.basis (za5 A b cols)) λn I M=>?_;clear a f;go_wp2;go_ret;exact⟨_,_,rfl,by have h:=n.o.base v.o;rw[M.o]at h;exact h,E.o.trans (I.o.mono v.o)⟩
end Tb
end
def zPA (n:Nat) (ys:List Rat) (rows:List PRow):Nat->List Rat
  | 0=>List.replicate n 0
  | k+1=>zly (zPA n ys rows k) (el ys k) (rows.getD k default).coef
def sv (n:Nat) (ys:List Rat) (rows:List PRow):List Rat:=zPA n ys rows rows.length
def zPV (ys:List Rat) (rows:List PRow) (k:Nat):Rat:=zai k λi=>el ys i*(rows.getD i default).rhs
def sb (ys:List Rat) (rows:List PRow):Rat:=zPV ys rows rows.length
theorem VecS.set3{H:Nat}{v:Value}{qs:List Rat}{cs:Array Value}{t:TypeId}(h:VecS w H v qs)(a:θ w b cs t)(f:206≠t)(g:b<H)(i j k:Nat)(u x y:Value) :
  VecS (((w.setCell ⟨b,i,none⟩ u).setCell ⟨b,j,none⟩ x).setCell ⟨b,k,none⟩ y) H v qs:=by
 have d:v.ownBlock≠some b:=λe=>by have:=(h.lt e).1;omega
 exact((h.setCell (p:=⟨b,i,none⟩) d a f u).setCell (p:=⟨b,j,none⟩) d (zar u a) f x).setCell (p:=⟨b,k,none⟩) d (zar x (zar u a)) f y
theorem zcs.take{w:World}{A:OA}{ps:List (Int × Int)}(h:zcs w A ps)(n:Nat):zcs w A (ps.take n):=by
 intro k x a;rw[Yr]at a;split at a
 exact h k x a;cases a
theorem zex.take{w:World}{A:OA}{ls:List LineV}(h:zex w A ls)(n:Nat):zex w A (ls.take n):=by
 intro k x a;rw[Yr]at a;split at a
 exact h k x a;cases a
theorem zcs.below'{ps:List (Int × Int)}(h:zcs w A ps)(a:Below w w w'):zcs w' A ps:=h.below a
theorem zex.below'{ls:List LineV}(h:zex w A ls)(a:Below w w w'):zex w' A ls:=h.below a
abbrev S1 (xs:List Rat):Prop:=∀q∈xs,mw q<=1
structure Good1 (nc nr:Nat) (cost:List Rat) (rows:List PRow):Prop where
  hc:nc<=5
  hr:nr<=4
  sc:S1 cost
  rw_:∀p∈rows,p.coef.length=nc/\S1 p.coef/\mw p.rhs<=1
  kd:Kinds rows
theorem RowsS.setT{w:World}{H:Nat}{v:Value}{ps:List PRow}(h:RowsS w H v ps){a:Addr}{t:TypeId}{cs:Array Value}(hg:θ w a.block cs t)(h1:206≠t)(g:62≠t)(i:101≠t)(u:Value):RowsS (w.setCell a u) H v ps:=by obtain⟨l,d,e,f⟩:=h.row;exact(RowsL.setT (l:=l) ⟨d,e,f⟩ hg h1 g i u).toS
def zKx:Value->Nat
  | .slice _ n _=>n
  | _=>0
def zlz:List Rat->List Rat->Int
  | [],[]=>0
  | [],_::_ => -1
  | _::_,[]=>1
  | a::xs,b::ys=>if zlX a b=0 then zlz xs ys else zlX a b
theorem zot:∀xs ys:List Rat,zlz xs ys=0↔xs=ys
 | [],[]=>by simp[zlz]
 | [],_::_=>by simp[zlz]
 | _::_,[]=>by simp[zlz]
 | a::xs,b::ys=>by unfold zlz;by_cases h:zlX a b=0;rw[if_pos h,zot xs ys,(zkD a b).1 h];simp;rw[if_neg h];constructor;intro e;exact absurd e h;intro e;injection e with e1 _;exact absurd ((zkD a b).2 e1) h
theorem zuu{a b:Rat}(d:xs[k]? = some a)(e:ys[k]? = some b):zlz (xs.drop k) (ys.drop k)=if zlX a b=0 then zlz (xs.drop (k+1)) (ys.drop (k+1))else zlX a b:=by
 have h1:xs.drop k=a::xs.drop (k+1):=by rw[X8 (ZF.1 d).1,(ZF.1 d).2]
 have f:ys.drop k=b::ys.drop (k+1):=by rw[X8 (ZF.1 e).1,(ZF.1 e).2]
 rw[h1,f,zlz]
theorem zwD(h:k=min xs.length ys.length):zlz (xs.drop k) (ys.drop k)=if xs.length<ys.length then -1 else if ys.length<xs.length then 1 else 0:=by
 rcases XJ xs.length ys.length with h1 | h1 | h1;have a:xs.drop k=[]:=XG ω;rw[if_pos h1,a];cases e:ys.drop k with
 | nil=>have:=congrArg List.length e;simp at this;omega
 | cons=>rfl
 have a:xs.drop k=[]:=XG ω;have d:ys.drop k=[]:=XG ω;rw[if_neg ω,if_neg ω,a,d];rfl;have d:ys.drop k=[]:=XG ω;rw[if_neg ω,if_pos h1,d];cases e:xs.drop k with
 | nil=>have:=congrArg List.length e;simp at this;omega
 | cons=>rfl
namespace Vc
theorem cmp(S:Nat)(hS:8*S+8<=LIM)(A:OA)(n c:Nat)(xs:List Rat)(H:Nat)(B:OA)(d c':Nat)(ys:List Rat)(H':Nat)(w:World)(p:VecS w H (A,n,c) xs)(r:VecS w H' (B,d,c') ys)(zx:∀q∈xs,mw q<=S)(zy:∀q∈ys,mw q<=S) :
  Calls prog 131 #[(A,n,c),(B,d,c')] w λe w'=>e=.returned (.int .i64 (zlz xs ys))/\Below w w w':=by
 refine μ7 p.len r.len p r hS zx zy λT U HX HY ar ZX ZY=>?_;have aS:n<=9223372036854775807:=by have h1:=p.form.2.1;have V:=p.form.2.2.1;unfold maxLen at V;omega
 have aT:d<=9223372036854775807:=by have h1:=r.form.2.1;have V:=r.form.2.2.1;unfold maxLen at V;omega
 clear zx zy hS p r;obtain⟨N,hN⟩:∃N,N=min n d:=⟨_,rfl⟩
 have Z:=un hN;have aM:N<=9223372036854775807:=ω;have aK:N<=n:=ω;have aL:N<=d:=ω;clear hN;go_enter func131,ntmps131;go_upto_region 1 with fail
 go_cut[11,12] (λa b wr=>a=.int .i64 (N:Int)/\b=.int .i64 0/\wr=w)
 case first =>
  go_wp2
  all_goals
   go_meet
   case rel=>exact⟨by congr 1;have:=Z.o;omega,rfl,rfl⟩
 obtain⟨rfl,rfl,rfl⟩:=hcut;rename World=>w
 go_wp2
 go_loopw [12] (λi wr=>∃k:Nat,i=.int .i64 k/\k<=N/\zlz xs ys=zlz (xs.drop k) (ys.drop k)/\Below w w wr)
  (λi _=>N-(intOf i).toNat)
 case atStart=>exact⟨0,rfl,Zb _,rfl,Zj _ _⟩
 obtain⟨k,rfl,hk,I,l⟩:=hrel;have X:=un I;by_cases aR:k<N
 ·obtain⟨g,rfl,_,_⟩:=HX.o.has ω;obtain⟨by_,rfl,_,_⟩:=HY.o.has ω;have J:=zaH (xs:=xs) (j:=k) (by rw[<-T.o];omega);have L:=zaH (xs:=ys) (j:=k) (by rw[<-U.o];omega);obtain⟨F,s,M,x,u,P,C,y0,y1,y2,ae⟩:=(HX.o.below l).at_ J;obtain⟨G,t,O,y,v,Q,D,z0,z1,z2,af⟩:=(HY.o.below l).at_ L;have Y:=un (zuu J L);have ao:=un (show 4*(mw (el xs k)+mw (el ys k))+8<=LIM by have:=ar.o;have:=ZX.o _ (Zz J);have:=ZY.o _ (Zz L);omega)
  refine μ3 (ae) (af) (Bel.mk l) λap aq HW=>?_;have aE:=y0;have ay:=zaa aE;have aF:=y1;have az:=zaa aF;have aG:=y2;have aA:=zaa aG;have aH:=z0;have aB:=zaa aH;have aI:=z1;have aC:=zaa aI;have aJ:=z2;have aD:=zaa aJ;have aN:(0:Int)<=(k:Int):=Zf _;have aO:(k:Int)<(N:Int):=ω;have aP:(k:Int)<(n:Int):=ω;have aQ:(k:Int)<(d:Int):=ω;clear l I J L y0 y1 y2 z0 z1 z2 ae af;go_wp2_with fail
  refine zaS (S:=λw'=>χ w' g (k*3) (.bool F)/\χ w' g (k*3+1) (s,M,x)/\χ w' g (k*3+2) (u,P,C)/\χ w' by_ (k*3) (.bool G)/\χ w' by_ (k*3+1) (t,O,y)/\χ w' by_ (k*3+2) (v,Q,D)) [] (h:=λhHeld=>?_);refine zaw [0,1,2,3,4,5,6,7] ?_;repeat refine tkL (hS:=hHeld) (h:=?_)
  refine zao ?_;refine zaB 8 (h:=λK hK=>?_);go_simp;(go_at_call 27;(with_reducible refine(Rt.cmpr F s M x u P C (el xs k) G t O y v Q D (el ys k) _ ap.o.drew aq.o.drew ao.o).mono ?_);rintro e v1 ⟨rfl,hb⟩;have ak:=un (HW.o.drew.below hb);have aV:=zab hb ay;have aW:=zab hb az;have aX:=zab hb aA;have aY:=zab hb aB;have aZ:=zab hb aC;have a0:=zab hb aD;clear hb);(try go_wp2_with fail);refine shutOn hK λhHeld=>?_;clear hK K;refine zaw [9] ?_;repeat refine tkL (hS:=hHeld) (h:=?_)
  refine zao ?_;refine zaM (h:=?_);by_cases o:zlX (el xs k) (el ys k)=0
  ·rw[o];have f:=un (show zlz xs ys=zlz (xs.drop (k+1)) (ys.drop (k+1))by rw[X.o,Y.o,if_pos o]);clear o;go_wp2;go_roundw
   case rel=>exact⟨k+1,by go_num,ω,f.o,ak.o.b⟩
   case measure=>simp[intOf];omega
  have f:=un (show zlz xs ys=zlX (el xs k) (el ys k)by rw[X.o,Y.o,if_neg o]);generalize zlX (el xs k) (el ys k)=z at o f;have aU:(z != 0)=true:=by simp[o]
  go_wp2;go_ret;exact⟨by rw[f.o];rfl,ak.o.b⟩
 obtain rfl:N=k:=ω;have f:=un (show zlz xs ys=if n<d then -1 else if d<n then 1 else 0 by rw[I,zwD (by rw[<-T.o,<-U.o];exact Z.o),<-T.o,<-U.o]);have R:=un l;clear I l;rcases XJ n d with h1 | h1 | h1
 ·have e:zlz xs ys = -1:=(by rw[f.o,if_pos h1])
  have d1:(n:Int)<(d:Int):=ω;have E:=un e;clear e;go_wp2;go_ret;exact⟨by rw[E.o];rfl,R.o⟩
 ·have e:zlz xs ys=0:=(by rw[f.o,if_neg ω,if_neg ω])
  have d1:¬(n:Int)<(d:Int):=ω;have d2:¬(d:Int)<(n:Int):=ω;have E:=un e;clear e;go_wp2;go_ret;exact⟨by rw[E.o];rfl,R.o⟩
 have e:zlz xs ys=1:=(by rw[f.o,if_neg ω,if_pos h1])
 have d1:¬(n:Int)<(d:Int):=ω;have d2:(d:Int)<(n:Int):=ω;have E:=un e;clear e;go_wp2;go_ret;exact⟨by rw[E.o];rfl,R.o⟩
theorem same(S:Nat)(hS:8*S+8<=LIM)(A:OA)(n c:Nat)(xs:List Rat)(H:Nat)(B:OA)(g c':Nat)(ys:List Rat)(i:Nat)(w:World)(k:VecS w H (A,n,c) xs)(l:VecS w i (B,g,c') ys)(o:∀q∈xs,mw q<=S)(p:∀q∈ys,mw q<=S) :
  Calls prog 69 #[(A,n,c),(B,g,c')] w λe w'=>e=.returned (.bool (decide (xs=ys)))/\Below w w w':=by
 have r:=un (cmp S hS A n c xs H B g c' ys i w k l o p);have a:=un (show(zlz xs ys == 0)=decide (xs=ys)by rw[Vh];simp[zot]);clear k l o p hS;go_enter func69,ntmps69;go_wp2_with fail
 refine r.o.mono ?_;rintro e w1 ⟨rfl,hb⟩;have j:=un hb;clear hb;generalize zlz xs ys=z at a;by_cases f:z=0
 ·have d:(z == 0)=true:=by simp[f]
  have E:=un (show decide (xs=ys)=true by rw[<-a.o,d]);subst f;go_wp2;go_ret;exact⟨by rw[E.o];rfl,j.o⟩
 have d:(z == 0)=false:=by simp[f]
 have E:=un (show decide (xs=ys)=false by rw[<-a.o,d]);go_wp2;go_ret;exact⟨by rw[E.o];rfl,j.o⟩
end Vc
namespace Ct
theorem same_yes(g:Bool)(A:OA)(m c:Nat)(D:OA)(k i:Nat)(a:Rat)(g':Bool)(d:OA)(m' c':Nat)(f:OA)(l j:Nat)(b:Rat)(w:World)(h:RatS w g (A,m,c) (D,k,i) a)(n:RatS w g' (d,m',c') (f,l,j) b)(p:4*(mw a+mw b)+8<=LIM)(o:a=b) :
  Calls prog 55 #[.agg #[g,(A,m,c),(D,k,i)],.agg #[g',(d,m',c'),(f,l,j)]] w λe w'=>e=.returned true/\Below w w w':=by
 have h:=Rt.same g A m c D k i a g' d m' c' f l j b w h n p;rw[show zA9 a b=true from ZT o]at h;exact h
end Ct
namespace Rt
theorem num_of(g:Bool)(A:OA)(m c:Nat)(D:OA)(d a:Nat)(q:Rat)(w:World)(h:RatS w g (A,m,c) (D,d,a) q) :
  Calls prog 65 #[.agg #[g,(A,m,c),(D,d,a)]] w (zfg w q.num) :=
 (num g A m c D d a q w h).mono (by rintro e w' ⟨rfl,hb⟩;exact⟨g,A,m,c,rfl,(h.below hb).num,hb⟩)
theorem icmp_same(g:Bool)(A:OA)(m c:Nat)(x:Int)(g':Bool)(B:OA)(m' c':Nat)(y:Int)(w:World)(h:IntS w g (A,m,c) x)(a:IntS w g' (B,m',c') y)(e:x=y) :
  Calls prog 64 #[.agg #[g,(A,m,c)],.agg #[g',(B,m',c')]] w λe w'=>e=.returned (.int .i64 0)/\Below w w w':=by
 have h1:=It.cmp g A m c x g' B m' c' y w h a;rw[zgN e]at h1;exact h1
theorem ncmp_same(A B:OA)(m c m' c' a b:Nat)(w:World)(d:zas w (A,m,c) a)(f:zas w (B,m',c') b)(e:a=b) :
  Calls prog 66 #[.agg #[(A,m,c)],.agg #[(B,m',c')]] w λe w'=>e=.returned (.int .i64 0)/\Below w w w':=by
 have h1:=Nt.cmp A B m c m' c' a b w d f;rw[zgN (by rw[e])]at h1;exact h1
end Rt
namespace Lw
theorem z6u(g:Bool)(A:OA)(m c:Nat)(D:OA)(f d:Nat)(a:Rat)(p q:Int)(w:World)(h:RatS w g (A,m,c) (D,f,d) a)(u:q≠0)(t:I64 p)(v:I64 q)(i:a=Rat.divInt p q)(hm:mw a<=1000000) :
  Calls prog 18 #[.agg #[g,(A,m,c),(D,f,d)],.int .i64 p,.int .i64 q] w λe w'=>e=.returned true/\Below w w w':=by
 refine μ7 u t v i (show 4*(mw a+mw (Rat.divInt p q))+8<=LIM by rw[<-i];have:=zaP;omega) (show a.num=(Rat.divInt p q).num by rw[i]) (show a.den=(Rat.divInt p q).den by rw[i]) λHQ l n HA HL HN HD=>?_;clear u t v i hm;generalize hr:Rat.divInt p q=r at *
 have HR:=un hr;clear hr;obtain⟨W,k⟩:∃W,(w.alloc (.cells #[g,(A,m,c),(D,f,d)] 62))=W:=⟨_,rfl⟩
 refine μ3 (show θ W w.heap.size #[g,(A,m,c),(D,f,d)] 62by rw[<-k];exact zam σ) (show Below w w W by rw[<-k];exact zae w _) (show RatS W g (A,m,c) (D,f,d) a by rw[<-k];exact(h).alloc _) λs j HX=>?_;clear h;go_enter func18,ntmps18;go_wp2_with fail
 clear k;with_reducible refine(Rt.of p q HQ.o l.o.1 l.o.2 n.o.1 n.o.2 _).mono ?_
 rintro e w1 ⟨g2,A2,m2,c2,D2,md2,cd2,rfl,hn,hb⟩;refine μ5 (show θ (w1.alloc (.cells #[g2,(A2,m2,c2),(D2,md2,cd2)] 62)) w.heap.size #[g,(A,m,c),(D,f,d)] 62from zak (zad hb s.o)) (show RatS (w1.alloc (.cells #[g2,(A2,m2,c2),(D2,md2,cd2)] 62)) g (A,m,c) (D,f,d) a from(HX.o.below hb).alloc _) (show RatS (w1.alloc (.cells #[g2,(A2,m2,c2),(D2,md2,cd2)] 62)) g2 (A2,m2,c2) (D2,md2,cd2) r from((HR.o▸hn)).alloc _) (show Below w w (w1.alloc (.cells #[g2,(A2,m2,c2),(D2,md2,cd2)] 62))from((j.o.trans ((hb).mono j.o.size))).alloc ((j.o.trans ((hb).mono j.o.size))).size _) (show θ (w1.alloc (.cells #[g2,(A2,m2,c2),(D2,md2,cd2)] 62)) w1.heap.size #[g2,(A2,m2,c2),(D2,md2,cd2)] 62from zam σ) λC U o B y=>?_;obtain⟨aT,_,aU,_,a7,_⟩:=bc3 C.o;obtain⟨ba,_,be,_,a6,_⟩:=bc3 y.o;clear hn hb;go_wp2_with fail
 go_region_held3 (λw'=>χ w' w 0 (.bool g)/\χ w' w 1 (A,m,c)/\χ w' w 2 (D,f,d)/\χ w' w1 0 (.bool g2)/\χ w' w1 1 (A2,m2,c2)/\χ w' w1 2 (D2,md2,cd2))
  (((try go_split_ands);(try simp only[Xp]);(repeat' apply And.intro)<;>(repeat(first | with_reducible assumption | with_reducible refine cell_set ω ?_ | with_reducible refine cell_al ?_))))
  (first
   | (go_at_call 55;(with_reducible refine(Ct.same_yes g A m c D f d a g2 A2 m2 c2 D2 md2 cd2 r _ U.o.drew o.o.drew HL.o HA.o).mono ?_);rintro e v1 ⟨rfl,hb⟩;refine μ5 (zad hb C.o) (zad hb y.o) (U.o.drew.below hb) (o.o.drew.below hb) (B.o.trans ((It.bdrew0' hb).mono B.o.size)) λz E aa ax F=>?_;obtain⟨aX,_,aY,_,bx,_⟩:=bc3 z.o;obtain⟨bc,_,bd,_,bj,_⟩:=bc3 E.o;clear hb)
   | (go_at_call 65;(with_reducible refine(Rt.num_of g A m c D f d a _ aa.o).mono ?_);rintro e v2 ⟨g3,A3,m3,c3,rfl,hn,hb⟩;refine μ6 (zad hb z.o) (zad hb E.o) (aa.o.below hb) (ax.o.below hb) (hn) (F.o.trans ((hb).mono F.o.size)) λG R aC x HI K=>?_;obtain⟨bv,_,bw,_,b1,_⟩:=bc3 G.o;obtain⟨bN,_,bP,_,bS,_⟩:=bc3 R.o;clear hn hb)
   | (go_at_call 65;(with_reducible refine(Rt.num_of g2 A2 m2 c2 D2 md2 cd2 r _ x.o).mono ?_);rintro e v3 ⟨g4,A4,m4,c4,rfl,hn,hb⟩;refine μ7 (zad hb G.o) (zad hb R.o) (aC.o.below hb) (x.o.below hb) (HI.o.below hb) (hn) (K.o.trans ((hb).mono K.o.size)) λI J av ay az HJ P=>?_;obtain⟨bo,_,bp,_,b5,_⟩:=bc3 I.o;obtain⟨bt,_,bu,_,bR,_⟩:=bc3 J.o;clear hn hb)
   | (go_at_call 64;(with_reducible refine(Rt.icmp_same g3 A3 m3 c3 a.num g4 A4 m4 c4 r.num _ az.o HJ.o HN.o).mono ?_);rintro e v4 ⟨rfl,hb⟩;refine μ5 (zad hb I.o) (zad hb J.o) (av.o.below hb) (ay.o.below hb) (P.o.trans ((hb).mono P.o.size)) λL O aw aq Q=>?_;obtain⟨br,_,bs,_,b6,_⟩:=bc3 L.o;obtain⟨bO,_,bQ,_,bT,_⟩:=bc3 O.o;clear hb)
   | (go_at_call 67;(with_reducible refine(Rt.den g A m c D f d a _ aw.o).mono ?_);rintro e v5 ⟨A5,m5,c5,rfl,hn,hb⟩;refine μ5 (zad hb L.o) (zad hb O.o) (aq.o.below hb) (hn) (Q.o.trans ((hb).mono Q.o.size)) λM V ar HK X=>?_;obtain⟨bL,_,bM,_,aM,_⟩:=bc3 M.o;obtain⟨b2,_,b3,_,b7,_⟩:=bc3 V.o;clear hn hb)
   | (go_at_call 67;(with_reducible refine(Rt.den g2 A2 m2 c2 D2 md2 cd2 r _ ar.o).mono ?_);rintro e v6 ⟨A6,m6,c6,rfl,hn,hb⟩;refine μ5 (zad hb M.o) (zad hb V.o) (HK.o.below hb) (hn) (X.o.trans ((hb).mono X.o.size)) λT Y au HM Z=>?_;obtain⟨bX,_,bY,_,aN,_⟩:=bc3 T.o;obtain⟨aG,_,aI,_,aK,_⟩:=bc3 Y.o;clear hn hb)
   | (go_at_call 66;(with_reducible refine(Rt.ncmp_same A5 A6 m5 c5 m6 c6 a.den r.den _ au.o HM.o HD.o).mono ?_);rintro e v7 ⟨rfl,hb⟩;refine μ3 (zad hb T.o) (zad hb Y.o) (Z.o.trans ((hb).mono Z.o.size)) λaD aA aB=>?_;obtain⟨b8,_,ca,_,cc,_⟩:=bc3 aD.o;obtain⟨aH,_,aJ,_,aL,_⟩:=bc3 aA.o;clear hb)
   | fail)
 all_goals
  go_wp2;go_ret;exact⟨rfl,aB.o⟩
end Lw
theorem zqg(w:World)(a b:Int):∀(j:Nat) (x:Int),[a,b][j]? = some x->χ (w.alloc (.cells #[.int .i64 a,.int .i64 b] 3)) w j (.int .i64 x):=by
 intro j x h
 match j,h with
 | 0,h=>simp_all
 | 1,h=>simp at h;subst h;exact zax rfl rfl
 | j+2,h=>simp at h
theorem zyt(e:w.heap.size=b)(a d:Int):∀(j:Nat) (x:Int),[a,d][j]? = some x->χ (w.alloc (.cells #[.int .i64 a,.int .i64 d] 3)) b j (.int .i64 x):=by subst e;exact zqg w a d
theorem zuW{xs:List Int}(h:∀(j:Nat) (x:Int),xs[j]? = some x->χ w b j (.int .i64 x)):∀(j:Nat) (x:Int),xs[j]? = some x->χ w.drew b j (.int .i64 x):=h
theorem zAV{xs:List Int}{o:Obj}(h:∀(j:Nat) (x:Int),xs[j]? = some x->χ w b j (.int .i64 x)):∀(j:Nat) (x:Int),xs[j]? = some x->χ (w.alloc o) b j (.int .i64 x):=λj x a=>cell_al (h j x a)
theorem zoX{u:World}(i:u.heap.size=b){r r':RR}{p p':PRow}(h:RowS u r p)(f:RowS u r' p'):RowsS (u.alloc (.cells #[r.c,.int .i64 r.k,.bool r.g,r.s,r.d,r'.c,.int .i64 r'.k,.bool r'.g,r'.s,r'.d] 101)) 0 (.slice (some ⟨b,0,none⟩) 2 2) [p,p']:=by
 subst i;have j:=YW (e:=101) (size:=5) (base:=0) u #[r.c,.int .i64 r.k,.bool r.g,r.s,r.d,r'.c,.int .i64 r'.k,.bool r'.g,r'.s,r'.d] 2 (Zb _) δ rfl;refine⟨[r,r'],rfl,?_,j⟩;intro k n l h1 a
 match k,h1,a with
 | 0,h1,a=>simp at h1 a;subst h1 a;exact h.below (zae u _)
 | 1,h1,a=>simp at h1 a;subst h1 a;exact f.below (zae u _)
 | k+2,h1,_=>simp at h1
