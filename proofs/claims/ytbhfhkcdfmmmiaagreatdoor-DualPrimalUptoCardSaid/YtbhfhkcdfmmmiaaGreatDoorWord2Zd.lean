/- Contracts and lemmas: Word2 Word3 Mem Nat1. Conditions: as each says. -/
import Derived.Test.YtbhfhkcdfmmmiaaGreatDoorMathZd
import Derived.Deep.RegionHeld3
import Derived.Deep.AppendLies
import Derived.Deep.DrawnRows
import Derived.WalkSmall
import Derived.Laws.CopyOwn
import Derived.Laws.AppendOwnNone
set_option linter.all false
set_option maxHeartbeats 1000000
namespace Go.Proofs.YtbhfhkcdfmmmiaaGreatDoor
open Go.RowKit Am
open Lib (hid)
variable {cs:Array Value}{xs:List Nat}{ys:List Value}{B K N X b base k m o size y:Nat}{A:OA}{t:TypeId}{a c d e f g i j v:Value}{w w1:World}
namespace Word
def zpm (K:Int) (X:Nat):Prop:=((K=32∧X<2^64)∨(K=16∧X<2^32)∨(K=8∧X<2^16)∨(K=4∧X<2^8)∨(K=2∧X<2^4)∨(K=1∧X<2^2)∨(K=0∧X<2))
def zfe (x0:Nat) (x n k:Value):Prop:=∃(N:Nat) (K:Int) (X:Nat),n=.int .i64 N∧k=.int .i64 K∧x=.int .u64 X∧N≤64∧X<18446744073709551616∧blen x0=N+blen X∧zpm K X
theorem zfe.hit(a:Int)(j:blen b=N+blen X)(g:b<18446744073709551616)(c:X<2^(K+K))(f:X/2^K≠0)
  (e:∀Y,Y<2^K→zpm a Y) (d:X<18446744073709551616) :
  zfe b (.int .u64 ((X/2^K:Nat):Int)) (.int .i64 ((N:Int)+(K:Int))) (.int .i64 a):=by
 have k:=zr2 f;have i:=zmT g;refine⟨N+K,a,X/2^K,by simp,rfl,rfl,by omega,?_,by omega,e _ ?_⟩
 ·exact Nat.lt_of_le_of_lt (Nat.div_le_self _ _) d
 ·rw[Nat.div_lt_iff_lt_mul (Nat.pow_pos (by decide)),←Nat.pow_add];exact c
theorem zfe.miss(a:Int)(d:blen b=N+blen X)(hN:N≤64)(g:X/2^K=0)
  (e:∀Y,Y<2^K→zpm a Y) (c:X<18446744073709551616) :
  zfe b (.int .u64 (X:Int)) (N:Int) (.int .i64 a):=by
 refine⟨N,a,X,rfl,rfl,rfl,hN,c,d,e _ ?_⟩;have f:0<2^K:=Nat.pow_pos (by decide);rcases Nat.lt_or_ge X (2^K)with h | h
 ·exact h
 ·have:=Nat.div_pos h f;omega

theorem len(x:Nat)(f:x<18446744073709551616)(w:World):Calls Tryz.prog 160 #[.int .u64 x] w fun e w'=>e=.returned (.int .i64 (blen x:Nat))∧∃n,w'=w.drewN n:=by
 go_enter Tryz.func160,Tryz.ntmps160;go_wp2;go_loopw [0,3,4] (fun l n k wr=>zfe x l n k∧∃q,wr=w.drewN q) (fun _ _ k _=>(intOf k).toNat)
 case atStart=>exact⟨⟨0,32,x,rfl,rfl,rfl,by omega,f,by omega,.inl ⟨rfl,by simpa using f⟩⟩,0,rfl⟩
 case round =>
  obtain⟨⟨N,K,X,rfl,rfl,rfl,hN,c,i,hc⟩,q,rfl⟩:=hrel;have b:=hid i;clear i;have m:=hid hc;rcases hc with ⟨rfl,g⟩ | ⟨rfl,g⟩ | ⟨rfl,g⟩ | ⟨rfl,g⟩ | ⟨rfl,g⟩ | ⟨rfl,g⟩ | ⟨rfl,g⟩
  ·by_cases h0:X/2^32=0
   ·have a:=hid (zfe.miss (K:=32) 16 b.out hN h0 (fun Y h=>by unfold zpm;omega) c);have d:((X:Int)/4294967296 != 0)=false:=by rw[bne_eq_false_iff_eq];omega
    clear h0;go_wp2;go_roundw
    case rel=>exact⟨a.out,q,rfl⟩
    case measure=>simp[intOf]
   ·have a:=hid (zfe.hit (K:=32) 16 b.out f (by omega) h0 (fun Y h=>by unfold zpm;omega) c);have d:((X:Int)/4294967296 != 0)=true:=by rw[bne_iff_ne];omega
    clear h0;go_wp2;go_quiet (fail)
    go_wp2;go_roundw
    case rel=>exact⟨a.out,_,rfl⟩
    case measure=>simp[intOf]
  ·by_cases h0:X/2^16=0
   ·have a:=hid (zfe.miss (K:=16) 8 b.out hN h0 (fun Y h=>by unfold zpm;omega) c);have d:((X:Int)/65536 != 0)=false:=by rw[bne_eq_false_iff_eq];omega
    clear h0;go_wp2;go_roundw
    case rel=>exact⟨a.out,q,rfl⟩
    case measure=>simp[intOf]
   ·have a:=hid (zfe.hit (K:=16) 8 b.out f (by omega) h0 (fun Y h=>by unfold zpm;omega) c);have d:((X:Int)/65536 != 0)=true:=by rw[bne_iff_ne];omega
    clear h0;go_wp2;go_quiet (fail)
    go_wp2;go_roundw
    case rel=>exact⟨a.out,_,rfl⟩
    case measure=>simp[intOf]
  ·by_cases h0:X/2^8=0
   ·have a:=hid (zfe.miss (K:=8) 4 b.out hN h0 (fun Y h=>by unfold zpm;omega) c);have d:((X:Int)/256 != 0)=false:=by rw[bne_eq_false_iff_eq];omega
    clear h0;go_wp2;go_roundw
    case rel=>exact⟨a.out,q,rfl⟩
    case measure=>simp[intOf]
   ·have a:=hid (zfe.hit (K:=8) 4 b.out f (by omega) h0 (fun Y h=>by unfold zpm;omega) c);have d:((X:Int)/256 != 0)=true:=by rw[bne_iff_ne];omega
    clear h0;go_wp2;go_quiet (fail)
    go_wp2;go_roundw
    case rel=>exact⟨a.out,_,rfl⟩
    case measure=>simp[intOf]
  ·by_cases h0:X/2^4=0
   ·have a:=hid (zfe.miss (K:=4) 2 b.out hN h0 (fun Y h=>by unfold zpm;omega) c);have d:((X:Int)/16 != 0)=false:=by rw[bne_eq_false_iff_eq];omega
    clear h0;go_wp2;go_roundw
    case rel=>exact⟨a.out,q,rfl⟩
    case measure=>simp[intOf]
   ·have a:=hid (zfe.hit (K:=4) 2 b.out f (by omega) h0 (fun Y h=>by unfold zpm;omega) c);have d:((X:Int)/16 != 0)=true:=by rw[bne_iff_ne];omega
    clear h0;go_wp2;go_quiet (fail)
    go_wp2;go_roundw
    case rel=>exact⟨a.out,_,rfl⟩
    case measure=>simp[intOf]
  ·by_cases h0:X/2^2=0
   ·have a:=hid (zfe.miss (K:=2) 1 b.out hN h0 (fun Y h=>by unfold zpm;omega) c);have d:((X:Int)/4 != 0)=false:=by rw[bne_eq_false_iff_eq];omega
    clear h0;go_wp2;go_roundw
    case rel=>exact⟨a.out,q,rfl⟩
    case measure=>simp[intOf]
   ·have a:=hid (zfe.hit (K:=2) 1 b.out f (by omega) h0 (fun Y h=>by unfold zpm;omega) c);have d:((X:Int)/4 != 0)=true:=by rw[bne_iff_ne];omega
    clear h0;go_wp2;go_quiet (fail)
    go_wp2;go_roundw
    case rel=>exact⟨a.out,_,rfl⟩
    case measure=>simp[intOf]
  ·by_cases h0:X/2^1=0
   ·have a:=hid (zfe.miss (K:=1) 0 b.out hN h0 (fun Y h=>by unfold zpm;omega) c);have d:((X:Int)/2 != 0)=false:=by rw[bne_eq_false_iff_eq];omega
    clear h0;go_wp2;go_roundw
    case rel=>exact⟨a.out,q,rfl⟩
    case measure=>simp[intOf]
   ·have a:=hid (zfe.hit (K:=1) 0 b.out f (by omega) h0 (fun Y h=>by unfold zpm;omega) c);have d:((X:Int)/2 != 0)=true:=by rw[bne_iff_ne];omega
    clear h0;go_wp2;go_quiet (fail)
    go_wp2;go_roundw
    case rel=>exact⟨a.out,_,rfl⟩
    case measure=>simp[intOf]
  ·have i:=b.out;rw[zr3 (x:=X) (by omega)]at i;have j:=hid i;clear i;go_wp2;go_ret
   exact⟨zst (by have:=j.out;omega),q,rfl⟩
theorem lead(x:Nat)(a:x<18446744073709551616)(w:World):Calls Tryz.prog 153 #[.int .u64 x] w fun e w'=>e=.returned ((64-blen x:Nat):Int)∧∃n,w'=w.drewN n:=by
 have b:=zmT a;go_enter Tryz.func153,Tryz.ntmps153;go_wp2_with fail
 refine(len x a _).mono ?_;rintro e w' ⟨rfl,n,rfl⟩;go_wp2;go_ret
 exact⟨zst (by omega),n,rfl⟩

def zFR (u next y1 y0:Nat) (q r:Value):Prop:=∃Q R:Nat,q=.int .u64 Q∧r=.int .u64 R∧R<4294967296∧DigInv u next y1 y0 Q R
def zz8 (u next y:Nat):Nat:=(u*4294967296+next)/y
def zpW (u next y:Nat):Nat:=(u*4294967296+next)%y
theorem zpX{u next Q:Nat}(d:9223372036854775808≤y)(f:y<18446744073709551616)(b:Q=zz8 u next y)(hle:Q*y≤u*4294967296+next) :
  IntKind.u64.wrap (IntKind.u64.wrap (IntKind.u64.wrap (↑u*4294967296) + ↑next)-IntKind.u64.wrap (↑Q * ↑y))=((zpW u next y:Nat):Int):=by
 have hr:zpW u next y<y:=Nat.mod_lt _ (by omega);have c:=Nat.div_add_mod (u*4294967296+next) y;have e:Q*y+zpW u next y=u*4294967296+next:=by
  rw[b];unfold zz8 zpW;rw[Nat.mul_comm];exact c
 have a:(Q:Int)*(y:Int)=((Q*y:Nat):Int):=(Int.natCast_mul Q y).symm;rw[a,IntKind.wrap_u64,IntKind.wrap_u64,IntKind.wrap_u64,IntKind.wrap_u64];generalize Q*y=p at *
 omega
theorem digit(u next y:Nat)(x:9223372036854775808≤y)(l:y<18446744073709551616)(P:u<y)(E:next<4294967296)(w:World) :
  Calls Tryz.prog 161 #[.int .u64 u,.int .u64 next,.int .u64 y] w fun e w'=>e=.returned (.tuple #[.int .u64 (zz8 u next y:Nat),.int .u64 (zpW u next y:Nat)])∧∃n,w'=w.drewN n:=by
 obtain⟨y1,K⟩:∃y1,y1=y/4294967296:=⟨_,rfl⟩
 obtain⟨y0,D⟩:∃y0,y0=y%4294967296:=⟨_,rfl⟩
 have h1:2147483648≤y1:=by omega
 have T:y1<4294967296:=by omega
 have h0:y0<4294967296:=by omega
 have F:y1*4294967296+y0=y:=by omega
 have Z:u<18446744073709551616:=by omega
 obtain⟨j,m⟩:∃j,j=u/y1:=⟨_,rfl⟩
 obtain⟨g,o⟩:∃g,g=u%y1:=⟨_,rfl⟩
 have v:DigInv u next y1 y0 j g:=by rw[m,o];exact DigInv.start u next y1 y0 h1 h0 E (by omega)
 have O:g<4294967296:=by have:u%y1<y1:=Nat.mod_lt _ (by omega);omega
 have Y:=v.le;have I:(y:Int)/4294967296=(y1:Int):=by omega
 have H:bits BinOp.and IntKind.u64 (↑y) 4294967295=(y0:Int):=by
  rw[show(4294967295:Int)=((4294967295:Nat):Int)from rfl,u64_and_nat y _ l (by decide),zj9,D]
 have c:IntKind.u64.wrap ((u:Int)/(y1:Int))=(j:Int):=by
  rw[←Int.natCast_ediv,←m];exact zb7 _ (by omega)
 have z:(u:Int)%(y1:Int)=(g:Int):=by rw[←Int.natCast_emod,←o]
 have k:=hid F;have J:=hid z;have C:=hid v;clear F v K D m o;go_enter Tryz.func161,Tryz.ntmps161;go_wp2;go_quiet (fail)
 go_wp2;clear I H c z;go_loopw [10,11] (fun q r wr=>zFR u next y1 y0 q r∧∃n,wr=w.drewN n) (fun q _ _=>(intOf q).toNat)
 case atStart=>exact⟨⟨j,g,rfl,congrArg _ J.out,O,C.out⟩,_,rfl⟩
 case round =>
  obtain⟨⟨Q,R,rfl,rfl,W,t⟩,n,rfl⟩:=hrel;have U:=t.le;have A:=hid t;clear t C;have G:(4294967295<Q∨R*4294967296+next<Q*y0)→DigInv u next y1 y0 (Q-1) (R+y1) :=
   fun hc=>(A.out.down (by rw[k.out];exact P) E hc).1
  have B:=hid G;clear G;by_cases L:4294967295<Q
  ·have d:=hid (B.out (.inl L));have b:((Q-1:Nat):Int)=(Q:Int)-1:=by omega
   have c:=hid b;by_cases M:4294967295<R+y1
   ·have a:=d.out.done h0 (.inr ⟨by omega,by have:=d.out.le;omega⟩);rw[k.out]at a;have hF:=zpX (next:=next) x l a.1 a.2;rw[b]at hF;have i:=hid a.1;clear a b;go_wp2;go_ret2
    exact⟨zqv (c.out.symm.trans (congrArg Int.ofNat i.out)) rfl,n,rfl⟩
   ·clear b;go_wp2;go_roundw
    case rel=>exact⟨⟨Q-1,R+y1,congrArg _ c.out.symm,by simp,by omega,d.out⟩,n,rfl⟩
    case measure=>simp[intOf];omega
  ·obtain⟨p,f⟩:∃p,p=Q*y0:=⟨_,rfl⟩
   have X:p≤18446744065119617025:=by rw[f];exact zhS (by omega) h0
   have S:(Q:Int)*(y0:Int)=(p:Int):=by rw[f];exact(Int.natCast_mul _ _).symm
   by_cases N:R*4294967296+next<p
   ·have V:0<Q:=by
     rcases Nat.eq_zero_or_pos Q with rfl | h
     ·simp at f;omega
     ·exact h
    have d:=hid (B.out (.inr (by rw[←f];exact N)));have b:((Q-1:Nat):Int)=(Q:Int)-1:=by omega
    have c:=hid b;clear f;by_cases M:4294967295<R+y1
    ·have a:=d.out.done h0 (.inr ⟨by omega,by have:=d.out.le;omega⟩);rw[k.out]at a;have hF:=zpX (next:=next) x l a.1 a.2;rw[b]at hF;have i:=hid a.1;clear a b;go_wp2;go_ret2
     exact⟨zqv (c.out.symm.trans (congrArg Int.ofNat i.out)) rfl,n,rfl⟩
    ·clear b;go_wp2;go_roundw
     case rel=>exact⟨⟨Q-1,R+y1,congrArg _ c.out.symm,by simp,by omega,d.out⟩,n,rfl⟩
     case measure=>simp[intOf];omega
   ·have a:=A.out.done h0 (.inl (by rw[←f];omega));rw[k.out]at a;have hF:=zpX (next:=next) x l a.1 a.2;have i:=hid a.1;clear a f;go_wp2;go_ret2
    exact⟨zqv (congrArg Int.ofNat i.out) rfl,n,rfl⟩
end Word
namespace Word
theorem div_no(a lo y:Nat)(h:y≤a)(w:World) :
  Calls Tryz.prog 159 #[.int .u64 a,.int .u64 lo,.int .u64 y] w fun e w'=>e=.returned (.tuple #[.int .u64 0,.int .u64 0,false])∧w=w':=by
 go_enter Tryz.func159,Tryz.ntmps159;go_wp2;go_ret3
 exact⟨rfl,rfl⟩
theorem zAb{lo S H L Y a c:Nat}(hS:S<64)(p:lo<18446744073709551616)(h:b<y)(j:H=b*2^S+lo*2^S/18446744073709551616)(k:L=lo*2^S%18446744073709551616)
  (f:Y=y*2^S) (r:a=L/4294967296) (q:c=L%4294967296) :
  zz8 H a Y*4294967296+zz8 (zpW H a Y) c Y=zz9 b lo y∧zpW (zpW H a Y) c Y/2^S=zBV b lo y:=by
 have g:0<2^S:=Nat.pow_pos (by decide);have o:0<Y:=by rw[f];exact Nat.mul_pos (by omega) g
 have h1:=(zvp hS p h).1;have d:=zAc H a c Y o;have i:=zr6 (b*B64+lo) y (2^S) g;have l:a*4294967296+c=L:=by omega
 rw[l]at d;have e:H*18446744073709551616+L=(b*B64+lo)*2^S:=by rw[h1,j,k]
 rw[e,f,i.1,i.2,←f]at d;refine⟨d.1,?_⟩;have m:zpW (zpW H a Y) c Y=(b*B64+lo)%y*2^S:=d.2;rw[m,Nat.mul_div_cancel _ g];rfl
theorem div_ok(b lo y:Nat)(h:b<y)(l:lo<18446744073709551616)(q:y<18446744073709551616)(w:World) :
  Calls Tryz.prog 159 #[.int .u64 b,.int .u64 lo,.int .u64 y] w fun e w'=>e=.returned (.tuple #[.int .u64 (zz9 b lo y:Nat),.int .u64 (zBV b lo y:Nat),true])∧∃n,w'=w.drewN n:=by
 obtain⟨S,hS⟩:∃S,64-blen y=S:=⟨_,rfl⟩
 have j:S<64:=by have:=zhl (x:=y) (by omega);omega
 have d:=zsf (y:=y) (by omega) q;rw[hS]at d;obtain⟨Y,f⟩:∃Y,Y=y*2^S:=⟨_,rfl⟩
 obtain⟨L,i⟩:∃L,L=lo*2^S%18446744073709551616:=⟨_,rfl⟩
 obtain⟨H,g⟩:∃H,H=b*2^S+lo*2^S/18446744073709551616:=⟨_,rfl⟩
 have u:H<Y:=by rw[g,f];exact(zvp j l h).2
 have v:L<18446744073709551616:=by rw[i];exact Nat.mod_lt _ (by decide)
 rw[←f]at d;obtain⟨a,p⟩:∃a,a=L/4294967296:=⟨_,rfl⟩
 obtain⟨c,m⟩:∃c,c=L%4294967296:=⟨_,rfl⟩
 have A:a<4294967296:=by omega
 have z:c<4294967296:=by omega
 have o:=zAb j l h g i f p m;have cp:∀k:Nat,((2:Int)^k)=((2^k:Nat):Int):=fun k=>by simp
 have I:IntKind.u64.wrap ((y:Int)*2^S)=(Y:Int):=by
  rw[cp,←Int.natCast_mul,←f];exact zb7 _ d.1
 have F:IntKind.u64.wrap ((lo:Int)*2^S)=(L:Int):=by
  rw[cp,←Int.natCast_mul,IntKind.wrap_u64,i];rfl
 have E:bits BinOp.or IntKind.u64 (IntKind.u64.wrap ((b:Int)*2^S)) ((lo:Int)/2^(64-S))=(H:Int):=by
  have h1:b*2^S<18446744073709551616:=by omega
  have r:=zoZ (x:=lo) j;have t:=znR (s:=S) l;have J:(2:Nat)^S<18446744073709551616:=by
   have:(2:Nat)^S<2^64:=Nat.pow_lt_pow_right (by decide) j;omega
  rw[cp,cp,←Int.natCast_mul,zb7 _ h1,←Int.natCast_ediv,r,u64_or_nat _ _ h1 (by omega),zyy t,g]
 have D:(L:Int)/4294967296=(a:Int):=by omega
 have C:bits BinOp.and IntKind.u64 (L:Int) 4294967295=(c:Int):=by
  rw[show(4294967295:Int)=((4294967295:Nat):Int)from rfl,u64_and_nat L _ v (by decide),zj9,m]
 have K:=zAa h l;have G:IntKind.u64.wrap (IntKind.u64.wrap ((zz8 H a Y:Nat)*4294967296)+(zz8 (zpW H a Y) c Y:Nat))=((zz9 b lo y:Nat):Int):=by
  have:=o.1;rw[IntKind.wrap_u64,IntKind.wrap_u64];omega
 have RR:((zpW (zpW H a Y) c Y:Nat):Int)/2^S=((zBV b lo y:Nat):Int):=by
  rw[cp,←Int.natCast_ediv,o.2]
 have B:zpW H a Y<Y:=Nat.mod_lt _ (by omega);clear f i g p m o cp;go_enter Tryz.func159,Tryz.ntmps159;go_wp2_with fail
 refine(lead y q _).mono ?_;rintro e w' ⟨rfl,n,rfl⟩;go_wp2;go_quiet (fail)
 go_wp2_with fail
 refine(digit H a Y d.2 d.1 u A _).mono ?_;rintro e w' ⟨rfl,n1,rfl⟩;go_wp2_with fail
 refine(digit (zpW H a Y) c Y d.2 d.1 B z _).mono ?_;rintro e w' ⟨rfl,n2,rfl⟩;go_wp2;go_quiet (fail)
 go_wp2;go_ret3
 exact⟨rfl,_,World.drewN_drewN _ _ _⟩
end Word
def LIM:Nat:=1099511627776
theorem zaP:LIM=1099511627776:=rfl
def wcells (xs:List Nat):List Value:=xs.map fun(x:Nat)=>Value.int .u64 (x:Int)
theorem zdA(xs:List Nat):(wcells xs).length=xs.length:=by simp[wcells]
theorem zeu(hk:k<xs.length):(wcells xs)[k]? = some (.int .u64 ((wd xs k:Nat):Int)):=by
 simp[wcells,wd,hk]
theorem ziN(xs:List Nat)(k v:Nat):wcells (xs.set k v)=(wcells xs).set k (.int .u64 (v:Int)):=by simp[wcells]
theorem zlr(n:Nat):wcells (List.replicate n 0)=List.replicate n (.int .u64 0):=by simp[wcells]
theorem zia(xs ys:List Nat):wcells (xs++ys)=wcells xs++wcells ys:=by simp[wcells]
theorem zg7(xs:List Nat)(k:Nat):wcells (xs.take k)=(wcells xs).take k:=by simp[wcells]
theorem zgf(xs:List Nat):∀u∈wcells xs,u.oneCell'=true:=by
 intro u a;simp only[wcells,List.mem_map]at a;obtain⟨x,_,rfl⟩:=a;rfl

theorem zf7:(Tryz.prog.info? 184).map (fun i=>(i.zero,i.size,i.bytes))=some (some (.int .u64 0),1,8):=by kernel_rfl

def SW (w:World) (s:Value) (xs:List Nat):Prop:=w.ownsRow 0 184 1 s xs.length (wcells xs)∧Wds xs
def zas (w:World) (s:Value) (n:Nat):Prop:=∃xs,SW w s xs∧Canon xs∧nval xs=n
def isZ (n:Nat):Bool:=decide (n=0)
theorem zk4{n:Nat}(h:0<n):isZ n=false:=by unfold isZ;rw[decide_eq_false_iff_not];omega
section
variable {w w':World} {s:Value} {xs:List Nat} {n:Nat}
theorem zbu{e:TypeId}(h:w.ownsRow base e size s n ys)(c:b≤base):w.ownsRow b e size s n ys:=by
 obtain⟨h1,a⟩:=h;refine⟨h1,?_⟩;rcases a with a | ⟨g,cap,cur,hv,hg,r⟩
 ·exact .inl a
 ·exact .inr ⟨g,cap,cur,hv,by omega,r⟩
theorem SW.of_own(h:w.ownsRow base 184 1 s xs.length (wcells xs))(hw:Wds xs):SW w s xs:=⟨zbu h (Nat.zero_le _),hw⟩
theorem SW.block(h:SW w s xs)(hk:s.ownBlock=some k):k<w.heap.size:=(h.1.lt k hk).2
theorem SW.keep(h:SW w s xs)(hk:∀k,s.ownBlock=some k→w'.heap[k]? = w.heap[k]?):SW w' s xs:=by
 refine⟨⟨h.1.1,?_⟩,h.2⟩;rcases h.1.2 with h2 | ⟨g,cap,cur,hv,hg,hh,r⟩
 ·exact .inl h2
 ·exact .inr ⟨g,cap,cur,hv,hg,by rw[hk g (by rw[hv];rfl)];exact hh,r⟩
theorem SW.below(h:SW w s xs)(a:Below w.heap.size w w'):SW w' s xs:=h.keep fun k hk=>a.block k (h.block hk)
theorem SW.drewN(h:SW w s xs)(k:Nat):SW (w.drewN k) s xs:=h.keep fun _ _=>rfl
theorem SW.alloc(h:SW w s xs)(o:Obj):SW (w.alloc o) s xs:=h.keep fun k hk=>Below.heap_alloc w o k (h.block hk)
theorem SW.nil(w:World):SW w () []:=⟨World.ownsRow_nil _ _ _ _,Wds.nil⟩
theorem SW.form(h:SW w s xs):(s=()∧xs=[])∨∃g cap,s=.slice (some ⟨g,0,none⟩) xs.length cap∧g<w.heap.size∧xs.length≤cap∧cap≤maxLen ∧
  (∀k,k<xs.length→w.cell? ⟨g,k,none⟩=some (.int .u64 ((wd xs k:Nat):Int))):=by
 rcases h.1.2 with ⟨h1,b⟩ | ⟨g,cap,cur,a,hg,d,c,hm,_⟩
 ·exact .inl ⟨h1,List.length_eq_zero_iff.1 b⟩
 ·refine .inr ⟨g,cap,a,(h.1.lt g (by rw[a];rfl)).2,c,hm,fun k hk=>?_⟩;have hr:w.ownsRow 0 184 1 (.slice (some ⟨g,0,none⟩) xs.length cap) xs.length (wcells xs):=a▸h.1;rw[hr.cellAt k (by omega),zeu hk]
theorem SW.len_le(h:SW w s xs):xs.length≤9223372036854775807:=by
 rcases h.form with ⟨_,rfl⟩ | ⟨g,cap,_,_,h1,a,_⟩
 ·simp
 ·unfold maxLen at a;omega
theorem SW.slice(h:SW w s xs):∃A m c,s=.slice A m c:=by
 rcases h.form with ⟨rfl,rfl⟩ | ⟨g,cap,rfl,_⟩
 ·exact⟨_,_,_,rfl⟩
 ·exact⟨_,_,_,rfl⟩
theorem SW.len_eq{c:Nat}(h:SW w (A,m,c) xs):m=xs.length:=by
 rcases h.form with ⟨h1,rfl⟩ | ⟨g,cap,h1,_⟩
 ·injection h1
 ·injection h1
theorem SW.setCell(h:SW w s xs){p:Addr}(a:s.ownBlock≠some p.block)(u:Value):SW (w.setCell p u) s xs :=
 h.keep fun k hk=>Below.heap_setCell w p u k (fun e=>a (by rw[hk,e]))
theorem zas.slice(h:zas w s n):∃A m c,s=.slice A m c:=by obtain⟨xs,h,_⟩:=h;exact h.slice
theorem za6{e:TypeId}{g:Nat}(h:w.ownsRow base e size s n ys)(hg:w.heap[g]? = some (.cells cs t (0,0)))(c:e≠t):s.ownBlock≠some g:=by
 rcases h.2 with ⟨rfl,_⟩ | ⟨g',cap,cur,rfl,_,b,_⟩
 ·simp[Value.ownBlock]
 ·intro a;have:g'=g:=by simpa[Value.ownBlock]using a
  subst this;rw[b]at hg;injection hg with hg;injection hg with _ ht;exact c ht
theorem zas.setCell(h:zas w s n){p:Addr}{t:TypeId}{cs:Array Value}(hg:w.heap[p.block]? = some (.cells cs t (0,0)))(c:184≠t)(u:Value):zas (w.setCell p u) s n:=by
 obtain⟨xs,a,b⟩:=h;exact⟨xs,a.setCell (za6 a.1 hg c) u,b⟩
theorem zas.mk(h:SW w s xs)(hc:Canon xs):zas w s (nval xs):=⟨xs,h,hc,rfl⟩
theorem zas.below(h:zas w s n)(c:Below w.heap.size w w'):zas w' s n:=by
 obtain⟨xs,a,b⟩:=h;exact⟨xs,a.below c,b⟩
theorem zas.drewN(h:zas w s n)(k:Nat):zas (w.drewN k) s n:=by
 obtain⟨xs,a,b⟩:=h;exact⟨xs,a.drewN k,b⟩
theorem zas.drew(h:zas w s n):zas w.drew s n:=h.drewN 1
theorem zas.alloc(h:zas w s n)(o:Obj):zas (w.alloc o) s n:=by
 obtain⟨xs,a,b⟩:=h;exact⟨xs,a.alloc o,b⟩
theorem zas.zero(w:World):zas w () 0:=⟨[],SW.nil w,zop,rfl⟩
theorem zas.words{c:Nat}(h:zas w (A,m,c) n):∃xs,SW w (.slice A xs.length c) xs∧Canon xs∧nval xs=n∧xs.length=wlen n∧m=xs.length:=by
 obtain⟨xs,h1,a,b⟩:=h;have:=h1.len_eq;subst this;exact⟨xs,h1,a,b,by rw[←b];exact zk7 xs h1.2 a,rfl⟩
theorem zas.len(h:zas w s n):∃xs,SW w s xs∧Canon xs∧nval xs=n∧xs.length=wlen n:=by
 obtain⟨xs,h1,a,b⟩:=h;exact⟨xs,h1,a,b,by rw[←b];exact zk7 xs h1.2 a⟩
theorem zae(w:World)(o:Obj):Below w.heap.size w (w.alloc o):=(Below.refl _ _).alloc (Nat.le_refl _) o
theorem zap(w:World)(n:Nat):Below w.heap.size w (w.drewN n):=⟨rfl,rfl,rfl,Nat.le_refl _,fun _ _=>rfl⟩
theorem zhk{a:World}(h:Below B a w)(n:Nat):Below B a (w.drewN n):=⟨h.os,h.tape,h.output,h.size,h.block⟩
theorem bstep{a:World}(h:Below B a w)(c:Below w.heap.size w w')(b:B≤w.heap.size):Below B a w':=h.trans (c.mono b)
end

theorem zad(a:Below w.heap.size w w1){o:Obj}(h:w.heap[b]? = some o):w1.heap[b]? = some o :=
 (a.block b (Array.getElem?_eq_some_iff.1 h).1).trans h
theorem zal(w:World)(cs:Array Value)(t:TypeId):(w.alloc (.cells cs t)).heap[w.heap.size]? = some (.cells cs t (0,0)):=heap_alloc_new w _
theorem zac{g:Nat}(h:w.heap[g]? = some (.cells cs t (0,0)))(i:Nat):w.cell? ⟨g,i,none⟩=cs[i]?:=cell_of_row w g i cs t (0,0) h
theorem zag{g:Nat}(h:w.heap[g]? = some (.cells cs t (0,0)))(i:Nat):w.frozen? ⟨g,i,none⟩=false:=frozen_of_row w g i cs t h
theorem zab(a:Below w.heap.size w w1)(h:w.cell? ⟨b,o,none⟩=some v):w1.cell? ⟨b,o,none⟩=some v :=
 (a.cell (p:=⟨b,o,none⟩) (World.block_lt_of_cell? w ⟨b,o,none⟩ h)).trans h
theorem zaa{p:Addr}(h:w.cell? p=some v):w.drew.cell? p=some v:=h
theorem bc1(h:w.heap[b]? = some (.cells #[a] t (0,0))):w.cell? ⟨b,0,none⟩=some a∧w.drew.cell? ⟨b,0,none⟩=some a:=⟨zac h 0,zac h 0⟩
theorem bf1(h:w.heap[b]? = some (.cells #[a] t (0,0))):w.cell? ⟨b,0,none⟩=some a∧w.drew.cell? ⟨b,0,none⟩=some a∧w.frozen? ⟨b,0,none⟩=false∧w.drew.frozen? ⟨b,0,none⟩=false:=⟨zac h 0,zac h 0,zag h 0,zag h 0⟩
theorem bc2(h:w.heap[b]? = some (.cells #[a,c] t (0,0))):w.cell? ⟨b,0,none⟩=some a∧w.drew.cell? ⟨b,0,none⟩=some a∧w.cell? ⟨b,1,none⟩=some c∧w.drew.cell? ⟨b,1,none⟩=some c:=⟨zac h 0,zac h 0,zac h 1,zac h 1⟩
theorem bf2(h:w.heap[b]? = some (.cells #[a,c] t (0,0))):w.cell? ⟨b,0,none⟩=some a∧w.drew.cell? ⟨b,0,none⟩=some a∧w.frozen? ⟨b,0,none⟩=false∧w.drew.frozen? ⟨b,0,none⟩=false∧w.cell? ⟨b,1,none⟩=some c∧w.drew.cell? ⟨b,1,none⟩=some c∧w.frozen? ⟨b,1,none⟩=false∧w.drew.frozen? ⟨b,1,none⟩=false:=⟨zac h 0,zac h 0,zag h 0,zag h 0,zac h 1,zac h 1,zag h 1,zag h 1⟩
theorem bc3(h:w.heap[b]? = some (.cells #[a,c,d] t (0,0))):w.cell? ⟨b,0,none⟩=some a∧w.drew.cell? ⟨b,0,none⟩=some a∧w.cell? ⟨b,1,none⟩=some c∧w.drew.cell? ⟨b,1,none⟩=some c∧w.cell? ⟨b,2,none⟩=some d∧w.drew.cell? ⟨b,2,none⟩=some d:=⟨zac h 0,zac h 0,zac h 1,zac h 1,zac h 2,zac h 2⟩
theorem bf3(h:w.heap[b]? = some (.cells #[a,c,d] t (0,0))):w.cell? ⟨b,0,none⟩=some a∧w.drew.cell? ⟨b,0,none⟩=some a∧w.frozen? ⟨b,0,none⟩=false∧w.drew.frozen? ⟨b,0,none⟩=false∧w.cell? ⟨b,1,none⟩=some c∧w.drew.cell? ⟨b,1,none⟩=some c∧w.frozen? ⟨b,1,none⟩=false∧w.drew.frozen? ⟨b,1,none⟩=false∧w.cell? ⟨b,2,none⟩=some d∧w.drew.cell? ⟨b,2,none⟩=some d∧w.frozen? ⟨b,2,none⟩=false∧w.drew.frozen? ⟨b,2,none⟩=false:=⟨zac h 0,zac h 0,zag h 0,zag h 0,zac h 1,zac h 1,zag h 1,zag h 1,zac h 2,zac h 2,zag h 2,zag h 2⟩
theorem bf4(h:w.heap[b]? = some (.cells #[a,c,d,e] t (0,0))):w.cell? ⟨b,0,none⟩=some a∧w.drew.cell? ⟨b,0,none⟩=some a∧w.frozen? ⟨b,0,none⟩=false∧w.drew.frozen? ⟨b,0,none⟩=false∧w.cell? ⟨b,1,none⟩=some c∧w.drew.cell? ⟨b,1,none⟩=some c∧w.frozen? ⟨b,1,none⟩=false∧w.drew.frozen? ⟨b,1,none⟩=false∧w.cell? ⟨b,2,none⟩=some d∧w.drew.cell? ⟨b,2,none⟩=some d∧w.frozen? ⟨b,2,none⟩=false∧w.drew.frozen? ⟨b,2,none⟩=false∧w.cell? ⟨b,3,none⟩=some e∧w.drew.cell? ⟨b,3,none⟩=some e∧w.frozen? ⟨b,3,none⟩=false∧w.drew.frozen? ⟨b,3,none⟩=false:=⟨zac h 0,zac h 0,zag h 0,zag h 0,zac h 1,zac h 1,zag h 1,zag h 1,zac h 2,zac h 2,zag h 2,zag h 2,zac h 3,zac h 3,zag h 3,zag h 3⟩
theorem bc5(h:w.heap[b]? = some (.cells #[a,c,d,e,f] t (0,0))):w.cell? ⟨b,0,none⟩=some a∧w.drew.cell? ⟨b,0,none⟩=some a∧w.cell? ⟨b,1,none⟩=some c∧w.drew.cell? ⟨b,1,none⟩=some c∧w.cell? ⟨b,2,none⟩=some d∧w.drew.cell? ⟨b,2,none⟩=some d∧w.cell? ⟨b,3,none⟩=some e∧w.drew.cell? ⟨b,3,none⟩=some e∧w.cell? ⟨b,4,none⟩=some f∧w.drew.cell? ⟨b,4,none⟩=some f:=⟨zac h 0,zac h 0,zac h 1,zac h 1,zac h 2,zac h 2,zac h 3,zac h 3,zac h 4,zac h 4⟩
theorem bf5(h:w.heap[b]? = some (.cells #[a,c,d,e,f] t (0,0))):w.cell? ⟨b,0,none⟩=some a∧w.drew.cell? ⟨b,0,none⟩=some a∧w.frozen? ⟨b,0,none⟩=false∧w.drew.frozen? ⟨b,0,none⟩=false∧w.cell? ⟨b,1,none⟩=some c∧w.drew.cell? ⟨b,1,none⟩=some c∧w.frozen? ⟨b,1,none⟩=false∧w.drew.frozen? ⟨b,1,none⟩=false∧w.cell? ⟨b,2,none⟩=some d∧w.drew.cell? ⟨b,2,none⟩=some d∧w.frozen? ⟨b,2,none⟩=false∧w.drew.frozen? ⟨b,2,none⟩=false∧w.cell? ⟨b,3,none⟩=some e∧w.drew.cell? ⟨b,3,none⟩=some e∧w.frozen? ⟨b,3,none⟩=false∧w.drew.frozen? ⟨b,3,none⟩=false∧w.cell? ⟨b,4,none⟩=some f∧w.drew.cell? ⟨b,4,none⟩=some f∧w.frozen? ⟨b,4,none⟩=false∧w.drew.frozen? ⟨b,4,none⟩=false:=⟨zac h 0,zac h 0,zag h 0,zag h 0,zac h 1,zac h 1,zag h 1,zag h 1,zac h 2,zac h 2,zag h 2,zag h 2,zac h 3,zac h 3,zag h 3,zag h 3,zac h 4,zac h 4,zag h 4,zag h 4⟩
theorem bc6(h:w.heap[b]? = some (.cells #[a,c,d,e,f,g] t (0,0))):w.cell? ⟨b,0,none⟩=some a∧w.drew.cell? ⟨b,0,none⟩=some a∧w.cell? ⟨b,1,none⟩=some c∧w.drew.cell? ⟨b,1,none⟩=some c∧w.cell? ⟨b,2,none⟩=some d∧w.drew.cell? ⟨b,2,none⟩=some d∧w.cell? ⟨b,3,none⟩=some e∧w.drew.cell? ⟨b,3,none⟩=some e∧w.cell? ⟨b,4,none⟩=some f∧w.drew.cell? ⟨b,4,none⟩=some f∧w.cell? ⟨b,5,none⟩=some g∧w.drew.cell? ⟨b,5,none⟩=some g:=⟨zac h 0,zac h 0,zac h 1,zac h 1,zac h 2,zac h 2,zac h 3,zac h 3,zac h 4,zac h 4,zac h 5,zac h 5⟩
theorem bf6(h:w.heap[b]? = some (.cells #[a,c,d,e,f,g] t (0,0))):w.cell? ⟨b,0,none⟩=some a∧w.drew.cell? ⟨b,0,none⟩=some a∧w.frozen? ⟨b,0,none⟩=false∧w.drew.frozen? ⟨b,0,none⟩=false∧w.cell? ⟨b,1,none⟩=some c∧w.drew.cell? ⟨b,1,none⟩=some c∧w.frozen? ⟨b,1,none⟩=false∧w.drew.frozen? ⟨b,1,none⟩=false∧w.cell? ⟨b,2,none⟩=some d∧w.drew.cell? ⟨b,2,none⟩=some d∧w.frozen? ⟨b,2,none⟩=false∧w.drew.frozen? ⟨b,2,none⟩=false∧w.cell? ⟨b,3,none⟩=some e∧w.drew.cell? ⟨b,3,none⟩=some e∧w.frozen? ⟨b,3,none⟩=false∧w.drew.frozen? ⟨b,3,none⟩=false∧w.cell? ⟨b,4,none⟩=some f∧w.drew.cell? ⟨b,4,none⟩=some f∧w.frozen? ⟨b,4,none⟩=false∧w.drew.frozen? ⟨b,4,none⟩=false∧w.cell? ⟨b,5,none⟩=some g∧w.drew.cell? ⟨b,5,none⟩=some g∧w.frozen? ⟨b,5,none⟩=false∧w.drew.frozen? ⟨b,5,none⟩=false:=⟨zac h 0,zac h 0,zag h 0,zag h 0,zac h 1,zac h 1,zag h 1,zag h 1,zac h 2,zac h 2,zag h 2,zag h 2,zac h 3,zac h 3,zag h 3,zag h 3,zac h 4,zac h 4,zag h 4,zag h 4,zac h 5,zac h 5,zag h 5,zag h 5⟩
theorem bc8(h:w.heap[b]? = some (.cells #[a,c,d,e,f,g,i,j] t (0,0))):w.cell? ⟨b,0,none⟩=some a∧w.drew.cell? ⟨b,0,none⟩=some a∧w.cell? ⟨b,1,none⟩=some c∧w.drew.cell? ⟨b,1,none⟩=some c∧w.cell? ⟨b,2,none⟩=some d∧w.drew.cell? ⟨b,2,none⟩=some d∧w.cell? ⟨b,3,none⟩=some e∧w.drew.cell? ⟨b,3,none⟩=some e∧w.cell? ⟨b,4,none⟩=some f∧w.drew.cell? ⟨b,4,none⟩=some f∧w.cell? ⟨b,5,none⟩=some g∧w.drew.cell? ⟨b,5,none⟩=some g∧w.cell? ⟨b,6,none⟩=some i∧w.drew.cell? ⟨b,6,none⟩=some i∧w.cell? ⟨b,7,none⟩=some j∧w.drew.cell? ⟨b,7,none⟩=some j:=⟨zac h 0,zac h 0,zac h 1,zac h 1,zac h 2,zac h 2,zac h 3,zac h 3,zac h 4,zac h 4,zac h 5,zac h 5,zac h 6,zac h 6,zac h 7,zac h 7⟩
theorem bf8(h:w.heap[b]? = some (.cells #[a,c,d,e,f,g,i,j] t (0,0))):w.cell? ⟨b,0,none⟩=some a∧w.drew.cell? ⟨b,0,none⟩=some a∧w.frozen? ⟨b,0,none⟩=false∧w.drew.frozen? ⟨b,0,none⟩=false∧w.cell? ⟨b,1,none⟩=some c∧w.drew.cell? ⟨b,1,none⟩=some c∧w.frozen? ⟨b,1,none⟩=false∧w.drew.frozen? ⟨b,1,none⟩=false∧w.cell? ⟨b,2,none⟩=some d∧w.drew.cell? ⟨b,2,none⟩=some d∧w.frozen? ⟨b,2,none⟩=false∧w.drew.frozen? ⟨b,2,none⟩=false∧w.cell? ⟨b,3,none⟩=some e∧w.drew.cell? ⟨b,3,none⟩=some e∧w.frozen? ⟨b,3,none⟩=false∧w.drew.frozen? ⟨b,3,none⟩=false∧w.cell? ⟨b,4,none⟩=some f∧w.drew.cell? ⟨b,4,none⟩=some f∧w.frozen? ⟨b,4,none⟩=false∧w.drew.frozen? ⟨b,4,none⟩=false∧w.cell? ⟨b,5,none⟩=some g∧w.drew.cell? ⟨b,5,none⟩=some g∧w.frozen? ⟨b,5,none⟩=false∧w.drew.frozen? ⟨b,5,none⟩=false∧w.cell? ⟨b,6,none⟩=some i∧w.drew.cell? ⟨b,6,none⟩=some i∧w.frozen? ⟨b,6,none⟩=false∧w.drew.frozen? ⟨b,6,none⟩=false∧w.cell? ⟨b,7,none⟩=some j∧w.drew.cell? ⟨b,7,none⟩=some j∧w.frozen? ⟨b,7,none⟩=false∧w.drew.frozen? ⟨b,7,none⟩=false:=⟨zac h 0,zac h 0,zag h 0,zag h 0,zac h 1,zac h 1,zag h 1,zag h 1,zac h 2,zac h 2,zag h 2,zag h 2,zac h 3,zac h 3,zag h 3,zag h 3,zac h 4,zac h 4,zag h 4,zag h 4,zac h 5,zac h 5,zag h 5,zag h 5,zac h 6,zac h 6,zag h 6,zag h 6,zac h 7,zac h 7,zag h 7,zag h 7⟩
theorem bc9{k:Value}(h:w.heap[b]? = some (.cells #[a,c,d,e,f,g,i,j,k] t (0,0))):w.cell? ⟨b,0,none⟩=some a∧w.drew.cell? ⟨b,0,none⟩=some a∧w.cell? ⟨b,1,none⟩=some c∧w.drew.cell? ⟨b,1,none⟩=some c∧w.cell? ⟨b,2,none⟩=some d∧w.drew.cell? ⟨b,2,none⟩=some d∧w.cell? ⟨b,3,none⟩=some e∧w.drew.cell? ⟨b,3,none⟩=some e∧w.cell? ⟨b,4,none⟩=some f∧w.drew.cell? ⟨b,4,none⟩=some f∧w.cell? ⟨b,5,none⟩=some g∧w.drew.cell? ⟨b,5,none⟩=some g∧w.cell? ⟨b,6,none⟩=some i∧w.drew.cell? ⟨b,6,none⟩=some i∧w.cell? ⟨b,7,none⟩=some j∧w.drew.cell? ⟨b,7,none⟩=some j∧w.cell? ⟨b,8,none⟩=some k∧w.drew.cell? ⟨b,8,none⟩=some k:=⟨zac h 0,zac h 0,zac h 1,zac h 1,zac h 2,zac h 2,zac h 3,zac h 3,zac h 4,zac h 4,zac h 5,zac h 5,zac h 6,zac h 6,zac h 7,zac h 7,zac h 8,zac h 8⟩
theorem bf9{k:Value}(h:w.heap[b]? = some (.cells #[a,c,d,e,f,g,i,j,k] t (0,0))):w.cell? ⟨b,0,none⟩=some a∧w.drew.cell? ⟨b,0,none⟩=some a∧w.frozen? ⟨b,0,none⟩=false∧w.drew.frozen? ⟨b,0,none⟩=false∧w.cell? ⟨b,1,none⟩=some c∧w.drew.cell? ⟨b,1,none⟩=some c∧w.frozen? ⟨b,1,none⟩=false∧w.drew.frozen? ⟨b,1,none⟩=false∧w.cell? ⟨b,2,none⟩=some d∧w.drew.cell? ⟨b,2,none⟩=some d∧w.frozen? ⟨b,2,none⟩=false∧w.drew.frozen? ⟨b,2,none⟩=false∧w.cell? ⟨b,3,none⟩=some e∧w.drew.cell? ⟨b,3,none⟩=some e∧w.frozen? ⟨b,3,none⟩=false∧w.drew.frozen? ⟨b,3,none⟩=false∧w.cell? ⟨b,4,none⟩=some f∧w.drew.cell? ⟨b,4,none⟩=some f∧w.frozen? ⟨b,4,none⟩=false∧w.drew.frozen? ⟨b,4,none⟩=false∧w.cell? ⟨b,5,none⟩=some g∧w.drew.cell? ⟨b,5,none⟩=some g∧w.frozen? ⟨b,5,none⟩=false∧w.drew.frozen? ⟨b,5,none⟩=false∧w.cell? ⟨b,6,none⟩=some i∧w.drew.cell? ⟨b,6,none⟩=some i∧w.frozen? ⟨b,6,none⟩=false∧w.drew.frozen? ⟨b,6,none⟩=false∧w.cell? ⟨b,7,none⟩=some j∧w.drew.cell? ⟨b,7,none⟩=some j∧w.frozen? ⟨b,7,none⟩=false∧w.drew.frozen? ⟨b,7,none⟩=false∧w.cell? ⟨b,8,none⟩=some k∧w.drew.cell? ⟨b,8,none⟩=some k∧w.frozen? ⟨b,8,none⟩=false∧w.drew.frozen? ⟨b,8,none⟩=false:=⟨zac h 0,zac h 0,zag h 0,zag h 0,zac h 1,zac h 1,zag h 1,zag h 1,zac h 2,zac h 2,zag h 2,zag h 2,zac h 3,zac h 3,zag h 3,zag h 3,zac h 4,zac h 4,zag h 4,zag h 4,zac h 5,zac h 5,zag h 5,zag h 5,zac h 6,zac h 6,zag h 6,zag h 6,zac h 7,zac h 7,zag h 7,zag h 7,zac h 8,zac h 8,zag h 8,zag h 8⟩
theorem zKh(a:Below B w w1)(c:b<B)(h:w.cell? ⟨b,o,none⟩=some v):w1.cell? ⟨b,o,none⟩=some v :=
 (a.cell (p:=⟨b,o,none⟩) c).trans h
def SR (w:World) (s:Value) (xs:List Nat):Prop:=∃A c,s=.slice A xs.length c∧xs.length≤c∧c≤9223372036854775807∧Wds xs∧(A=none→xs=[]∧c=0) ∧
  ∀ad,A=some ad→∀j u,(wcells xs)[j]? = some u→w.cell? (ad.add j)=some u
theorem SW.reads{s:Value}(h:SW w s xs):SR w s xs:=by
 rcases h.form with ⟨rfl,rfl⟩ | ⟨g,cap,rfl,hg,b,hm,hc⟩
 ·exact⟨none,0,rfl,Nat.le_refl _,by decide,Wds.nil,fun _=>⟨rfl,rfl⟩,fun a h=>by cases h⟩
 ·refine⟨_,cap,rfl,b,by unfold maxLen at hm;omega,h.2,(fun h=>by cases h),fun a c j u d=>?_⟩;obtain rfl:=Option.some.inj c;exact h.1.cells (g:=g) rfl j u d
def zCs (w:World) (xs:List Nat) (e:Ending) (w':World):Prop:=∃(A:OA) (m c:Nat),e=.returned (A,m,c)∧SW w' (A,m,c) xs∧Below w.heap.size w w'
def zc0 (w:World) (n:Nat) (e:Ending) (w':World):Prop:=∃(A:OA) (m c:Nat),e=.returned (.agg #[(A,m,c)])∧zas w' (A,m,c) n∧Below w.heap.size w w'
def zjL (w:World) (n:Nat) (b:Bool) (e:Ending) (w':World):Prop:=∃(A:OA) (m c:Nat),e=.returned (.tuple #[.agg #[(A,m,c)],b])∧zas w' (A,m,c) n∧Below w.heap.size w w'
namespace Nt
theorem zyC(h:xs.length≤k):wd xs k=0:=zjA xs k h
theorem word(s:Value)(xs:List Nat)(k:Int)(hk:0≤k)(w:World)(a:SW w s xs) :
  Calls Tryz.prog 145 #[.agg #[s],.int .i64 k] w fun e w'=>e=.returned (.int .u64 ((wd xs k.toNat:Nat):Int))∧w'=w.alloc (.cells #[s] 45):=by
 have c:=a.len_le;rcases a.form with ⟨rfl,rfl⟩ | ⟨g,cap,rfl,hg,d,hm,hc⟩
 ·have b:=hid (zyC (xs:=[]) (k:=k.toNat) (by simp));clear c;go_enter Tryz.func145,Tryz.ntmps145;go_wp2;go_ret
  exact⟨zst (by rw[b.out];rfl),rfl⟩
 ·by_cases i:k<xs.length
  ·have f:=hc k.toNat (by omega);obtain⟨j,rfl⟩:=Int.eq_ofNat_of_zero_le hk;rw[Int.toNat_natCast]at *
   generalize wd xs j=x at *
   clear hc a;go_enter Tryz.func145,Tryz.ntmps145;go_wp2;go_ret
   exact⟨rfl,rfl⟩
  ·have b:=hid (zyC (xs:=xs) (k:=k.toNat) (by omega));clear hc a;go_enter Tryz.func145,Tryz.ntmps145;go_wp2;go_ret
   exact⟨zst (by rw[b.out];rfl),rfl⟩
theorem len(s:Value)(xs:List Nat)(w:World)(a:SW w s xs) :
  Calls Tryz.prog 129 #[.agg #[s]] w fun e w'=>e=.returned (xs.length:Int)∧w'=w.alloc (.cells #[s] 45):=by
 rcases a.form with ⟨rfl,rfl⟩ | ⟨g,cap,rfl,hg,b,hm,hc⟩
 all_goals
  try clear hc
  clear a;go_enter Tryz.func129,Tryz.ntmps129;go_wp2;go_ret
  exact⟨rfl,rfl⟩
theorem zero(s:Value)(n:Nat)(w:World)(a:zas w s n) :
  Calls Tryz.prog 97 #[.agg #[s]] w fun e w'=>e=.returned (.bool (isZ n))∧w'=w.alloc (.cells #[s] 45):=by
 obtain⟨xs,a,hc,rfl⟩:=a;have c:((xs.length:Int) == 0)=isZ (nval xs):=by
  have:=zoS xs hc;by_cases h:xs=[]
  ·subst h;rfl
  ·rw[zk4 (Nat.pos_of_ne_zero (fun e=>h (this.1 e)))];simp[h]
 rcases a.form with ⟨rfl,rfl⟩ | ⟨g,cap,rfl,hg,d,hm,b⟩
 ·clear a c;go_enter Tryz.func97,Tryz.ntmps97;go_wp2;go_ret
  exact⟨rfl,rfl⟩
 ·clear b a;go_enter Tryz.func97,Tryz.ntmps97;go_wp2;go_ret
  exact⟨rfl,rfl⟩
theorem uint_one(s:Value)(n:Nat)(i:n<18446744073709551616)(w:World)(a:zas w s n) :
  Calls Tryz.prog 143 #[.agg #[s]] w fun e w'=>e=.returned (.tuple #[.int .u64 (n:Int),true])∧Below w.heap.size w w':=by
 obtain⟨xs,a,hc,b,c⟩:=a.len;have m:xs.length≤1:=by rw[c];exact zdl i
 have d:wd xs 0=n:=by
  rw[←b,wd,zhQ xs a.2,Nat.pow_zero,Nat.div_one,b];exact Nat.mod_eq_of_lt i
 have f:=hid d;have j:=a.alloc (.cells #[s] 45);have o:=a.len_le;rcases a.form with ⟨rfl,rfl⟩ | ⟨g,cap,rfl,hg,l,hm,k⟩
 ·clear c b d;go_enter Tryz.func143,Tryz.ntmps143;go_wp2_with (go_at_call 145;refine(word _ _ _ (by omega) _ j).mono ?_;rintro e w' ⟨rfl,rfl⟩)
  go_ret2
  exact⟨by rw[←f.out];rfl,(Below.refl _ _).alloc (Nat.le_refl _) _ |>.alloc (by simp) _⟩
 ·clear k c b d;go_enter Tryz.func143,Tryz.ntmps143;go_wp2_with (go_at_call 145;refine(word _ _ _ (by omega) _ j).mono ?_;rintro e w' ⟨rfl,rfl⟩)
  go_ret2
  exact⟨by rw[←f.out];rfl,(Below.refl _ _).alloc (Nat.le_refl _) _ |>.alloc (by simp) _⟩
theorem uint_more(s:Value)(n:Nat)(l:18446744073709551616≤n)(w:World)(a:zas w s n) :
  Calls Tryz.prog 143 #[.agg #[s]] w fun e w'=>e=.returned (.tuple #[.int .u64 0,false])∧Below w.heap.size w w':=by
 obtain⟨xs,a,hc,i,d⟩:=a.len;have f:1<xs.length:=by
  rcases Nat.lt_or_ge 1 xs.length with h | h
  ·exact h
  ·have b:=(zfP n 1).1 (by omega);simp only[Nat.pow_one,B64]at b;omega
 have k:=a.len_le;rcases a.form with ⟨rfl,rfl⟩ | ⟨g,cap,rfl,hg,j,hm,c⟩
 ·simp at f
 ·clear c d i;go_enter Tryz.func143,Tryz.ntmps143;go_wp2;go_ret2
  exact⟨rfl,(Below.refl _ _).alloc (Nat.le_refl _) _⟩

theorem zzd{g cap:Nat}(h:SW w (g,xs.length,cap) xs)(hm:m≤xs.length):SW w (g,m,cap) (xs.take m):=by
 have a:(xs.take m).length=m:=by simp;omega
 refine⟨⟨by rw[zdA];omega,?_⟩,h.2.take m⟩;rcases h.1.2 with ⟨h1,_⟩ | ⟨g',i,cur,b,hg,c,j,d,e,f⟩
 ·simp at h1
 ·simp only[Value.slice.injEq,Option.some.injEq,Addr.mk.injEq,and_true,true_and]at b;obtain⟨rfl,rfl⟩:=b;refine .inr ⟨g,cap,cur,by rw[a],hg,c,by omega,d,e,?_⟩;rw[zg7,←f,a,List.take_take]
  congr 1;omega
theorem zvz(hm:0<m)(a:m≤xs.length)(h0:wd xs (m-1)=0):trimZ (xs.take m)=trimZ (xs.take (m-1)):=by
 obtain⟨k,rfl⟩:∃k,m=k+1:=⟨m-1,by omega⟩
 simp only[Nat.add_sub_cancel]at *
 have:xs[k]'(by omega)=0:=by
  have:=h0;unfold wd at this;rw[List.getD_eq_getElem?_getD,List.getElem?_eq_getElem (by omega)]at this;exact this
 rw[List.take_succ_eq_append_getElem (by omega),this,zdK]
theorem zo8(a:m≤xs.length)(h0:0<m→wd xs (m-1)≠0):Canon (xs.take m):=by
 rcases Nat.eq_zero_or_pos m with rfl | hm
 ·simpa using zop
 ·obtain⟨k,rfl⟩:∃k,m=k+1:=⟨m-1,by omega⟩
  have h1:=h0 hm;simp only[Nat.add_sub_cancel]at h1;rw[List.take_succ_eq_append_getElem (by omega)];apply zm8;unfold wd at h1;rw[List.getD_eq_getElem?_getD,List.getElem?_eq_getElem (by omega)]at h1;exact h1
def lenOf:Value→Nat | .slice _ n _=>n | _=>0
theorem trim(s:Value)(xs:List Nat)(w:World)(a:SW w s xs):Calls Tryz.prog 135 #[s] w (zc0 w (nval xs)):=by
 have u:=a.len_le;rcases a.form with ⟨rfl,rfl⟩ | ⟨g,cap,rfl,hg,t,hm,j⟩
 ·clear a;go_enter Tryz.func135,Tryz.ntmps135;go_wp2;refine wp_loop_rounds 1 ?_;rw[rounds_succ];go_wp2;refine bodyPost_ret (v:=.agg #[()]) (by simp[results,Tryz.results135,go_sem]) rfl ⟨_,_,_,rfl,zas.zero _,(Below.refl _ _).alloc (Nat.le_refl _) _⟩
 ·unfold maxLen at hm;go_enter Tryz.func135,Tryz.ntmps135;have l:=hid j;have o:=hid a;clear j a;go_wp2;go_loop [0] (fun v=>∃m:Nat,m≤xs.length∧v=(g,m,cap)∧trimZ (xs.take m)=trimZ xs) (fun v=>lenOf v)
  case atStart=>exact⟨xs.length,Nat.le_refl _,rfl,by rw[List.take_of_length_le (Nat.le_refl _)]⟩
  case round =>
   obtain⟨m,d,rfl,k⟩:=hrel;have i:=hid k;clear k;have fin:Canon (xs.take m)→zc0 w (nval xs) (.returned (.agg #[(g,m,cap)])) (w.alloc (.cells #[(g,m,cap)] 45)):=by
    intro c;refine⟨_,_,_,rfl,?_,(Below.refl _ _).alloc (Nat.le_refl _) _⟩;have h1:=zas.mk ((zzd o.out d).alloc (.cells #[(g,m,cap)] 45)) c
    rwa [←zl7,zln c,←zln c,i.out,zl7]at h1
   have f:=hid fin;clear fin;rcases Nat.eq_zero_or_pos m with rfl | hpos
   ·have e:=hid (f.out (zo8 (by omega) (by omega)));go_wp2;exact bodyPost_ret (v:=.agg #[.slice (some ⟨g,0,none⟩) 0 cap]) (by simp[results,Tryz.results135,go_sem]) rfl e.out
   ·have q:=l.out (m-1) (by omega);by_cases b:wd xs (m-1)=0
    ·have p:=hid ((zvz hpos d b).symm.trans i.out);rw[b]at q;clear b;go_wp2;go_round
     case rel=>exact⟨m-1,by omega,rfl,p.out⟩
     case measure=>simp[lenOf];omega
    ·have e:=hid (f.out (zo8 d (fun _=>b)));have r:(((wd xs (m-1):Nat):Int) == 0)=false:=by rw[beq_eq_false_iff_ne];omega
     clear b;generalize wd xs (m-1)=x at *
     go_wp2;exact bodyPost_ret (v:=.agg #[(g,m,cap)]) (by simp[results,Tryz.results135,go_sem]) rfl e.out
