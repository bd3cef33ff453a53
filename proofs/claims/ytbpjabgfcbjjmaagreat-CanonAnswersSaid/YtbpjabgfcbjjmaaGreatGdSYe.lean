/- Contracts and lemmas: PrY GdS PrS Shp. Conditions: as each says. -/
import Derived.Test.YtbpjabgfcbjjmaaGreatPrFYe
import Derived.Test.YtbpjabgfcbjjmaaGreatPrBYe
set_option linter.all false
set_option maxHeartbeats 2000000
set_option maxRecDepth 100000
namespace Go.Proofs.YtbpjabgfcbjjmaaGreat
open Go.RowKit Am
attribute [local go_sem ↓] Go.wp_at_zero Go.wp_at_succ
variable {k:Int}{rows:List PRow}{cost:List Rat}{i j m n nC t:Nat}
def zTj (NN:Nat) (cols:List Nat) (col:List Rat) (j k:Nat):List Rat:=(List.range NN).map λi=>way k (λl=>cols.getD l 0) (λr _=>el col r) j i
section
variable {W0 w:World} {H q:Nat} {rA:OA} {rc:Nat} {lA:List Value} {bA:OA} {bc_:Nat} {kA:OA} {kc:Nat} {eA:OA} {ec m NN S own:Nat} {A:List (List Rat)} {b c:List Rat} {left:List Int}
  {tA:OA} {tc:Nat} {cols:List Nat}
namespace Pr
end Pr
end
theorem zVF:∀n,n<=4->sB n 1 1<=1000000:=by decide +kernel
theorem zWc:∀n,n<=4->zor n 1<=LIM:=by unfold LIM;decide +kernel
structure Shape (nC:Nat) (rows:List PRow):Prop where
  co:∀p∈rows,p.coef.length=nC
  kd:Kinds rows
structure GoodS (S nC m:Nat) (cost:List Rat) (rows:List PRow):Prop where
  sc:∀q∈cost,mw q<=S
  rw_:∀p∈rows,p.coef.length=nC/\(∀q∈p.coef,mw q<=S)/\mw p.rhs<=S
  kd:Kinds rows
  h1:1<=S
  hS:S<=4000000
  hc:nC<=24
  hr:m<=20
  cap:zor m S<=LIM
  sb:sB m S S<=4000000
theorem Good1.toS(h:Good1 nC m cost rows):GoodS 1 nC m cost rows :=
 ⟨h.sc,h.rw_,h.kd,Za _,δ,by have:=h.hc;omega,by have:=h.hr;omega,zWc m h.hr,Zl (zVF m h.hr) δ⟩
theorem GoodS.sh{S:Nat}(h:GoodS S nC m cost rows):Shape nC rows:=⟨λp a=>(h.rw_ p a).1,h.kd⟩
def zVM (w:World) (nC m N NN:Nat) (A0:List (List Rat)) (b0 c0:List Rat) (B:Nat) (o:Out) (e:Ending) (w':World):Prop :=
  Below w w w'/\match o with
    | .spent _=>∃ev,e=.returned (.tuple #[.agg #[.int .i64 0,(),(),(),.int .i64 0],ev])/\Spent w' B ev
    | .none cols n=>∃(Y:OA) (cY:Nat),e=.returned (.tuple #[.agg #[.int .i64 2,(),(Y,m,cY),(),(n:Int)],.nilIface])/\VecS w' w (Y,m,cY) (bkL (b0.map sgI) (zcl (zt0 A0 b0) cols (zJG N m)) m)
    | .best cols n=>∃(P:OA) (cP:Nat) (Y:OA) (cY:Nat),e=.returned (.tuple #[.agg #[.int .i64 1,(P,nC,cP),(Y,m,cY),(),(n:Int)],.nilIface])/\VecS w' w (P,nC,cP) ((zh1 NN cols (za5 (zt0 A0 b0) (zwh b0) cols)).take nC)/\VecS w' w (Y,m,cY) (bkL (b0.map sgI) (zcl (zt0 A0 b0) cols (zKb m c0)) m)
    | .falls cols j n=>∃(P:OA) (cP:Nat) (D:OA) (cD:Nat),e=.returned (.tuple #[.agg #[.int .i64 3,(P,nC,cP),(),(D,nC,cD),(n:Int)],.nilIface])/\VecS w' w (P,nC,cP) ((zh1 NN cols (za5 (zt0 A0 b0) (zwh b0) cols)).take nC)/\VecS w' w (D,nC,cD) ((zTj NN cols (zav (zt0 A0 b0) cols j) j m).take nC)
namespace Pr
open Du (zCr)
theorem zYk(rA:OA)(rc:Nat)(lA:List Value)(bA:OA)(bc_:Nat)(kA:OA)(kc:Nat)(eA:OA)(ec m N NN S own:Nat)(d:List (List Rat))(a f:List Rat)(left:List Int)(w:World)(hS:StdP w rA rc lA bA bc_ kA kc eA ec m N S d a f left)(o:NN<=64)(j:N+m=NN)(hl:left.length=m)(l:8*S+8<=LIM) :
  Calls Tryz.prog 46 #[.agg #[(rA,m,rc),(N:Int),(bA,m,bc_),(kA,N,kc),(own:Int),(eA,m,ec)]] w λe w'=>∃(rA:OA) (rc:Nat) (lA:List Value) (bA:OA) (bc_:Nat) (kA:OA) (kc:Nat) (eA:OA) (ec:Nat) (g:OA) (i:Nat),
   e=.returned (.tuple #[.agg #[(rA,m,rc),(NN:Int),(bA,m,bc_),(kA,NN,kc),(own:Int),(eA,m,ec),(g,m,i),(N:Int)],.nilIface]) /\
   StdP w' rA rc lA bA bc_ kA kc eA ec m NN S (zt0 d a) (zwh a) (zKb m f) left/\IntsZ w' 0 (g,m,i) (a.map sgI)/\Below w w w':=by
 subst j;exact pbegin rA rc lA bA bc_ kA kc eA ec m N S own d a f left w hS o hl l
end Pr
section
variable {n:Nat} {rows:List PRow} (hl:∀k,k<rows.length->(rows.getD k default).coef.length=n)
theorem zUo(h:t<rows.length)(a:(rows.getD t default).kind≠3):cnt rows t<cnt rows rows.length:=by
 have h1:cnt rows (t+1)=cnt rows t+1:=by rw[cnt,if_neg a]
 have d:=zyi rows (j:=t+1) (k:=rows.length) ω;omega
theorem zX7(hi:(rows.getD i default).kind≠3)(a:(rows.getD t default).kind≠3)(e:cnt rows i=cnt rows t):i=t:=by
 have h1:cnt rows (i+1)=cnt rows i+1:=by rw[cnt,if_neg hi]
 have d:cnt rows (t+1)=cnt rows t+1:=by rw[cnt,if_neg a]
 rcases XJ i t with h | h | h;have:=zyi rows (j:=i+1) (k:=t) ω;omega;exact h;have:=zyi rows (j:=t+1) (k:=i) ω;omega
include hl
theorem zWW{k:Nat}(h:k<rows.length)(hj:j<n):en (zc3 rows) k j=el (rows.getD k default).coef j:=by unfold en;rw[zrT h,zkF (by rw[hl k h];exact hj)]
theorem zUC(z:Nat->Rat)(hi:i<rows.length):zai (n+cnt rows rows.length) (λj=>en (zc3 rows) i j*z j)=zai n (λj=>el (rows.getD i default).coef j*z j)+(if (rows.getD i default).kind=3 then 0 else ((zfI (rows.getD i default).kind:Int):Rat)*z (n+cnt rows i)):=by
 rw[zgc _ n,zaj (g:=λj=>el (rows.getD i default).coef j*z j) λj hj=>by rw[zWW hl hi hj]]
 congr 1
 by_cases a:(rows.getD i default).kind=3;rw[if_pos a];exact zcn λt d=>by rw[zvs hl hi d,if_neg (λh=>h.1 a)];grind
 rw[if_neg a,zbI (k:=cnt rows i) (zUo hi a) λt d e=>by rw[zvs hl hi d,if_neg (λh=>e h.2)];grind,zvs hl hi (zUo hi a),if_pos ⟨a,rfl⟩]
end
theorem zYn(h:k=1):((zfI k:Int):Rat)=1:=by unfold zfI;rw[if_pos h];rfl
theorem zYo(h:k≠1):((zfI k:Int):Rat) = -1:=by unfold zfI;rw[if_neg h];rfl
theorem zTB(a:cost.length=n):el (zjD cost rows) j=if j<n then el cost j else 0:=by unfold zjD;by_cases h:j<n;rw[if_pos h,zkF ω];rw[if_neg h];unfold el;rw[Zg,ZJ ω,Z8];split<;>rfl
theorem zUp{K:Nat}(a:cost.length=n)(z:Nat->Rat):zai (n+K) (λj=>el (zjD cost rows) j*z j)=zai n λj=>el cost j*z j:=by rw[zgc _ n,zcn (f:=λt=>el (zjD cost rows) (n+t)*z (n+t)) λt _=>by rw[zTB a,if_neg ω];grind,zaj (g:=λj=>el cost j*z j) λj hj=>by rw[zTB a,if_pos hj]];grind
section
variable {nC m N:Nat} {cost:List Rat} {rows:List PRow} (hg:Shape nC rows) (hlc:cost.length=nC) (hlr:rows.length=m) (hN:nC+cnt rows m=N)
include hg hlc hlr hN
theorem zSE:∀k,k<rows.length->(rows.getD k default).coef.length=nC:=λk hk=>hg.co _ (Zz (zaO hk))
theorem zVA:Rect m N (zc3 rows):=by have:=zlk (zSE hg hlc hlr hN);rw[hlr,hN]at this;exact this
theorem zVz:(zg8 rows).length=m:=by rw[zxG,hlr]
end
