/- Contracts and lemmas: Lst. Conditions: as each says. -/
import Derived.Test.YtbhfhkcdfmmmiaaGreatSol18Zu
import Derived.Test.YtbhfhkcdfmmmiaaGreatCert1Zu
set_option linter.all false
set_option maxHeartbeats 1000000
set_option maxRecDepth 100000
namespace Go.Proofs.YtbhfhkcdfmmmiaaGreat
open Go.RowKit Am
variable {rows:List PRow}{cost x y:List Rat}{S m nC:Nat}{z:Nat→Rat}{p:PRow}
def asL (nC:Nat) (x:Nat→Rat):List Rat:=(List.range nC).map x
theorem yxw(nC:Nat)(x:Nat→Rat):(asL nC x).length=nC:=by simp[asL]
theorem yxv{j:Nat}(x:Nat→Rat)(h:j<nC):el (asL nC x) j=x j:=by
 unfold asL
 conv=>lhs;unfold el
 rw[zbU _ _ (by grind) 0,zcA h]
theorem yxp(h:p.coef.length=nC):dot p.coef x=ywR nC p (el x):=by
 unfold dot ziw ywR;rw[h]
theorem ywX(h:cost.length=nC):dot cost x=ywA nC cost (el x):=by
 unfold dot ziw ywA;rw[h]
theorem yxz{x:Nat→Rat}(e:∀j,j<nC→x j=z j):ywR nC p x=ywR nC p z:=zaj fun j hj=>by rw[e j hj]
theorem yw9{x:Nat→Rat}(e:∀j,j<nC→x j=z j):ywA nC cost x=ywA nC cost z:=zaj fun j hj=>by rw[e j hj]
theorem yxf{x:Nat→Rat}(e:∀j,j<nC→x j=z j)(h:ywM nC rows x):ywM nC rows z :=
 ⟨fun j hj=>by rw[←e j hj];exact h.1 j hj,fun i hi=>by have a:=h.2 i hi;unfold ywH at a ⊢;rw[←yxz e];exact a⟩
theorem yxa(hk:1≤p.kind∧p.kind≤3)(d:p.coef.length=nC):zdH p x=true↔ywH nC p (el x):=by
 rw[yel hk];unfold ywH zdp;rw[yxp d];grind
theorem ywY(a:Shape nC rows)(hc:cost.length=nC)(lx:x.length=nC):znD cost rows x=true↔ywM nC rows (el x):=by
 rw[ydT];constructor
 ·rintro⟨_,b,c⟩;exact⟨fun j _=>b j,fun i hi=>(yxa (a.kd _ (yd2 hi)) (a.co _ (yd2 hi))).1 (c _ (yd2 hi))⟩
 ·rintro⟨b,c⟩;refine⟨by omega,fun j=>?_,fun p d=>?_⟩
  ·grind[zDb,Rat.le_refl]
  ·obtain⟨i,hi⟩:=ZV.1 d;have f:=(Zm.1 hi).1;have e:rows.getD i default=p:=zfC hi;have h:=c i f;rw[e]at h;exact(yxa (a.kd p d) (a.co p d)).2 h
theorem yw3(h:Rows nC rows)(hc:cost.length=nC)(f:rows.length=m)(c:Signs m rows y)(d:∀j,j<nC→zai m (fun i=>el y i*el (rows.getD i default).coef j)≤el cost j):ydS nC cost rows y=true:=by
 subst f;refine(ydU h hc).2 ⟨d,fun k hk=>?_⟩;unfold zIc;have a:=c.s1 k hk;have b:=c.s2 k hk;rw[Ya,Y8,YD,YD,decide_eq_false_iff_not,decide_eq_false_iff_not,decide_eq_false_iff_not,decide_eq_false_iff_not];grind
theorem yxh{x:Nat→Rat}(h:Rows nC rows)(a:Shape nC rows)(hc:cost.length=nC)(d:rows.length=m)(e:Signs m rows y)(b:∀j,j<nC→zai m (fun i=>el y i*el (rows.getD i default).coef j)≤el cost j)(f:ywM nC rows x):sb y rows≤ywA nC cost x:=by
 have c:znD cost rows (asL nC x)=true:=(ywY a hc (yxw _ _)).2 (yxf (fun j hj=>(yxv x hj).symm) f);have:=weak h a.kd hc (yw3 h hc d e b) c;rw[ywX hc,yw9 fun j hj=>yxv x hj]at this;exact this
theorem yxj(h:Rows nC rows)(d:Shape nC rows)(b:rows.length=m)(c:zUQ nC m rows y)(x:Nat→Rat):¬ywM nC rows x:=fun g=>by
 obtain⟨f,a,i⟩:=c;have:=yxh (cost:=List.replicate nC 0) h d (by simp) b f (fun j hj=>by rw[zrm];exact a j hj) g;have e:ywA nC (List.replicate nC 0) x=0:=zcn fun j _=>by rw[zrm,Rat.zero_mul]
 grind
theorem yxT{N:Nat}{A:List (List Rat)}{b c:List Rat}{cols:List Nat}(a:Basis m N A cols)(zA:∀r∈A,∀q∈r,mw q≤S)(p:b.length=m)(zb:∀q∈b,mw q≤S)(zc:∀j,mw (el c j)≤S)(h1:1≤S) :
  mw (zai m fun k=>el c (cols.getD k 0)*el (za5 A b cols) k)≤cB (m+1) S:=by
 obtain⟨e,_⟩:=a.vals_ok b;have l:=zLu a zA;have cut:∀(f:Nat→Rat),zai (m+1) f=zai m f+f m:=fun f=>rfl
 have o:=ywn (n:=m+1) (S:=S) (M:=fun i j=>if i<m then (if j<m then en (bc A cols) j i else 0)else (if j<m then el c (cols.getD j 0)else -1)) (b:=fun i=>if i<m then el b i else 0)
  (x:=fun j=>if j<m then el (za5 A b cols) j else zai m fun k=>el c (cols.getD k 0)*el (za5 A b cols) k) ?_ ?_ ?_ ?_ m (by omega)
 ·grind
 ·intro y d;have y0:∀j,j<m→y j=0:=a.reg y fun i hi=>by
   have:=d i (by omega);rw[cut,if_pos hi]at this;simp only[if_neg (Xt m)]at this;rw[zaj (g:=fun j=>en (bc A cols) j i*y j) fun j hj=>by rw[if_pos hi,if_pos hj]]at this;grind
  intro j hj;by_cases h:j<m
  ·exact y0 j h
  ·obtain rfl:j=m:=by omega
   have:=d j (by omega);rw[cut]at this;simp only[if_neg (Xt j)]at this;rw[zcn fun k hk=>by rw[y0 k hk,Rat.mul_zero]]at this;grind
 ·intro i _ j _;split
  ·split
   ·rename_i h1 h2;exact l j h2 i h1
   ·exact Zc mw0 h1
  grind[zhY,Nat.le_trans,mw1]
 ·intro i _;split
  ·rename_i h;exact zrz zb (by omega)
  ·exact Zc mw0 h1
 ·intro i hi;by_cases h:i<m
  ·simp only[if_pos h];rw[cut];simp only[if_neg (Xt m)];rw[zaj (g:=fun j=>en (bc A cols) j i*el (za5 A b cols) j) fun j hj=>by rw[if_pos hj,if_pos hj],e i h];grind
  ·simp only[if_neg h];rw[cut];simp only[if_neg (Xt m)];rw[zaj (g:=fun k=>el c (cols.getD k 0)*el (za5 A b cols) k) fun j hj=>by rw[if_pos hj,if_pos hj]];grind
theorem yBH(hg:GoodS S nC m cost rows)(a:cost.length=nC)(g:rows.length=m){G:List Nat}(f:Basis m (nC+cnt rows m+m) (zt0 (zc3 rows) (zg8 rows)) G):mw (dot cost (ytf nC (nC+cnt rows m+m) (zt0 (zc3 rows) (zg8 rows)) (zwh (zg8 rows)) G))≤cB (m+1) S:=by
 have zc:=zXe (m:=m) hg.h1 (z6P hg);have i:(zjD cost rows).length=nC+cnt rows m:=by unfold zjD;rw[Zk,Zr,a,g]
 have k:=yxT f (zXc (b:=zg8 rows) hg.h1 (z6N hg g)) (by rw[zUh,zVz hg.sh a g rfl]) (zXd (z6O hg)) (c:=zKb m (zjD cost rows)) (fun j=>zDJ hg.h1 zc j) hg.h1;have e:=ywB (m:=m) a rows i (pt m (fun k=>G.getD k 0) (el (za5 (zt0 (zc3 rows) (zg8 rows)) (zwh (zg8 rows)) G)));rw[zyA f.lt]at e;rw[yxb (X:=pt m (fun k=>G.getD k 0) (el (za5 (zt0 (zc3 rows) (zg8 rows)) (zwh (zg8 rows)) G))) f.len (by omega) fun j=>rfl]
 have d:=ywX (x:=asL nC (pt m (fun k=>G.getD k 0) (el (za5 (zt0 (zc3 rows) (zg8 rows)) (zwh (zg8 rows)) G)))) a;rw[yw9 fun j hj=>yxv _ hj,←e]at d;unfold asL at d;rw[d];exact k
