/- Contracts and lemmas: Shq. Conditions: as each says. -/
import Derived.Test.YtmpkpcpllhacpaaGreatDoorOwnZr
set_option linter.all false
set_option maxRecDepth 100000
namespace Go.Proofs.YtmpkpcpllhacpaaGreatDoor
open Go.RowKit Am
theorem z9v:((-1:Int):Rat) = -1:=rfl
theorem ydr(r:Rat){xs:List Rat}{k:Nat}(h:k<xs.length):el (scale r xs) k=r*el xs k:=znd (zvn (zaH h))
theorem ybr{xs:List Rat}(h:(xs.any fun q=>decide (q<0))=false)(k:Nat):0≤el xs k:=by
 by_cases hk:k<xs.length
 ·rw[List.any_eq_false]at h;have:=h _ (List.mem_of_getElem? (zaH hk));exact Rat.not_lt.1 fun e=>this (decide_eq_true e)
 ·rw[zDb (by omega)];exact Rat.le_refl
theorem yas{c x d:List Rat}{t:Rat}(h:x.length=d.length)(hc:c.length=x.length):dot c (zly x t d)=dot c x+t*dot c d:=by
 unfold dot ziw;rw[←za7,←zcm];exact zaj fun j hj=>by rw[zuD t h (by omega)];grind
theorem yav{cost:List Rat}{rows:List PRow}{x d:List Rat}{t:Rat}(hw:∀p∈rows,p.coef.length=cost.length)(hk:Kinds rows)(k:0≤t)(e:znD cost rows x=true)(i:d.length=x.length)(h0:∀j,0≤el d j)(hr:∀p∈rows,zWY p d):znD cost rows (zly x t d)=true:=by
 have q:=e;unfold znD at e;rw[Bool.and_eq_true,Bool.and_eq_true,decide_eq_true_iff,Bool.not_eq_true',List.all_eq_true]at e;obtain⟨⟨a,b⟩,c⟩:=e;have m:(zly x t d).length=x.length:=zdt i.symm;rw[zoE (by omega) (zNy fun j hj=>by
  rw[m]at hj;rw[zuD t i.symm hj];have:=Rat.mul_nonneg k (h0 j);have:=ybr b j;grind),List.all_eq_true]
 intro p f;have h1:=c p f;have l:zdp p (zly x t d)=zdp p x+t*dot p.coef d:=by
  unfold zdp;rw[yas i.symm (by rw[hw p f,a])];grind
 obtain⟨w1,n,o⟩:=hr p f;unfold zdH at h1 ⊢;rw[l];by_cases g:p.kind=1
 ·rw[if_pos g,decide_eq_true_iff]at h1 ⊢;have:=Rat.mul_nonneg k (show 0 ≤ -dot p.coef d by have:=w1 g;grind);grind
 ·by_cases k2:p.kind=2
  ·rw[if_neg g,if_pos k2,decide_eq_true_iff]at h1 ⊢;have:=Rat.mul_nonneg k (n k2);grind
  ·have k3:p.kind=3:=by have:=hk p f;omega
   rw[if_neg g,if_neg k2,Bool.and_eq_true,decide_eq_true_iff,decide_eq_true_iff]at h1 ⊢;exact⟨k3,by rw[h1.2,o k3];grind⟩
structure Sh18 (nC nR:Nat) (cost:List Rat) (rows:List PRow) (o:Int) (X Y Z:List Rat):Prop where
  sx:Sm X
  sy:Sm Y
  sz:∀q∈Z,mw q≤1000002
  sw:Sm (zly X ((1000:Int):Rat) Z)
  le:Y.length≤nR
  s1:∀k,k<Y.length→(rows.getD k default).kind=1→el Y k≤0
  s2:∀k,k<Y.length→(rows.getD k default).kind=2→0≤el Y k
  best:o=1→Y.length=nR∧X.length=nC∧znD cost rows X=true∧((zly cost ((-1:Int):Rat) (sv nC Y rows)).any fun q=>decide (q<0))=false∧dot cost X=sb Y rows∧Z=[]
  none:o=2→Y.length=nR∧X=[]∧((scale ((-1:Int):Rat) (sv nC Y rows)).any fun q=>decide (q<0))=false∧0<sb Y rows∧Z=[]
  falls:o=3→Y=[]∧X.length=nC∧Z.length=nC∧znD cost rows X=true∧znD cost rows (zly X ((1000:Int):Rat) Z)=true∧dot cost Z<0
  o3:o=1∨o=2∨o=3
theorem yaU:mw ((1000:Int):Rat)≤1:=by decide +kernel
theorem Sol.sh{nC nR:Nat}{cost:List Rat}{rows:List PRow}{o:Int}{X Y Z:List Rat}(h:Sol nC nR cost rows o X Y Z)(hg:Good1 nC nR cost rows)(s:cost.length=nC)(D:rows.length=nR):Sh18 nC nR cost rows o X Y Z:=by
 have K:=zVF nR hg.hr;subst D;have x:Rows nC rows:=fun p l=>⟨(hg.rw_ p l).1,fun q d=>Nat.le_trans ((hg.rw_ p l).2.1 q d) (by decide),Nat.le_trans (hg.rw_ p l).2.2 (by decide)⟩
 have u:∀ys,(sv nC ys rows).length=nC:=fun ys=>zPw x _ (Nat.le_refl _)
 have v:∀ys j,j<nC→el (sv nC ys rows) j=zai rows.length fun i=>el ys i*el (rows.getD i default).coef j:=fun ys j hj=>zPF x hj _ (Nat.le_refl _)
 have sx:Sm X:=fun q d=>Nat.le_trans (h.zx q d) (by omega)
 have sy:Sm Y:=fun q d=>Nat.le_trans (h.zy q d) (by omega)
 have sz:∀q∈Z,mw q≤1000002:=fun q d=>Nat.le_trans (h.zz q d) (by omega)
 have sw:Sm (zly X ((1000:Int):Rat) Z):=fun q d=>by
  obtain⟨a,B,b,C,rfl⟩:=zQr d;have h1:=h.zx a B;have G:=h.zz b C;have H:=zrI a (((1000:Int):Rat)*b);have I:=zdI ((1000:Int):Rat) b;have J:=yaU;omega
 have r:∀ {ys:List Rat},Signs rows.length rows ys→(∀k,k<ys.length→(rows.getD k default).kind=1→el ys k≤0)∧∀k,k<ys.length→(rows.getD k default).kind=2→0≤el ys k:=fun c=>⟨fun k hk=>c.s1 k (by rw[←c.ly];exact hk),fun k hk=>c.s2 k (by rw[←c.ly];exact hk)⟩
 rcases h.shows with ⟨rfl,⟨c,n,m,hj,g⟩,t⟩ | ⟨rfl,E,⟨c,hj,g⟩,t⟩ | ⟨rfl,F,n,m,z,A,hr,g⟩
 ·refine⟨sx,sy,sz,sw,by rw[c.ly];exact Nat.le_refl _,(r c).1,(r c).2,fun _=>⟨c.ly,n,m,zNy fun j f=>?_,g,t⟩,fun e=>absurd e (by decide),fun e=>absurd e (by decide),.inl rfl⟩;have y:cost.length=(sv nC Y rows).length:=by rw[u,s]
  rw[zdt y,s]at f;rw[zuD _ y (by omega),v _ j f,z9v];have:=hj j f;grind
 ·refine⟨sx,sy,sz,sw,by rw[c.ly];exact Nat.le_refl _,(r c).1,(r c).2,fun e=>absurd e (by decide),fun _=>⟨c.ly,E,zNy fun j f=>?_,g,t⟩,fun e=>absurd e (by decide),.inr (.inl rfl)⟩;rw[zfH,u]at f;rw[ydr _ (by rw[u];exact f),v _ j f,z9v];have:=hj j f;grind
 ·subst F;refine⟨sx,sy,sz,sw,Nat.zero_le _,fun k hk=>absurd hk (Nat.not_lt_zero _),fun k hk=>absurd hk (Nat.not_lt_zero _),fun e=>absurd e (by decide),fun e=>absurd e (by decide),fun _=>⟨rfl,n,z,m,yav (fun p l=>by rw[(hg.rw_ p l).1,s]) hg.kd (by decide +kernel) m (by rw[z,n]) A hr,g⟩,.inr (.inr rfl)⟩
