/- Contracts and lemmas: Bnd Dual Cs20. Conditions: as each says. -/
import Derived.Test.YtbhfhkcdfmmmiaaGreatDuBZj
set_option linter.all false
set_option maxHeartbeats 1000000
set_option maxRecDepth 100000
namespace Go.Proofs.YtbhfhkcdfmmmiaaGreat
open Go.RowKit Am
variable {rows:List PRow}{cost x y ys:List Rat}{n:Nat}{p:PRow}
def yew (n:Nat) (cost:List Rat) (rows:List PRow) (ys:List Rat):Bool:=(zly cost ((-1:Int):Rat) (sv n ys rows)).any fun q=>decide (q<0)
def ydS (n:Nat) (cost:List Rat) (rows:List PRow) (ys:List Rat):Bool:=zId rows ys && !(yew n cost rows ys)
structure Good (nc nr:Nat) (cost:List Rat) (rows:List PRow):Prop where
  hc:nc≤24
  hr:nr≤4
  sc:Sm cost
  rw_:Rows nc rows
  kd:Kinds rows
theorem yee(h:Rows n rows):(sv n ys rows).length=n:=zPw h _ (Za _)
open Am
def tj (rows:List PRow) (ys:List Rat) (j n:Nat):Rat:=zai n fun k=>el ys k*el (rows.getD k default).coef j
theorem yek{n:Nat}{rows:List PRow}(ys:List Rat)(h:Rows n rows){j:Nat}(hj:j<n):∀k,k≤rows.length→el (zPA n ys rows k) j=tj rows ys j k
 | 0,_=>zrm n j
 | k+1,hk=>by
  have f:=yek ys h hj k (by omega);obtain⟨p,a⟩:∃p,rows[k]? = some p:=⟨rows[k]'(by omega),Ze _⟩
  have g:=(h p (Zh a)).1;have i:=zPw (ys:=ys) h k (by omega);have b:(zPA n ys rows k)[j]? = some (el (zPA n ys rows k) j):=by
   rw[Ze (by omega)];unfold el;rw[Zi,Ze (by omega)];rfl
  have c:p.coef[j]? = some (el p.coef j):=by
   rw[Ze (by omega)];unfold el;rw[Zi,Ze (by omega)];rfl
  have e:=znd (zmR (r:=el ys k) b c);show el (zly (zPA n ys rows k) (el ys k) (rows.getD k default).coef) j=tj rows ys j (k+1)
  rw[zfC a,e,f];unfold tj;rw[zai,zfC a]
theorem yej(ys:List Rat)(h:Rows n rows){j:Nat}(hj:j<n):el (sv n ys rows) j=tj rows ys j rows.length:=yek ys h hj _ (Za _)
def yd6 (cost:List Rat) (rows:List PRow) (ys:List Rat) (j:Nat):Bool:=(List.range j).all fun i=>decide (tj rows ys i rows.length≤el cost i)
theorem yeg(h:Rows n rows)(hc:cost.length=n):yd6 cost rows ys n = !(yew n cost rows ys):=by
 have g:=yee (ys:=ys) h;have f:(zly cost ((-1:Int):Rat) (sv n ys rows)).length=n:=by rw[zdt (by omega),hc]
 have hg:∀j,j<n→(zly cost ((-1:Int):Rat) (sv n ys rows))[j]? = some (el cost j+((-1:Int):Rat)*tj rows ys j rows.length):=by
  intro j hj;rw[zmR (zaH (by omega)) (zaH (by omega)),yej ys h hj]
 have a:((-1:Int):Rat) = -1:=by rfl
 rw[Bool.eq_iff_iff];unfold yd6 yew;simp only[Xx,Xa,decide_eq_true_eq,Yb,YE];constructor
 ·grind[List.mem_iff_getElem?,List.getElem?_eq_some_iff,Option.some.inj]
 ·intro h1 j hj;have b:=h1 _ (Zh (hg j hj));rw[a]at b;grind
theorem yd8(h:Rows n rows)(hc:cost.length=n):ydS n cost rows ys=(yd6 cost rows ys n&&zxD rows ys rows.length):=by
 unfold ydS zId;rw[yeg h hc,Bool.and_comm]
theorem yed{q:Rat}(hk:1≤p.kind∧p.kind≤3)(c:zIc p q=true)(a:zdH p x=true):q*p.rhs≤q*dot p.coef x:=by
 have f:zdp p x=dot p.coef x-p.rhs:=rfl;rcases(by omega:p.kind=1∨p.kind=2∨p.kind=3)with e | e | e
 ·rw[yd3 e]at c
  rw[←zxh e]at a;have b:=(zsp _).1 (Xs a);rw[f]at b;have h0:0 ≤ -q:=by grind
  have h1:=Rat.mul_le_mul_of_nonneg_left (show dot p.coef x≤p.rhs by grind) h0;grind
 ·rw[yd4 e]at c
  rw[←zxg e]at a;have b:=Xs a;rw[f]at b;grind[Rat.mul_le_mul_of_nonneg_left]
 ·rw[←zxf e]at a;have b:zdp p x=0:=Xs a;rw[f]at b;grind
theorem weak(h:Rows n rows)(hk:Kinds rows)(hc:cost.length=n)(q:ydS n cost rows y=true)(b:znD cost rows x=true):sb y rows≤dot cost x:=by
 unfold znD at b;rw[Xc,Xc]at b;obtain⟨⟨u,g⟩,hr⟩:=b;have A:=Xs u;rw[Yb,YE]at g;rw[Xx]at hr;have e:=q;rw[yd8 h hc,Xc]at e;obtain⟨a,c⟩:=e;have r:∀j,j<n→tj rows y j rows.length≤el cost j:=by
  intro j hj;unfold yd6 at a;rw[Xx]at a;exact Xs (a j (Xa.2 hj))
 have t:∀k,k<rows.length→zIc (rows.getD k default) (el y k)=true:=by
  intro k hk;unfold zxD at c;rw[Xx]at c;exact c k (Xa.2 hk)
 have s:∀k,k<rows.length→rows.getD k default∈rows:=by
  intro k hk;rw[zfC (Ze hk)];exact XS hk
 have l:zai rows.length (fun k=>el y k*zai n (fun j=>el (rows.getD k default).coef j*el x j))=zai n (fun j=>tj rows y j rows.length*el x j):=by
  have m:∀k,el y k*zai n (fun j=>el (rows.getD k default).coef j*el x j)=zai n (fun j=>el y k*el (rows.getD k default).coef j*el x j):=by
   intro k;rw[←za7];exact zaj fun j _=>by grind
  rw[zaj (fun k _=>m k),zbq];refine zaj fun j _=>?_
  unfold tj;rw[X7,←za7];exact zaj fun k _=>by grind
 have h1:sb y rows≤zai rows.length (fun k=>el y k*zai n (fun j=>el (rows.getD k default).coef j*el x j)):=by
  refine zUD fun k f=>?_
  have hm:=s k f;have i:=yed (x:=x) (hk _ hm) (t k f) (hr _ hm);have o:dot (rows.getD k default).coef x=zai n (fun j=>el (rows.getD k default).coef j*el x j):=by
   unfold dot ziw;rw[(h _ hm).1]
  rw[o]at i;exact i
 have p:zai n (fun j=>tj rows y j rows.length*el x j)≤dot cost x:=by
  unfold dot ziw;rw[hc];refine zUD fun j hj=>?_
  have v:0≤el x j:=by
   have:=g _ (Zh (zaH (xs:=x) (j:=j) (by omega)))
   grind
  exact Vd (r j hj) v
 rw[l]at h1;grind
theorem yel(hk:1≤p.kind∧p.kind≤3):zdH p x=true↔(p.kind=1→zdp p x≤0)∧(p.kind=2→0≤zdp p x)∧(p.kind=3→zdp p x=0):=by
 unfold zdH;grind
section
variable {n:Nat} {cost x y d:List Rat} {rows:List PRow} (h:Rows n rows) (hc:cost.length=n)
include h hc in
theorem ydU:ydS n cost rows y=true↔(∀j,j<n→tj rows y j rows.length≤el cost j)∧∀k,k<rows.length→zIc (rows.getD k default) (el y k)=true:=by
 rw[yd8 h hc,Xc];unfold yd6 zxD;rw[Xx,Xx];exact⟨fun⟨a,b⟩=>⟨fun j hj=>Xs (a j (Xa.2 hj)),fun k hk=>b k (Xa.2 hk)⟩,fun⟨a,b⟩=>⟨fun j hj=>Zs (a j (Xa.1 hj)),fun k hk=>b k (Xa.1 hk)⟩⟩
theorem ydT:znD cost rows x=true↔x.length=cost.length∧(∀j,0≤el x j)∧∀p∈rows,zdH p x=true:=by
 unfold znD;rw[Xc,Xc,decide_eq_true_iff,Yb,YE,Xx];refine⟨fun⟨⟨a,b⟩,c⟩=>⟨a,fun j=>?_,c⟩,fun⟨a,b,c⟩=>⟨⟨a,fun q e=>?_⟩,c⟩⟩
 ·by_cases hj:j<x.length
  ·have:=b _ (Zh (zaH hj))
   grind
  grind[zDb,Rat.le_refl]
 ·obtain⟨j,hj⟩:=Z0.1 e;have:=b j;rw[znd hj]at this;grind
theorem yd2{k:Nat}(hk:k<rows.length):rows.getD k default∈rows:=by
 rw[zfC (Ze hk)];grind
end
def yep (n:Nat) (cost:List Rat) (rows:List PRow) (y:List Rat):Bool:=decide (y.length=rows.length)&&ydS n cost rows y
theorem yei(h:yep n cost rows y=true):y.length=rows.length∧ydS n cost rows y=true:=by
 unfold yep at h;rw[Xc,decide_eq_true_iff]at h;exact h
