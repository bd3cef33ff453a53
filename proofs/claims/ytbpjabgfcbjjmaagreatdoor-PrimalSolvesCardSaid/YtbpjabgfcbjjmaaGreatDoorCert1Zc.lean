/- Contracts and lemmas: Bnd Dual Cs20. Conditions: as each says. -/
import Derived.Test.YtbpjabgfcbjjmaaGreatDoorDuBZc
set_option linter.all false
set_option maxHeartbeats 1000000
set_option maxRecDepth 100000
namespace Go.Proofs.YtbpjabgfcbjjmaaGreatDoor
open Go.RowKit Am
variable {rows:List PRow}{cost x ys:List Rat}{n:Nat}{p:PRow}
def yew (n:Nat) (cost:List Rat) (rows:List PRow) (ys:List Rat):Bool:=(zly cost ((-1:Int):Rat) (sv n ys rows)).any λq=>decide (q<0)
def ydS (n:Nat) (cost:List Rat) (rows:List PRow) (ys:List Rat):Bool:=zId rows ys && !(yew n cost rows ys)
theorem yee(h:Rows n rows):(sv n ys rows).length=n:=zPw h _ (Za _)
open Am
def tj (rows:List PRow) (ys:List Rat) (j n:Nat):Rat:=zai n λk=>el ys k*el (rows.getD k default).coef j
theorem yek{n:Nat}{rows:List PRow}(ys:List Rat)(h:Rows n rows){j:Nat}(hj:j<n):∀k,k<=rows.length->el (zPA n ys rows k) j=tj rows ys j k
 | 0,_=>zrm n j
 | k+1,hk=>by
  have f:=yek ys h hj k ω;obtain⟨p,a⟩:∃p,rows[k]? = some p:=⟨rows[k]' ω,Ze _⟩
  have g:=(h p (Zl a)).1;have i:=zPw (ys:=ys) h k ω;have b:(zPA n ys rows k)[j]? = some (el (zPA n ys rows k) j):=by rw[Ze ω];unfold el;rw[Zf,Ze ω];rfl
  have c:p.coef[j]? = some (el p.coef j):=by rw[Ze ω];unfold el;rw[Zf,Ze ω];rfl
  have e:=znd (zmR (r:=el ys k) b c);show el (zly (zPA n ys rows k) (el ys k) (rows.getD k default).coef) j=tj rows ys j (k+1)
  rw[zfC a,e,f];unfold tj;rw[zai,zfC a]
theorem yej(ys:List Rat)(h:Rows n rows){j:Nat}(hj:j<n):el (sv n ys rows) j=tj rows ys j rows.length:=yek ys h hj _ (Za _)
def yd6 (cost:List Rat) (rows:List PRow) (ys:List Rat) (j:Nat):Bool:=(List.range j).all λi=>decide (tj rows ys i rows.length<=el cost i)
theorem yeg(h:Rows n rows)(hc:cost.length=n):yd6 cost rows ys n = !(yew n cost rows ys):=by
 have g:=yee (ys:=ys) h;have f:(zly cost ((-1:Int):Rat) (sv n ys rows)).length=n:=by rw[zdt ω,hc]
 have hg:∀j,j<n->(zly cost ((-1:Int):Rat) (sv n ys rows))[j]? = some (el cost j+((-1:Int):Rat)*tj rows ys j rows.length):=by intro j hj;rw[zmR (zaH ω) (zaH ω),yej ys h hj]
 have a:((-1:Int):Rat) = -1:=by rfl
 rw[Bool.eq_iff_iff];unfold yd6 yew;simp only[XZ,Xh,decide_eq_true_eq,Vf,Yp];constructor;grind[List.mem_iff_getElem?,List.getElem?_eq_some_iff,Option.some.inj];intro h1 j hj;have b:=h1 _ (Zl (hg j hj));rw[a]at b;grind
theorem yd8(h:Rows n rows)(hc:cost.length=n):ydS n cost rows ys=(yd6 cost rows ys n&&zxD rows ys rows.length):=by unfold ydS zId;rw[yeg h hc,Bool.and_comm]
theorem yed{q:Rat}(hk:1<=p.kind/\p.kind<=3)(c:zIc p q=true)(a:zdH p x=true):q*p.rhs<=q*dot p.coef x:=by have f:zdp p x=dot p.coef x-p.rhs:=rfl;rcases(by omega:p.kind=1\/p.kind=2\/p.kind=3)with e | e | e;rw[yd3 e]at c;rw[<-zxh e]at a;have b:=(zsp _).1 (XD a);rw[f]at b;have h0:0 <= -q:=ψ;have h1:=Rat.mul_le_mul_of_nonneg_left (show dot p.coef x<=p.rhs by grind) h0;grind;rw[yd4 e]at c;rw[<-zxg e]at a;have b:=XD a;rw[f]at b;grind[Rat.mul_le_mul_of_nonneg_left];rw[<-zxf e]at a;have b:zdp p x=0:=XD a;rw[f]at b;grind
theorem weak{y:List Rat}(h:Rows n rows)(hk:Kinds rows)(hc:cost.length=n)(p:ydS n cost rows y=true)(hf:znD cost rows x=true):sb y rows<=dot cost x:=by
 unfold znD at hf;rw[XG,XG]at hf;obtain⟨⟨t,f⟩,hr⟩:=hf;have z:=XD t;rw[Vf,Yp]at f;rw[XZ]at hr;have c:=p;rw[yd8 h hc,XG]at c;obtain⟨a,b⟩:=c;have q:∀j,j<n->tj rows y j rows.length<=el cost j:=by intro j hj;unfold yd6 at a;rw[XZ]at a;exact XD (a j (Xh.2 hj))
 have s:∀k,k<rows.length->zIc (rows.getD k default) (el y k)=true:=by intro k hk;unfold zxD at b;rw[XZ]at b;exact b k (Xh.2 hk)
 have r:∀k,k<rows.length->rows.getD k default∈rows:=by intro k hk;rw[zfC (Ze hk)];exact Xi hk
 have i:zai rows.length (λk=>el y k*zai n (λj=>el (rows.getD k default).coef j*el x j))=zai n (λj=>tj rows y j rows.length*el x j):=by
  have l:∀k,el y k*zai n (λj=>el (rows.getD k default).coef j*el x j)=zai n (λj=>el y k*el (rows.getD k default).coef j*el x j):=by intro k;rw[<-za7];exact zaj λj _=>ψ
  rw[zaj (λk _=>l k),zbq];refine zaj λj _=>?_;unfold tj;rw[Y0,<-za7];exact zaj λk _=>ψ
 have h1:sb y rows<=zai rows.length (λk=>el y k*zai n (λj=>el (rows.getD k default).coef j*el x j)):=by
  refine zUD λk e=>?_;have hm:=r k e;have g:=yed (x:=x) (hk _ hm) (s k e) (hr _ hm);have m:dot (rows.getD k default).coef x=zai n (λj=>el (rows.getD k default).coef j*el x j):=by unfold dot ziw;rw[(h _ hm).1]
  rw[m]at g;exact g
 have o:zai n (λj=>tj rows y j rows.length*el x j)<=dot cost x:=by
  unfold dot ziw;rw[hc];refine zUD λj hj=>?_
  have u:0<=el x j:=by
   have:=f _ (Zl (zaH (xs:=x) (j:=j) ω));have v:¬el x j<0:=by simpa using this
   grind
  exact Vv (q j hj) u
 rw[i]at h1;exact YB h1 o
theorem yel(hk:1<=p.kind/\p.kind<=3):zdH p x=true↔(p.kind=1->zdp p x<=0)/\(p.kind=2->0<=zdp p x)/\(p.kind=3->zdp p x=0):=by unfold zdH;grind
section
variable {n:Nat} {cost x y d:List Rat} {rows:List PRow} (h:Rows n rows) (hc:cost.length=n)
include h hc in
theorem ydU:ydS n cost rows y=true↔(∀j,j<n->tj rows y j rows.length<=el cost j)/\∀k,k<rows.length->zIc (rows.getD k default) (el y k)=true:=by rw[yd8 h hc,XG];unfold yd6 zxD;rw[XZ,XZ];exact⟨λ⟨a,b⟩=>⟨λj hj=>XD (a j (Xh.2 hj)),λk hk=>b k (Xh.2 hk)⟩,λ⟨a,b⟩=>⟨λj hj=>Z0 (a j (Xh.1 hj)),λk hk=>b k (Xh.1 hk)⟩⟩
theorem ydT:znD cost rows x=true↔x.length=cost.length/\(∀j,0<=el x j)/\∀p∈rows,zdH p x=true:=by unfold znD;rw[XG,XG,decide_eq_true_iff,Vf,Yp,XZ];refine⟨λ⟨⟨a,b⟩,c⟩=>⟨a,λj=>?_,c⟩,λ⟨a,b,c⟩=>⟨⟨a,λq e=>?_⟩,c⟩⟩;by_cases hj:j<x.length;have:=b _ (Zl (zaH hj));grind;grind[zDb,Rat.le_refl];obtain⟨j,hj⟩:=Xk.1 e;have:=b j;rw[znd hj]at this;grind
theorem yd2{k:Nat}(hk:k<rows.length):rows.getD k default∈rows:=by rw[zfC (Ze hk)];grind
end
