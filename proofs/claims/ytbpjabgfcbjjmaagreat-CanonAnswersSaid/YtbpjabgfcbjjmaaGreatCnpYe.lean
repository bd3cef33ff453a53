/- Contracts and lemmas: Cnp. Conditions: as each says. -/
import Derived.Test.YtbpjabgfcbjjmaaGreatDslYe
set_option linter.all false
set_option maxHeartbeats 1000000
set_option maxRecDepth 100000
namespace Go.Proofs.YtbpjabgfcbjjmaaGreat
open Go.RowKit Am Dz
variable {rows:List PRow}{cost:List Rat}{m nC:Nat}
theorem y69{A:List (List Int)}{B:List Int}{c:Nat->Rat}{o:COut}(b:Told nC m cost rows o)(D:DocP nC m cost rows A B c) :
  y3f A B c (nC+cnt rows m)=cO o/\(cO o=1->y1j (nC+cnt rows m) c (el (y5e A B c (nC+cnt rows m) nC))=cV nC m cost rows o/\(y5e A B c (nC+cnt rows m) nC).take nC=cX nC m rows o)/\(cO o≠1->cX nC m rows o=[]/\cV nC m cost rows o=0):=by
 refine⟨?_,λh1=>?_,yxQ b⟩;cases b with
 | none h=>exact y4K D h
 | falls h=>exact y3Y D h
 | best X hX he q hb=>exact(y4J D hX λx d=>(hb x d).1).1
 have L:=yxK b h1;obtain⟨_,s,z,f,t⟩:=y4J D L.fit λx d=>(L.min x d).1
 have r:y1k A B (nC+cnt rows m)≠[]:=λe=>by rw[e]at f;cases f
 have p:=y2f (λz=>y1j (nC+cnt rows m) c (el z)) nC (ps:=y1k A B (nC+cnt rows m)) (i:=(y1k A B (nC+cnt rows m)).length-1) (by have:=List.length_pos_iff.2 r;omega);refine⟨?_,?_⟩;rw[L.val,ywX D.lc];refine Rat.le_antisymm ?_ (s _ p);rw[<-t];exact y3R (k:=λz=>y1j (nC+cnt rows m) c (el z)) r f;have q:(y5e A B c (nC+cnt rows m) nC).length=nC+cnt rows m:=(points_fit D.ra p).1;have hj:=y67 D L.fit L.min;refine List.ext_getElem (by rw[ZG,q,L.la];omega) λj n a=>?_;have u:=hj j (by rw[L.la]at a;exact a);have g:=zaH (xs:=y5e A B c (nC+cnt rows m) nC) (j:=j) (by rw[ZG]at n;omega);have l:=zaH (xs:=cX nC m rows o) (j:=j) a;rw[List.getElem_take];rw[Ze (by rw[ZG]at n;omega)]at g;rw[Ze a]at l;rw[Option.some.inj g,Option.some.inj l,u]
theorem y7k{k:Nat}(hk:k<rows.length):rows.getD k default∈rows:=Zz (zaO hk)
theorem y7f(hg:Good1 nC m cost rows)(a:cost.length=nC)(b:rows.length=m):Told nC m cost rows (ys6 nC m cost rows) :=
 ywS ⟨b,λk hk=>hg.toS.sh.co _ (y7k hk),λk hk=>by have:=hg.toS.sh.kd _ (y7k hk);omega⟩ a (ys8 hg a b).1
