/- Contracts and lemmas: Lsa Rf5 Doc Lst. Conditions: as each says. -/
import Derived.Test.YtbpjabgfcbjjmaaGreatSol18Ye
import Derived.Test.YtbpjabgfcbjjmaaGreatRf1Ye
set_option linter.all false
set_option maxHeartbeats 1000000
set_option maxRecDepth 100000
namespace Go.Proofs.YtbpjabgfcbjjmaaGreat
open Go.RowKit Am
variable {rows:List PRow}{cost:List Rat}{m nC:Nat}{x z:Nat->Rat}
def asL (nC:Nat) (x:Nat->Rat):List Rat:=(List.range nC).map x
theorem yxw(nC:Nat)(x:Nat->Rat):(asL nC x).length=nC:=by simp[asL]
theorem yxv{j:Nat}(x:Nat->Rat)(h:j<nC):el (asL nC x) j=x j:=by
 unfold asL
 conv=>lhs;unfold el
 rw[zbU _ _ ψ 0,zcA h]
theorem ywX{x:List Rat}(h:cost.length=nC):dot cost x=ywA nC cost (el x):=by unfold dot ziw ywA;rw[h]
theorem yxz{p:PRow}(e:∀j,j<nC->x j=z j):ywR nC p x=ywR nC p z:=zaj λj hj=>by rw[e j hj]
theorem yw9(e:∀j,j<nC->x j=z j):ywA nC cost x=ywA nC cost z:=zaj λj hj=>by rw[e j hj]
theorem yxf(e:∀j,j<nC->x j=z j)(h:ywM nC rows x):ywM nC rows z :=
 ⟨λj hj=>by rw[<-e j hj];exact h.1 j hj,λi hi=>by have a:=h.2 i hi;unfold ywH at a ⊢;rw[<-yxz e];exact a⟩
open Go.RowKit Am Dz
structure DocP (nC m:Nat) (cost:List Rat) (rows:List PRow) (A:List (List Int)) (B:List Int) (c:Nat->Rat):Prop where
  hf:Form nC m rows
  lc:cost.length=nC
  la:A.length=m
  ra:∀r∈A,r.length=nC+cnt rows m
  ea:∀i,i<m->∀j,j<nC+cnt rows m->(ez A i j:Rat)=en (zc3 rows) i j
  eb:∀i,i<m->((B.getD i 0:Int):Rat)=el (zg8 rows) i
  ec:∀j,j<nC+cnt rows m->c j=el (zjD cost rows) j
def y3f (A:List (List Int)) (B:List Int) (c:Nat->Rat) (N:Nat):Int:=if y1k A B N=[]then 2 else if y1E A c N=true then 3 else 1
theorem y3C(f:List Rat->Rat):∀L:List (List Rat),∃M:Rat,∀z∈L,M<=f z
 | []=>⟨0,λz h=>by cases h⟩
 | x::L=>by obtain⟨M,b⟩:=y3C f L;by_cases e:f x<=M;refine⟨f x,λz a=>?_⟩;rcases XM.1 a with rfl | h;exact XB;exact YL e (b z h);refine⟨M,λz a=>?_⟩;rcases XM.1 a with rfl | h;exact XU (Vg.1 e);exact b z h
section
variable {nC m:Nat} {cost:List Rat} {rows:List PRow} {A:List (List Int)} {B:List Int} {c:Nat->Rat} (h:DocP nC m cost rows A B c)
include h
theorem y2M(b:ywM nC rows x):FitZ A B (nC+cnt rows m) (ywz nC rows x)/\y1j (nC+cnt rows m) c (ywz nC rows x)=ywA nC cost x:=by
 have d:=h.hf.len;refine⟨⟨λi hi=>?_,λj _=>ywO h.hf b j⟩,?_⟩;have a:i<m:=by have:=h.la;omega
 have:=ywL h.hf b (i:=i) ω;rw[d]at this;rw[h.eb i a,ywD h.hf ω,<-this];exact zaj λj hj=>by rw[h.ea i a j hj]
 unfold y1j ywA;rw[zaj λj hj=>by rw[h.ec j hj],zUp h.lc];exact zaj λj hj=>by unfold ywz;rw[if_pos hj]
theorem y3g(a:FitZ A B (nC+cnt rows m) z):ywM nC rows z/\ywA nC cost z=y1j (nC+cnt rows m) c z:=by
 refine⟨?_,?_⟩;refine yxf (x:=λj=>if j<nC+cnt rows m then z j else 0) (λj hj=>by show(if j<nC+cnt rows m then z j else 0)=z j;rw[if_pos ω]) (ywP h.hf (λj=>?_) λi hi=>?_);show 0<=(if j<nC+cnt rows m then z j else 0)
 split
 rename_i q;exact a.nn j q;exact XB;rw[<-h.eb i hi,<-a.row i (by have:=h.la;omega)];exact zaj λj hj=>by rw[h.ea i hi j hj];show _*(if j<nC+cnt rows m then z j else 0)=_;rw[if_pos hj]
 unfold y1j ywA;rw[zaj (n:=nC+cnt rows m) λj hj=>by rw[h.ec j hj],zUp h.lc]
theorem y4K(a:∀x,¬ywM nC rows x):y3f A B c (nC+cnt rows m)=2:=by
 unfold y3f;rw[if_pos];by_cases e:y1k A B (nC+cnt rows m)=[]
 exact e;obtain⟨z,b⟩:=(y16 h.ra).2 e;exact absurd (y3g h b).1 (a z)
theorem y3Z(h0:y1E A c (nC+cnt rows m)=false)(d:Nat->Rat)(a:WayZ A (nC+cnt rows m) d):0<=y1j (nC+cnt rows m) c d:=XF.1 λhc=>by have:=(y2Z h.ra c).2 ⟨d,a,hc⟩;rw[h0]at this;cases this
theorem y3Y(a:∀M:Rat,∃x,ywM nC rows x/\ywA nC cost x<M):y3f A B c (nC+cnt rows m)=3:=by unfold y3f;obtain⟨j,g,_⟩:=a 0;rw[if_neg ((y16 h.ra).1 ⟨_,(y2M h g).1⟩),if_pos];cases e:y1E A c (nC+cnt rows m);obtain⟨M,b⟩:=y3C (λz=>y1j (nC+cnt rows m) c (el z)) (y1k A B (nC+cnt rows m));obtain⟨x,f,d⟩:=a M;obtain⟨hf,hc⟩:=y2M h f;obtain⟨y,i,hle⟩:=y2i h.ra c (y3Z h e) hf;have:=b y i;rw[hc]at hle;exact absurd d (XF.2 (YL this hle));rfl
theorem y4J{X:Nat->Rat}(n:ywM nC rows X)(f:∀x,ywM nC rows x->ywA nC cost X<=ywA nC cost x):y3f A B c (nC+cnt rows m)=1/\(∀z∈y1k A B (nC+cnt rows m),ywA nC cost X<=y1j (nC+cnt rows m) c (el z))/\∃z∈y1k A B (nC+cnt rows m),y1j (nC+cnt rows m) c (el z)=ywA nC cost X:=by
 obtain⟨hf,hc⟩:=y2M h n;have e:y1E A c (nC+cnt rows m)=false:=by
  cases e:y1E A c (nC+cnt rows m);rfl;obtain⟨d,g,t⟩:=(y2Z h.ra c).1 e;have q:0 < -y1j (nC+cnt rows m) c d:=ψ;have p:=Yp.2 q;have s:=Rat.mul_inv_cancel _ (show -y1j (nC+cnt rows m) c d≠0 by grind);have o:FitZ A B (nC+cnt rows m) λj=>ywz nC rows X j+(-y1j (nC+cnt rows m) c d)⁻¹*d j:=⟨λi hi=>by rw[y2j,hf.row i hi,g.row i hi];grind,λj hj=>by have:=hf.nn j hj;have:=Xg (XU p) (g.nn j hj);grind⟩
  obtain⟨a,b⟩:=y3g h o;have:=f _ a;rw[b]at this;have l:y1j (nC+cnt rows m) c (λj=>ywz nC rows X j+(-y1j (nC+cnt rows m) c d)⁻¹*d j)=y1j (nC+cnt rows m) c (ywz nC rows X)+(-y1j (nC+cnt rows m) c d)⁻¹*y1j (nC+cnt rows m) c d:=by unfold y1j;simp[y2j]
  rw[l,hc]at this;grind
 obtain⟨y,k,hle⟩:=y2i h.ra c (y3Z h e) hf;have low:∀z∈y1k A B (nC+cnt rows m),ywA nC cost X<=y1j (nC+cnt rows m) c (el z):=λz r=>by obtain⟨a,b⟩:=y3g h (points_fit h.ra r).2;rw[<-b];exact f _ a
 refine⟨?_,low,y,k,Rat.le_antisymm (by rw[<-hc];exact hle) (low y k)⟩;unfold y3f;rw[if_neg ((y16 h.ra).1 ⟨_,hf⟩),e];rfl
end
structure ZRow where
  coef:List Int
  kind:Int
  rhs:Int
deriving Inhabited
def y6C (xs:List Int):List Rat:=xs.map fun(x:Int)=>(x:Rat)
def toR (p:ZRow):PRow:=⟨y6C p.coef,p.kind,(p.rhs:Rat)⟩
def toP (rows:List ZRow):List PRow:=rows.map toR
theorem y6B(xs:List Int)(j:Nat):el (y6C xs) j=((xs.getD j 0:Int):Rat):=by unfold el y6C;rw[Zg,Z2,Zg];cases xs[j]? <;> rfl
theorem y6x(xs:List Int):(y6C xs).length=xs.length:=by simp[y6C]
theorem y1N(rows:List ZRow):(toP rows).length=rows.length:=by simp[toP]
theorem y1T{rows:List ZRow}{k:Nat}(h:k<rows.length):(toP rows).getD k default=toR (rows.getD k default):=zbU _ _ h default default
def y1P (rows:List ZRow) (r:Nat):Nat->List Int
  | 0=>[]
  | k+1=>y1P rows r k++if (rows.getD k default).kind=3 then []else [if r=k then 3-2*(rows.getD k default).kind else 0]
def y2C (rows:List ZRow):List (List Int):=(List.range rows.length).map λr=>(rows.getD r default).coef++y1P rows r rows.length
def y29 (rows:List ZRow):List Int:=rows.map λp=>p.rhs
def y3a (cost:List Int) (rows:List ZRow):List Int:=cost++List.replicate (cnt (toP rows) rows.length) 0
theorem y1R(rows:List ZRow)(r:Nat):∀k,k<=rows.length->(y1P rows r k).length=cnt (toP rows) k
 | 0,_=>rfl
 | k+1,h=>by
  unfold y1P;rw[cnt,ZD,y1R rows r k ω,y1T ω];show _+_=_+if (rows.getD k default).kind=3 then 0 else 1
  split<;>rfl
theorem y3z(rows:List ZRow)(r:Nat):∀k t,k<=rows.length->t<cnt (toP rows) k->(y1P rows r k).getD t 0=if r<k/\(rows.getD r default).kind≠3/\t=cnt (toP rows) r then 3-2*(rows.getD r default).kind else 0
 | 0,t,_,h=>absurd h (ZM _)
 | k+1,t,hk,h=>by
  have g:=y1R rows r k ω;unfold y1P;have hc:cnt (toP rows) (k+1)=cnt (toP rows) k+if (rows.getD k default).kind=3 then 0 else 1:=by rw[cnt,y1T ω];rfl
  rcases ZI t (cnt (toP rows) k)with q | q;rw[y1m ω,y3z rows r k t ω q];grind;by_cases a:(rows.getD k default).kind=3;rw[hc,if_pos a]at h;omega;rw[hc,if_neg a]at h;obtain rfl:t=cnt (toP rows) k:=ω;rw[if_neg a,<-g,y1r,g];by_cases b:r=k;subst b;rw[if_pos rfl,if_pos ⟨ω,a,rfl⟩];rw[if_neg b,if_neg];rintro⟨h1,d,f⟩;have i:((toP rows).getD k default).kind≠3:=by rw[y1T ω];exact a
  have j:((toP rows).getD r default).kind≠3:=by rw[y1T ω];exact d
  grind[zX7]
theorem y2L(rows:List ZRow):(y2C rows).length=rows.length:=by simp[y2C]
theorem y5p{rows:List ZRow}{i:Nat}(h:i<rows.length):(y2C rows).getD i []=(rows.getD i default).coef++y1P rows i rows.length:=by unfold y2C;rw[zbU _ _ ψ 0,zcA h]
theorem y6e{cost:List Int}{rows:List ZRow}(hc:cost.length=nC)(h1:∀p∈rows,p.coef.length=nC)(b:∀p∈rows,p.kind=1\/p.kind=2\/p.kind=3) :
  DocP nC rows.length (y6C cost) (toP rows) (y2C rows) (y29 rows) λj=>(((y3a cost rows).getD j 0:Int):Rat):=by
 have a:∀ {k},k<rows.length->rows.getD k default∈rows:=λhk=>Zz (zaO hk)
 have lc:∀k,k<(toP rows).length->((toP rows).getD k default).coef.length=nC:=λk hk=>by rw[y1N]at hk;rw[y1T hk];show(y6C _).length=nC;rw[y6x];exact h1 _ (a hk)
 refine⟨⟨y1N rows,lc,λk hk=>?_⟩,by rw[y6x,hc],y2L rows,λr hr=>?_,λi hi j hj=>?_,λi hi=>?_,λj hj=>?_⟩;rw[y1N]at hk;rw[y1T hk];exact b _ (a hk);unfold y2C at hr;obtain⟨i,hi,rfl⟩:=ZH.1 hr;have d:=Xu.1 hi;rw[ZD,h1 _ (a d),y1R rows i _ (Za _)];unfold ez;rw[y5p hi];rcases ZI j nC with q | q;rw[y1m (by rw[h1 _ (a hi)];exact q),zWW lc (by rw[y1N];exact hi) q,y1T hi];exact(y6B _ _).symm;obtain⟨t,rfl⟩:∃t,j=nC+t:=⟨j-nC,ω⟩
 have f:=zvs lc (k:=i) (t:=t) (by rw[y1N];exact hi) (by rw[y1N];omega);rw[f,Zg,ZJ (by rw[h1 _ (a hi)];omega),h1 _ (a hi),show nC+t-nC=t by omega,<-Zg,y3z rows i _ t (Za _) ω,y1T hi];show _=if (rows.getD i default).kind≠3/\t=cnt (toP rows) i then ((zfI (rows.getD i default).kind:Int):Rat)else 0
 by_cases e:(rows.getD i default).kind≠3/\t=cnt (toP rows) i;rw[if_pos e,if_pos ⟨hi,e⟩];unfold zfI;rcases b _ (a hi)with k1 | k1 | k1;rw[k1];rfl;rw[k1];rfl;exact absurd k1 e.1;rw[if_neg e,if_neg λg=>e g.2];rfl;rw[zKf (by rw[y1N];exact hi),y1T hi];unfold y29;rw[zbU _ _ hi default];rfl;rw[zTB (by rw[y6x,hc])];unfold y3a;rcases ZI j nC with q | q;rw[if_pos q,y1m (by rw[hc];exact q),y6B];rw[if_neg ω,Zg,ZJ (by rw[hc];exact q),Z8];split<;>rfl
structure LeastA (nC:Nat) (cost:List Rat) (rows:List PRow) (a:List Rat) (v:Rat):Prop where
  la:a.length=nC
  fit:ywM nC rows (el a)
  val:v=dot cost a
  min:∀x,ywM nC rows x->ywA nC cost (el a)<=ywA nC cost x/\(ywA nC cost (el a)=ywA nC cost x->ywU nC (el a) x)
theorem yxK{o:COut}(h:Told nC m cost rows o)(h1:cO o=1):LeastA nC cost rows (cX nC m rows o) (cV nC m cost rows o):=by
 cases h with
 | none=>exact absurd (show(2:Int)=1 from h1) δ
 | falls=>exact absurd (show(3:Int)=1 from h1) δ
 | best W b he d hb =>
  rename_i cols G n;have e:cX nC m rows (.best cols G n)=asL nC W:=yxb d ω he;have a:∀j,j<nC->W j=el (asL nC W) j:=λj hj=>(yxv W hj).symm
  have f:cV nC m cost rows (.best cols G n)=dot cost (cX nC m rows (.best cols G n)):=rfl;rw[f,e];refine⟨yxw _ _,yxf a b,rfl,λx b=>?_⟩;rw[<-yw9 a];exact⟨(hb x b).1,λq i hi d=>by rw[<-a i hi];exact(hb x b).2 q i hi λl g=>by rw[a l ω];exact d l g⟩
theorem yxQ{o:COut}(h:Told nC m cost rows o)(h1:cO o≠1):cX nC m rows o=[]/\cV nC m cost rows o=0:=by
 cases h with
 | none=>exact⟨rfl,rfl⟩
 | falls=>exact⟨rfl,rfl⟩
 | best=>exact absurd rfl h1
