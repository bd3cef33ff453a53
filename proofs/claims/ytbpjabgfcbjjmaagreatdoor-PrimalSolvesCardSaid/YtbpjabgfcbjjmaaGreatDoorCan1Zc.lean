/- Contracts and lemmas: Can1 Can2 Turn Cnt2 Sol18. Conditions: as each says. -/
import Derived.Test.YtbpjabgfcbjjmaaGreatDoorGdSZc
set_option linter.all false
set_option maxHeartbeats 1000000
set_option maxRecDepth 100000
namespace Am
def ys7 (p:List Rat) (may:List Bool):List Bool:=(List.range may.length).map λj=>may.getD j false&&decide (el p j=0)
structure LexOut where
  cols:List Nat
  n:Nat
  err:Bool
def ys2 (N:Nat) (A:List (List Rat)) (b:List Rat) (B:Nat):List (List Rat)->List Bool->List Nat->Nat->LexOut
  | [],_,cols,n=>⟨cols,n,false⟩
  | c :: cs,may,cols,n =>
    let r:=pivs (zBX N A b c may) (B-n) cols
    if r.err then ⟨r.cols,n+r.n,true⟩
    else ys2 N A b B cs (ys7 (zaC N A r.cols c) may) r.cols (n+r.n)
def ys5 (N:Nat):Nat->Nat->List (List Rat)
  | 0,_=>[]
  | f+1,k=>zdL N k::ys5 N f (k+1)
def ytw (m:Nat) (L:List (List Nat)):Prop:=L.Pairwise λa b=>¬∀u,Bas m (λk=>a.getD k 0) u↔Bas m (λk=>b.getD k 0) u
section
variable {m N:Nat} {A:List (List Rat)} {b c:List Rat} {may:List Bool}
def ytk (next:List Nat->Next) (cols:List Nat) (n:Nat):List (List Nat):=(List.range n).map (zvo next cols)
theorem ytl(next:List Nat->Next)(cols:List Nat)(n:Nat):(ytk next cols n).length=n:=by simp[ytk]
theorem yti{cols:List Nat}(h:Basis m N A cols)(hc:c.length=N)(f:zyF m A b cols){n:Nat}(d:∀i,i<n->∃k j,zBX N A b c may (zvo (zBX N A b c may) cols i)=.piv k j):ytw m (ytk (zBX N A b c may) cols n):=by unfold ytw ytk;rw[List.pairwise_map];exact List.Pairwise.imp_of_mem (R:=λa b=>a<b) (λ{i j} _ hj hij=>ysX h hc f n d _ _ hij (Xh.1 hj)) List.pairwise_lt_range
theorem ywu{own:Nat}{cols:List Nat}(h:Own m N own A b cols m)(hc:c.length=N)(hm:∀j,may.getD j false=true->j<own):∀i k,k<m->(own<=cols.getD k 0->(zvo (zBX N A b c may) cols i).getD k 0=cols.getD k 0)/\(cols.getD k 0<own->(zvo (zBX N A b c may) cols i).getD k 0<own)
 | 0,_,_=>⟨λ_=>rfl,λh=>h⟩
 | i+1,k,hk=>by
  have a:=ywu h hc hm i k hk;have o:=h.seq hc hm i;rw[zvo];split
  rename_i r j e;have p:=zK6 o.basis hc e;rw[gset (by rw[o.basis.len];exact p.hk)];by_cases d:r=k;subst d;rw[if_pos rfl];refine⟨λq=>?_,λ_=>hm j p.hm⟩;have z:=o.line r hk hk (by rw[a.1 q];exact q) j (hm j p.hm);have t:=p.t;rw[z]at t;exact absurd t δ;grind;exact a
structure Fea (m N:Nat) (A:List (List Rat)) (b:List Rat) (may:List Bool) (z:Nat->Rat):Prop where
  sol:∀i,i<m->zai N (λj=>en A i j*z j)=el b i
  nn:∀j,j<N->0<=z j
  sup:∀j,j<N->z j≠0->may.getD j false=true
def ytn (N:Nat):List (List Rat)->(Nat->Rat)->(Nat->Rat)->Prop
  | [],_,_=>True
  | c::cs,x,z=>zai N (λj=>el c j*x j)<=zai N (λj=>el c j*z j)/\(zai N (λj=>el c j*x j)=zai N (λj=>el c j*z j)->ytn N cs x z)
structure Lex (m N:Nat) (A:List (List Rat)) (b:List Rat) (cs:List (List Rat)) (may:List Bool) (cols:List Nat) (L:List (List Nat)) (G:List Nat):Prop where
  enough:∀B n,n+L.length<=B->ys2 N A b B cs may cols n=⟨G,n+L.length,false⟩
  less:∀B n,n<=B->B<n+L.length->(ys2 N A b B cs may cols n).err=true/\(ys2 N A b B cs may cols n).n=B
  apart:ytw m L
  basis:∀l∈L,Basis m N A l/\zyF m A b l
  in_:∀l∈L,∀k,k<m->may.getD (l.getD k 0) false=true\/Bas m (λk=>cols.getD k 0) (l.getD k 0)
  last:Basis m N A G/\zyF m A b G
  lastIn:∀k,k<m->may.getD (G.getD k 0) false=true\/Bas m (λk=>cols.getD k 0) (G.getD k 0)
  fix:∀own,Own m N own A b cols m->(∀j,may.getD j false=true->j<own)->∀l∈L,∀k,k<m->(own<=cols.getD k 0->l.getD k 0=cols.getD k 0)/\(cols.getD k 0<own->l.getD k 0<own)
  best:∀z,Fea m N A b may z->ytn N cs (pt m (λk=>G.getD k 0) (el (za5 A b G))) z
  lastOwn:∀own,Own m N own A b cols m->(∀j,may.getD j false=true->j<own)->Own m N own A b G m
end
end Am
namespace Am
inductive COut where
  | spent:Nat->COut
  | none:Nat->COut
  | best:List Nat->List Nat->Nat->COut
  | falls:Nat->COut
def COut.pivots:COut->Nat
  | .spent n=>n
  | .none n=>n
  | .best _ _ n=>n
  | .falls n=>n
section
variable {m N own:Nat} {A:List (List Rat)} {b c:List Rat}
inductive CEnds (m N own:Nat) (A:List (List Rat)) (b c:List Rat):COut->Prop where
  | none {cols:List Nat} {n:Nat} (h:Basis m (N+m) (zt0 A b) cols) (f:zyF m (zt0 A b) (zwh b) cols) (s:zBX (N+m) (zt0 A b) (zwh b) (zJG N m) (zKc N m) cols=.stop) (v:0<zSB N m A b cols):CEnds m N own A b c (.none n)
  | best {cols G:List Nat} {n k:Nat} {L:List (List Nat)} (h:Own m (N+m) N (zt0 A b) (zwh b) cols m) (s:zBX (N+m) (zt0 A b) (zwh b) (zKb m c) (zKc N m) cols=.stop)
      (x:Lex m (N+m) (zt0 A b) (zwh b) (ys5 (N+m) own 0) (ys7 (zaC (N+m) (zt0 A b) cols (zKb m c)) (zKc N m)) cols L G) (e:n=k+L.length):CEnds m N own A b c (.best cols G n)
  | falls {cols:List Nat} {j n:Nat} (h:Own m (N+m) N (zt0 A b) (zwh b) cols m) (s:zBX (N+m) (zt0 A b) (zwh b) (zKb m c) (zKc N m) cols=.bad j):CEnds m N own A b c (.falls n)
theorem CEnds.not{o:COut}(h:CEnds m N own A b c o)(n:Nat):o≠.spent n:=λe=>by subst e;cases h
variable (hA:Rect m N A) (hb:b.length=m) (hc:c.length=N) (ho:own<=N)
include hA hb hc ho
end
end Am
namespace Go.Proofs.YtbpjabgfcbjjmaaGreatDoor
open Go.RowKit Am
variable {i:Nat}{x:Nat->Rat}
structure Form (nC m:Nat) (rows:List PRow):Prop where
  len:rows.length=m
  co:∀k,k<rows.length->(rows.getD k default).coef.length=nC
  kd:∀k,k<rows.length->(rows.getD k default).kind=1\/(rows.getD k default).kind=2\/(rows.getD k default).kind=3
def ywR (nC:Nat) (p:PRow) (x:Nat->Rat):Rat:=zai nC λj=>el p.coef j*x j
def ywH (nC:Nat) (p:PRow) (x:Nat->Rat):Prop:=(p.kind=1->ywR nC p x<=p.rhs)/\(p.kind=2->p.rhs<=ywR nC p x)/\(p.kind=3->ywR nC p x=p.rhs)
def ywM (nC:Nat) (rows:List PRow) (x:Nat->Rat):Prop:=(∀j,j<nC->0<=x j)/\∀i,i<rows.length->ywH nC (rows.getD i default) x
def ywG (nC:Nat) (p:PRow) (x:Nat->Rat):Rat:=if p.kind=3 then 0 else ((zfI p.kind:Int):Rat)*(p.rhs-ywR nC p x)
theorem ywN{nC:Nat}{p:PRow}(h:ywH nC p x)(hk:p.kind=1\/p.kind=2\/p.kind=3):0<=ywG nC p x:=by
 unfold ywG;split
 exact XL;rcases hk with e | e | e;rw[zYn e];have:=h.1 e;grind;rw[zYo ω];have:=h.2.1 e;grind
 contradiction
def ywz (nC:Nat) (rows:List PRow) (x:Nat->Rat) (j:Nat):Rat:=if j<nC then x j else zai rows.length λi=>if (rows.getD i default).kind≠3/\nC+cnt rows i=j then ywG nC (rows.getD i default) x else 0
section
variable {nC m:Nat} {rows:List PRow} (hf:Form nC m rows)
include hf
theorem ywK(x:Nat->Rat)(hi:i<rows.length)(a:(rows.getD i default).kind≠3):ywz nC rows x (nC+cnt rows i)=ywG nC (rows.getD i default) x:=by unfold ywz;rw[if_neg ω,zbI (k:=i) hi λt e d=>if_neg λh=>d (zX7 h.1 a ω),if_pos ⟨a,rfl⟩]
theorem ywL(h:ywM nC rows x)(hi:i<rows.length):zai (nC+cnt rows rows.length) (λj=>en (zc3 rows) i j*ywz nC rows x j)=(rows.getD i default).rhs:=by
 rw[zUC hf.co _ hi];have e:zai nC (λj=>el (rows.getD i default).coef j*ywz nC rows x j)=ywR nC (rows.getD i default) x:=zaj λj hj=>by unfold ywz;rw[if_pos hj]
 rw[e];by_cases a:(rows.getD i default).kind=3;rw[if_pos a,(h.2 i hi).2.2 a];grind;rw[if_neg a,ywK hf x hi a];unfold ywG;rw[if_neg a];rcases hf.kd i hi with e | e | e;rw[zYn e];grind;rw[zYo ω];grind
 contradiction
theorem ywO(h:ywM nC rows x)(j:Nat):0<=ywz nC rows x j:=by
 unfold ywz;split
 exact h.1 j (by assumption)
 have:=zUD (n:=rows.length) (f:=λ_=>0) (g:=λi=>if (rows.getD i default).kind≠3/\nC+cnt rows i=j then ywG nC (rows.getD i default) x else 0) λi hi=>by
  show 0<=if (rows.getD i default).kind≠3/\nC+cnt rows i=j then ywG nC (rows.getD i default) x else 0
  split
  exact ywN (h.2 i hi) (hf.kd i hi);exact XL
 rw[zgd]at this;exact this
theorem ywD(hi:i<m):el (zg8 rows) i=(rows.getD i default).rhs:=zKf (by rw[hf.len];exact hi)
theorem ywP{z:Nat->Rat}(a:∀j,0<=z j)(f:∀i,i<m->zai (nC+cnt rows m) (λj=>en (zc3 rows) i j*z j)=el (zg8 rows) i):ywM nC rows z:=by
 have d:=hf.len;refine⟨λj _=>a j,λi hi=>?_⟩;have e:=f i ω;have r:=zUC hf.co z hi;rw[d]at r;rw[r,ywD hf ω]at e;show ywH nC (rows.getD i default) z
 unfold ywH ywR;refine⟨λk=>?_,λk=>?_,λk=>?_⟩;rw[if_neg ω,zYn k]at e;have:=a (nC+cnt rows i);grind;rw[if_neg ω,zYo ω]at e;have:=a (nC+cnt rows i);grind;rw[if_pos k]at e;grind
end
def ywU (nC:Nat) (x z:Nat->Rat):Prop:=∀i,i<nC->(∀l,l<i->x l=z l)->x i<=z i
def ywA (nC:Nat) (cost:List Rat) (x:Nat->Rat):Rat:=zai nC λj=>el cost j*x j
inductive Told (nC m:Nat) (cost:List Rat) (rows:List PRow):COut->Prop where
  | none {n:Nat} (h:∀x,¬ywM nC rows x):Told nC m cost rows (.none n)
  | falls {n:Nat} (h:∀M:Rat,∃x,ywM nC rows x/\ywA nC cost x<M):Told nC m cost rows (.falls n)
  | best {cols G:List Nat} {n:Nat} (X:Nat->Rat) (h:ywM nC rows X) (he:∀j,X j=pt m (λk=>G.getD k 0) (el (za5 (zt0 (zc3 rows) (zg8 rows)) (zwh (zg8 rows)) G)) j) (hl:G.length=m) (hb:∀x,ywM nC rows x->ywA nC cost X<=ywA nC cost x/\(ywA nC cost X=ywA nC cost x->ywU nC X x)):Told nC m cost rows (.best cols G n)
end Go.Proofs.YtbpjabgfcbjjmaaGreatDoor
namespace Am
variable {cols:List Nat}{B N P R j m n:Nat}
def low (N:Nat):Nat->Nat
  | 0=>0
  | k+1=>low N k+binom N k
def yYP (N:Nat):Nat->List (List Bool)
  | 0=>[]
  | k+1=>yYP N k++marks N k
theorem yYT(N:Nat):∀k,(yYP N k).length=low N k
 | 0=>rfl
 | k+1=>by unfold yYP low;rw[Zz,yYT N k,zKl]
theorem yZg{N:Nat}{l:List Bool}(a:l.length=N):∀k,l.countP id<k->l∈yYP N k
 | 0,h=>absurd h (ZN _)
 | k+1,h=>by unfold yYP;rcases ZI (l.countP id) k with h1 | h1;exact ZO.2 (.inl (yZg a k h1));exact ZO.2 (.inr (zKo l N k a ω))
def pcnt:Nat->Nat->Nat->Nat
  | 0,R,k=>binom R k
  | P+1,R,0=>pcnt P R 0
  | P+1,R,k+1=>pcnt P R (k+1)+(pcnt P R k+pcnt P R k)
def pmarks:Nat->Nat->Nat->List (List Bool)
  | 0,R,k=>marks R k
  | P+1,R,0=>(pmarks P R 0).map λl=>false::false::l
  | P+1,R,k+1=>((pmarks P R (k+1)).map λl=>false::false::l)++(((pmarks P R k).map λl=>true::false::l)++(pmarks P R k).map λl=>false::true::l)
theorem yYR:∀P R k,(pmarks P R k).length=pcnt P R k
 | 0,R,k=>zKl R k
 | P+1,R,0=>by unfold pmarks pcnt;rw[ZH,yYR P R 0]
 | P+1,R,k+1=>by unfold pmarks pcnt;simp only[Zz,ZH,yYR]
theorem yYN:∀(P R k:Nat) (l:List Bool),l.length=2*P+R->l.countP id=k->(∀i,i<P->¬(l.getD (2*i) false=true/\l.getD (2*i+1) false=true))->l∈pmarks P R k
 | 0,R,k,l,h1,h2,_=>zKo l R k ω h2
 | P+1,R,k,l,h1,h2,h3=>by
  match l,h1 with
  | [],h1=>simp at h1;omega
  | [x],h1=>simp at h1;omega
  | x::y::l,h1 =>
   have d:l.length=2*P+R:=by simp at h1;omega
   have a:∀i,i<P->¬(l.getD (2*i) false=true/\l.getD (2*i+1) false=true):=λi hi h=>h3 (i+1) ω (by rw[show 2*(i+1)=2*i+1+1 by omega];simpa using h)
   have h0:=h3 0 ω;cases x with
   | false =>
    cases y with
    | false =>
     have:=yYN P R k l d (by simpa using h2) a;cases k with
     | zero=>exact ZG.2 ⟨l,this,rfl⟩
     | succ k=>exact ZO.2 (.inl (ZG.2 ⟨l,this,rfl⟩))
    | true =>
     cases k with
     | zero=>simp at h2
     | succ k =>
      have:=yYN P R k l d (by simpa using h2) a;exact ZO.2 (.inr (ZO.2 (.inr (ZG.2 ⟨l,this,rfl⟩))))
   | true =>
    cases y with
    | false =>
     cases k with
     | zero=>simp at h2
     | succ k =>
      have:=yYN P R k l d (by simpa using h2) a;exact ZO.2 (.inr (ZO.2 (.inl (ZG.2 ⟨l,this,rfl⟩))))
    | true=>exact absurd ⟨rfl,rfl⟩ h0
def pmax (P R:Nat):Nat->Nat
  | 0=>pcnt P R 0
  | k+1=>max (pmax P R k) (pcnt P R (k+1))
theorem yZj(P R:Nat){a:Nat}:∀ {k:Nat},a<=k->pcnt P R a<=pmax P R k
 | 0,h=>by rw[Nat.le_zero.1 h];exact Za _
 | k+1,h=>by unfold pmax;by_cases e:a=k+1;rw[e];exact Vl _ _;exact Zj (yZj P R ω) (Vk _ _)
theorem yZf{β:Nat->Nat}(hj:j<N):(markOf N m β).getD j false=true↔Bas m β j:=by
 classical
 unfold markOf;rw[zbU _ _ (by simpa using hj) 0,zcA hj];grind
theorem yYQ(β:Nat->Nat):∃l:List Bool,l.length=m/\markOf (N+m) m β=markOf N m β++l/\∀t,t<m->(l.getD t false=true↔Bas m β (N+t)):=by
 classical
 refine⟨(List.range m).map λt=>decide (Bas m β (N+t)),σ,?_,λt a=>?_⟩;unfold markOf;rw[List.range_add,X2,List.map_map];rfl;grind
theorem yZs:∀(l d:List Bool),l.length=d.length->(∀t,t<l.length->d.getD t false=true->l.getD t false=true)->l.countP id=d.countP id->l=d
 | [],[],_,_,_=>rfl
 | a::l,b::d,h1,h2,h3=>by
  have f:∀t,t<l.length->d.getD t false=true->l.getD t false=true:=λt j h=>by have:=h2 (t+1) (by simp;omega) (by simpa using h);simpa using this
  have hle:∀(l d:List Bool),l.length=d.length->(∀t,t<l.length->d.getD t false=true->l.getD t false=true)->d.countP id<=l.countP id:=by
   intro l
   induction l with
   | nil=>intro d e _;cases d with | nil=>exact Za _ | cons=>cases e
   | cons x l ih =>
    intro d e h;cases d with
    | nil=>cases e
    | cons y d =>
     have:=ih d (by simpa using e) λt j g=>by have:=h (t+1) (by simp;omega) (by simpa using g);simpa using this
     have h0:=h 0 σ;cases x<;>cases y<;>simp at h0 ⊢ <;> omega
  have:=hle l d (by simpa using h1) f;have h0:=h2 0 σ;cases a<;>cases b<;>simp at h0 h3 ⊢
  exact yZs l d (by simpa using h1) f h3;omega;exact yZs l d (by simpa using h1) f h3
section
variable {m N P R:Nat} {A:List (List Rat)} {b c:List Rat} (hA:Rect m N A) (hb:b.length=m)
theorem yZi(h:Basis m (N+m) (zt0 A b) cols){k:Nat}(e:zBX (N+m) (zt0 A b) (zwh b) (zJG N m) (zKc N m) cols=.piv k j):∃k,k<m/\N<=cols.getD k 0:=by
 refine Vd λa=>?_;have a:∀k,k<m->cols.getD k 0<N:=λk hk=>VB λh=>a ⟨k,hk,h⟩
 have lc:=zSD N m;have p:=zK6 h lc e;have hj:j<N:=VB λg=>by have:=p.hm;rw[zUz g]at this;cases this
 have f:Pri m (N+m) (en (zt0 A b)) (el (zJG N m)) (λk=>cols.getD k 0) (λ_=>0) (el (zJG N m)):=⟨λi _=>by rw[zcn λ_ _=>ψ];grind,λk hk=>zTq (a k hk)⟩
 have:=(h.pri lc).same f (h.dic (zwh b)) f.zero j ω;have d:=p.d;rw[this,zTq hj]at d;grind
theorem yYV{cols:List Nat}(hm:∀i,∃k j,(zvo (zBX (N+m) (zt0 A b) (zwh b) c (zKc N m)) cols (i+1)=(zvo (zBX (N+m) (zt0 A b) (zwh b) c (zKc N m)) cols i).set k j/\j<N)\/zvo (zBX (N+m) (zt0 A b) (zwh b) c (zKc N m)) cols (i+1)=zvo (zBX (N+m) (zt0 A b) (zwh b) c (zKc N m)) cols i)(i:Nat) :
  ∀j,∀u,N<=u->Bas m (λk=>(zvo (zBX (N+m) (zt0 A b) (zwh b) c (zKc N m)) cols (i+j)).getD k 0) u->Bas m (λk=>(zvo (zBX (N+m) (zt0 A b) (zwh b) c (zKc N m)) cols i).getD k 0) u
 | 0,u,_,h=>h
 | j+1,u,hu,h=>by refine yYV hm i j u hu ?_;obtain⟨k,l,⟨e,hj⟩ | e⟩:=hm (i+j);rw[show i+(j+1)=i+j+1 by omega,e]at h;obtain⟨g,d,a⟩:=h;simp only at a;by_cases f:k=g;subst f;rcases ZI k (zvo (zBX (N+m) (zt0 A b) (zwh b) c (zKc N m)) cols (i+j)).length with h1 | h1;rw[gset h1,if_pos rfl]at a;omega;rw[List.set_eq_of_length_le h1]at a;exact⟨k,d,a⟩;rw[Zf,Yy f,<-Zf]at a;exact⟨g,d,a⟩;grind
theorem yZl(h:∀i,Basis m (N+m) (zt0 A b) (zvo (zBX (N+m) (zt0 A b) (zwh b) c (zKc N m)) cols i))(lc:c.length=N+m)(i:Nat):∃k j,(zvo (zBX (N+m) (zt0 A b) (zwh b) c (zKc N m)) cols (i+1)=(zvo (zBX (N+m) (zt0 A b) (zwh b) c (zKc N m)) cols i).set k j/\j<N)\/zvo (zBX (N+m) (zt0 A b) (zwh b) c (zKc N m)) cols (i+1)=zvo (zBX (N+m) (zt0 A b) (zwh b) c (zKc N m)) cols i:=by
 cases e:zBX (N+m) (zt0 A b) (zwh b) c (zKc N m) (zvo (zBX (N+m) (zt0 A b) (zwh b) c (zKc N m)) cols i)with
 | piv k j =>
  have p:=zK6 (h i) lc e;exact⟨k,j,.inl ⟨by rw[zvo,e],VB λa=>by have:=p.hm;rw[zUz a]at this;cases this⟩⟩
 | stop=>exact⟨0,0,.inr (by rw[zvo,e])⟩
 | bad k=>exact⟨0,0,.inr (by rw[zvo,e])⟩
include hA hb in
theorem yY6(v:∀i,i<n->∃k j,zBX (N+m) (zt0 A b) (zwh b) (zJG N m) (zKc N m) (zvo (zBX (N+m) (zt0 A b) (zwh b) (zJG N m) (zKc N m)) (zKa N m) i)=.piv k j):n<=low N m:=by
 have h:=zSU (b:=b) hA;have f:=zVN hA hb;have lc:=zSD N m;have a:=zVH (may:=zKc N m) h lc f;have ap:∀i j,i<j->j<n->¬∀u,Bas m (λk=>(zvo (zBX (N+m) (zt0 A b) (zwh b) (zJG N m) (zKc N m)) (zKa N m) i).getD k 0) u↔Bas m (λk=>(zvo (zBX (N+m) (zt0 A b) (zwh b) (zJG N m) (zKc N m)) (zKa N m) j).getD k 0) u:=λi j p hj=>by have hp:=VF.1 (yti (may:=zKc N m) h lc f v) i j (by rw[ytl];omega) (by rw[ytl];exact hj) p;simp only[ytk,List.getElem_map,List.getElem_range]at hp;exact hp
 have st:=yZl (λi=>(a i).1) lc;have z:=λi j=>yYV st i j
 generalize zvo (zBX (N+m) (zt0 A b) (zwh b) (zJG N m) (zKc N m)) (zKa N m)=L at *
 rw[<-yYT];have full:∀i,(markOf (N+m) m (λk=>(L i).getD k 0)).countP id=m:=λi=>zKF (λk hk=>(a i).1.lt k hk) (λk l hk q e=>(a i).1.inj k l hk q e)
 refine pigeon _ n (λi=>markOf N m λk=>(L i).getD k 0) (λi hi=>yZg (zK4 _ _ _) m ?_) λi j p hj e=>?_;obtain⟨k,j,e⟩:=v i hi;obtain⟨g,s,hN⟩:=yZi (a i).1 e;obtain⟨l,q,o,r⟩:=yYQ (N:=N) (m:=m) λk=>(L i).getD k 0
 have c:=full i;rw[o,Y5]at c;have h1:=(a i).1.lt g s;have d:=(r ((L i).getD g 0-N) ω).2 ⟨g,s,by simp only;omega⟩;have E:0<l.countP id:=List.countP_pos_iff.2 ⟨true,by rw[Zf,Ze (show(L i).getD g 0-N<l.length by omega)]at d;have C:l[(L i).getD g 0-N]' ω=true:=d;rw[<-C];exact Xi _,rfl⟩;omega;have e:markOf N m (λk=>(L i).getD k 0)=markOf N m λk=>(L j).getD k 0:=e
 obtain⟨l,q,o,r⟩:=yYQ (N:=N) (m:=m) λk=>(L i).getD k 0
 obtain⟨y,F,x,D⟩:=yYQ (N:=N) (m:=m) λk=>(L j).getD k 0
 have c:=full i;have c':=full j;rw[o,Y5]at c;rw[x,Y5,<-e]at c';have el:l=y:=yZs l y ω (λt G h=>(r t ω).2 (by have h1:=(D t ω).1 h;have d:=z i (j-i) (N+t) ω;rw[show i+(j-i)=j by omega]at d;exact d h1)) ω;have B:markOf (N+m) m (λk=>(L i).getD k 0)=markOf (N+m) m λk=>(L j).getD k 0:=by rw[o,x,e,el]
 have per:=zLf (λk hk=>(a i).1.lt k hk) (λk hk=>(a j).1.lt k hk) B;exact ap i j p hj per
end
theorem yY7{β:Nat->Nat}(hN:N=2*P+R)(h:∀t,t<P->¬(Bas m β (2*t)/\Bas m β (2*t+1))):∀t,t<P->¬((markOf N m β).getD (2*t) false=true/\(markOf N m β).getD (2*t+1) false=true):=by grind[yZf]
theorem yZe{β:Nat->Nat->Nat}(hN:N=2*P+R)(h1:∀i,i<n->∀k,k<m->β i k<N)(a:∀i,i<n->∀k l,k<m->l<m->β i k=β i l->k=l)(d:∀i j,i<j->j<n->¬∀u,Bas m (β i) u↔Bas m (β j) u)
  (hp:∀i,i<n->∀t,t<P->¬(Bas m (β i) (2*t)/\Bas m (β i) (2*t+1))):n<=pcnt P R m:=by
 rw[<-yYR];exact pigeon _ n (λi=>markOf N m (β i)) (λi hi=>yYN P R m _ (by rw[zK4,hN]) (zKF (h1 i hi) (a i hi)) (yY7 hN (hp i hi))) (λi j f hj e=>d i j f hj (zLf (h1 i ω) (h1 j hj) e))
theorem yZb(hN:N=2*P+R){L:List (List Nat)}(h:ytw m L)(hi:∀l∈L,∀i k,i<m->k<m->l.getD i 0=l.getD k 0->i=k)(hf:∀l∈L,∀k,k<m->(N<=cols.getD k 0->l.getD k 0=cols.getD k 0)/\(cols.getD k 0<N->l.getD k 0<N))
  (hp:∀l∈L,∀t,t<P->¬(Bas m (λk=>l.getD k 0) (2*t)/\Bas m (λk=>l.getD k 0) (2*t+1))):L.length<=pmax P R m:=by
 obtain⟨ps,o⟩:∃ps,(List.range m).filter (λk=>decide (cols.getD k 0<N))=ps:=⟨_,rfl⟩
 have B:ps.length<=m:=by rw[<-o];grind
 have n:∀k,k<ps.length->ps.getD k 0<m/\cols.getD (ps.getD k 0) 0<N:=λk hk=>by
  have:ps.getD k 0∈ps:=by rw[Zf,Ze hk];exact Xi hk
  rw[<-o]at this;have:=Vz.1 this;rw[o]at this;grind
 have pi:∀i k,i<ps.length->k<ps.length->ps.getD i 0=ps.getD k 0->i=k:=λi k h1 x e=>by
  have D:ps.Nodup:=by rw[<-o];exact List.Nodup.sublist List.filter_sublist List.nodup_range
  rw[Zf,Zf,Ze h1,Ze x]at e;exact(List.getElem_inj D).1 e
 have on:∀k,k<m->cols.getD k 0<N->∃t,t<ps.length/\ps.getD t 0=k:=λk hk hc=>by
  have:k∈ps:=by rw[<-o];exact Vz.2 ⟨Xh.2 hk,Z0 hc⟩
  grind[List.mem_iff_getElem?,List.getElem?_eq_some_iff,getD_some]
 have g:∀i,i<L.length->L.getD i []∈L:=λi hi=>by rw[Zf,Ze hi];grind
 have up:∀l∈L,∀u,Bas ps.length (λk=>l.getD (ps.getD k 0) 0) u->Bas m (λk=>l.getD k 0) u:=λl _ u ⟨k,hk,e⟩=>⟨ps.getD k 0,(n k hk).1,e⟩
 refine Zj (yZe (N:=N) (m:=ps.length) hN (β:=λi k=>(L.getD i []).getD (ps.getD k 0) 0) (λi d k hk=>(hf _ (g i d) _ (n k hk).1).2 (n k hk).2) (λi d k l hk v e=>pi k l hk v (hi _ (g i d) _ _ (n k hk).1 (n l v).1 e)) (λi j z hj per=>?_)
  λi d t f r=>hp _ (g i d) t f ⟨up _ (g i d) _ r.1,up _ (g i d) _ r.2⟩) (yZj P R B)
 have ap:=VF.1 h i j ω hj z;have p:L.getD i []=L[i]' ω:=by rw[Zf,Ze ω];rfl
 have q:L.getD j []=L[j]:=by rw[Zf,Ze hj];rfl
 have one:∀a b:List Nat,a∈L->b∈L->(∀u,Bas ps.length (λk=>a.getD (ps.getD k 0) 0) u->Bas ps.length (λk=>b.getD (ps.getD k 0) 0) u)->∀u,Bas m (λk=>a.getD k 0) u->Bas m (λk=>b.getD k 0) u:=λa b y hb hp u ⟨k,hk,e⟩=>by by_cases hc:cols.getD k 0<N;obtain⟨t,f,et⟩:=on k hk hc;obtain⟨s,C,es⟩:=hp u ⟨t,f,by simp only[et];exact e⟩;exact⟨ps.getD s 0,(n s C).1,es⟩;exact⟨k,hk,by simp only;rw[(hf b hb k hk).1 ω,<-(hf a y k hk).1 ω];exact e⟩
 refine ap λu=>⟨?_,?_⟩
 rw[<-p,<-q];exact one _ _ (g i ω) (g j hj) (λu=>(per u).1) u;rw[<-p,<-q];exact one _ _ (g j hj) (g i ω) (λu=>(per u).2) u
theorem yZv{A:List (List Rat)}(h:Basis m N A cols){p q:Nat}(u:q<N)(hp:p<N)(s:p≠q)(e:∀i,i<m->en A i q = -en A i p):¬(Bas m (λk=>cols.getD k 0) p/\Bas m (λk=>cols.getD k 0) q):=by
 rintro⟨⟨k,hk,d⟩,⟨l,r,f⟩⟩;simp only at d f;have a:=h.dic [];obtain⟨Y,j,_⟩:=a.row k hk;have u1:=a.uni k k hk hk;have u2:=a.uni k l hk r;simp only[d,f]at u1 u2;rw[j p hp]at u1;rw[j q u]at u2;have n:k≠l:=λo=>s (by rw[<-d,<-f,o])
 rw[if_pos trivial]at u1;rw[if_neg (by first | exact n | exact n.symm)]at u2;rw[zaj (g:=λt => -1*(Y t*en A t p)) λt v=>by rw[e t v];grind,za7,u1]at u2;grind
section
variable {m N P R:Nat} {A:List (List Rat)} {b c:List Rat} (hA:Rect m N A) (hb:b.length=m) (hc:c.length=N) (hN:N=2*P+R) (hp:∀t,t<P->∀i,i<m->en A i (2*t+1) = -en A i (2*t))
include hA hb hc hN hp in
theorem yZa(F:2*binom (N+m) m+m<=B):(zSA N m A b c B).pivots<=low N m+m+pmax P R m:=by
 obtain⟨cols,n,hr,G,h1,y,st⟩:=zUF (B:=B) hA hb ω;have p:=zoW (zBX (N+m) (zt0 A b) (zwh b) (zJG N m) (zKc N m)) B (zKa N m);have more:=λg=>zKI (zBX (N+m) (zt0 A b) (zwh b) (zJG N m) (zKc N m)) B g (zKa N m) (by rw[hr])
 rw[hr]at more p;simp only at more p;have H:=yY6 hA hb p.2.1;by_cases u:0<zSB N m A b cols;have q:zSA N m A b c B=.none cols n:=by unfold zSA;rw[more B ω];simp only[XQ,if_false,if_pos u]
 rw[q];show n<=_;omega
 have E:=(zTS h1 y hA hb st).1 (by show zSB N m A b cols<=0;grind);obtain⟨a,z⟩:=E.drive ω m (Za _);have hF:zSG N (N+m) (zt0 A b) m 0 (cols,0)=zAd N (N+m) (zt0 A b) cols m:=by have:=zTL N (N+m) (zt0 A b) cols m 0;rw[Z8]at this;exact this
 generalize hdr:zAd N (N+m) (zt0 A b) cols m=d at *
 obtain⟨f,dn⟩:=d;simp only at a z;have lc:(zKb m c).length=N+m:=by rw[zSS,hc]
 have C:∀j,(zKc N m).getD j false=true->j<N:=λj h=>by rcases ZI j N with h5 | h5;exact h5;rw[zUz h5]at h;cases h
 have s:=zoW (zBX (N+m) (zt0 A b) (zwh b) (zKb m c) (zKc N m)) (B-(n+dn)) f;have v:=zVH (may:=zKc N m) a.basis lc a.feas;have fix:=λi=>ywu (c:=zKb m c) (may:=zKc N m) a lc C i
 have q:(zSA N m A b c B).pivots=n+dn+(pivs (zBX (N+m) (zt0 A b) (zwh b) (zKb m c) (zKc N m)) (B-(n+dn)) f).n:=by
  unfold zSA;rw[more B ω];simp only[XQ,if_false,if_neg u];rw[zSC N (N+m) (zt0 A b) (B-n) m 0 (cols,0) (by rw[hF];simp only;omega),hF];simp only[XQ,if_false];split
  rfl;split<;>rfl
 have x:=yZb hN (cols:=f) (yti (may:=zKc N m) a.basis lc a.feas s.2.1) (λl e=>by
  obtain⟨i,hi,rfl⟩:=ZG.1 e;exact(v i).1.inj) (λl e=>by
  obtain⟨i,hi,rfl⟩:=ZG.1 e;exact λk hk=>fix i k hk) λl e t D=>by
  obtain⟨i,hi,rfl⟩:=ZG.1 e;exact yZv (v i).1 ω ω ω λr o=>by rw[zwf hA o ω,zwf hA o ω,hp t D r o];grind
 rw[ytl]at x;rw[q];omega
include hA hb hc hN hp in
theorem yYO(g:low N m+m+pmax P R m<=B):Ends m N A b c (zSA N m A b c B)/\(zSA N m A b c B).pivots<=low N m+m+pmax P R m /\
  ∀a,((zSA N m A b c B).pivots<=a->zSA N m A b c a=zSA N m A b c B)/\(a<(zSA N m A b c B).pivots->∃n,zSA N m A b c a=.spent n):=by
 have d:2*binom (N+m) m+m<=2*binom (N+m) m+m:=Za _;obtain⟨E,_,f⟩:=zUc hA hb hc d;have le:=yZa hA hb hc hN hp d;have e:=(f B).1 (Zj le g);rw[e];exact⟨E,le,f⟩
end
theorem yZD:∀N,N<=14->∀m,m<=5->low N m+m+pmax 0 N m<=4000:=by decide +kernel
end Am
namespace Go.Proofs.YtbpjabgfcbjjmaaGreatDoor
open Go.RowKit Am
variable {rows:List PRow}{cost:List Rat}{B m nC:Nat}
def oO:Out->Int
  | .spent _=>0
  | .none .. => 2
  | .best .. => 1
  | .falls .. => 3
section
variable (nC m:Nat) (cost:List Rat) (rows:List PRow)
def oX:Out->List Rat
  | .best cols _=>(zh1 (nC+cnt rows m+m) cols (za5 (zt0 (zc3 rows) (zg8 rows)) (zwh (zg8 rows)) cols)).take nC
  | .falls cols _ _=>(zh1 (nC+cnt rows m+m) cols (za5 (zt0 (zc3 rows) (zg8 rows)) (zwh (zg8 rows)) cols)).take nC
  | _=>[]
def oY:Out->List Rat
  | .none cols _=>bkL ((zg8 rows).map sgI) (zcl (zt0 (zc3 rows) (zg8 rows)) cols (zJG (nC+cnt rows m) m)) m
  | .best cols _=>bkL ((zg8 rows).map sgI) (zcl (zt0 (zc3 rows) (zg8 rows)) cols (zKb m (zjD cost rows))) m
  | _=>[]
def oZ:Out->List Rat
  | .falls cols j _=>(zTj (nC+cnt rows m+m) cols (zav (zt0 (zc3 rows) (zg8 rows)) cols j) j m).take nC
  | _=>[]
def sol:Out:=zSA (nC+cnt rows m) m (zc3 rows) (zg8 rows) (zjD cost rows) 4000
structure Sol (S:Nat) (o:Int) (X Y Z:List Rat):Prop where
  shows:(o=1/\zUP nC m cost rows X Y/\Z=[])\/(o=2/\X=[]/\zUQ nC m rows Y/\Z=[])\/(o=3/\Y=[]/\zUE nC cost rows X Z)
  zx:∀q∈X,mw q<=sB m S S
  zy:∀q∈Y,mw q<=sB m S S
  zz:∀q∈Z,mw q<=sB m S S+2
end
def Few (nC m:Nat) (rows:List PRow):Prop:=low (nC+cnt rows m) m+m+pmax 0 (nC+cnt rows m) m<=4000
theorem yxY(hc:nC<=5)(hm:m<=5)(h:nC+cnt rows m<=10):Few nC m rows:=yZD _ ω _ hm
theorem Good1.few(h:Good1 nC m cost rows):Few nC m rows:=yxY h.hc (by have:=h.hr;omega) (by have:=h.hc;have:=h.hr;have:=zgO rows m;omega)
section
variable {S nC m:Nat} {cost:List Rat} {rows:List PRow} (hg:GoodS S nC m cost rows) (hF:Few nC m rows) (hlc:cost.length=nC) (hlr:rows.length=m)
include hg hF hlc hlr
theorem yxd(b:low (nC+cnt rows m) m+m+pmax 0 (nC+cnt rows m) m<=B):Am.Ends m (nC+cnt rows m) (zc3 rows) (zg8 rows) (zjD cost rows) (zSA (nC+cnt rows m) m (zc3 rows) (zg8 rows) (zjD cost rows) B)/\(zSA (nC+cnt rows m) m (zc3 rows) (zg8 rows) (zjD cost rows) B).pivots<=low (nC+cnt rows m) m+m+pmax 0 (nC+cnt rows m) m/\∀a,((zSA (nC+cnt rows m) m (zc3 rows) (zg8 rows) (zjD cost rows) B).pivots<=a->zSA (nC+cnt rows m) m (zc3 rows) (zg8 rows) (zjD cost rows) a=zSA (nC+cnt rows m) m (zc3 rows) (zg8 rows) (zjD cost rows) B)/\(a<(zSA (nC+cnt rows m) m (zc3 rows) (zg8 rows) (zjD cost rows) B).pivots->∃n,zSA (nC+cnt rows m) m (zc3 rows) (zg8 rows) (zjD cost rows) a=.spent n) :=
 yYO (P:=0) (zVA hg.sh hlc hlr rfl) (zVz hg.sh hlc hlr rfl) (by unfold zjD;rw[Zz,ZM,hlc,hlr]) ω (λt h=>absurd h (ZN _)) b
theorem z6D:(sol nC m cost rows).pivots<=4000/\∀a,((sol nC m cost rows).pivots<=a->zSA (nC+cnt rows m) m (zc3 rows) (zg8 rows) (zjD cost rows) a=sol nC m cost rows)/\(a<(sol nC m cost rows).pivots->∃n,zSA (nC+cnt rows m) m (zc3 rows) (zg8 rows) (zjD cost rows) a=.spent n):=by obtain⟨_,b,c⟩:=yxd hg hF hlc hlr hF;exact⟨Zj b hF,c⟩
theorem z6W:Sol nC m cost rows S (oO (sol nC m cost rows)) (oX nC m rows (sol nC m cost rows)) (oY nC m cost rows (sol nC m cost rows)) (oZ nC m rows (sol nC m cost rows)):=by
 have b:=(yxd hg hF hlc hlr hF).1;have h1:=z6E hg.sh hlc hlr rfl b;have a:=z6F hg hlc hlr rfl b;unfold sol;generalize zSA (nC+cnt rows m) m (zc3 rows) (zg8 rows) (zjD cost rows) 4000=o at *
 have nil:∀ {S:Nat},∀q∈([]:List Rat),mw q<=S:=λq c=>by cases c
 cases o with
 | spent n=>grind
 | none cols n=>exact⟨.inr (.inl ⟨rfl,rfl,h1,rfl⟩),nil,a,nil⟩
 | best cols n=>exact⟨.inl ⟨rfl,h1,rfl⟩,a.1,a.2,nil⟩
 | falls cols j n=>exact⟨.inr (.inr ⟨rfl,rfl,h1⟩),a.1,nil,a.2⟩
theorem z6H(n:Nat):sol nC m cost rows≠.spent n:=λh=>by have h1:=(yxd hg hF hlc hlr hF).1;unfold sol at h;rw[h]at h1;cases h1
end
def z6n (w:World) (o:Int) (X Y Z:List Rat) (n:Nat) (e:Ending) (w':World):Prop :=
  ∃(P:OA) (nP cP:Nat) (Q:OA) (nQ cQ:Nat) (D:OA) (nD cD:Nat),e=.returned (.tuple #[.agg #[.int .i64 o,(P,nP,cP),(Q,nQ,cQ),(D,nD,cD),(n:Int)],.nilIface])/\VecS w' 0 (P,nP,cP) X/\VecS w' 0 (Q,nQ,cQ) Y/\VecS w' 0 (D,nD,cD) Z/\Below w w w'
theorem zVM.u{w:World}{o:Out}{e:Ending}{w':World}(h:zVM w nC m (nC+cnt rows m) (nC+cnt rows m+m) (zc3 rows) (zg8 rows) (zjD cost rows) B o e w')(l:∀n,o≠.spent n):z6n w (oO o) (oX nC m rows o) (oY nC m cost rows o) (oZ nC m rows o) o.pivots e w':=by
 obtain⟨d,h⟩:=h;cases o with
 | spent n=>grind
 | none cols n =>
  obtain⟨Y,c,a,g⟩:=h;exact⟨none,0,0,Y,m,c,none,0,0,a,.nil _ _,g.base (Zb _),.nil _ _,d⟩
 | best cols n =>
  obtain⟨P,b,Y,c,a,f,g⟩:=h;exact⟨P,nC,b,Y,m,c,none,0,0,a,f.base (Zb _),g.base (Zb _),.nil _ _,d⟩
 | falls cols j n =>
  obtain⟨P,b,D,i,a,f,k⟩:=h;exact⟨P,nC,b,none,0,0,D,nC,i,a,f.base (Zb _),.nil _ _,k.base (Zb _),d⟩
namespace Pr
section
variable (S:Nat) (C:OA) (nC cC:Nat) (R:OA) (m cR:Nat) (cost:List Rat) (rows:List PRow) (w:World) (hc:VecS w 0 (C,nC,cC) cost) (hr:RowsS w 0 (R,m,cR) rows) (hg:GoodS S nC m cost rows) (hF:Few nC m rows)
include hc hr hg hF
theorem z6T(K:Nat)(a:(sol nC m cost rows).pivots<=K)(b:K<=1000000):Calls Tryz.prog 19 #[.agg #[(C,nC,cC),(R,m,cR)],(K:Int)] w (z6n w (oO (sol nC m cost rows)) (oX nC m rows (sol nC m cost rows)) (oY nC m cost rows (sol nC m cost rows)) (oZ nC m rows (sol nC m cost rows)) (sol nC m cost rows).pivots):=by have h:=psolve S C nC cC R m cR cost rows _ _ K w hc hr hg rfl rfl b;rw[((z6D hg hF hc.len.symm hr.len.symm).2 K).1 a]at h;exact h.mono λ_ _ h=>h.u (z6H hg hF hc.len.symm hr.len.symm)
theorem z6X:Calls Tryz.prog 19 #[.agg #[(C,nC,cC),(R,m,cR)],.int .i64 4000] w (z6n w (oO (sol nC m cost rows)) (oX nC m rows (sol nC m cost rows)) (oY nC m cost rows (sol nC m cost rows)) (oZ nC m rows (sol nC m cost rows)) (sol nC m cost rows).pivots) :=
 z6T S C nC cC R m cR cost rows w hc hr hg hF 4000 (z6D hg hF hc.len.symm hr.len.symm).1 δ
end
