/- Contracts and lemmas: Can1 Can2 Turn Cnt2 Sol18 CaK CaA Sol21 Lsa Rf5 Doc Tbz Zm Zr Zn Zd Zp Zk Zs. Conditions: as each says. -/
import Derived.Test.YtbpjabgfcbjjmaaGreatGdSYn
import Derived.Test.YtbpjabgfcbjjmaaGreatDuBYn
import Derived.Test.YtbpjabgfcbjjmaaGreatLin0Yn
import Derived.Maps.AppendAt
import Derived.Deep.CutBlock
set_option linter.all false
set_option maxHeartbeats 4000000
set_option maxRecDepth 100000
namespace Am
def ys7 (p:List Rat) (may:List Bool):List Bool:=(List.range may.length).map λj=>may.getD j false&&decide (el p j=0)
structure LexOut where
  cols:List Nat
  n:Nat
  err:Bool
def ys2 (N:Nat) (A:List (List Rat)) (b:List Rat) (B:Nat):List (List Rat)->List Bool->List Nat->Nat->LexOut
  | [],_,cols,n=>⟨cols,n,false⟩
  | c :: cs,may,cols,n =>
    let r:=pivs (zBX N A b c may) (B-n) cols
    if r.err then ⟨r.cols,n+r.n,true⟩
    else ys2 N A b B cs (ys7 (zaC N A r.cols c) may) r.cols (n+r.n)
def ys5 (N:Nat):Nat->Nat->List (List Rat)
  | 0,_=>[]
  | f+1,k=>zdL N k::ys5 N f (k+1)
def ytw (m:Nat) (L:List (List Nat)):Prop:=L.Pairwise λa b=>¬∀u,Bas m (λk=>a.getD k 0) u↔Bas m (λk=>b.getD k 0) u
section
variable {m N:Nat} {A:List (List Rat)} {b c:List Rat} {may:List Bool}
def ytk (next:List Nat->Next) (cols:List Nat) (n:Nat):List (List Nat):=(List.range n).map (zvo next cols)
def ytl(next:List Nat->Next)(cols:List Nat)(n:Nat):(ytk next cols n).length=n:=by simp[ytk]
def yti{cols:List Nat}(h:Basis m N A cols)(hc:c.length=N)(f:zyF m A b cols){n:Nat}(d:∀i,i<n->∃k j,zBX N A b c may (zvo (zBX N A b c may) cols i)=.piv k j):ytw m (ytk (zBX N A b c may) cols n):=by unfold ytw ytk;rw[List.pairwise_map];exact List.Pairwise.imp_of_mem (R:=λa b=>a<b) (λ{i j} _ hj hij=>ysX h hc f n d _ _ hij (Xb.1 hj)) List.pairwise_lt_range
def ywu{own:Nat}{cols:List Nat}(h:Own m N own A b cols m)(hc:c.length=N)(hm:∀j,may.getD j false=true->j<own):∀i k,k<m->(own<=cols.getD k 0->(zvo (zBX N A b c may) cols i).getD k 0=cols.getD k 0)/\(cols.getD k 0<own->(zvo (zBX N A b c may) cols i).getD k 0<own)
 | 0,_,_=>⟨λ_=>rfl,λh=>h⟩
 | i+1,k,hk=>by
  have a:=ywu h hc hm i k hk;have o:=h.seq hc hm i;rw[zvo];split
  rename_i r j e;have p:=zK6 o.basis hc e;rw[gset (by rw[o.basis.len];exact p.hk)];by_cases d:r=k;subst d;rw[if_pos rfl];refine⟨λq=>?_,λ_=>hm j p.hm⟩;have z:=o.line r hk hk (by rw[a.1 q];exact q) j (hm j p.hm);have t:=p.t;rw[z]at t;exact absurd t δ;grind;exact a
structure Fea (m N:Nat) (A:List (List Rat)) (b:List Rat) (may:List Bool) (z:Nat->Rat):Prop where
  sol:∀i,i<m->zai N (λj=>en A i j*z j)=el b i
  nn:∀j,j<N->0<=z j
  sup:∀j,j<N->z j≠0->may.getD j false=true
def ytn (N:Nat):List (List Rat)->(Nat->Rat)->(Nat->Rat)->Prop
  | [],_,_=>True
  | c::cs,x,z=>zai N (λj=>el c j*x j)<=zai N (λj=>el c j*z j)/\(zai N (λj=>el c j*x j)=zai N (λj=>el c j*z j)->ytn N cs x z)
structure Lex (m N:Nat) (A:List (List Rat)) (b:List Rat) (cs:List (List Rat)) (may:List Bool) (cols:List Nat) (L:List (List Nat)) (G:List Nat):Prop where
  enough:∀B n,n+L.length<=B->ys2 N A b B cs may cols n=⟨G,n+L.length,false⟩
  less:∀B n,n<=B->B<n+L.length->(ys2 N A b B cs may cols n).err=true/\(ys2 N A b B cs may cols n).n=B
  apart:ytw m L
  basis:∀l∈L,Basis m N A l/\zyF m A b l
  in_:∀l∈L,∀k,k<m->may.getD (l.getD k 0) false=true\/Bas m (λk=>cols.getD k 0) (l.getD k 0)
  last:Basis m N A G/\zyF m A b G
  lastIn:∀k,k<m->may.getD (G.getD k 0) false=true\/Bas m (λk=>cols.getD k 0) (G.getD k 0)
  fix:∀own,Own m N own A b cols m->(∀j,may.getD j false=true->j<own)->∀l∈L,∀k,k<m->(own<=cols.getD k 0->l.getD k 0=cols.getD k 0)/\(cols.getD k 0<own->l.getD k 0<own)
  best:∀z,Fea m N A b may z->ytn N cs (pt m (λk=>G.getD k 0) (el (za5 A b G))) z
  lastOwn:∀own,Own m N own A b cols m->(∀j,may.getD j false=true->j<own)->Own m N own A b G m
end
end Am
namespace Am
inductive COut where
  | spent:Nat->COut
  | none:Nat->COut
  | best:List Nat->List Nat->Nat->COut
  | falls:Nat->COut
def COut.pivots:COut->Nat
  | .spent n=>n
  | .none n=>n
  | .best _ _ n=>n
  | .falls n=>n
section
variable {m N own:Nat} {A:List (List Rat)} {b c:List Rat}
inductive CEnds (m N own:Nat) (A:List (List Rat)) (b c:List Rat):COut->Prop where
  | none {cols:List Nat} {n:Nat} (h:Basis m (N+m) (zt0 A b) cols) (f:zyF m (zt0 A b) (zwh b) cols) (s:zBX (N+m) (zt0 A b) (zwh b) (zJG N m) (zKc N m) cols=.stop) (v:0<zSB N m A b cols):CEnds m N own A b c (.none n)
  | best {cols G:List Nat} {n k:Nat} {L:List (List Nat)} (h:Own m (N+m) N (zt0 A b) (zwh b) cols m) (s:zBX (N+m) (zt0 A b) (zwh b) (zKb m c) (zKc N m) cols=.stop)
      (x:Lex m (N+m) (zt0 A b) (zwh b) (ys5 (N+m) own 0) (ys7 (zaC (N+m) (zt0 A b) cols (zKb m c)) (zKc N m)) cols L G) (e:n=k+L.length):CEnds m N own A b c (.best cols G n)
  | falls {cols:List Nat} {j n:Nat} (h:Own m (N+m) N (zt0 A b) (zwh b) cols m) (s:zBX (N+m) (zt0 A b) (zwh b) (zKb m c) (zKc N m) cols=.bad j):CEnds m N own A b c (.falls n)
def CEnds.not{o:COut}(h:CEnds m N own A b c o)(n:Nat):o≠.spent n:=λe=>by subst e;cases h
variable (hA:Rect m N A) (hb:b.length=m) (hc:c.length=N) (ho:own<=N)
include hA hb hc ho
end
end Am
namespace Go.Proofs.YtbpjabgfcbjjmaaGreat
open Go.RowKit Am
variable {i:Nat}{x:Nat->Rat}
structure Form (nC m:Nat) (rows:List PRow):Prop where
  len:rows.length=m
  co:∀k,k<rows.length->(rows.getD k default).coef.length=nC
  kd:∀k,k<rows.length->(rows.getD k default).kind=1\/(rows.getD k default).kind=2\/(rows.getD k default).kind=3
def ywR (nC:Nat) (p:PRow) (x:Nat->Rat):Rat:=zai nC λj=>el p.coef j*x j
def ywH (nC:Nat) (p:PRow) (x:Nat->Rat):Prop:=(p.kind=1->ywR nC p x<=p.rhs)/\(p.kind=2->p.rhs<=ywR nC p x)/\(p.kind=3->ywR nC p x=p.rhs)
def ywM (nC:Nat) (rows:List PRow) (x:Nat->Rat):Prop:=(∀j,j<nC->0<=x j)/\∀i,i<rows.length->ywH nC (rows.getD i default) x
def ywG (nC:Nat) (p:PRow) (x:Nat->Rat):Rat:=if p.kind=3 then 0 else ((zfI p.kind:Int):Rat)*(p.rhs-ywR nC p x)
def ywN{nC:Nat}{p:PRow}(h:ywH nC p x)(hk:p.kind=1\/p.kind=2\/p.kind=3):0<=ywG nC p x:=by
 unfold ywG;split
 exact XG;rcases hk with e | e | e;rw[zYn e];have:=h.1 e;grind;rw[zYo ω];have:=h.2.1 e;grind
 contradiction
def ywz (nC:Nat) (rows:List PRow) (x:Nat->Rat) (j:Nat):Rat:=if j<nC then x j else zai rows.length λi=>if (rows.getD i default).kind≠3/\nC+cnt rows i=j then ywG nC (rows.getD i default) x else 0
section
variable {nC m:Nat} {rows:List PRow} (hf:Form nC m rows)
include hf
theorem ywK(x:Nat->Rat)(hi:i<rows.length)(a:(rows.getD i default).kind≠3):ywz nC rows x (nC+cnt rows i)=ywG nC (rows.getD i default) x:=by unfold ywz;rw[if_neg ω,zbI (k:=i) hi λt e d=>if_neg λh=>d (zX7 h.1 a ω),if_pos ⟨a,rfl⟩]
theorem ywL(h:ywM nC rows x)(hi:i<rows.length):zai (nC+cnt rows rows.length) (λj=>en (zc3 rows) i j*ywz nC rows x j)=(rows.getD i default).rhs:=by
 rw[zUC hf.co _ hi];have e:zai nC (λj=>el (rows.getD i default).coef j*ywz nC rows x j)=ywR nC (rows.getD i default) x:=zaj λj hj=>by unfold ywz;rw[if_pos hj]
 rw[e];by_cases a:(rows.getD i default).kind=3;rw[if_pos a,(h.2 i hi).2.2 a];grind;rw[if_neg a,ywK hf x hi a];unfold ywG;rw[if_neg a];rcases hf.kd i hi with e | e | e;rw[zYn e];grind;rw[zYo ω];grind
 contradiction
theorem ywO(h:ywM nC rows x)(j:Nat):0<=ywz nC rows x j:=by
 unfold ywz;split
 exact h.1 j (by assumption)
 have:=zUD (n:=rows.length) (f:=λ_=>0) (g:=λi=>if (rows.getD i default).kind≠3/\nC+cnt rows i=j then ywG nC (rows.getD i default) x else 0) λi hi=>by
  show 0<=if (rows.getD i default).kind≠3/\nC+cnt rows i=j then ywG nC (rows.getD i default) x else 0
  split
  exact ywN (h.2 i hi) (hf.kd i hi);exact XG
 rw[zgd]at this;exact this
theorem ywD(hi:i<m):el (zg8 rows) i=(rows.getD i default).rhs:=zKf (by rw[hf.len];exact hi)
theorem ywP{z:Nat->Rat}(a:∀j,0<=z j)(f:∀i,i<m->zai (nC+cnt rows m) (λj=>en (zc3 rows) i j*z j)=el (zg8 rows) i):ywM nC rows z:=by
 have d:=hf.len;refine⟨λj _=>a j,λi hi=>?_⟩;have e:=f i ω;have r:=zUC hf.co z hi;rw[d]at r;rw[r,ywD hf ω]at e;show ywH nC (rows.getD i default) z
 unfold ywH ywR;refine⟨λk=>?_,λk=>?_,λk=>?_⟩;rw[if_neg ω,zYn k]at e;have:=a (nC+cnt rows i);grind;rw[if_neg ω,zYo ω]at e;have:=a (nC+cnt rows i);grind;rw[if_pos k]at e;grind
end
def ywA (nC:Nat) (cost:List Rat) (x:Nat->Rat):Rat:=zai nC λj=>el cost j*x j
end Go.Proofs.YtbpjabgfcbjjmaaGreat
namespace Am
variable {cols:List Nat}{B N P R j m n:Nat}
def low (N:Nat):Nat->Nat
  | 0=>0
  | k+1=>low N k+binom N k
def yYP (N:Nat):Nat->List (List Bool)
  | 0=>[]
  | k+1=>yYP N k++marks N k
def yYT(N:Nat):∀k,(yYP N k).length=low N k
 | 0=>rfl
 | k+1=>by unfold yYP low;rw[Zz,yYT N k,zKl]
def yZg{N:Nat}{l:List Bool}(a:l.length=N):∀k,l.countP id<k->l∈yYP N k
 | 0,h=>absurd h (ZS _)
 | k+1,h=>by unfold yYP;rcases ZM (l.countP id) k with h1 | h1;exact ZT.2 (.inl (yZg a k h1));exact ZT.2 (.inr (zKo l N k a ω))
def pcnt:Nat->Nat->Nat->Nat
  | 0,R,k=>binom R k
  | P+1,R,0=>pcnt P R 0
  | P+1,R,k+1=>pcnt P R (k+1)+(pcnt P R k+pcnt P R k)
def pmarks:Nat->Nat->Nat->List (List Bool)
  | 0,R,k=>marks R k
  | P+1,R,0=>(pmarks P R 0).map λl=>false::false::l
  | P+1,R,k+1=>((pmarks P R (k+1)).map λl=>false::false::l)++(((pmarks P R k).map λl=>true::false::l)++(pmarks P R k).map λl=>false::true::l)
def yYR:∀P R k,(pmarks P R k).length=pcnt P R k
 | 0,R,k=>zKl R k
 | P+1,R,0=>by unfold pmarks pcnt;rw[ZK,yYR P R 0]
 | P+1,R,k+1=>by unfold pmarks pcnt;simp only[Zz,ZK,yYR]
def yYN:∀(P R k:Nat) (l:List Bool),l.length=2*P+R->l.countP id=k->(∀i,i<P->¬(l.getD (2*i) false=true/\l.getD (2*i+1) false=true))->l∈pmarks P R k
 | 0,R,k,l,h1,h2,_=>zKo l R k ω h2
 | P+1,R,k,l,h1,h2,h3=>by
  match l,h1 with
  | [],h1=>simp at h1;omega
  | [x],h1=>simp at h1;omega
  | x::y::l,h1 =>
   have d:l.length=2*P+R:=by simp at h1;omega
   have a:∀i,i<P->¬(l.getD (2*i) false=true/\l.getD (2*i+1) false=true):=λi hi h=>h3 (i+1) ω (by rw[show 2*(i+1)=2*i+1+1 by omega];simpa using h)
   have h0:=h3 0 ω;cases x with
   | false =>
    cases y with
    | false =>
     have:=yYN P R k l d (by simpa using h2) a;cases k with
     | zero=>exact ZH.2 ⟨l,this,rfl⟩
     | succ k=>exact ZT.2 (.inl (ZH.2 ⟨l,this,rfl⟩))
    | true =>
     cases k with
     | zero=>simp at h2
     | succ k =>
      have:=yYN P R k l d (by simpa using h2) a;exact ZT.2 (.inr (ZT.2 (.inr (ZH.2 ⟨l,this,rfl⟩))))
   | true =>
    cases y with
    | false =>
     cases k with
     | zero=>simp at h2
     | succ k =>
      have:=yYN P R k l d (by simpa using h2) a;exact ZT.2 (.inr (ZT.2 (.inl (ZH.2 ⟨l,this,rfl⟩))))
    | true=>exact absurd ⟨rfl,rfl⟩ h0
def pmax (P R:Nat):Nat->Nat
  | 0=>pcnt P R 0
  | k+1=>max (pmax P R k) (pcnt P R (k+1))
def yZj(P R:Nat){a:Nat}:∀ {k:Nat},a<=k->pcnt P R a<=pmax P R k
 | 0,h=>by rw[Nat.le_zero.1 h];exact Za _
 | k+1,h=>by unfold pmax;by_cases e:a=k+1;rw[e];exact Vu _ _;exact Zf (yZj P R ω) (Vt _ _)
theorem yZf{β:Nat->Nat}(hj:j<N):(markOf N m β).getD j false=true↔Bas m β j:=by
 classical
 unfold markOf;rw[zbU _ _ (by simpa using hj) 0,zcA hj];grind
def yYQ(β:Nat->Nat):∃l:List Bool,l.length=m/\markOf (N+m) m β=markOf N m β++l/\∀t,t<m->(l.getD t false=true↔Bas m β (N+t)):=by
 classical
 refine⟨(List.range m).map λt=>decide (Bas m β (N+t)),σ,?_,λt a=>?_⟩;unfold markOf;rw[List.range_add,X8,List.map_map];rfl;grind
def yZs:∀(l d:List Bool),l.length=d.length->(∀t,t<l.length->d.getD t false=true->l.getD t false=true)->l.countP id=d.countP id->l=d
 | [],[],_,_,_=>rfl
 | a::l,b::d,h1,h2,h3=>by
  have f:∀t,t<l.length->d.getD t false=true->l.getD t false=true:=λt j h=>by have:=h2 (t+1) (by simp;omega) (by simpa using h);simpa using this
  have hle:∀(l d:List Bool),l.length=d.length->(∀t,t<l.length->d.getD t false=true->l.getD t false=true)->d.countP id<=l.countP id:=by
   intro l
   induction l with
   | nil=>intro d e _;cases d with | nil=>exact Za _ | cons=>cases e
   | cons x l ih =>
    intro d e h;cases d with
    | nil=>cases e
    | cons y d =>
     have:=ih d (by simpa using e) λt j g=>by have:=h (t+1) (by simp;omega) (by simpa using g);simpa using this
     have h0:=h 0 σ;cases x<;>cases y<;>simp at h0 ⊢ <;> omega
  have:=hle l d (by simpa using h1) f;have h0:=h2 0 σ;cases a<;>cases b<;>simp at h0 h3 ⊢
  exact yZs l d (by simpa using h1) f h3;omega;exact yZs l d (by simpa using h1) f h3
section
variable {m N P R:Nat} {A:List (List Rat)} {b c:List Rat} (hA:Rect m N A) (hb:b.length=m)
theorem yZi(h:Basis m (N+m) (zt0 A b) cols){k:Nat}(e:zBX (N+m) (zt0 A b) (zwh b) (zJG N m) (zKc N m) cols=.piv k j):∃k,k<m/\N<=cols.getD k 0:=by
 refine Vk λa=>?_;have a:∀k,k<m->cols.getD k 0<N:=λk hk=>VJ λh=>a ⟨k,hk,h⟩
 have lc:=zSD N m;have p:=zK6 h lc e;have hj:j<N:=VJ λg=>by have:=p.hm;rw[zUz g]at this;cases this
 have f:Pri m (N+m) (en (zt0 A b)) (el (zJG N m)) (λk=>cols.getD k 0) (λ_=>0) (el (zJG N m)):=⟨λi _=>by rw[zcn λ_ _=>ψ];grind,λk hk=>zTq (a k hk)⟩
 have:=(h.pri lc).same f (h.dic (zwh b)) f.zero j ω;have d:=p.d;rw[this,zTq hj]at d;grind
theorem yYV{cols:List Nat}(hm:∀i,∃k j,(zvo (zBX (N+m) (zt0 A b) (zwh b) c (zKc N m)) cols (i+1)=(zvo (zBX (N+m) (zt0 A b) (zwh b) c (zKc N m)) cols i).set k j/\j<N)\/zvo (zBX (N+m) (zt0 A b) (zwh b) c (zKc N m)) cols (i+1)=zvo (zBX (N+m) (zt0 A b) (zwh b) c (zKc N m)) cols i)(i:Nat) :
  ∀j,∀u,N<=u->Bas m (λk=>(zvo (zBX (N+m) (zt0 A b) (zwh b) c (zKc N m)) cols (i+j)).getD k 0) u->Bas m (λk=>(zvo (zBX (N+m) (zt0 A b) (zwh b) c (zKc N m)) cols i).getD k 0) u
 | 0,u,_,h=>h
 | j+1,u,hu,h=>by refine yYV hm i j u hu ?_;obtain⟨k,l,⟨e,hj⟩ | e⟩:=hm (i+j);rw[show i+(j+1)=i+j+1 by omega,e]at h;obtain⟨g,d,a⟩:=h;simp only at a;by_cases f:k=g;subst f;rcases ZM k (zvo (zBX (N+m) (zt0 A b) (zwh b) c (zKc N m)) cols (i+j)).length with h1 | h1;rw[gset h1,if_pos rfl]at a;omega;rw[List.set_eq_of_length_le h1]at a;exact⟨k,d,a⟩;rw[Zh,YC f,<-Zh]at a;exact⟨g,d,a⟩;grind
theorem yZl(h:∀i,Basis m (N+m) (zt0 A b) (zvo (zBX (N+m) (zt0 A b) (zwh b) c (zKc N m)) cols i))(lc:c.length=N+m)(i:Nat):∃k j,(zvo (zBX (N+m) (zt0 A b) (zwh b) c (zKc N m)) cols (i+1)=(zvo (zBX (N+m) (zt0 A b) (zwh b) c (zKc N m)) cols i).set k j/\j<N)\/zvo (zBX (N+m) (zt0 A b) (zwh b) c (zKc N m)) cols (i+1)=zvo (zBX (N+m) (zt0 A b) (zwh b) c (zKc N m)) cols i:=by
 cases e:zBX (N+m) (zt0 A b) (zwh b) c (zKc N m) (zvo (zBX (N+m) (zt0 A b) (zwh b) c (zKc N m)) cols i)with
 | piv k j =>
  have p:=zK6 (h i) lc e;exact⟨k,j,.inl ⟨by rw[zvo,e],VJ λa=>by have:=p.hm;rw[zUz a]at this;cases this⟩⟩
 | stop=>exact⟨0,0,.inr (by rw[zvo,e])⟩
 | bad k=>exact⟨0,0,.inr (by rw[zvo,e])⟩
include hA hb in
theorem yY6(v:∀i,i<n->∃k j,zBX (N+m) (zt0 A b) (zwh b) (zJG N m) (zKc N m) (zvo (zBX (N+m) (zt0 A b) (zwh b) (zJG N m) (zKc N m)) (zKa N m) i)=.piv k j):n<=low N m:=by
 have h:=zSU (b:=b) hA;have f:=zVN hA hb;have lc:=zSD N m;have a:=zVH (may:=zKc N m) h lc f;have ap:∀i j,i<j->j<n->¬∀u,Bas m (λk=>(zvo (zBX (N+m) (zt0 A b) (zwh b) (zJG N m) (zKc N m)) (zKa N m) i).getD k 0) u↔Bas m (λk=>(zvo (zBX (N+m) (zt0 A b) (zwh b) (zJG N m) (zKc N m)) (zKa N m) j).getD k 0) u:=λi j p hj=>by have hp:=VN.1 (yti (may:=zKc N m) h lc f v) i j (by rw[ytl];omega) (by rw[ytl];exact hj) p;simp only[ytk,List.getElem_map,List.getElem_range]at hp;exact hp
 have st:=yZl (λi=>(a i).1) lc;have z:=λi j=>yYV st i j
 generalize zvo (zBX (N+m) (zt0 A b) (zwh b) (zJG N m) (zKc N m)) (zKa N m)=L at *
 rw[<-yYT];have full:∀i,(markOf (N+m) m (λk=>(L i).getD k 0)).countP id=m:=λi=>zKF (λk hk=>(a i).1.lt k hk) (λk l hk q e=>(a i).1.inj k l hk q e)
 refine pigeon _ n (λi=>markOf N m λk=>(L i).getD k 0) (λi hi=>yZg (zK4 _ _ _) m ?_) λi j p hj e=>?_;obtain⟨k,j,e⟩:=v i hi;obtain⟨g,s,hN⟩:=yZi (a i).1 e;obtain⟨l,q,o,r⟩:=yYQ (N:=N) (m:=m) λk=>(L i).getD k 0
 have c:=full i;rw[o,Ve]at c;have h1:=(a i).1.lt g s;have d:=(r ((L i).getD g 0-N) ω).2 ⟨g,s,by simp only;omega⟩;have E:0<l.countP id:=List.countP_pos_iff.2 ⟨true,by rw[Zh,Ze (show(L i).getD g 0-N<l.length by omega)]at d;have C:l[(L i).getD g 0-N]' ω=true:=d;rw[<-C];exact Xk _,rfl⟩;omega;have e:markOf N m (λk=>(L i).getD k 0)=markOf N m λk=>(L j).getD k 0:=e
 obtain⟨l,q,o,r⟩:=yYQ (N:=N) (m:=m) λk=>(L i).getD k 0
 obtain⟨y,F,x,D⟩:=yYQ (N:=N) (m:=m) λk=>(L j).getD k 0
 have c:=full i;have c':=full j;rw[o,Ve]at c;rw[x,Ve,<-e]at c';have el:l=y:=yZs l y ω (λt G h=>(r t ω).2 (by have h1:=(D t ω).1 h;have d:=z i (j-i) (N+t) ω;rw[show i+(j-i)=j by omega]at d;exact d h1)) ω;have B:markOf (N+m) m (λk=>(L i).getD k 0)=markOf (N+m) m λk=>(L j).getD k 0:=by rw[o,x,e,el]
 have per:=zLf (λk hk=>(a i).1.lt k hk) (λk hk=>(a j).1.lt k hk) B;exact ap i j p hj per
end
def yY7{β:Nat->Nat}(hN:N=2*P+R)(h:∀t,t<P->¬(Bas m β (2*t)/\Bas m β (2*t+1))):∀t,t<P->¬((markOf N m β).getD (2*t) false=true/\(markOf N m β).getD (2*t+1) false=true):=by grind[yZf]
def yZe{β:Nat->Nat->Nat}(hN:N=2*P+R)(h1:∀i,i<n->∀k,k<m->β i k<N)(a:∀i,i<n->∀k l,k<m->l<m->β i k=β i l->k=l)(d:∀i j,i<j->j<n->¬∀u,Bas m (β i) u↔Bas m (β j) u)
  (hp:∀i,i<n->∀t,t<P->¬(Bas m (β i) (2*t)/\Bas m (β i) (2*t+1))):n<=pcnt P R m:=by
 rw[<-yYR];exact pigeon _ n (λi=>markOf N m (β i)) (λi hi=>yYN P R m _ (by rw[zK4,hN]) (zKF (h1 i hi) (a i hi)) (yY7 hN (hp i hi))) (λi j f hj e=>d i j f hj (zLf (h1 i ω) (h1 j hj) e))
def yZb(hN:N=2*P+R){L:List (List Nat)}(h:ytw m L)(hi:∀l∈L,∀i k,i<m->k<m->l.getD i 0=l.getD k 0->i=k)(hf:∀l∈L,∀k,k<m->(N<=cols.getD k 0->l.getD k 0=cols.getD k 0)/\(cols.getD k 0<N->l.getD k 0<N))
  (hp:∀l∈L,∀t,t<P->¬(Bas m (λk=>l.getD k 0) (2*t)/\Bas m (λk=>l.getD k 0) (2*t+1))):L.length<=pmax P R m:=by
 obtain⟨ps,o⟩:∃ps,(List.range m).filter (λk=>decide (cols.getD k 0<N))=ps:=⟨_,rfl⟩
 have C:ps.length<=m:=by rw[<-o];grind
 have n:∀k,k<ps.length->ps.getD k 0<m/\cols.getD (ps.getD k 0) 0<N:=λk hk=>by
  have:ps.getD k 0∈ps:=by rw[Zh,Ze hk];exact Xk hk
  rw[<-o]at this;have:=List.mem_filter.1 this;rw[o]at this;grind
 have pi:∀i k,i<ps.length->k<ps.length->ps.getD i 0=ps.getD k 0->i=k:=λi k h1 y e=>by
  have E:ps.Nodup:=by rw[<-o];exact List.Nodup.sublist List.filter_sublist List.nodup_range
  rw[Zh,Zh,Ze h1,Ze y]at e;grind[List.getElem_inj]
 have on:∀k,k<m->cols.getD k 0<N->∃t,t<ps.length/\ps.getD t 0=k:=λk hk hc=>by
  have:k∈ps:=by rw[<-o];exact List.mem_filter.2 ⟨Xb.2 hk,ZG hc⟩
  grind[List.mem_iff_getElem?,List.getElem?_eq_some_iff,getD_some]
 have g:∀i,i<L.length->L.getD i []∈L:=λi hi=>by rw[Zh,Ze hi];grind
 have up:∀l∈L,∀u,Bas ps.length (λk=>l.getD (ps.getD k 0) 0) u->Bas m (λk=>l.getD k 0) u:=λl _ u ⟨k,hk,e⟩=>⟨ps.getD k 0,(n k hk).1,e⟩
 refine Zf (yZe (N:=N) (m:=ps.length) hN (β:=λi k=>(L.getD i []).getD (ps.getD k 0) 0) (λi d k hk=>(hf _ (g i d) _ (n k hk).1).2 (n k hk).2) (λi d k l hk v e=>pi k l hk v (hi _ (g i d) _ _ (n k hk).1 (n l v).1 e)) (λi j B hj per=>?_)
  λi d t f r=>hp _ (g i d) t f ⟨up _ (g i d) _ r.1,up _ (g i d) _ r.2⟩) (yZj P R C)
 have ap:=VN.1 h i j ω hj B;have p:L.getD i []=L[i]' ω:=by rw[Zh,Ze ω];rfl
 have q:L.getD j []=L[j]:=by rw[Zh,Ze hj];rfl
 have one:∀a b:List Nat,a∈L->b∈L->(∀u,Bas ps.length (λk=>a.getD (ps.getD k 0) 0) u->Bas ps.length (λk=>b.getD (ps.getD k 0) 0) u)->∀u,Bas m (λk=>a.getD k 0) u->Bas m (λk=>b.getD k 0) u:=λa b z hb hp u ⟨k,hk,e⟩=>by by_cases hc:cols.getD k 0<N;obtain⟨t,f,x⟩:=on k hk hc;obtain⟨s,D,es⟩:=hp u ⟨t,f,ψ⟩;exact⟨ps.getD s 0,(n s D).1,es⟩;exact⟨k,hk,ψ⟩
 refine ap λu=>⟨?_,?_⟩
 rw[<-p,<-q];exact one _ _ (g i ω) (g j hj) (λu=>(per u).1) u;rw[<-p,<-q];exact one _ _ (g j hj) (g i ω) (λu=>(per u).2) u
def yZv{A:List (List Rat)}(h:Basis m N A cols){p q:Nat}(u:q<N)(hp:p<N)(s:p≠q)(e:∀i,i<m->en A i q = -en A i p):¬(Bas m (λk=>cols.getD k 0) p/\Bas m (λk=>cols.getD k 0) q):=by
 rintro⟨⟨k,hk,d⟩,⟨l,r,f⟩⟩;simp only at d f;have a:=h.dic [];obtain⟨Y,j,_⟩:=a.row k hk;have u1:=a.uni k k hk hk;have u2:=a.uni k l hk r;simp only[d,f]at u1 u2;rw[j p hp]at u1;rw[j q u]at u2;have n:k≠l:=λo=>s (by rw[<-d,<-f,o])
 rw[if_pos trivial]at u1;rw[if_neg (by first | exact n | exact n.symm)]at u2;rw[zaj (g:=λt => -1*(Y t*en A t p)) λt v=>by rw[e t v];grind,za7,u1]at u2;grind
section
variable {m N P R:Nat} {A:List (List Rat)} {b c:List Rat} (hA:Rect m N A) (hb:b.length=m) (hc:c.length=N) (hN:N=2*P+R) (hp:∀t,t<P->∀i,i<m->en A i (2*t+1) = -en A i (2*t))
include hA hb hc hN hp in
theorem yZa(F:2*binom (N+m) m+m<=B):(zSA N m A b c B).pivots<=low N m+m+pmax P R m:=by
 obtain⟨cols,n,hr,G,h1,y,st⟩:=zUF (B:=B) hA hb ω;have p:=zoW (zBX (N+m) (zt0 A b) (zwh b) (zJG N m) (zKc N m)) B (zKa N m);have more:=λg=>zKI (zBX (N+m) (zt0 A b) (zwh b) (zJG N m) (zKc N m)) B g (zKa N m) (by rw[hr])
 rw[hr]at more p;simp only at more p;have H:=yY6 hA hb p.2.1;by_cases u:0<zSB N m A b cols;have q:zSA N m A b c B=.none cols n:=by unfold zSA;rw[more B ω];simp only[XV,if_false,if_pos u]
 rw[q];show n<=_;omega
 have E:=(zTS h1 y hA hb st).1 (by show zSB N m A b cols<=0;grind);obtain⟨a,z⟩:=E.drive ω m (Za _);have hF:zSG N (N+m) (zt0 A b) m 0 (cols,0)=zAd N (N+m) (zt0 A b) cols m:=by have:=zTL N (N+m) (zt0 A b) cols m 0;rw[Xc]at this;exact this
 generalize hdr:zAd N (N+m) (zt0 A b) cols m=d at *
 obtain⟨f,dn⟩:=d;simp only at a z;have lc:(zKb m c).length=N+m:=by rw[zSS,hc]
 have C:∀j,(zKc N m).getD j false=true->j<N:=λj h=>by rcases ZM j N with h5 | h5;exact h5;rw[zUz h5]at h;cases h
 have s:=zoW (zBX (N+m) (zt0 A b) (zwh b) (zKb m c) (zKc N m)) (B-(n+dn)) f;have v:=zVH (may:=zKc N m) a.basis lc a.feas;have fix:=λi=>ywu (c:=zKb m c) (may:=zKc N m) a lc C i
 have q:(zSA N m A b c B).pivots=n+dn+(pivs (zBX (N+m) (zt0 A b) (zwh b) (zKb m c) (zKc N m)) (B-(n+dn)) f).n:=by
  unfold zSA;rw[more B ω];simp only[XV,if_false,if_neg u];rw[zSC N (N+m) (zt0 A b) (B-n) m 0 (cols,0) (by rw[hF];simp only;omega),hF];simp only[XV,if_false];split
  rfl;split<;>rfl
 have x:=yZb hN (cols:=f) (yti (may:=zKc N m) a.basis lc a.feas s.2.1) (λl e=>by
  obtain⟨i,hi,rfl⟩:=ZH.1 e;exact(v i).1.inj) (λl e=>by
  obtain⟨i,hi,rfl⟩:=ZH.1 e;exact λk hk=>fix i k hk) λl e t D=>by
  obtain⟨i,hi,rfl⟩:=ZH.1 e;exact yZv (v i).1 ω ω ω λr o=>by rw[zwf hA o ω,zwf hA o ω,hp t D r o];grind
 rw[ytl]at x;rw[q];omega
include hA hb hc hN hp in
theorem yYO(g:low N m+m+pmax P R m<=B):Ends m N A b c (zSA N m A b c B)/\(zSA N m A b c B).pivots<=low N m+m+pmax P R m /\
  ∀a,((zSA N m A b c B).pivots<=a->zSA N m A b c a=zSA N m A b c B)/\(a<(zSA N m A b c B).pivots->∃n,zSA N m A b c a=.spent n):=by
 have d:2*binom (N+m) m+m<=2*binom (N+m) m+m:=Za _;obtain⟨E,_,f⟩:=zUc hA hb hc d;have le:=yZa hA hb hc hN hp d;have e:=(f B).1 (Zf le g);rw[e];exact⟨E,le,f⟩
end
def yZD:∀N,N<=14->∀m,m<=5->low N m+m+pmax 0 N m<=4000:=by decide +kernel
end Am
namespace Go.Proofs.YtbpjabgfcbjjmaaGreat
open Go.RowKit Am
variable {rows:List PRow}{cost:List Rat}{B m nC:Nat}
def oO:Out->Int
  | .spent _=>0
  | .none .. => 2
  | .best .. => 1
  | .falls .. => 3
section
variable (nC m:Nat) (cost:List Rat) (rows:List PRow)
def oX:Out->List Rat
  | .best cols _=>(zh1 (nC+cnt rows m+m) cols (za5 (zt0 (zc3 rows) (zg8 rows)) (zwh (zg8 rows)) cols)).take nC
  | .falls cols _ _=>(zh1 (nC+cnt rows m+m) cols (za5 (zt0 (zc3 rows) (zg8 rows)) (zwh (zg8 rows)) cols)).take nC
  | _=>[]
def oY:Out->List Rat
  | .none cols _=>bkL ((zg8 rows).map sgI) (zcl (zt0 (zc3 rows) (zg8 rows)) cols (zJG (nC+cnt rows m) m)) m
  | .best cols _=>bkL ((zg8 rows).map sgI) (zcl (zt0 (zc3 rows) (zg8 rows)) cols (zKb m (zjD cost rows))) m
  | _=>[]
def oZ:Out->List Rat
  | .falls cols j _=>(zTj (nC+cnt rows m+m) cols (zav (zt0 (zc3 rows) (zg8 rows)) cols j) j m).take nC
  | _=>[]
def sol:Out:=zSA (nC+cnt rows m) m (zc3 rows) (zg8 rows) (zjD cost rows) 4000
structure Sol (S:Nat) (o:Int) (X Y Z:List Rat):Prop where
  shows:(o=1/\zUP nC m cost rows X Y/\Z=[])\/(o=2/\X=[]/\zUQ nC m rows Y/\Z=[])\/(o=3/\Y=[]/\zUE nC cost rows X Z)
  zx:∀q∈X,mw q<=sB m S S
  zy:∀q∈Y,mw q<=sB m S S
  zz:∀q∈Z,mw q<=sB m S S+2
end
def Few (nC m:Nat) (rows:List PRow):Prop:=low (nC+cnt rows m) m+m+pmax 0 (nC+cnt rows m) m<=4000
def yxY(hc:nC<=5)(hm:m<=5)(h:nC+cnt rows m<=10):Few nC m rows:=yZD _ ω _ hm
def Good1.few(h:Good1 nC m cost rows):Few nC m rows:=yxY h.hc (by have:=h.hr;omega) (by have:=h.hc;have:=h.hr;have:=zgO rows m;omega)
section
variable {S nC m:Nat} {cost:List Rat} {rows:List PRow} (hg:GoodS S nC m cost rows) (hF:Few nC m rows) (hlc:cost.length=nC) (hlr:rows.length=m)
include hg hF hlc hlr
theorem yxd(d:low (nC+cnt rows m) m+m+pmax 0 (nC+cnt rows m) m<=B):Am.Ends m (nC+cnt rows m) (zc3 rows) (zg8 rows) (zjD cost rows) (zSA (nC+cnt rows m) m (zc3 rows) (zg8 rows) (zjD cost rows) B)/\(zSA (nC+cnt rows m) m (zc3 rows) (zg8 rows) (zjD cost rows) B).pivots<=low (nC+cnt rows m) m+m+pmax 0 (nC+cnt rows m) m/\∀a,((zSA (nC+cnt rows m) m (zc3 rows) (zg8 rows) (zjD cost rows) B).pivots<=a->zSA (nC+cnt rows m) m (zc3 rows) (zg8 rows) (zjD cost rows) a=zSA (nC+cnt rows m) m (zc3 rows) (zg8 rows) (zjD cost rows) B)/\(a<(zSA (nC+cnt rows m) m (zc3 rows) (zg8 rows) (zjD cost rows) B).pivots->∃n,zSA (nC+cnt rows m) m (zc3 rows) (zg8 rows) (zjD cost rows) a=.spent n) :=
 yYO (P:=0) (zVA hg.sh hlc hlr rfl) (zVz hg.sh hlc hlr rfl) (by unfold zjD;rw[Zz,ZQ,hlc,hlr]) ω (λt h=>absurd h (ZS _)) d
theorem z6D:(sol nC m cost rows).pivots<=4000/\∀a,((sol nC m cost rows).pivots<=a->zSA (nC+cnt rows m) m (zc3 rows) (zg8 rows) (zjD cost rows) a=sol nC m cost rows)/\(a<(sol nC m cost rows).pivots->∃n,zSA (nC+cnt rows m) m (zc3 rows) (zg8 rows) (zjD cost rows) a=.spent n):=by obtain⟨_,d,e⟩:=yxd hg hF hlc hlr hF;exact⟨Zf d hF,e⟩
theorem z6W:Sol nC m cost rows S (oO (sol nC m cost rows)) (oX nC m rows (sol nC m cost rows)) (oY nC m cost rows (sol nC m cost rows)) (oZ nC m rows (sol nC m cost rows)):=by
 have d:=(yxd hg hF hlc hlr hF).1;have h1:=z6E hg.sh hlc hlr rfl d;have a:=z6F hg hlc hlr rfl d;unfold sol;generalize zSA (nC+cnt rows m) m (zc3 rows) (zg8 rows) (zjD cost rows) 4000=o at *
 have nil:∀ {S:Nat},∀q∈([]:List Rat),mw q<=S:=λq e=>by cases e
 cases o with
 | spent n=>grind
 | none cols n=>exact⟨.inr (.inl ⟨rfl,rfl,h1,rfl⟩),nil,a,nil⟩
 | best cols n=>exact⟨.inl ⟨rfl,h1,rfl⟩,a.1,a.2,nil⟩
 | falls cols j n=>exact⟨.inr (.inr ⟨rfl,rfl,h1⟩),a.1,nil,a.2⟩
theorem z6H(n:Nat):sol nC m cost rows≠.spent n:=λh=>by have h1:=(yxd hg hF hlc hlr hF).1;unfold sol at h;rw[h]at h1;cases h1
end
def z6n (w:World) (o:Int) (X Y Z:List Rat) (n:Nat) (e:Ending) (w':World):Prop :=
  ∃(P:OA) (nP cP:Nat) (Q:OA) (nQ cQ:Nat) (D:OA) (nD cD:Nat),e=.returned (.tuple #[.agg #[.int .i64 o,(P,nP,cP),(Q,nQ,cQ),(D,nD,cD),(n:Int)],.nilIface])/\VecS w' 0 (P,nP,cP) X/\VecS w' 0 (Q,nQ,cQ) Y/\VecS w' 0 (D,nD,cD) Z/\Below w w w'
def zVM.u{w:World}{o:Out}{e:Ending}{w':World}(h:zVM w nC m (nC+cnt rows m) (nC+cnt rows m+m) (zc3 rows) (zg8 rows) (zjD cost rows) B o e w')(r:∀n,o≠.spent n):z6n w (oO o) (oX nC m rows o) (oY nC m cost rows o) (oZ nC m rows o) o.pivots e w':=by
 obtain⟨g,h⟩:=h;cases o with
 | spent n=>exact(r n rfl).elim
 | none cols n =>
  obtain⟨Y,f,a,k⟩:=h;exact⟨none,0,0,Y,m,f,none,0,0,a,.nil _ _,k.base (Zb _),.nil _ _,g⟩
 | best cols n =>
  obtain⟨P,d,Y,f,a,i,k⟩:=h;exact⟨P,nC,d,Y,m,f,none,0,0,a,i.base (Zb _),k.base (Zb _),.nil _ _,g⟩
 | falls cols j n =>
  obtain⟨P,d,D,l,a,i,p⟩:=h;exact⟨P,nC,d,none,0,0,D,nC,l,a,i.base (Zb _),.nil _ _,p.base (Zb _),g⟩
namespace Pr
section
variable (S:Nat) (C:OA) (nC cC:Nat) (R:OA) (m cR:Nat) (cost:List Rat) (rows:List PRow) (w:World) (hc:VecS w 0 (C,nC,cC) cost) (hr:RowsS w 0 (R,m,cR) rows) (hg:GoodS S nC m cost rows) (hF:Few nC m rows)
include hc hr hg hF
theorem z6T(K:Nat)(a:(sol nC m cost rows).pivots<=K)(d:K<=1000000):Calls Tryz.prog 13 #[.agg #[(C,nC,cC),(R,m,cR)],(K:Int)] w (z6n w (oO (sol nC m cost rows)) (oX nC m rows (sol nC m cost rows)) (oY nC m cost rows (sol nC m cost rows)) (oZ nC m rows (sol nC m cost rows)) (sol nC m cost rows).pivots):=by have h:=psolve S C nC cC R m cR cost rows _ _ K w hc hr hg rfl rfl d;rw[((z6D hg hF hc.len.symm hr.len.symm).2 K).1 a]at h;exact h.mono λ_ _ h=>h.u (z6H hg hF hc.len.symm hr.len.symm)
theorem z6X:Calls Tryz.prog 13 #[.agg #[(C,nC,cC),(R,m,cR)],.int .i64 4000] w (z6n w (oO (sol nC m cost rows)) (oX nC m rows (sol nC m cost rows)) (oY nC m cost rows (sol nC m cost rows)) (oZ nC m rows (sol nC m cost rows)) (sol nC m cost rows).pivots) :=
 z6T S C nC cC R m cR cost rows w hc hr hg hF 4000 (z6D hg hF hc.len.symm hr.len.symm).1 δ
end
end Pr
attribute [local go_sem ↓] Go.wp_at_zero Go.wp_at_succ
def keepT (p:List Rat) (may:List Bool) (k:Nat):List Bool:=(List.range may.length).map λj=>if j<k then may.getD j false&&decide (el p j=0)else may.getD j false
section
variable {W0 w w':World} {H q:Nat} {rA:OA} {rc:Nat} {lA:List Value} {bA:OA} {bc_:Nat} {kA:OA} {kc:Nat} {eA:OA} {ec m N S own:Nat} {A:List (List Rat)} {b c:List Rat} {left:List Int}
  {tA:OA} {tc:Nat} {cols:List Nat}
namespace Ca
end Ca
end
open Pb (zPu)
def ytf (nC NN:Nat) (A:List (List Rat)) (b:List Rat) (G:List Nat):List Rat:=(zh1 NN G (za5 A b G)).take nC
section
variable {W0 w w':World} {H q:Nat} {rA:OA} {rc:Nat} {lA:List Value} {bA:OA} {bc_:Nat} {kA:OA} {kc:Nat} {eA:OA} {ec m N S own:Nat} {A:List (List Rat)} {b c:List Rat} {left:List Int}
  {tA:OA} {tc:Nat} {cols:List Nat}
namespace Ca
end Ca
end
def cO:COut->Int
  | .spent _=>0
  | .none _=>2
  | .best .. => 1
  | .falls _=>3
section
variable (nC m:Nat) (cost:List Rat) (rows:List PRow)
def cX:COut->List Rat
  | .best _ G _=>ytf nC (nC+cnt rows m+m) (zt0 (zc3 rows) (zg8 rows)) (zwh (zg8 rows)) G
  | _=>[]
def cV:COut->Rat
  | .best _ G _=>dot cost (ytf nC (nC+cnt rows m+m) (zt0 (zc3 rows) (zg8 rows)) (zwh (zg8 rows)) G)
  | _=>0
end
section
variable {nC m:Nat} {cost:List Rat} {rows:List PRow} (hg:Good1 nC m cost rows) (hlc:cost.length=nC) (hlr:rows.length=m)
include hg hlc hlr
end
namespace Ca
section
variable (C:OA) (nC cC:Nat) (R:OA) (m cR:Nat) (cost:List Rat) (rows:List PRow) (w:World) (hc:VecS w 0 (C,nC,cC) cost) (hr:RowsS w 0 (R,m,cR) rows) (hg:Good1 nC m cost rows)
include hc hr hg
end
end Ca
end Go.Proofs.YtbpjabgfcbjjmaaGreat
namespace Go.Proofs.YtbpjabgfcbjjmaaGreat
open Go.RowKit Am
variable {rows:List PRow}{cost x:List Rat}{nC:Nat}{z:Nat->Rat}{p:PRow}
def asL (nC:Nat) (x:Nat->Rat):List Rat:=(List.range nC).map x
def yxw(nC:Nat)(x:Nat->Rat):(asL nC x).length=nC:=by simp[asL]
def yxv{j:Nat}(x:Nat->Rat)(h:j<nC):el (asL nC x) j=x j:=by
 unfold asL
 conv=>lhs;unfold el
 rw[zbU _ _ ψ 0,zcA h]
def yxp(h:p.coef.length=nC):dot p.coef x=ywR nC p (el x):=by unfold dot ziw ywR;rw[h]
def ywX(h:cost.length=nC):dot cost x=ywA nC cost (el x):=by unfold dot ziw ywA;rw[h]
def yxz{x:Nat->Rat}(e:∀j,j<nC->x j=z j):ywR nC p x=ywR nC p z:=zaj λj hj=>by rw[e j hj]
def yw9{x:Nat->Rat}(e:∀j,j<nC->x j=z j):ywA nC cost x=ywA nC cost z:=zaj λj hj=>by rw[e j hj]
def yxf{x:Nat->Rat}(e:∀j,j<nC->x j=z j)(h:ywM nC rows x):ywM nC rows z :=
 ⟨λj hj=>by rw[<-e j hj];exact h.1 j hj,λi hi=>by have a:=h.2 i hi;unfold ywH at a ⊢;rw[<-yxz e];exact a⟩
def yxa(hk:1<=p.kind/\p.kind<=3)(d:p.coef.length=nC):zdH p x=true↔ywH nC p (el x):=by rw[yel hk];unfold ywH zdp;rw[yxp d];grind
def ywY(a:Shape nC rows)(hc:cost.length=nC)(g:x.length=nC):znD cost rows x=true↔ywM nC rows (el x):=by rw[ydT];constructor;rintro⟨_,b,c⟩;exact⟨λj _=>b j,λi hi=>(yxa (a.kd _ (yd2 hi)) (a.co _ (yd2 hi))).1 (c _ (yd2 hi))⟩;rintro⟨b,c⟩;refine⟨ω,λj=>?_,λp d=>?_⟩;grind[zDb,Rat.le_refl];obtain⟨i,hi⟩:=Xh.1 d;have f:=(ZF.1 hi).1;have e:rows.getD i default=p:=zfC hi;have h:=c i f;rw[e]at h;exact(yxa (a.kd p d) (a.co p d)).2 h
def yw3{m:Nat}{y:List Rat}(h:Rows nC rows)(hc:cost.length=nC)(g:rows.length=m)(d:Signs m rows y)(f:∀j,j<nC->zai m (λi=>el y i*el (rows.getD i default).coef j)<=el cost j):ydS nC cost rows y=true:=by subst g;refine(ydU h hc).2 ⟨f,λk hk=>?_⟩;unfold zIc;have a:=d.s1 k hk;have b:=d.s2 k hk;rw[YF,Bool.or_eq_false_iff,Vo,Vo,decide_eq_false_iff_not,decide_eq_false_iff_not,decide_eq_false_iff_not,decide_eq_false_iff_not];grind
open Go.RowKit Am Dz
structure DocP (nC m:Nat) (cost:List Rat) (rows:List PRow) (A:List (List Int)) (B:List Int) (c:Nat->Rat):Prop where
  hf:Form nC m rows
  lc:cost.length=nC
  la:A.length=m
  ra:∀r∈A,r.length=nC+cnt rows m
  ea:∀i,i<m->∀j,j<nC+cnt rows m->(ez A i j:Rat)=en (zc3 rows) i j
  eb:∀i,i<m->((B.getD i 0:Int):Rat)=el (zg8 rows) i
  ec:∀j,j<nC+cnt rows m->c j=el (zjD cost rows) j
def y3f (A:List (List Int)) (B:List Int) (c:Nat->Rat) (N:Nat):Int:=if y1k A B N=[]then 2 else if y1E A c N=true then 3 else 1
def y3C(f:List Rat->Rat):∀L:List (List Rat),∃M:Rat,∀z∈L,M<=f z
 | []=>⟨0,λz h=>by cases h⟩
 | x::L=>by obtain⟨M,b⟩:=y3C f L;by_cases e:f x<=M;refine⟨f x,λz a=>?_⟩;rcases XI.1 a with rfl | h;exact XG;exact YE e (b z h);refine⟨M,λz a=>?_⟩;rcases XI.1 a with rfl | h;exact XZ (Rat.not_le.1 e);exact b z h
section
variable {nC m:Nat} {cost:List Rat} {rows:List PRow} {A:List (List Int)} {B:List Int} {c:Nat->Rat} (h:DocP nC m cost rows A B c)
include h
theorem y2M{x:Nat->Rat}(b:ywM nC rows x):FitZ A B (nC+cnt rows m) (ywz nC rows x)/\y1j (nC+cnt rows m) c (ywz nC rows x)=ywA nC cost x:=by
 have d:=h.hf.len;refine⟨⟨λi hi=>?_,λj _=>ywO h.hf b j⟩,?_⟩;have a:i<m:=by have:=h.la;omega
 have:=ywL h.hf b (i:=i) ω;rw[d]at this;rw[h.eb i a,ywD h.hf ω,<-this];exact zaj λj hj=>by rw[h.ea i a j hj]
 unfold y1j ywA;rw[zaj λj hj=>by rw[h.ec j hj],zUp h.lc];exact zaj λj hj=>by unfold ywz;rw[if_pos hj]
theorem y3g(a:FitZ A B (nC+cnt rows m) z):ywM nC rows z/\ywA nC cost z=y1j (nC+cnt rows m) c z:=by
 refine⟨?_,?_⟩;refine yxf (x:=λj=>if j<nC+cnt rows m then z j else 0) (λj hj=>by show(if j<nC+cnt rows m then z j else 0)=z j;rw[if_pos ω]) (ywP h.hf (λj=>?_) λi hi=>?_);show 0<=(if j<nC+cnt rows m then z j else 0)
 split
 rename_i q;exact a.nn j q;exact XG;rw[<-h.eb i hi,<-a.row i (by have:=h.la;omega)];exact zaj λj hj=>by rw[h.ea i hi j hj];show _*(if j<nC+cnt rows m then z j else 0)=_;rw[if_pos hj]
 unfold y1j ywA;rw[zaj (n:=nC+cnt rows m) λj hj=>by rw[h.ec j hj],zUp h.lc]
theorem y4K(a:∀x,¬ywM nC rows x):y3f A B c (nC+cnt rows m)=2:=by
 unfold y3f;rw[if_pos];by_cases e:y1k A B (nC+cnt rows m)=[]
 exact e;obtain⟨z,b⟩:=(y16 h.ra).2 e;exact absurd (y3g h b).1 (a z)
theorem y3Z(h0:y1E A c (nC+cnt rows m)=false)(d:Nat->Rat)(a:WayZ A (nC+cnt rows m) d):0<=y1j (nC+cnt rows m) c d:=XP.1 λhc=>by have:=(y2Z h.ra c).2 ⟨d,a,hc⟩;rw[h0]at this;cases this
theorem y3Y(a:∀M:Rat,∃x,ywM nC rows x/\ywA nC cost x<M):y3f A B c (nC+cnt rows m)=3:=by unfold y3f;obtain⟨j,g,_⟩:=a 0;rw[if_neg ((y16 h.ra).1 ⟨_,(y2M h g).1⟩),if_pos];cases e:y1E A c (nC+cnt rows m);obtain⟨M,b⟩:=y3C (λz=>y1j (nC+cnt rows m) c (el z)) (y1k A B (nC+cnt rows m));obtain⟨x,f,d⟩:=a M;obtain⟨hf,hc⟩:=y2M h f;obtain⟨y,i,hle⟩:=y2i h.ra c (y3Z h e) hf;have:=b y i;rw[hc]at hle;exact absurd d (XP.2 (YE this hle));rfl
theorem y4J{X:Nat->Rat}(n:ywM nC rows X)(f:∀x,ywM nC rows x->ywA nC cost X<=ywA nC cost x):y3f A B c (nC+cnt rows m)=1/\(∀z∈y1k A B (nC+cnt rows m),ywA nC cost X<=y1j (nC+cnt rows m) c (el z))/\∃z∈y1k A B (nC+cnt rows m),y1j (nC+cnt rows m) c (el z)=ywA nC cost X:=by
 obtain⟨hf,hc⟩:=y2M h n;have e:y1E A c (nC+cnt rows m)=false:=by
  cases e:y1E A c (nC+cnt rows m);rfl;obtain⟨d,g,t⟩:=(y2Z h.ra c).1 e;have q:0 < -y1j (nC+cnt rows m) c d:=ψ;have p:=YL.2 q;have s:=Rat.mul_inv_cancel _ (show -y1j (nC+cnt rows m) c d≠0 by grind);have o:FitZ A B (nC+cnt rows m) λj=>ywz nC rows X j+(-y1j (nC+cnt rows m) c d)⁻¹*d j:=⟨λi hi=>by rw[y2j,hf.row i hi,g.row i hi];grind,λj hj=>by have:=hf.nn j hj;have:=Xt (XZ p) (g.nn j hj);grind⟩
  obtain⟨a,b⟩:=y3g h o;have:=f _ a;rw[b]at this;have l:y1j (nC+cnt rows m) c (λj=>ywz nC rows X j+(-y1j (nC+cnt rows m) c d)⁻¹*d j)=y1j (nC+cnt rows m) c (ywz nC rows X)+(-y1j (nC+cnt rows m) c d)⁻¹*y1j (nC+cnt rows m) c d:=by unfold y1j;simp[y2j]
  rw[l,hc]at this;grind
 obtain⟨y,k,hle⟩:=y2i h.ra c (y3Z h e) hf;have low:∀z∈y1k A B (nC+cnt rows m),ywA nC cost X<=y1j (nC+cnt rows m) c (el z):=λz r=>by obtain⟨a,b⟩:=y3g h (points_fit h.ra r).2;rw[<-b];exact f _ a
 refine⟨?_,low,y,k,Rat.le_antisymm (by rw[<-hc];exact hle) (low y k)⟩;unfold y3f;rw[if_neg ((y16 h.ra).1 ⟨_,hf⟩),e];rfl
end
structure ZRow where
  coef:List Int
  kind:Int
  rhs:Int
deriving Inhabited
def y6C (xs:List Int):List Rat:=xs.map fun(x:Int)=>(x:Rat)
def toR (p:ZRow):PRow:=⟨y6C p.coef,p.kind,(p.rhs:Rat)⟩
def toP (rows:List ZRow):List PRow:=rows.map toR
def y6B(xs:List Int)(j:Nat):el (y6C xs) j=((xs.getD j 0:Int):Rat):=by unfold el y6C;rw[Zh,Z1,Zh];cases xs[j]? <;> rfl
def y6x(xs:List Int):(y6C xs).length=xs.length:=by simp[y6C]
def y1N(rows:List ZRow):(toP rows).length=rows.length:=by simp[toP]
def y1T{rows:List ZRow}{k:Nat}(h:k<rows.length):(toP rows).getD k default=toR (rows.getD k default):=zbU _ _ h default default
def y1P (rows:List ZRow) (r:Nat):Nat->List Int
  | 0=>[]
  | k+1=>y1P rows r k++if (rows.getD k default).kind=3 then []else [if r=k then 3-2*(rows.getD k default).kind else 0]
def y2C (rows:List ZRow):List (List Int):=(List.range rows.length).map λr=>(rows.getD r default).coef++y1P rows r rows.length
def y29 (rows:List ZRow):List Int:=rows.map λp=>p.rhs
def y3a (cost:List Int) (rows:List ZRow):List Int:=cost++List.replicate (cnt (toP rows) rows.length) 0
def y1R(rows:List ZRow)(r:Nat):∀k,k<=rows.length->(y1P rows r k).length=cnt (toP rows) k
 | 0,_=>rfl
 | k+1,h=>by
  unfold y1P;rw[cnt,Zz,y1R rows r k ω,y1T ω];show _+_=_+if (rows.getD k default).kind=3 then 0 else 1
  split<;>rfl
def y3z(rows:List ZRow)(r:Nat):∀k t,k<=rows.length->t<cnt (toP rows) k->(y1P rows r k).getD t 0=if r<k/\(rows.getD r default).kind≠3/\t=cnt (toP rows) r then 3-2*(rows.getD r default).kind else 0
 | 0,t,_,h=>absurd h (ZS _)
 | k+1,t,hk,h=>by
  have g:=y1R rows r k ω;unfold y1P;have hc:cnt (toP rows) (k+1)=cnt (toP rows) k+if (rows.getD k default).kind=3 then 0 else 1:=by rw[cnt,y1T ω];rfl
  rcases ZM t (cnt (toP rows) k)with q | q;rw[y1m ω,y3z rows r k t ω q];grind;by_cases a:(rows.getD k default).kind=3;rw[hc,if_pos a]at h;omega;rw[hc,if_neg a]at h;obtain rfl:t=cnt (toP rows) k:=ω;rw[if_neg a,<-g,y1r,g];by_cases b:r=k;subst b;rw[if_pos rfl,if_pos ⟨ω,a,rfl⟩];rw[if_neg b,if_neg];rintro⟨h1,d,f⟩;have i:((toP rows).getD k default).kind≠3:=by rw[y1T ω];exact a
  have j:((toP rows).getD r default).kind≠3:=by rw[y1T ω];exact d
  grind[zX7]
def y2L(rows:List ZRow):(y2C rows).length=rows.length:=by simp[y2C]
def y5p{rows:List ZRow}{i:Nat}(h:i<rows.length):(y2C rows).getD i []=(rows.getD i default).coef++y1P rows i rows.length:=by unfold y2C;rw[zbU _ _ ψ 0,zcA h]
def y6e{cost:List Int}{rows:List ZRow}(hc:cost.length=nC)(h1:∀p∈rows,p.coef.length=nC)(b:∀p∈rows,p.kind=1\/p.kind=2\/p.kind=3) :
  DocP nC rows.length (y6C cost) (toP rows) (y2C rows) (y29 rows) λj=>(((y3a cost rows).getD j 0:Int):Rat):=by
 have a:∀ {k},k<rows.length->rows.getD k default∈rows:=λhk=>Zj (zaO hk)
 have lc:∀k,k<(toP rows).length->((toP rows).getD k default).coef.length=nC:=λk hk=>by rw[y1N]at hk;rw[y1T hk];show(y6C _).length=nC;rw[y6x];exact h1 _ (a hk)
 refine⟨⟨y1N rows,lc,λk hk=>?_⟩,by rw[y6x,hc],y2L rows,λr hr=>?_,λi hi j hj=>?_,λi hi=>?_,λj hj=>?_⟩;rw[y1N]at hk;rw[y1T hk];exact b _ (a hk);unfold y2C at hr;obtain⟨i,hi,rfl⟩:=ZH.1 hr;have d:=Xb.1 hi;rw[Zz,h1 _ (a d),y1R rows i _ (Za _)];unfold ez;rw[y5p hi];rcases ZM j nC with q | q;rw[y1m (by rw[h1 _ (a hi)];exact q),zWW lc (by rw[y1N];exact hi) q,y1T hi];exact(y6B _ _).symm;obtain⟨t,rfl⟩:∃t,j=nC+t:=⟨j-nC,ω⟩
 have f:=zvs lc (k:=i) (t:=t) (by rw[y1N];exact hi) (by rw[y1N];omega);rw[f,Zh,ZN (by rw[h1 _ (a hi)];omega),h1 _ (a hi),show nC+t-nC=t by omega,<-Zh,y3z rows i _ t (Za _) ω,y1T hi];show _=if (rows.getD i default).kind≠3/\t=cnt (toP rows) i then ((zfI (rows.getD i default).kind:Int):Rat)else 0
 by_cases e:(rows.getD i default).kind≠3/\t=cnt (toP rows) i;rw[if_pos e,if_pos ⟨hi,e⟩];unfold zfI;rcases b _ (a hi)with k1 | k1 | k1;rw[k1];rfl;rw[k1];rfl;exact absurd k1 e.1;rw[if_neg e,if_neg λg=>e g.2];rfl;rw[zKf (by rw[y1N];exact hi),y1T hi];unfold y29;rw[zbU _ _ hi default];rfl;rw[zTB (by rw[y6x,hc])];unfold y3a;rcases ZM j nC with q | q;rw[if_pos q,y1m (by rw[hc];exact q),y6B];rw[if_neg ω,Zh,ZN (by rw[hc];exact q),Z9];split<;>rfl
end Go.Proofs.YtbpjabgfcbjjmaaGreat
namespace Go.Proofs.YtbpjabgfcbjjmaaGreat
open Go.RowKit Am Go.Proofs.Tryz
variable {x:Int}{r xs ys:List Int}{l:List Value}{H N a b c k m n:Nat}{A:OA}{q:Rat}{t:TypeId}{g u v:Value}{w:World}
structure TabZ (w:World) (H:Nat) (v:Value) (l:List Value) (M:List (List Int)):Prop where
  len:l.length=M.length
  each:∀(k:Nat) (s:Value) (r:List Int),l[k]? = some s->M[k]? = some r->IntsZ w 0 s r
  own:w.ownsRow H 41 1 v M.length l
namespace TabZ
variable {w w':World} {H:Nat} {v:Value} {l:List Value} {M:List (List Int)}
def keepAll(h:TabZ w H v l M)(hk:∀k,v.ownBlock=some k->w'.heap[k]? = w.heap[k]?)(hr:∀s r,s∈l->IntsZ w 0 s r->IntsZ w' 0 s r):TabZ w' H v l M :=
 ⟨h.len,λk s r a b=>hr s r (Zj a) (h.each k s r a b),zc9 h.own hk⟩
def below(h:TabZ w H v l M)(a:Below w w w'):TabZ w' H v l M:=h.keepAll (λk hk=>a.block k (h.own.lt k hk).2) λ_ _ _ r=>r.below a
def alloc(h:TabZ w H v l M)(o:Obj):TabZ (w.alloc o) H v l M:=h.below (zae w o)
def drew(h:TabZ w H v l M):TabZ w.drew H v l M:=h.below (zap w 1)
def base(h:TabZ w H v l M)(b:a<=H):TabZ w a v l M:=⟨h.len,h.each,zbu h.own b⟩
theorem nil(w:World)(H:Nat):TabZ w H () [] []:=⟨rfl,λk s r h=>by simp at h,Xs _ _ _ _⟩
def tk{t:TypeId}(h:TabZ w H v l M)(hk:TKeep t w w')(h1:3≠t)(b:41≠t):TabZ w' H v l M :=
 h.keepAll (λk a=>hk k (h.own.lt k a).2 λcs e=>za6 h.own e b a) λ_ _ _ r=>r.tk hk h1
def form(h:TabZ w H (A,n,c) l M):n=M.length/\n<=c/\c<=maxLen/\((A=none/\c=0/\M=[])\/∃g,A=some ⟨g,0,none⟩/\H<=g/\g<w.heap.size):=by
 rcases h.own.2 with ⟨b,a⟩ | ⟨g,cap,cur,b,hg,d,a,hm,_⟩
 injection b with e1 e2 e3;subst e1 e2 e3;exact⟨a.symm,Za _,Zb _,.inl ⟨rfl,rfl,Xo.1 a⟩⟩;injection b with e1 e2 e3;subst e1 e2 e3;exact⟨rfl,a,hm,.inr ⟨g,rfl,hg,(ZU.1 d).1⟩⟩
def nlen(h:TabZ w H (A,n,c) l M):n=M.length:=h.form.1
def has(h:TabZ w H (A,n,c) l M)(e:0<n):∃g,A=some ⟨g,0,none⟩/\H<=g/\g<w.heap.size:=by obtain⟨h1,b,d,a | a⟩:=h.form;omega;exact a
def slice(h:TabZ w H v l M):∃A c,v=.slice A M.length c:=by
 rcases h.own.2 with ⟨a,b⟩ | ⟨g,cap,cur,a,_⟩
 exact⟨_,_,by rw[a,b]⟩;grind
def fro(h:TabZ w H (b,n,c) l M)(j:Nat):w.frozen? ⟨b,j,none⟩=false:=by have a:=h.nlen;subst a;exact h.own.frozenAt j
def get(h:TabZ w H v l M)(hk:M[k]? = some r):∃(A:OA) (c:Nat),l[k]? = some (A,r.length,c)/\IntsZ w 0 (A,r.length,c) r:=by
 have d:=(ZF.1 hk).1;obtain⟨s,b⟩:∃s,l[k]? = some s:=⟨l[k]'(by rw[h.len];exact d),Ze _⟩
 have a:=h.each k s r b hk;obtain⟨A,c,rfl⟩:=a.slice;grind
def at_(h:TabZ w H (b,n,c) l M)(hk:M[k]? = some r):∃(A:OA) (c:Nat),l[k]? = some (A,r.length,c)/\χ w b k (A,r.length,c)/\IntsZ w 0 (A,r.length,c) r:=by have d:=h.nlen;subst d;obtain⟨A,c',a,e⟩:=h.get hk;have f:=(ZF.1 hk).1;exact⟨A,c',a,by rw[h.own.cellAt _ ω];exact a,e⟩
end TabZ
def y4N:(prog.info? 41).map (λi=>(i.zero,i.size,i.bytes))=some (some (.slice none 0 0),1,24):=ξ
def y32:(prog.info? 36).map (λi=>(i.zero,i.size,i.bytes))=some (some (.agg #[.int .i64 0,.int .i64 0]),2,16):=ξ
def y4M:(prog.info? 37).map (λi=>(i.zero,i.size,i.bytes))=some (some (.slice none 0 0),1,24):=ξ
def News (w:World) (sz:Nat) (u:Value) (m:Nat) (news:List Value):Prop:=(u=()/\m=0/\news=[])\/∃(ad:Addr) (c:Nat),u=.slice (some ad) m c/\news.length=m*sz/\(∀j x,news[j]? = some x->w.cell? (ad.add j)=some x)/\∀x∈news,x.oneCell'=true
def y2l{o:Oper}{a:Act}{K:Act->World->Prop}{Q:Exit->Act->World->Prop}(s x:Operand){e:TypeId}{z:Value}{sz:Nat}(f:Nat)
  (A:o.op=.call { callee:=.builtin .append,args:=#[s,x],argTypes:=#[t,t] }) (C:prog.underlying t=some (.slice e)) (hi:(prog.info? e).map (λi=>(i.zero,i.size,i.bytes))=some (some z,sz,f)) (V:z.cells.size=sz) (T:0<sz) (G:f<=56)
     {xs:List Value} (B:a.eval s=v) (d:w.ownsRow H e sz v n xs)   {news:List Value} (D:a.eval x=u) (U:News w sz u m news) (N:n+m<=1000000) (q:H<=w.heap.size)
  (r:∀b w',w'.ownsRow H e sz b (n+m) (xs++news)->TKeep e w w'->Below H w w'->(∀j,j<w.heap.size->v.ownBlock≠some j->w'.heap[j]? = w.heap[j]?)->(b.ownBlock=v.ownBlock\/b.ownBlock=some w.heap.size)->K (a.put o.dst b) w'):Oper.wp prog o a w K Q:=by
 obtain⟨E,y,W,X,Y⟩:=info_parts hi;rcases U with ⟨rfl,rfl,rfl⟩ | ⟨F,c,rfl,J,hc,h1⟩
 have p:=run_append_owned_none (P:=prog) (w:=w) H t o.type e E sz C y v n xs d;exact Lib.wp_append_run w s x t t A v _ B D v w p (r v w (by rw[XT];exact d) (λ_ _ _=>rfl) (Zl _ _) (λ_ _ _=>rfl) (.inl rfl));have I:(n+m)*f<=140737488355328:=Zf (Xr N G) δ;obtain⟨b,w',p,S,g,_,R⟩:=run_append_own_at (P:=prog) w H t o.type e E z sz f C y W X Y V T v n xs d F m c news J hc h1 (by unfold maxLen;omega) I q;exact Lib.wp_append_run w s x t t A v _ B D b w' p (r b w' S (TKeep.grown d g) ((Zl _ _).grown g q (λk hk=>(d.lt k hk).1)) (λj hj O=>g.block j hj (λe=>O e.symm)) R)
def wpl{ops:Array Oper}{rest:List Oper}{o:Oper}{a:Act}{Q:Exit->Act->World->Prop}(e:o.guard=none){R:Value->World->Prop}(h:∀K:Act->World->Prop,(∀b w',R b w'->K (a.put o.dst b) w')->Oper.wp prog o a w K Q)(c:∀b w',R b w'->wpList prog ops Q rest (a.put o.dst b) w'):wpList prog ops Q (o::rest) a w :=
 by grind[wpList_plain]
def wps{ops:Array Oper}{o:Oper}{a:Act}{Q:Exit->Act->World->Prop}{E:Prop}{K:Act->World->Prop}(hg:o.guard=none){R:Value->World->Prop}(h:∀K:Act->World->Prop,(∀b w',R b w'->K (a.put o.dst b) w')->Oper.wp prog o a w K Q)(c:∀b w',R b w'->K (a.put o.dst b) w') :
  if Region.wanted o (yielded ops a.tmps)=true then Oper.wp prog o a w K Q else E:=by
 have hw:Region.wanted o (yielded ops a.tmps)=true:=by simp[Region.wanted,hg]
 rw[if_pos hw];exact h _ c
def y19(c:θ w b #[u] t)(d:u.oneCell'=true):News w 1 (.slice (some ⟨b,0,none⟩) 1 1) 1 [u]:=.inr ⟨_,_,rfl,rfl,zrj c,λx a=>ψ⟩
def y6k{p q:Int}(c:θ w b #[.int .i64 p,.int .i64 q] t):News w 2 (.slice (some ⟨b,0,none⟩) 1 1) 1 [.int .i64 p,.int .i64 q]:=by
 refine .inr ⟨_,_,rfl,rfl,λj x a=>?_,λx a=>?_⟩;rw[show(⟨b,0,none⟩:Addr).add j=⟨b,j,none⟩by unfold Addr.add;split<;>simp_all,zac c];rw[<-a];rcases j with _ | _ | j<;>simp
 simp at a;rcases a with rfl | rfl<;>rfl
def y3s(b o j:Nat):(⟨b,o,none⟩:Addr).add j=⟨b,o+j,none⟩:=by unfold Addr.add;split<;>simp_all
def IntsZ.news(h:IntsZ w H v ys):News w 1 v ys.length (zcells ys):=by obtain⟨A,c,rfl⟩:=h.slice;obtain⟨_,_,_,⟨rfl,rfl,rfl⟩ | ⟨g,rfl,_,_⟩⟩:=h.form;exact .inl ⟨rfl,rfl,rfl⟩;exact .inr ⟨_,_,rfl,by rw[zmo,XB],λj u a=>h.own.cells (g:=g) rfl j u a,zsA ys⟩
def IntsZ.newsCut(h:IntsZ w H (b,n,c) ys)(lo hi:Nat)(h1:lo<=hi)(e:hi<=n):News w 1 (.slice (some ⟨b,lo,none⟩) (hi-lo) (c-lo)) (hi-lo) (zcells ((ys.take hi).drop lo)):=by
 have f:=h.len;refine .inr ⟨_,_,rfl,by rw[zmo,XB,Yh,ZI];omega,λj u d=>?_,zsA _⟩;rw[y3s];simp only[zcells,Z1,Option.map_eq_some_iff]at d;obtain⟨x,a,rfl⟩:=d;have hj:lo+j<hi:=by have:=(ZF.1 a).1;rw[Yh,ZI]at this;omega
 rw[YU,List.getElem?_take_of_lt hj]at a;exact h.at_ a
def y1n{o:Oper}{a:Act}{Q:Exit->Act->World->Prop}(s x:Operand)(r:o.op=.call { callee:=.builtin .append,args:=#[s,x],argTypes:=#[41,41] })
     (t:a.eval s=v) (y:IntsZ w H v xs)    (z:a.eval x=u) (i:News w 1 u m (zcells ys))  (hN:xs.length+m=N) (q:N<=1000000) (n:H<=w.heap.size) (K:Act->World->Prop)
  (p:∀d w',(∃b c',d=.slice b N c'/\IntsZ w' H (.slice b N c') (xs++ys)/\TKeep 3 w w'/\Below H w w'/\(∀j,j<w.heap.size->v.ownBlock≠some j->w'.heap[j]? = w.heap[j]?)/\((Value.slice b N c').ownBlock=v.ownBlock\/(Value.slice b N c').ownBlock=some w.heap.size))->K (a.put o.dst d) w'):Oper.wp prog o a w K Q:=by
 subst hN;have hm:m=ys.length:=by
  rcases i with ⟨_,e,c⟩ | ⟨_,_,_,c,_⟩
  have:=congrArg List.length c;rw[zmo]at this;simp at this;rw[e,this];rfl;rw[zmo,XB]at c;exact c.symm
 refine y2l s x 8 r underlying41 znF rfl δ δ t y.own z i q n λd w' h1 e c k g=>?_;have f:IntsZ w' H d (xs++ys):=⟨by rw[Zz,<-hm];simpa[zcells]using h1⟩
 obtain⟨b,c',rfl⟩:=f.slice;rw[Zz,<-hm]at f g ⊢;grind
def y1Q{o:Oper}{a:Act}{Q:Exit->Act->World->Prop}(s x:Operand)(G:o.op=.call { callee:=.builtin .append,args:=#[s,x],argTypes:=#[71,71] })
     {M:List (List Int)} (I:a.eval s=v) (f:TabZ w H v l M)  (O:a.eval x=.slice (some ⟨b,0,none⟩) 1 1)   (D:θ w b #[g] 41) (hr:IntsZ w 0 g r)
   (hN:M.length+1=N) (F:N<=1000000) (B:H<=w.heap.size) (K:Act->World->Prop)
  (C:∀i w',(∃d c',i=.slice d N c'/\TabZ w' H (.slice d N c') (l++[g]) (M++[r])/\TKeep 41 w w'/\Below H w w'/\(∀j,j<w.heap.size->v.ownBlock≠some j->w'.heap[j]? = w.heap[j]?)/\((Value.slice d N c').ownBlock=v.ownBlock\/(Value.slice d N c').ownBlock=some w.heap.size))->K (a.put o.dst i) w'):Oper.wp prog o a w K Q:=by
 subst hN;obtain⟨P,R,J⟩:=hr.slice;refine y2l s x 24 G underlying71 y4N rfl δ δ I f.own O (y19 D (by rw[J];rfl)) F B λi w' h1 m z A t=>?_
 have n:TabZ w' H i (l++[g]) (M++[r]):=by
  refine⟨by simp[f.len],λk q y c e=>?_,by rw[Zz];exact h1⟩;by_cases u:k<l.length;rw[Z4 u]at c;rw[Z4 (by rw[<-f.len];exact u)]at e;exact(f.each k q y c e).tk m δ;rw[ZN ω]at c;rw[ZN (by rw[<-f.len];omega),<-f.len]at e;obtain⟨p,E⟩:∃p,k-l.length=p:=⟨_,rfl⟩
  rw[E]at c e;cases p with
  | zero=>simp at c e;subst c e;exact hr.tk m δ
  | succ=>simp at c
 obtain⟨d,c',rfl⟩:=n.slice;rw[Zz]at n t ⊢;exact C _ _ ⟨d,c',rfl,n,m,z,A,t⟩
def fcells:List Rat->List Value
  | []=>[]
  | q::l=>.int .i64 q.num::.int .i64 (q.den:Int)::fcells l
def y2E:∀l:List Rat,(fcells l).length=l.length*2
 | []=>rfl
 | q::l=>by show(fcells l).length+2=(l.length+1)*2;rw[y2E l];omega
def y18:∀l m:List Rat,fcells (l++m)=fcells l++fcells m
 | [],_=>rfl
 | q::l,m=>by show _::_::fcells (l++m)=_;rw[y18 l m];rfl
def y20:∀ {l:List Rat} {k:Nat} {q:Rat},l[k]? = some q->(fcells l)[k*2]? = some (.int .i64 q.num)/\(fcells l)[k*2+1]? = some (.int .i64 (q.den:Int))
 | [],k,q,h=>by simp at h
 | p::l,0,q,h=>by simp at h;subst h;exact⟨rfl,rfl⟩
 | p::l,k+1,q,h=>by have:=y20 (l:=l) (k:=k) (q:=q) ψ;rw[show(k+1)*2=k*2+2 by omega];exact this
def y2F:∀(l:List Rat) (k:Nat) (q:Rat),fcells (l.set k q)=((fcells l).set (k*2) (.int .i64 q.num)).set (k*2+1) (q.den:Int)
 | [],k,q=>rfl
 | p::l,0,q=>rfl
 | p::l,k+1,q=>by
  rw[show(k+1)*2=k*2+2 by omega];show _::_::fcells (l.set k q)=_::_::_
  rw[y2F l k q]
structure FracsZ (w:World) (H:Nat) (v:Value) (qs:List Rat):Prop where
  own:w.ownsRow H 36 2 v qs.length (fcells qs)
namespace FracsZ
variable {w w':World} {H:Nat} {v:Value} {qs:List Rat}
def keep(h:FracsZ w H v qs)(hk:∀k,v.ownBlock=some k->w'.heap[k]? = w.heap[k]?):FracsZ w' H v qs:=⟨zc9 h.own hk⟩
def below(h:FracsZ w H v qs)(a:Below w w w'):FracsZ w' H v qs:=h.keep λk hk=>a.block k (h.own.lt k hk).2
def alloc(h:FracsZ w H v qs)(o:Obj):FracsZ (w.alloc o) H v qs:=h.below (zae w o)
def drew(h:FracsZ w H v qs):FracsZ w.drew H v qs:=h.below (zap w 1)
def base(h:FracsZ w H v qs)(b:a<=H):FracsZ w a v qs:=⟨zbu h.own b⟩
theorem nil(w:World)(H:Nat):FracsZ w H () []:=⟨Xs _ _ _ _⟩
def tk(h:FracsZ w H v qs)(hk:TKeep t w w')(h1:36≠t):FracsZ w' H v qs :=
 h.keep λk a=>hk k (h.own.lt k a).2 λcs e=>za6 h.own e h1 a
def form(h:FracsZ w H (A,n,c) qs):n=qs.length/\n<=c/\c<=maxLen/\((A=none/\c=0/\qs=[])\/∃g,A=some ⟨g,0,none⟩/\H<=g/\g<w.heap.size):=by
 rcases h.own.2 with ⟨b,a⟩ | ⟨g,cap,cur,b,hg,d,a,hm,_⟩
 injection b with e1 e2 e3;subst e1 e2 e3;exact⟨a.symm,Za _,Zb _,.inl ⟨rfl,rfl,Xo.1 a⟩⟩;injection b with e1 e2 e3;subst e1 e2 e3;exact⟨rfl,a,hm,.inr ⟨g,rfl,hg,(ZU.1 d).1⟩⟩
def len(h:FracsZ w H (A,n,c) qs):n=qs.length:=h.form.1
def has(h:FracsZ w H (A,n,c) qs)(e:0<n):∃g,A=some ⟨g,0,none⟩/\H<=g/\g<w.heap.size:=by obtain⟨h1,b,d,a | a⟩:=h.form;omega;exact a
def slice(h:FracsZ w H v qs):∃A c,v=.slice A qs.length c:=by
 rcases h.own.2 with ⟨a,b⟩ | ⟨g,cap,cur,a,_⟩
 exact⟨_,_,by rw[a,b]⟩;grind
def fro(h:FracsZ w H (b,n,c) qs)(j:Nat):w.frozen? ⟨b,j,none⟩=false:=by have a:=h.len;subst a;exact h.own.frozenAt j
def at_(h:FracsZ w H (b,n,c) qs)(hk:qs[k]? = some q):χ w b (k*2) (.int .i64 q.num)/\χ w b (k*2+1) (.int .i64 (q.den:Int)):=by have d:=h.len;subst d;have e:=(ZF.1 hk).1;obtain⟨h1,a⟩:=y20 hk;exact⟨by rw[h.own.cellAt _ ω];exact h1,by rw[h.own.cellAt _ ω];exact a⟩
def store(h:FracsZ w H (b,n,c) qs)(k:Nat)(q:Rat):FracsZ ((w.setCell ⟨b,k*2,none⟩ (.int .i64 q.num)).setCell ⟨b,k*2+1,none⟩ (q.den:Int)) H (b,n,c) (qs.set k q):=by have a:=h.len;subst a;refine⟨?_⟩;have:=((h.own.stored (k*2) (.int .i64 q.num)).1.stored (k*2+1) (q.den:Int)).1;rw[ZW,y2F];exact this
end FracsZ
def IntsZ.store(h:IntsZ w H (b,n,c) xs)(k:Nat)(x:Int):IntsZ (w.setCell ⟨b,k,none⟩ (.int .i64 x)) H (b,n,c) (xs.set k x):=by have a:=h.len;subst a;refine⟨?_⟩;have:=(h.own.stored k (.int .i64 x)).1;rw[ZW];simpa[zcells,Vf]using this
def y4B{o:Oper}{a:Act}{Q:Exit->Act->World->Prop}(s x:Operand)(n:o.op=.call { callee:=.builtin .append,args:=#[s,x],argTypes:=#[37,37] })
    {qs:List Rat} (p:a.eval s=v) (r:FracsZ w H v qs)  (t:a.eval x=.slice (some ⟨b,0,none⟩) 1 1)  (k:θ w b #[.int .i64 q.num,(q.den:Int)] 36)
   (hN:qs.length+1=N) (m:N<=1000000) (i:H<=w.heap.size) (K:Act->World->Prop)
  (j:∀d w',(∃c c',d=.slice c N c'/\FracsZ w' H (.slice c N c') (qs++[q])/\TKeep 36 w w'/\Below H w w')->K (a.put o.dst d) w'):Oper.wp prog o a w K Q:=by
 subst hN;refine y2l s x 16 n underlying37 y32 rfl δ δ p r.own t (y6k k) m i λd w' h1 f g u y=>?_;have e:FracsZ w' H d (qs++[q]):=⟨by rw[Zz,y18];exact h1⟩
 obtain⟨c,c',rfl⟩:=e.slice;rw[Zz]at e ⊢;exact j _ _ ⟨c,c',rfl,e,f,g⟩
structure PtsZ (w:World) (H:Nat) (v:Value) (l:List Value) (L:List (List Rat)):Prop where
  len:l.length=L.length
  each:∀(k:Nat) (s:Value) (r:List Rat),l[k]? = some s->L[k]? = some r->FracsZ w 0 s r
  own:w.ownsRow H 37 1 v L.length l
namespace PtsZ
variable {w w':World} {H:Nat} {v:Value} {l:List Value} {L:List (List Rat)}
def keepAll(h:PtsZ w H v l L)(hk:∀k,v.ownBlock=some k->w'.heap[k]? = w.heap[k]?)(hr:∀s r,s∈l->FracsZ w 0 s r->FracsZ w' 0 s r):PtsZ w' H v l L :=
 ⟨h.len,λk s r a b=>hr s r (Zj a) (h.each k s r a b),zc9 h.own hk⟩
def below(h:PtsZ w H v l L)(a:Below w w w'):PtsZ w' H v l L:=h.keepAll (λk hk=>a.block k (h.own.lt k hk).2) λ_ _ _ r=>r.below a
def alloc(h:PtsZ w H v l L)(o:Obj):PtsZ (w.alloc o) H v l L:=h.below (zae w o)
def drew(h:PtsZ w H v l L):PtsZ w.drew H v l L:=h.below (zap w 1)
def base(h:PtsZ w H v l L)(b:a<=H):PtsZ w a v l L:=⟨h.len,h.each,zbu h.own b⟩
theorem nil(w:World)(H:Nat):PtsZ w H () [] []:=⟨rfl,λk s r h=>by simp at h,Xs _ _ _ _⟩
def tk{t:TypeId}(h:PtsZ w H v l L)(hk:TKeep t w w')(h1:36≠t)(b:37≠t):PtsZ w' H v l L :=
 h.keepAll (λk a=>hk k (h.own.lt k a).2 λcs e=>za6 h.own e b a) λ_ _ _ r=>r.tk hk h1
def form(h:PtsZ w H (A,n,c) l L):n=L.length/\n<=c/\c<=maxLen/\((A=none/\c=0/\L=[])\/∃g,A=some ⟨g,0,none⟩/\H<=g/\g<w.heap.size):=by
 rcases h.own.2 with ⟨b,a⟩ | ⟨g,cap,cur,b,hg,d,a,hm,_⟩
 injection b with e1 e2 e3;subst e1 e2 e3;exact⟨a.symm,Za _,Zb _,.inl ⟨rfl,rfl,Xo.1 a⟩⟩;injection b with e1 e2 e3;subst e1 e2 e3;exact⟨rfl,a,hm,.inr ⟨g,rfl,hg,(ZU.1 d).1⟩⟩
def nlen(h:PtsZ w H (A,n,c) l L):n=L.length:=h.form.1
def has(h:PtsZ w H (A,n,c) l L)(e:0<n):∃g,A=some ⟨g,0,none⟩/\H<=g/\g<w.heap.size:=by obtain⟨h1,b,d,a | a⟩:=h.form;omega;exact a
def slice(h:PtsZ w H v l L):∃A c,v=.slice A L.length c:=by
 rcases h.own.2 with ⟨a,b⟩ | ⟨g,cap,cur,a,_⟩
 exact⟨_,_,by rw[a,b]⟩;grind
def at_(h:PtsZ w H (b,n,c) l L){r:List Rat}(hk:L[k]? = some r):∃(A:OA) (c:Nat),l[k]? = some (A,r.length,c)/\χ w b k (A,r.length,c)/\FracsZ w 0 (A,r.length,c) r:=by
 have f:=h.nlen;subst f;have e:=(ZF.1 hk).1;obtain⟨s,a⟩:∃s,l[k]? = some s:=⟨l[k]'(by rw[h.len];exact e),Ze _⟩
 have d:=h.each k s r a hk;obtain⟨A,c,rfl⟩:=d.slice;exact⟨A,c,a,by rw[h.own.cellAt _ ω];exact a,d⟩
end PtsZ
def y5l{o:Oper}{a:Act}{Q:Exit->Act->World->Prop}(s x:Operand)(D:o.op=.call { callee:=.builtin .append,args:=#[s,x],argTypes:=#[102,102] })
     {M:List (List Rat)} (E:a.eval s=v) (e:PtsZ w H v l M)  (G:a.eval x=.slice (some ⟨b,0,none⟩) 1 1)  {r:List Rat} (A:θ w b #[g] 37) (hr:FracsZ w 0 g r)
   (hN:M.length+1=N) (C:N<=1000000) (u:H<=w.heap.size) (K:Act->World->Prop)
  (z:∀i w',(∃f c',i=.slice f N c'/\PtsZ w' H (.slice f N c') (l++[g]) (M++[r])/\TKeep 37 w w'/\Below H w w')->K (a.put o.dst i) w'):Oper.wp prog o a w K Q:=by
 subst hN;obtain⟨I,J,F⟩:=hr.slice;refine y2l s x 24 D underlying102 y4M rfl δ δ E e.own G (y19 A (by rw[F];rfl)) C u λi w' h1 j t O P=>?_
 have m:PtsZ w' H i (l++[g]) (M++[r]):=by
  refine⟨by simp[e.len],λk q y c d=>?_,by rw[Zz];exact h1⟩;by_cases p:k<l.length;rw[Z4 p]at c;rw[Z4 (by rw[<-e.len];exact p)]at d;exact(e.each k q y c d).tk j δ;rw[ZN ω]at c;rw[ZN (by rw[<-e.len];omega),<-e.len]at d;obtain⟨n,B⟩:∃n,k-l.length=n:=⟨_,rfl⟩
  rw[B]at c d;cases n with
  | zero=>simp at c d;subst c d;exact hr.tk j δ
  | succ=>simp at c
 obtain⟨f,c',rfl⟩:=m.slice;rw[Zz]at m ⊢;exact z _ _ ⟨f,c',rfl,m,j,t⟩
def y33:(prog.info? 85).map (λi=>(i.zero,i.size,i.bytes))=some (some (.agg #[(),.int .i64 0,.int .i64 0]),3,40):=ξ
def rcz:List Value->List ZRow->List Value
  | s::l,r::rs=>s::.int .i64 r.kind::.int .i64 r.rhs::rcz l rs
  | _,_=>[]
def y5h:∀ {l:List Value} {rs:List ZRow} {k:Nat} {s:Value} {r:ZRow},l[k]? = some s->rs[k]? = some r->(rcz l rs)[k*3]? = some s/\(rcz l rs)[k*3+1]? = some (.int .i64 r.kind)/\(rcz l rs)[k*3+2]? = some (.int .i64 r.rhs)
 | [],_,k,_,_,h,_=>by simp at h
 | _::_,[],k,_,_,_,h=>by simp at h
 | a::l,b::rs,0,s,r,h1,h2=>by simp at h1 h2;subst h1 h2;exact⟨rfl,rfl,rfl⟩
 | a::l,b::rs,k+1,s,r,h1,h2=>by have:=y5h (l:=l) (rs:=rs) (k:=k) (s:=s) (r:=r) ψ (by simpa using h2);rw[show(k+1)*3=k*3+3 by omega];exact this
def y2I:∀ {l:List Value} {rs:List ZRow} (s:Value) (r:ZRow),l.length=rs.length->rcz (l++[s]) (rs++[r])=rcz l rs++[s,.int .i64 r.kind,.int .i64 r.rhs]
 | [],[],s,r,_=>rfl
 | a::l,b::rs,s,r,h=>by
  show a::_::_::rcz (l++[s]) (rs++[r])=_
  rw[y2I s r (by simpa using h)];rfl
 | [],b::rs,_,_,h=>by simp at h
 | a::l,[],_,_,h=>by simp at h
structure ZRows (w:World) (H:Nat) (v:Value) (l:List Value) (rs:List ZRow):Prop where
  len:l.length=rs.length
  each:∀(k:Nat) (s:Value) (r:ZRow),l[k]? = some s->rs[k]? = some r->IntsZ w 0 s r.coef
  own:w.ownsRow H 85 3 v rs.length (rcz l rs)
namespace ZRows
variable {w w':World} {H:Nat} {v:Value} {l:List Value} {rs:List ZRow}
def keepAll(h:ZRows w H v l rs)(hk:∀k,v.ownBlock=some k->w'.heap[k]? = w.heap[k]?)(hr:∀s r,s∈l->IntsZ w 0 s r->IntsZ w' 0 s r):ZRows w' H v l rs :=
 ⟨h.len,λk s r a b=>hr s r.coef (Zj a) (h.each k s r a b),zc9 h.own hk⟩
def below(h:ZRows w H v l rs)(a:Below w w w'):ZRows w' H v l rs:=h.keepAll (λk hk=>a.block k (h.own.lt k hk).2) λ_ _ _ r=>r.below a
def alloc(h:ZRows w H v l rs)(o:Obj):ZRows (w.alloc o) H v l rs:=h.below (zae w o)
def drew(h:ZRows w H v l rs):ZRows w.drew H v l rs:=h.below (zap w 1)
def base(h:ZRows w H v l rs)(b:a<=H):ZRows w a v l rs:=⟨h.len,h.each,zbu h.own b⟩
theorem nil(w:World)(H:Nat):ZRows w H () [] []:=⟨rfl,λk s r h=>by simp at h,Xs _ _ _ _⟩
def tk{t:TypeId}(h:ZRows w H v l rs)(hk:TKeep t w w')(h1:3≠t)(b:85≠t):ZRows w' H v l rs :=
 h.keepAll (λk a=>hk k (h.own.lt k a).2 λcs e=>za6 h.own e b a) λ_ _ _ r=>r.tk hk h1
def form(h:ZRows w H (A,n,c) l rs):n=rs.length/\n<=c/\c<=maxLen/\((A=none/\c=0/\rs=[])\/∃g,A=some ⟨g,0,none⟩/\H<=g/\g<w.heap.size):=by
 rcases h.own.2 with ⟨b,a⟩ | ⟨g,cap,cur,b,hg,d,a,hm,_⟩
 injection b with e1 e2 e3;subst e1 e2 e3;exact⟨a.symm,Za _,Zb _,.inl ⟨rfl,rfl,Xo.1 a⟩⟩;injection b with e1 e2 e3;subst e1 e2 e3;exact⟨rfl,a,hm,.inr ⟨g,rfl,hg,(ZU.1 d).1⟩⟩
def nlen(h:ZRows w H (A,n,c) l rs):n=rs.length:=h.form.1
def has(h:ZRows w H (A,n,c) l rs)(e:0<n):∃g,A=some ⟨g,0,none⟩/\H<=g/\g<w.heap.size:=by obtain⟨h1,b,d,a | a⟩:=h.form;omega;exact a
def slice(h:ZRows w H v l rs):∃A c,v=.slice A rs.length c:=by
 rcases h.own.2 with ⟨a,b⟩ | ⟨g,cap,cur,a,_⟩
 exact⟨_,_,by rw[a,b]⟩;grind
def fro(h:ZRows w H (b,n,c) l rs)(j:Nat):w.frozen? ⟨b,j,none⟩=false:=by have a:=h.nlen;subst a;exact h.own.frozenAt j
def at_(h:ZRows w H (b,n,c) l rs){r:ZRow}(hk:rs[k]? = some r):∃(A:OA) (c:Nat),l[k]? = some (A,r.coef.length,c)/\χ w b (k*3) (A,r.coef.length,c)/\χ w b (k*3+1) (.int .i64 r.kind)/\χ w b (k*3+2) (.int .i64 r.rhs)/\IntsZ w 0 (A,r.coef.length,c) r.coef:=by
 have j:=h.nlen;subst j;have i:=(ZF.1 hk).1;obtain⟨s,a⟩:∃s,l[k]? = some s:=⟨l[k]'(by rw[h.len];exact i),Ze _⟩
 have d:=h.each k s r a hk;obtain⟨A,c,rfl⟩:=d.slice;obtain⟨e,f,g⟩:=y5h a hk;exact⟨A,c,a,by rw[h.own.cellAt _ ω];exact e,by rw[h.own.cellAt _ ω];exact f,by rw[h.own.cellAt _ ω];exact g,d⟩
end ZRows
def y4C{o:Oper}{a:Act}{Q:Exit->Act->World->Prop}(s x:Operand)(F:o.op=.call { callee:=.builtin .append,args:=#[s,x],argTypes:=#[42,42] })
     {rs:List ZRow} (G:a.eval s=v) (d:ZRows w H v l rs)  (f:a.eval x=.slice (some ⟨b,0,none⟩) 1 1)  {r:ZRow} (C:θ w b #[g,.int .i64 r.kind,.int .i64 r.rhs] 85) (hr:IntsZ w 0 g r.coef)
   (hN:rs.length+1=N) (E:N<=1000000) (A:H<=w.heap.size) (K:Act->World->Prop)
  (B:∀m w',(∃i c',m=.slice i N c'/\ZRows w' H (.slice i N c') (l++[g]) (rs++[r])/\TKeep 85 w w'/\Below H w w')->K (a.put o.dst m) w'):Oper.wp prog o a w K Q:=by
 subst hN;obtain⟨O,P,I⟩:=hr.slice;have J:News w 3 (.slice (some ⟨b,0,none⟩) 1 1) 1 [g,.int .i64 r.kind,.int .i64 r.rhs]:=by
  refine .inr ⟨_,_,rfl,rfl,λj x f=>?_,λx f=>?_⟩;rw[y3s,zac C,Xc,<-f];rcases j with _ | _ | _ | j<;>simp
  simp at f;rcases f with rfl | rfl | rfl;rw[I];rfl;rfl;rfl
 refine y2l s x 40 F underlying42 y33 rfl δ δ G d.own f J E A λm w' h1 n z R S=>?_
 have p:ZRows w' H m (l++[g]) (rs++[r]):=by
  refine⟨by simp[d.len],λk q y c e=>?_,by rw[Zz,y2I _ _ d.len];exact h1⟩;by_cases u:k<l.length;rw[Z4 u]at c;rw[Z4 (by rw[<-d.len];exact u)]at e;exact(d.each k q y c e).tk n δ;rw[ZN ω]at c;rw[ZN (by rw[<-d.len];omega),<-d.len]at e;obtain⟨t,D⟩:∃t,k-l.length=t:=⟨_,rfl⟩
  rw[D]at c e;cases t with
  | zero=>simp at c e;subst c e;exact hr.tk n δ
  | succ=>simp at c
 obtain⟨i,c',rfl⟩:=p.slice;rw[Zz]at p ⊢;exact B _ _ ⟨i,c',rfl,p,n,z⟩
open Dz (newG Fz y28)
attribute [local go_sem ↓] Go.wp_at_zero Go.wp_at_succ
def y5M (w:World) (q:Rat) (e:Ending) (w':World):Prop:=e=.returned (.agg #[.int .i64 q.num,(q.den:Int)])/\Below w w w'
def y1v(h:x.natAbs<=4611686018427387904):IntKind.i64.wrap x=x:=by unfold IntKind.wrap IntKind.signed IntKind.bits;simp;omega
def y11{y:Int}(a:x.natAbs<=100000000)(b:y.natAbs<=100000000):(x*y).natAbs<=10000000000000000:=by rw[X4];exact Zf (Xr a b) δ
def y2w{d:Nat}(h:d<=100000000):(d:Int).natAbs<=100000000:=ω
namespace Zr
def y6p(x:Int)(w:World)(h:x.natAbs<=4611686018427387904):Calls prog 179 #[.int .i64 x] w λe w'=>e=.returned (x.natAbs:Int)/\w'=w:=by
 by_cases b:x<0
 ·have a:(x.natAbs:Int) = -x:=ω
  go_enter func179,ntmps179;go_wp2;go_ret;exact⟨by first | rfl | (rw[a];rfl),rfl⟩
 have a:(x.natAbs:Int)=x:=ω;go_enter func179,ntmps179;go_wp2;go_ret;exact⟨by first | rfl | (rw[a];rfl),rfl⟩
def y6j(p d:Int)(w:World)(m:p.natAbs<=4611686018427387904)(n:d.natAbs<=4611686018427387904)(u:d≠0):Calls prog 154 #[.int .i64 p,.int .i64 d] w (y5M w (Rat.divInt p d)):=by
 refine μ3 m n u λG I g=>?_;clear u;obtain⟨W,k⟩:∃W,(w.alloc (.cells #[.int .i64 0,.int .i64 0] 36))=W:=⟨_,rfl⟩
 have J:=un (show θ W w.heap.size #[.int .i64 0,.int .i64 0] 36by rw[<-k];exact zam σ);have o:=un (show Below w w W by rw[<-k];exact zae w _);obtain⟨C,E,ag,ae,D,B,ah,af⟩:=bf2 J.o;go_enter func154,ntmps154;go_wp2_with fail
 clear k;refine(y6p p _ m).mono ?_;rintro e w1 ⟨rfl,rfl⟩;go_wp2_with fail
 refine(y6p d _ n).mono ?_;rintro e w1 ⟨rfl,rfl⟩;clear m n;have i:=un (show p.natAbs<=4611686018427387904/\d.natAbs<=4611686018427387904 from⟨G.o,I.o⟩);generalize hpn:p.natAbs=pn at *
 generalize hdn:d.natAbs=dn at *
 have s:=un hpn;have r:=un hdn;clear hpn hdn;go_wp2_with fail
 go_loopw [5,6] (λN j wr=>∃x y:Nat,N=.int .i64 x/\j=.int .i64 y/\wr=w1/\Nat.gcd x y=Nat.gcd pn dn/\x<=4611686018427387904/\y<=4611686018427387904)
  (λ_ j _=>(intOf j).toNat)
 case atStart=>exact⟨pn,dn,rfl,rfl,rfl,rfl,i.o.1,i.o.2⟩
 obtain⟨x,y,rfl,rfl,rfl,hg,hx,Q⟩:=hrel;by_cases A:y=0
 ·subst A;have t:(x:Int)=(Int.gcd p d:Int):=by unfold Int.gcd;rw[s.o,r.o,<-hg,Nat.gcd_zero_right]
  have a:=Dz.newG_ne (p:=p) g.o;have f:=Dz.new_num (p:=p) g.o;have c:=Dz.new_den (p:=p) g.o;have O:=Dz.frac_abs (p:=p) g.o;have Y:IntKind.i64.wrap (Rat.divInt p d).num=(Rat.divInt p d).num:=y1v (by have:=s.o;have:=i.o.1;omega);have Z:IntKind.i64.wrap ((Rat.divInt p d).den:Int)=((Rat.divInt p d).den:Int):=y1v (by have:=r.o;have:=i.o.2;omega);clear O;unfold Dz.newG at a f c;rw[<-t]at a f c;generalize Rat.divInt p d=q at *
  clear hg Q t;have ab : -9223372036854775808<=(x:Int)/\(x:Int)<=9223372036854775807:=ω;have T:=un f;have R:=un c;by_cases z:d<0
  ·simp only[z,if_true]at a f c;have P : -(x:Int)≠0:=a;go_upto_region 9 with fail
   refine zaS (S:=λw'=>True) [7] (hS:=trivial) (h:=λhHeld=>?_);refine zaw [0,1,2,3,4,5,6] ?_;repeat refine tkL hHeld ?_
   refine zao ?_;refine zay 7 (h:=λK b=>?_);go_simp;refine shutOff b ?_;clear b K;refine zaM (h:=?_);go_wp2;refine Zi (v:=.agg #[.int .i64 q.num,(q.den:Int)]) (by simp[results,results154,go_sem,C,E,D,B]) rfl ?_;exact⟨rfl,bdrew (bsc (bsc o.o))⟩
  simp only[z,if_false]at a f c;have P:(x:Int)≠0:=a;have X:¬x=0:=ω;go_upto_region 9 with fail
  refine zaS (S:=λw'=>True) [7] (hS:=trivial) (h:=λhHeld=>?_);refine zaw [0,1,2,3,4,5,6] ?_;repeat refine tkL hHeld ?_
  refine zao ?_;refine zay 7 (h:=λK b=>?_);go_simp;refine shutOff b ?_;clear b K;refine zaM (h:=?_);go_wp2;refine Zi (v:=.agg #[.int .i64 q.num,(q.den:Int)]) (by simp[results,results154,go_sem,C,E,D,B]) rfl ?_;exact⟨rfl,bdrew (bsc (bsc o.o))⟩
 have V:(x:Int).tmod (y:Int)=((x%y:Nat):Int):=rfl;have U:=Z0 x (Ye A);have ac:(0:Int)<(y:Int):=ω;have ad:(y:Int)≠0:=ω;have F:=un (show Nat.gcd y (x%y)=Nat.gcd pn dn by rw[<-hg,YY x y,Nat.gcd_rec y x,YY]);clear hg;go_wp2;go_roundw
 case rel=>exact⟨y,x%y,rfl,by go_num,trivial,F.o,ω,ω⟩
 case measure=>simp[intOf];omega
def y6r(a b:Rat)(w:World)(f:Fz a)(c:Fz b):Calls prog 106 #[.agg #[.int .i64 a.num,(a.den:Int)],.agg #[.int .i64 b.num,(b.den:Int)]] w (y5M w (a+b)):=by
 have h1:=y11 f.1 (y2w c.2);have o:=y11 c.1 (y2w f.2);have q:=y11 (y2w f.2) (y2w c.2);have r:=y11 f.1 c.1;have n:=Int.mul_ne_zero (Int.natCast_ne_zero.2 a.den_nz) (Int.natCast_ne_zero.2 b.den_nz);have w1:IntKind.i64.wrap (a.num*(b.den:Int))=a.num*b.den:=y1v ω;have C:IntKind.i64.wrap (b.num*(a.den:Int))=b.num*a.den:=y1v ω;have D:IntKind.i64.wrap ((a.den:Int)*(b.den:Int))=(a.den:Int)*b.den:=y1v ω;have E:IntKind.i64.wrap (a.num*(b.den:Int)+b.num*a.den)=a.num*b.den+b.num*a.den:=y1v ω;have i:=un (fun(w:World)=>y6j (a.num*b.den+b.num*a.den) (a.den*b.den) w ω ω n);rw[Dz.add_new]at i;obtain⟨W,d⟩:∃W,(((w.alloc (.cells #[.int .i64 a.num,(a.den:Int)] 36)).alloc (.cells #[.int .i64 b.num,(b.den:Int)] 36)).alloc (.cells #[.int .i64 0,.int .i64 0] 36))=W:=⟨_,rfl⟩
 refine μ4 (show θ W w.heap.size #[.int .i64 a.num,(a.den:Int)] 36by rw[<-d];exact zak (zak (zam σ))) (show θ W (w.heap.size+1) #[.int .i64 b.num,(b.den:Int)] 36by rw[<-d];exact zak (zam σ)) (show θ W (w.heap.size+1+1) #[.int .i64 0,.int .i64 0] 36by rw[<-d];exact zam σ) (show Below w w W by rw[<-d];exact((zae w _).alloc σ _).alloc (by simp;omega) _) λj k m g=>?_;obtain⟨K,R,N,G⟩:=bc2 j.o;obtain⟨V,T,S,Y⟩:=bc2 k.o;obtain⟨aj,ae,ag,Z,ak,af,ai,ab⟩:=bf2 m.o;go_enter func106,ntmps106;go_wp2_with fail
 refine(i.o _).mono ?_
 rintro e w1 ⟨rfl,c⟩;refine μ4 (zad c j.o) (zad c k.o) (zad c m.o) (g.o.trans ((c).mono g.o.size)) λu s z t=>?_;obtain⟨I,P,J,Q⟩:=bc2 u.o;obtain⟨U,O,X,F⟩:=bc2 s.o;obtain⟨A,x,ah,aa,B,y,ad,ac⟩:=bf2 z.o;go_wp2;refine Zi (v:=.agg #[.int .i64 (a+b).num,((a+b).den:Int)]) (by simp[results,results106,go_sem,A,x,B,y]) rfl ?_;exact⟨rfl,bsc (bsc t.o)⟩
def y6t(a b:Rat)(w:World)(f:Fz a)(c:Fz b):Calls prog 107 #[.agg #[.int .i64 a.num,(a.den:Int)],.agg #[.int .i64 b.num,(b.den:Int)]] w (y5M w (a*b)):=by
 have h1:=y11 f.1 (y2w c.2);have o:=y11 c.1 (y2w f.2);have q:=y11 (y2w f.2) (y2w c.2);have r:=y11 f.1 c.1;have n:=Int.mul_ne_zero (Int.natCast_ne_zero.2 a.den_nz) (Int.natCast_ne_zero.2 b.den_nz);have w1:IntKind.i64.wrap (a.num*b.num)=a.num*b.num:=y1v ω;have C:IntKind.i64.wrap ((a.den:Int)*(b.den:Int))=(a.den:Int)*b.den:=y1v ω;have i:=un (fun(w:World)=>y6j (a.num*b.num) (a.den*b.den) w ω ω n);rw[Dz.mul_new]at i;obtain⟨W,d⟩:∃W,(((w.alloc (.cells #[.int .i64 a.num,(a.den:Int)] 36)).alloc (.cells #[.int .i64 b.num,(b.den:Int)] 36)).alloc (.cells #[.int .i64 0,.int .i64 0] 36))=W:=⟨_,rfl⟩
 refine μ4 (show θ W w.heap.size #[.int .i64 a.num,(a.den:Int)] 36by rw[<-d];exact zak (zak (zam σ))) (show θ W (w.heap.size+1) #[.int .i64 b.num,(b.den:Int)] 36by rw[<-d];exact zak (zam σ)) (show θ W (w.heap.size+1+1) #[.int .i64 0,.int .i64 0] 36by rw[<-d];exact zam σ) (show Below w w W by rw[<-d];exact((zae w _).alloc σ _).alloc (by simp;omega) _) λj k m g=>?_;obtain⟨I,P,J,E⟩:=bc2 j.o;obtain⟨T,R,Q,V⟩:=bc2 k.o;obtain⟨ah,ac,ae,X,ai,ad,ag,Z⟩:=bf2 m.o;go_enter func107,ntmps107;go_wp2_with fail
 refine(i.o _).mono ?_
 rintro e w1 ⟨rfl,c⟩;refine μ4 (zad c j.o) (zad c k.o) (zad c m.o) (g.o.trans ((c).mono g.o.size)) λu s z t=>?_;obtain⟨F,N,G,O⟩:=bc2 u.o;obtain⟨S,K,U,D⟩:=bc2 s.o;obtain⟨A,x,af,Y,B,y,ab,aa⟩:=bf2 z.o;go_wp2;refine Zi (v:=.agg #[.int .i64 (a*b).num,((a*b).den:Int)]) (by simp[results,results107,go_sem,A,x,B,y]) rfl ?_;exact⟨rfl,bsc (bsc t.o)⟩
def y5P(a b:Rat)(w:World)(m:Fz a)(n:Fz b):Calls prog 105 #[.agg #[.int .i64 a.num,(a.den:Int)],.agg #[.int .i64 b.num,(b.den:Int)]] w λe w'=>e=.returned (.int .i64 (y28 a b))/\Below w w w':=by
 have h1:=y11 m.1 (y2w n.2);have k:=y11 n.1 (y2w m.2);have w1:IntKind.i64.wrap (a.num*(b.den:Int))=a.num*b.den:=y1v ω;have s:IntKind.i64.wrap (b.num*(a.den:Int))=b.num*a.den:=y1v ω;have t:IntKind.i64.wrap (a.num*(b.den:Int)-b.num*a.den)=a.num*b.den-b.num*a.den:=y1v ω;have hc:=Dz.cmp_new a b
 have g:=un (show(a.num*b.den-b.num*a.den<0/\y28 a b = -1)\/(¬(a.num*b.den-b.num*a.den<0)/\0<a.num*b.den-b.num*a.den/\y28 a b=1)\/(¬(a.num*b.den-b.num*a.den<0)/\¬(0<a.num*b.den-b.num*a.den)/\y28 a b=0)from by
  unfold y28;by_cases h:a<b;left;rw[if_pos h];exact⟨hc.1.2 h,rfl⟩;right;rw[if_neg h];have o:¬(a.num*b.den-b.num*a.den<0):=λq=>h (hc.1.1 q)
  by_cases i:b<a;left;rw[if_pos i];exact⟨o,hc.2.2 i,rfl⟩;right;rw[if_neg i];exact⟨o,λq=>i (hc.2.1 q),rfl⟩)
 clear h1 k m n hc;obtain⟨W,f⟩:∃W,((w.alloc (.cells #[.int .i64 a.num,(a.den:Int)] 36)).alloc (.cells #[.int .i64 b.num,(b.den:Int)] 36))=W:=⟨_,rfl⟩
 refine μ4 (show θ W w.heap.size #[.int .i64 a.num,(a.den:Int)] 36by rw[<-f];exact zak (zam σ)) (show θ W (w.heap.size+1) #[.int .i64 b.num,(b.den:Int)] 36by rw[<-f];exact zam σ) (show Below w w W by rw[<-f];exact(zae w _).alloc σ _) (show w.heap.size+2<=W.heap.size by rw[<-f];simp) λp r j d=>?_;obtain⟨x,A,y,u⟩:=bc2 p.o;obtain⟨D,C,B,E⟩:=bc2 r.o;go_enter func105,ntmps105;go_upto_region 2 with fail
 clear f;rcases g.o with ⟨h1,c⟩ | ⟨h1,k,c⟩ | ⟨h1,k,c⟩
 ·have d:=un c;generalize a.num*(b.den:Int)-b.num*a.den=z at *
  clear c g;go_wp2;go_ret;exact⟨by rw[d.o];rfl,j.o⟩
 ·have d:=un c;generalize a.num*(b.den:Int)-b.num*a.den=z at *
  clear c g;go_wp2;go_ret;exact⟨by rw[d.o];rfl,j.o⟩
 have d:=un c;generalize a.num*(b.den:Int)-b.num*a.den=z at *
 clear c g;go_wp2;go_ret;exact⟨by rw[d.o];rfl,j.o⟩
end Zr
end Go.Proofs.YtbpjabgfcbjjmaaGreat
namespace Go.Proofs.YtbpjabgfcbjjmaaGreat
open Go.RowKit Am Go.Proofs.Tryz
open Dz (ez y1p y1C y1O y2h y1U y2u)
attribute [local go_sem ↓] Go.wp_at_zero Go.wp_at_succ
variable {B row ys:List Int}{p rs:List Nat}{H N b c i k n r:Nat}{w:World}
def zN (l:List Nat):List Int:=l.map fun(x:Nat)=>(x:Int)
def y1y(l:List Nat):(zN l).length=l.length:=by simp[zN]
def y49{l:List Nat}{x:Nat}(h:l[k]? = some x):(zN l)[k]? = some (x:Int):=by simp[zN,h]
def y5c (w:World) (M:List (List Int)) (e:Ending) (w':World):Prop:=∃(A':OA) (c':Nat) (l:List Value),e=.returned (A',M.length,c')/\TabZ w' w.heap.size (A',M.length,c') l M/\Below w w w'
def y4b{A:List (List Int)}{cols:List Nat}(h:rs[i]? = some r):y1p A (rs.take (i+1)) cols=y1p A (rs.take i) cols++[cols.map λc=>ez A r c]:=by unfold y1p;rw[Xe,h,X8];rfl
theorem y1D{α β:Type}{f:α->β}{l:List α}{r:α}(h:l[i]? = some r):(l.take (i+1)).map f=(l.take i).map f++[f r]:=by rw[Xe,h,X8];rfl
def y5R{A:List (List Int)}(h:A[r]? = some row)(hc:c<row.length):row[c]? = some (ez A r c):=by unfold ez;rw[Zh (l:=A),h];exact zaO hc
def IntsZ.newsTake(h:IntsZ w H (b,n,c) ys){hi:Nat}(a:hi<=n)(cc:Nat):News w 1 (b,hi,cc) hi (zcells (ys.take hi)):=by
 rcases h.newsCut 0 hi (Zb _) a with ⟨e,_⟩ | ⟨i,c',e,d,f,g⟩
 cases e;injection e with e1 e2 e3;injection e1 with e1;subst e1;exact .inr ⟨_,cc,rfl,d,f,g⟩
def IntsZ.newsDrop(h:IntsZ w H (b,n,c) ys){lo:Nat}(k:lo<=n)(a:n<=c)(cc:Nat):News w 1 (.slice (some ⟨b,if c=lo then 0 else lo,none⟩) (n-lo) cc) (n-lo) (zcells (ys.drop lo)):=by
 by_cases e:c=lo;have l:=h.len;have i:ys.drop lo=[]:=XK ω;rw[i];exact .inr ⟨_,cc,rfl,by simp[zcells];omega,λj x d=>by simp[zcells]at d,λx d=>by simp[zcells]at d⟩;rw[if_neg e];rcases h.newsCut lo n k (Za _)with ⟨e,_⟩ | ⟨m,c',e,a,f,g⟩
 cases e;injection e with e1 e2 e3;injection e1 with e1;subst e1;have l:=h.len;rw[Z2 ω]at a f g;exact .inr ⟨_,cc,rfl,a,f,g⟩
def y3O(W:World)(g n c k:Nat)(h1:k+1<=n) :
  (Instr.slice 41 (g,n,c) (some (.int .i64 ((k:Int)+1))) none none).run prog W=.ok (.slice (some ⟨g,if c=k+1 then 0 else k+1,none⟩) (n-(k+1)) (c-(k+1))) W:=by
 have d:prog.underlying 41=some (.slice (prog.elem 41)):=by rfl
 have a:prog.elem 41=3:=by rfl
 have b:(Go.sizeOf 3).run prog W=.ok 1 W:=by simp[go_sem]
 have hk:((k:Int)+1).toNat=k+1:=ω;rw[run_slice_l W 41 _ _ _ d .i64 _ ω ω,a,b,hk];by_cases h0:c=k+1;simp[Result.andThen,sliced,h0];simp[Result.andThen,sliced,Addr.add,h0]
def behind(g n c k:Nat)(h1:k+1<=n)(a:n<=c):∃off:Nat,(∀W:World,(Instr.slice 41 (g,n,c) (some (.int .i64 ((k:Int)+1))) none none).run prog W=.ok (.slice (some ⟨g,off,none⟩) (n-(k+1)) (c-(k+1))) W) /\
  ∀(w:World) (H:Nat) (ys:List Int),IntsZ w H (g,n,c) ys->News w 1 (.slice (some ⟨g,off,none⟩) (n-(k+1)) (c-(k+1))) (n-(k+1)) (zcells (ys.drop (k+1))) :=
 ⟨_,λW=>y3O W g n c k h1,λ_ _ _ h=>h.newsDrop h1 a _⟩
def y5d{M:List (List Int)}(h:y1U 9 M)(a:n<=3):(y1C n M).natAbs<=4374/\∀c,(y1O n M c).natAbs<=39366:=by
 constructor;refine Zf (Dz.detZ_abs h) ?_;rcases(show n=0\/n=1\/n=2\/n=3 by omega)with rfl | rfl | rfl | rfl<;>decide
 intro c;refine Zf (Dz.detAt_abs h c) ?_;rcases(show n=0\/n=1\/n=2\/n=3 by omega)with rfl | rfl | rfl | rfl<;>decide
def y3N{M:List (List Int)}(h:M[k+1]? = some row):(M.tail.take (k+1)).map (y2h c)=(M.tail.take k).map (y2h c)++[y2h c row]:=by grind[y1D]
namespace Zr
def y5U(aA:OA)(nA cA:Nat)(lA:List Value)(A:List (List Int))(L:OA)(a N:Nat)(rs:List Nat)(aC:OA)(nC cC:Nat)(cols:List Nat)(w:World)(P:TabZ w 0 (aA,nA,cA) lA A)(D:IntsZ w 0 (L,a,N) (zN rs))(B:IntsZ w 0 (aC,nC,cC) (zN cols))
  (h1:∀r∈rs,r<A.length/\∀c∈cols,c<(A.getD r []).length) (y:a<=1000) (h3:nC<=1000):Calls prog 78 #[(aA,nA,cA),(L,a,N),(aC,nC,cC)] w (y5c w (y1p A rs cols)):=by
 refine μ6 P D B h1 (show a=rs.length by rw[D.len,y1y]) (show nC=cols.length by rw[B.len,y1y]) λY HR HC W x v=>?_;clear P D B h1;go_enter func78,ntmps78;go_wp2_with fail
 go_loopw [7,8] (λov E wr=>∃(i:Nat) (O:OA) (cO:Nat) (l:List Value),E=.int .i64 i/\ov=(O,i,cO)/\i<=a/\TabZ wr w.heap.size (O,i,cO) l (y1p A (rs.take i) cols)/\Below w w wr)
  (λ_ E _=>a-(intOf E).toNat)
 case atStart=>exact⟨0,none,0,[],rfl,rfl,Zb _,TabZ.nil _ _,Zl _ _⟩
 obtain⟨i,O,cO,l,rfl,rfl,hi,n,e⟩:=hrel;have I:=un n;have s:=un e;by_cases ax:i<a
 ·obtain⟨r,hr⟩:∃r,rs[i]? = some r:=⟨rs[i]'(by rw[<-x.o];exact ax),Ze _⟩
  have aE:=un hr;have aj:=un (y4b (A:=A) (cols:=cols) hr);have o:=W.o r (Zj hr);obtain⟨row,p⟩:∃row,A[r]? = some row:=⟨A[r]'(o.1),Ze _⟩
  refine μ5 p (show ∀c∈cols,c<row.length by have h:=o.2;rw[Zh,p]at h;exact h) (Y.o.below e) (HR.o.below e) (HC.o.below e) λal ab m J G=>?_;obtain⟨bR,rfl,_,aJ⟩:=J.o.has ω;obtain⟨bA,rfl,_,aH⟩:=m.o.has (by rw[m.o.nlen];omega);have aS:r<nA:=by rw[m.o.nlen];exact o.1
  have aT:(r:Int)<(nA:Int):=ω;have aQ:(0:Int)<=(r:Int):=Zg _;have ai:=un n.nlen;have aN:(i:Int)<(a:Int):=ω;have aM:(0:Int)<=(i:Int):=Zg _;have R:=J.o.at_ (y49 hr);obtain⟨aX,cx,av,T,Q⟩:=m.o.at_ p;have H:=un Q;clear n e hr p o av Q;go_wp2_with fail
  go_loopw [9,10] (λxv F q=>∃(j:Nat) (X:OA) (cX:Nat),F=.int .i64 j/\xv=(X,j,cX)/\j<=nC/\IntsZ q wr.heap.size (X,j,cX) ((cols.take j).map λc=>ez A r c)/\Below wr.heap.size wr q)
   (λ_ F _=>nC-(intOf F).toNat)
  case atStart=>exact⟨0,none,0,rfl,rfl,Zb _,IntsZ.nil _ _,Zl _ _⟩
  rename World=>q
  obtain⟨j,X,cX,rfl,rfl,hj,k,b⟩:=hrel;have HX:=un k;have t:=un b;by_cases aw:j<nC
  ·obtain⟨c,hc⟩:∃c,cols[j]? = some c:=⟨cols[j]'(by rw[<-v.o];exact aw),Ze _⟩
   have au:=ab.o c (Zj hc);have ag:=un (y1D (f:=λc=>ez A r c) hc);obtain⟨M,rfl,_,_⟩:=H.o.has ω;obtain⟨bC,rfl,_,aI⟩:=G.o.has ω;have U:=G.o.at_ (y49 hc);have V:=H.o.at_ (y5R al.o au);have aL:(c:Int)<(row.length:Int):=ω;have aK:(0:Int)<=(c:Int):=Zg _;have aP:(j:Int)<(nC:Int):=ω;have aO:(0:Int)<=(j:Int):=Zg _;have ao:=un k.len;generalize ez A r c=z at *
   clear k hc;go_upto_region 9 with fail
   have y0:=zab b R;have aW:=zaa y0;have y1:=zab b T;have aZ:=zaa y1;have y2:=zab b U;have a1:=zaa y2;have y3:=zab b V;have a3:=zaa y3;refine zaS (S:=λw'=>χ w' bR i (.int .i64 (r:Int))/\χ w' bA r (.slice (some ⟨M,0,none⟩) row.length cx)/\χ w' bC j (.int .i64 (c:Int))/\χ w' M c (.int .i64 z)) [16] (h:=λhHeld=>?_);refine zaw [0,1,2,3,4,5,6,7,8,9,10,11,12,13] ?_;repeat refine tkL hHeld ?_
   refine zao ?_;refine zaB 14 (h:=λK d=>?_);go_simp;refine shutOn d λhHeld=>?_;clear d K;refine zaB 15 (h:=λK d=>?_);(refine wps rfl (λK C=>y1n _ _ rfl rfl (HX.o.drew.alloc _) rfl (ys:=[z]) (y19 (zal _ _ _) rfl) (by rw[<-ao.o]) ω (by have:=t.o.size;simp;omega) K C) ?_;rintro _ w6 ⟨X6,c6,rfl,hI6,hk6,hb6,hf6,ho6⟩;have ac:=un hI6;have g:=un ((bdrew (Xn t.o t.o.size _)).trans hb6);have aY:=zab g.o R;have a0:=zab g.o T;have a2:=zab g.o U;have a4:=zab g.o V;clear hI6 hk6 hb6 hf6 ho6);refine shutOn d λhHeld=>?_;clear d K;refine zay 16 (h:=λK d=>?_);go_simp;refine shutOff d ?_;clear d K;refine zaM (h:=?_);go_wp2;go_roundw
   case rel=>exact⟨j+1,X6,c6,by go_num,rfl,ω,by rw[ag.o];exact ac.o,g.o⟩
   case measure=>simp[intOf];omega
  obtain rfl:nC=j:=ω;refine μ3 (show IntsZ q 0 (X,nC,cX) (cols.map λc=>ez A r c)by have h:=k.base (Zb _);rw[v.o,XL]at h;rw[v.o];exact h) (I.o.below b) (s.o.trans (b.mono s.o.size)) λan ah u=>?_;clear k b;go_wp2_with (at_builtin;go_loud (refine wpl rfl (λK C=>y1Q _ _ rfl rfl (ah.o.alloc _) rfl (zal _ _ _) (an.o.alloc _) (by rw[<-ai.o]) ω (by have:=u.o.size;simp;omega) K C) ?_;rintro _ w7 ⟨A7,c7,rfl,hI7,hk7,hb7,hf7,ho7⟩;have ad:=un hI7;have Z:=un ((Xn u.o u.o.size _).trans hb7);clear hI7 hk7 hb7 hf7 ho7))
  go_roundw
  case rel=>exact⟨i+1,A7,c7,_,by go_num,rfl,ω,by rw[aj.o];exact ad.o,Z.o⟩
  case measure=>simp[intOf];omega
 obtain rfl:a=i:=ω;have HM:=un (show TabZ wr w.heap.size (.slice O (y1p A rs cols).length cO) l (y1p A rs cols)by have h:=I.o;have y:=h.nlen;rw[x.o,XL]at h y;rw[<-y];exact h);have HL:=un (show a=(y1p A rs cols).length by rw[x.o];unfold y1p;rw[ZK]);clear n e;go_wp2;go_ret;exact⟨O,cO,l,by rw[<-HL.o];rfl,HM.o,s.o⟩
def y6d:∀(n:Nat) (aA:OA) (cA:Nat) (lA:List Value) (M:List (List Int)) (w:World),TabZ w 0 (aA,n,cA) lA M->(∀r∈M,r.length=n)->y1U 9 M->n<=4->Calls prog 77 #[(aA,n,cA)] w λe w'=>e=.returned (.int .i64 (y1C n M))/\Below w w w':=by
 intro n
 induction n with
 | zero =>
  intro aA cA lA M w _ _ _ _;go_enter func77,ntmps77;go_wp2;go_ret;exact⟨rfl,Zl _ _⟩
 | succ n ih =>
  intro aA cA lA M w j F D hn;obtain⟨N,T⟩:∃N,N=n+1:=⟨_,rfl⟩
  have d:=un T;rw[<-T]at j F hn ⊢;have a1:0<N:=ω;have ak:n<=3:=ω;refine μ7 j F D j.nlen ih (y5d (n:=n) D ak) (λc=>(y5d (n:=n) (D.cut c) ak).1) λHA B HE P aG ay az=>?_;obtain⟨ar,G⟩:∃ar,M[0]? = some ar:=⟨M[0]'(by rw[<-P.o];omega),Ze _⟩
  have aP:=un G;have ad:=un (F _ (Zj G));obtain⟨bA,rfl,_,_⟩:=j.has ω;obtain⟨a0,ai,_,V,E⟩:=j.at_ G;rw[ad.o]at V E;obtain⟨C,rfl,_,_⟩:=E.has ω;have aD:=un E;have a7:((N:Int) == 0)=false:=by simp;omega
  clear j F D ih G E T;go_enter func77,ntmps77;go_wp2_with fail
  go_loopw [3,4] (λsv cv wr=>∃c:Nat,cv=.int .i64 c/\c<=N/\sv=.int .i64 (y2u c (y1O n M))/\Below w w wr)
   (λ_ cv _=>N-(intOf cv).toNat)
  case atStart=>exact⟨0,rfl,Zb _,rfl,Zl _ _⟩
  obtain⟨c,rfl,hc,rfl,q⟩:=hrel;have o:=un q;by_cases aj:c<N
  ·have HS:=un (Zf (Dz.sumZ_abs (f:=y1O n M) (n:=c) λi _=>ay.o.2 i) (ZV 39366 (show c<=4 by omega)));have R:=un (show y2u (c+1) (y1O n M)=y2u c (y1O n M)+y1O n M c from rfl);have q1:=aD.o.at_ (y5R aP.o (by rw[ad.o];exact aj));refine μ3 (HE.o.ez 0 c) (show y1O n M c=if ez M 0 c=0 then 0 else if c%2=0 then ez M 0 c*y1C n (M.tail.map (y2h c))else -(ez M 0 c*y1C n (M.tail.map (y2h c)))from rfl) (az.o c) λaC L aB=>?_
   generalize y1O n M c=dc at *
   generalize ez M 0 c=z at *
   generalize y2u c (y1O n M)=s at *
   have p0:=zab q V;have p1:=zab q q1;have a3:(c:Int)<(N:Int):=ω;have a2:(0:Int)<=(c:Int):=Zg _;clear q;by_cases U:z=0
   ·have g:=un (show y2u (c+1) (y1O n M)=s by rw[R.o,L.o,if_pos U,Int.add_zero]);go_wp2;go_roundw
    case rel=>exact⟨c+1,by go_num,ω,by rw[g.o],o.o⟩
    case measure=>simp[intOf];omega
   have af:=un U;have bd:(z == 0)=false:=by simpa using U
   have aw:=un (HA.o.below o.o);go_wp2_with fail
   go_loopw [5,6] (λmv Y x=>∃(k:Nat) (O:OA) (cO:Nat) (l:List Value),Y=.int .i64 ((k:Int)+1)/\mv=(O,k,cO)/\k<=n/\TabZ x wr.heap.size (O,k,cO) l ((M.tail.take k).map (y2h c))/\Below wr.heap.size wr x)
    (λ_ Y _=>N-(intOf Y).toNat)
   case atStart=>exact⟨0,none,0,[],rfl,rfl,Zb _,TabZ.nil _ _,Zl _ _⟩
   rename World=>x
   obtain⟨k,O,cO,l,rfl,rfl,hk,u,b⟩:=hrel;refine μ3 u b u.nlen λHO H aO=>?_;by_cases a8:k<n
   ·obtain⟨row,v⟩:∃row,M[k+1]? = some row:=⟨M[k+1]'(by rw[<-P.o];have:=d.o;omega),Ze _⟩
    have aJ:=un (y3N (c:=c) v);obtain⟨aX,cx,_,Z,m⟩:=aw.o.at_ v;rw[B.o _ (Zj v)]at Z m;have aQ:=un (B.o _ (Zj v));have aK:=un (show N-1=n by have:=d.o;omega);obtain⟨bX,rfl,_,_⟩:=m.has ω;have aR:=un m;have aH:=un (m.below b);have y1:=zab b Z;have aT:N<=cx:=m.form.2.1;obtain⟨off,bc,al⟩:=behind bX N cx c ω aT;have aL:=un al;clear al;have a5:(k:Int)+1<(N:Int):=by have:=d.o;omega
    have a4:(0:Int)<=(k:Int)+1:=ω;have a6:(k:Int)<(n:Int):=ω;clear u v m b;go_upto_region 14 with (at_builtin;go_loud (refine wpl rfl (λK t=>y1n (N:=c) _ _ rfl rfl (IntsZ.nil _ x.heap.size) rfl (aH.o.newsTake (hi:=c) ω _) σ ω (Za _) K t) ?_;rintro _ w6 ⟨X6,c6,rfl,hI6,hk6,hb6,hf6,ho6⟩;refine μ3 hI6 (H.o.trans (hb6.mono H.o.size)) hb6 λaE I aa=>?_;have y2:=zab I.o Z;have aI:=un (aR.o.below I.o);clear hI6 hk6 hb6 hf6 ho6))
    go_upto_region 15 with (at_builtin;go_loud (refine wpl rfl (λK t=>y1n (N:=n) _ _ rfl rfl aE.o rfl (aL.o _ _ _ aI.o) (by rw[XY,ZI,aQ.o];have:=aK.o;omega) ω (by have:=aa.o.size;omega) K t) ?_;rintro _ w7 ⟨X7,c7,rfl,hI7,hk7,hb7,hf7,ho7⟩;refine μ3 hI7 (I.o.trans (hb7.mono H.o.size)) (aa.o.trans hb7) λaF J ax=>?_;clear hI7 hk7 hb7 hf7 ho7))
    go_wp2_with (at_builtin;go_loud (refine wpl rfl (λK t=>y1Q (N:=k+1) _ _ rfl rfl ((HO.o.below ax.o).alloc _) rfl (zal _ _ _) ((aF.o.base (Zb _)).alloc _) (by rw[<-aO.o]) ω (by have:=J.o.size;simp;omega) K t) ?_;rintro _ w8 ⟨O8,c8,rfl,hO8,hk8,hb8,hf8,ho8⟩;have aN:=un hO8;have p:=un ((Xn J.o J.o.size _).trans hb8);clear hO8 hk8 hb8 hf8 ho8))
    go_roundw
    case rel=>exact⟨k+1,O8,c8,_,by go_num,rfl,ω,by rw[aJ.o];exact aN.o,p.o⟩
    case measure=>simp[intOf];omega
   obtain rfl:n=k:=ω;have ae:=un (show TabZ x 0 (O,n,cO) l (M.tail.map (y2h c))by have h:=u.base (Zb _);rw[Z2 (by rw[List.length_tail,<-P.o];have:=d.o;omega)]at h;exact h);have A:=un (o.o.trans (b.mono o.o.size));have W:=zab b p0;have be:=zaa W;have X:=zab b p1;have bf:=zaa X;have ab:=un (fun(w:World) (h:TabZ w 0 (O,n,cO) l (M.tail.map (y2h c)))=>aG.o O cO l (M.tail.map (y2h c)) w h (λr hr=>by obtain⟨y,hy,rfl⟩:=ZH.1 hr;rw[Dz.cutL_len c y (by rw[B.o y (List.mem_of_mem_tail hy)];exact aj),B.o y (List.mem_of_mem_tail hy)];have:=d.o;omega) (HE.o.cut c) ω);generalize y1C n (M.tail.map (y2h c))=dm at *
   have Q:=un (Zf (Nat.le_of_eq (X4 z dm)) (Xr aC.o aB.o));have w1:IntKind.i64.wrap (z*dm)=z*dm:=y1v (by have:=Q.o;omega);have w2:IntKind.i64.wrap (s+z*dm)=s+z*dm:=y1v (by have:=Q.o;have:=HS.o;omega);have w3:IntKind.i64.wrap (s-z*dm)=s-z*dm:=y1v (by have:=Q.o;have:=HS.o;omega);have a9:(c:Int).tmod 2=((c%2:Nat):Int):=rfl;have ba:¬((n:Int)+1<(N:Int)):=by have:=d.o;omega
   clear u b p0 p1 V q1;by_cases am:c%2=0
   ·have g:=un (show y2u (c+1) (y1O n M)=s+z*dm by rw[R.o,L.o,if_neg af.o,if_pos am]);go_upto_region 17 with fail
    refine zaS (S:=λw'=>χ w' bA 0 (.slice (some ⟨C,0,none⟩) N ai)/\χ w' C c (.int .i64 z)) [11] (h:=λhHeld=>?_);refine zaw [0,1,2,3,4,5,6,7] ?_;repeat refine tkL hHeld ?_
    refine zao ?_;refine zaB 8 (h:=λK a=>?_);go_simp;(go_at_call 77;(with_reducible refine(ab.o _ ae.o.drew).mono ?_);rintro e w8 ⟨rfl,hb8⟩;have p:=un (A.o.trans ((It.bdrew0' hb8).mono A.o.size));have t0:=zab (It.bdrew0' hb8) W;have t1:=zab (It.bdrew0' hb8) X;clear hb8);(try go_wp2_with fail);refine shutOn a λhHeld=>?_;clear a K;refine zaw [9,10] ?_;repeat refine tkL hHeld ?_
    refine zao ?_;refine zay 11 (h:=λK a=>?_);go_simp;refine shutOff a ?_;clear a K;refine zaM (h:=?_);go_wp2;go_roundw
    case rel=>exact⟨c+1,by go_num,ω,by rw[g.o],p.o⟩
    case measure=>simp[intOf];omega
   have g:=un (show y2u (c+1) (y1O n M)=s-z*dm by rw[R.o,L.o,if_neg af.o,if_neg am,Int.sub_eq_add_neg]);have bb:c%2=1:=ω;go_upto_region 18 with fail
   refine zaS (S:=λw'=>χ w' bA 0 (.slice (some ⟨C,0,none⟩) N ai)/\χ w' C c (.int .i64 z)) [11] (h:=λhHeld=>?_);refine zaw [0,1,2,3,4,5,6,7] ?_;repeat refine tkL hHeld ?_
   refine zao ?_;refine zaB 8 (h:=λK a=>?_);go_simp;(go_at_call 77;(with_reducible refine(ab.o _ ae.o.drew).mono ?_);rintro e w8 ⟨rfl,hb8⟩;have p:=un (A.o.trans ((It.bdrew0' hb8).mono A.o.size));have t0:=zab (It.bdrew0' hb8) W;have t1:=zab (It.bdrew0' hb8) X;clear hb8);(try go_wp2_with fail);refine shutOn a λhHeld=>?_;clear a K;refine zaw [9,10] ?_;repeat refine tkL hHeld ?_
   refine zao ?_;refine zay 11 (h:=λK a=>?_);go_simp;refine shutOff a ?_;clear a K;refine zaM (h:=?_);go_wp2;go_roundw
   case rel=>exact⟨c+1,by go_num,ω,by rw[g.o],p.o⟩
   case measure=>simp[intOf];omega
  obtain rfl:c=N:=ω;have g:=un (show y2u c (y1O n M)=y1C c M by rw[d.o];rfl);generalize y2u c (y1O n M)=s at *
  clear q;go_wp2;go_ret;exact⟨by rw[<-g.o];rfl,o.o⟩
end Zr
open Dz (y1l)
def y3E:∀ {n k:Nat},n<k->y1l n k=[]
 | _,0,h=>absurd h (ZS _)
 | 0,_+1,_=>rfl
 | n+1,k+1,h=>by unfold y1l;rw[if_pos h]
def y4R(h:k<=n):y1l (n+1) (k+1)=y1l n (k+1)++(y1l n k).map λx=>x++[n]:=by
 conv=>lhs;unfold y1l
 rw[if_neg ω]
def y1H:∀(n k:Nat),(y1l n k).length<=2^n
 | n,0=>by rw[show y1l n 0=[[]]by unfold y1l;rfl];grind
 | 0,_+1=>Zb _
 | n+1,k+1=>by
  unfold y1l;split
  exact Zb _;rw[Zz,ZK,Xg];have:=y1H n (k+1);have:=y1H n k;omega
def TabZ.one(c:w.heap.size=b):TabZ (w.alloc (.cells #[()] 41)) w.heap.size (.slice (some ⟨b,0,none⟩) 1 1) [.slice none 0 0] [[]]:=by subst c;refine⟨rfl,λk s r h1 a=>?_,YJ (e:=41) (size:=1) (base:=w.heap.size) w #[()] 1 (Za _) δ rfl⟩;grind[IntsZ.nil]
def TabZ.other{w':World}{v u:Value}{l:List Value}{M:List (List Int)}(h:TabZ w H v l M)(hk:TKeep 41 w w')(hf:∀j,j<w.heap.size->u.ownBlock≠some j->w'.heap[j]? = w.heap[j]?)(b:∀g,u.ownBlock=some g->v.ownBlock≠some g):TabZ w' H v l M :=
 h.keepAll (λk a=>hf k (h.own.lt k a).2 λe=>b k e a) λ_ _ _ r=>r.tk hk δ
def y5j(l m:List Nat):zN (l++m)=zN l++zN m:=by simp[zN]
namespace Zr
def y5g:∀(n k:Nat) (w:World),n<=8->k<=8->Calls prog 102 #[(n:Int),(k:Int)] w (y5c w ((y1l n k).map zN)):=by
 intro n
 induction n with
 | zero =>
  intro k w _ t;by_cases hk:k=0
  ·subst hk;go_enter func102,ntmps102;go_wp2;go_ret
   exact⟨_,_,_,rfl,TabZ.one rfl,zae _ _⟩
  have a:=un (show(y1l 0 k).map zN=[]by rw[y3E ω];rfl);have ak:(0:Int)<(k:Int):=ω;go_enter func102,ntmps102;go_wp2;go_ret;rw[a.o];exact⟨_,_,_,rfl,TabZ.nil _ _,Zl _ _⟩
 | succ n ih =>
  intro k w hn t;obtain⟨N,A⟩:∃N,N=n+1:=⟨_,rfl⟩
  have f:=un A;rw[<-A]at hn ⊢;have av:(N:Int)-1=(n:Int):=ω;clear A;by_cases hk:k=0
  ·subst hk;have a:=un (show(y1l N 0).map zN=[[]]by unfold y1l;rfl);go_enter func102,ntmps102;go_wp2;go_ret
   rw[a.o];exact⟨_,_,_,rfl,TabZ.one rfl,zae _ _⟩
  have ay:((k:Int) == 0)=false:=by simp;omega
  by_cases C:N<k
  ·have a:=un (show(y1l N k).map zN=[]by rw[y3E C];rfl);have al:(N:Int)<(k:Int):=ω
   go_enter func102,ntmps102;go_wp2;go_ret;rw[a.o];exact⟨_,_,_,rfl,TabZ.nil _ _,Zl _ _⟩
  obtain⟨j,hj⟩:∃j,k=j+1:=⟨k-1,ω⟩
  have HJ:=un hj;have ak:(k:Int)-1=(j:Int):=ω;have al:¬(N:Int)<(k:Int):=ω;refine μ6 (show(y1l N k).map zN=(y1l n k).map zN++((y1l n j).map λx=>x++[n]).map zN by rw[f.o,hj,y4R (by have:=f.o;omega),X8]) (fun(w:World)=>ih k w (by have:=f.o;omega) t) (fun(w:World)=>ih j w (by have:=f.o;omega) ω) (Zf (y1H n k) (Xq δ (show n<=8 by have:=f.o;omega))) (Zf (y1H n j) (Xq δ (show n<=8 by have:=f.o;omega))) (show ∀x∈y1l n j,x.length<=8 from λx o=>by obtain⟨P,_,h⟩:=Dz.picks_pl o;omega) λa M Q ab ac ai=>?_;clear hj ih C hk;generalize y1l n k=pk at *
  generalize y1l n j=pj at *
  go_enter func102,ntmps102;go_wp2_with fail
  refine(M.o _).mono ?_;rintro e w1 ⟨O,cO,l,rfl,b,hb1⟩;have HP:=un (show(pk.map zN).length<=256 by rw[ZK];exact ab.o);generalize hp:(pk.map zN).length=p at *
  refine μ3 hp b hb1 λad r F=>?_;clear b hb1 hp;go_wp2_with fail
  refine(Q.o _).mono ?_;rintro e w2 ⟨S,cS,ls,rfl,hS,hb2⟩;have HQ:=un (show(pj.map zN).length<=256 by rw[ZK];exact ac.o);generalize hq:(pj.map zN).length=q at *
  refine μ5 hq (hS.base (Zb _)) (r.o.below hb2) (F.o.trans (hb2.mono F.o.size)) (show ∀g,(Value.slice O p cO).ownBlock=some g->(Value.slice S q cS).ownBlock≠some g from λg h1 m=>by have:=(r.o.own.lt g h1).2;have:=(hS.own.lt g m).1;omega) λv af X J H=>?_;clear hS hb2 hq;go_wp2_with fail
  go_loopw [5,7] (λov D wr=>∃(i:Nat) (O:OA) (cO:Nat) (l:List Value),D=.int .i64 i/\ov=(O,p+i,cO)/\i<=q/\TabZ wr w.heap.size (O,p+i,cO) l (pk.map zN++((pj.take i).map λx=>x++[n]).map zN)/\TabZ wr 0 (S,q,cS) ls (pj.map zN)/\(∀g,(Value.slice O (p+i) cO).ownBlock=some g->(Value.slice S q cS).ownBlock≠some g)/\Below w w wr)
   (λ_ D _=>q-(intOf D).toNat)
  case atStart=>exact⟨0,O,cO,l,rfl,rfl,Zb _,by show TabZ _ _ _ _ (_++[]);rw[XT];exact X.o,af.o,H.o,J.o⟩
  rename World=>wr
  obtain⟨i,O,cO,l,rfl,rfl,hi,b,hS,B,y⟩:=hrel;refine μ5 b hS B y b.nlen λr G E d Z=>?_;have az:=HP.o;have aA:=HQ.o;by_cases C:i<q
  ·obtain⟨x,o⟩:∃x,pj[i]? = some x:=⟨pj[i]'(by have:=v.o;rw[ZK]at this;omega),Ze _⟩
   have HT:=un (show((pj.take (i+1)).map λx=>x++[n]).map zN=((pj.take i).map λx=>x++[n]).map zN++[zN x++[(n:Int)]]by rw[y1D o,X8];show _++[zN (x++[n])]=_;rw[y5j];rfl);obtain⟨bS,rfl,_,_⟩:=hS.has ω;obtain⟨aX,cx,_,z1,z⟩:=hS.at_ (show(pj.map zN)[i]? = some (zN x)by rw[Z1,o];rfl);rw[y1y]at z1 z;have U:=un z;have aB:=ai.o x (Zj o);have ax:(i:Int)<(q:Int):=ω;have aw:(0:Int)<=(i:Int):=Zg _;clear b hS B y z o;go_upto_region 12 with (at_builtin;go_loud (refine wpl rfl (λK s=>y1n (N:=x.length) _ _ rfl rfl (IntsZ.nil _ wr.heap.size) rfl (by have h:=U.o.news;rw[y1y]at h;exact h) (Xc _) ω (Za _) K s) ?_;rintro _ w6 ⟨X6,c6,rfl,hI6,hk6,hb6,hf6,ho6⟩;have R:=un hI6;have u:=un hb6;clear hI6 hk6 hb6 hf6 ho6))
   go_upto_region 13 with (at_builtin;go_loud (refine wpl rfl (λK s=>y1n (N:=x.length+1) _ _ rfl rfl (R.o.alloc _) rfl (ys:=[(n:Int)]) (y19 (zal _ _ _) rfl) (by rw[XY,y1y]) ω (by have:=u.o.size;simp;omega) K s) ?_;rintro _ w7 ⟨X7,c7,rfl,hI7,hk7,hb7,hf7,ho7⟩;have T:=un hI7;have c:=un ((Xn u.o u.o.size _).trans hb7);clear hI7 hk7 hb7 hf7 ho7))
   go_wp2_with (at_builtin;go_loud (refine wpl rfl (λK s=>y1Q (N:=p+i+1) _ _ rfl rfl ((r.o.below c.o).alloc _) rfl (zal _ _ _) ((T.o.base (Zb _)).alloc _) (by rw[<-Z.o]) ω (by have:=c.o.size;have:=d.o.size;simp;omega) K s) ?_;rintro _ w8 ⟨O8,c8,rfl,hO8,t,hb8,hf8,ho8⟩;refine μ4 hO8 (((G.o.below c.o).alloc _).other t hf8 E.o) (show ∀g,(Value.slice O8 (p+i+1) c8).ownBlock=some g->(Value.slice (some ⟨bS,0,none⟩) q cS).ownBlock≠some g from λg hg m=>ho8.elim (λe=>E.o g (e▸hg) m) λe=>by have h3:=((G.o.below c.o).own.lt g m).2;rw[hg]at e;injection e with e;simp at e;omega) ((Xn (d.o.trans (c.o.mono d.o.size)) (d.o.trans (c.o.mono d.o.size)).size _).trans hb8) λY ag I L=>?_;clear hO8 t hb8 hf8 ho8))
   go_roundw
   case rel=>exact⟨i+1,O8,c8,_,by go_num,rfl,ω,by rw[HT.o,<-XU];exact Y.o,ag.o,I.o,L.o⟩
   case measure=>simp[intOf];omega
  obtain rfl:i=q:=ω;have W:=un (show TabZ wr w.heap.size (.slice O ((y1l N k).map zN).length cO) l ((y1l N k).map zN)by have h:=r.o;rw[Z2 (by have:=v.o;rw[ZK]at this;omega),<-a.o]at h;have m:=h.nlen;rw[<-m];exact h);have V:=un (show p+i=((y1l N k).map zN).length by rw[a.o,Zz,ad.o,ZK,ZK,<-v.o,ZK]);clear b hS B y;go_wp2;go_ret;exact⟨O,cO,l,by rw[<-V.o];rfl,W.o,d.o⟩
end Zr
open Dz (y1l y1p y1C y1U y1J y1i)
def y3D(h:p∈y1l n k):p.length=k/\∀c∈p,c<n:=by grind[Dz.picks_pl,Dz.pl_mem]
def y4n{A:List (List Int)}(a:∀x∈A,x.length=N)(h:r<A.length):(A.getD r []).length=N:=by rw[Zh,Ze h];exact a _ (Xk h)
def y4a{A:List (List Int)}:(y1p A rs p).length=rs.length/\∀r∈y1p A rs p,r.length=p.length:=by unfold y1p;exact⟨ZK ..,λr hr=>by obtain⟨x,_,rfl⟩:=ZH.1 hr;exact ZK ..⟩
namespace Zr
def y51(aA:OA)(nA cA:Nat)(lA:List Value)(A:List (List Int))(t:OA)(a u:Nat)(rs:List Nat)(N:Nat)(w:World)(K:TabZ w 0 (aA,nA,cA) lA A)(m:IntsZ w 0 (t,a,u) (zN rs))(P:∀x∈A,x.length=N)(L:y1U 9 A)(hr:∀r∈rs,r<A.length)(hn:a<=4)(hN:N<=8) :
  Calls prog 178 #[(aA,nA,cA),(t,a,u),(N:Int)] w λe w'=>e=.returned (.bool (y1J A rs N))/\Below w w w':=by
 refine μ10 K m P L hr (show rs.length=a by rw[m.len,y1y]) (show y1J A rs N=(y1l N a).any λp=>decide (y1C a (y1p A rs p)≠0)by unfold y1J;rw[<-m.len.trans (y1y rs)]) (λp (h:p∈y1l N a)=>y3D h) (Zf (y1H N a) (Xq δ hN)) (fun(w:World)=>y5g N a w hN ω) λT HR W V F Y I E ab HP=>?_;generalize y1J A rs N=wb at *
 generalize y1l N a=ps at *
 clear K m P L hr;go_enter func178,ntmps178;go_wp2_with fail
 refine(HP.o _).mono ?_;rintro e w1 ⟨S,cS,ls,rfl,hS,hb1⟩;generalize hq:(ps.map zN).length=q at *
 have s:=un (show ps.length=q by rw[<-hq,ZK]);have av:q<=256:=by rw[<-s.o];exact ab.o
 have HS:=un (hS.base (Zb _));have f:=un hb1;clear hS hb1 hq;go_wp2_with fail
 go_loopw [8] (λz wr=>∃i:Nat,z=.int .i64 i/\i<=q/\(∀p∈ps.take i,y1C a (y1p A rs p)=0)/\Below w1 w1 wr)
  (λz _=>q-(intOf z).toNat)
 case atStart=>exact⟨0,rfl,Zb _,(λp h=>by cases h),Zl _ _⟩
 rename World=>wr
 obtain⟨i,rfl,hi,y,g⟩:=hrel;have J:=un y;have n:=un g;by_cases al:i<q
 ·obtain⟨p,j⟩:∃p,ps[i]? = some p:=⟨ps[i]'(by rw[s.o];exact al),Ze _⟩
  refine μ3 (Zj j) (show ps.take (i+1)=ps.take i++[p]by rw[Xe,j];rfl) (HS.o.below g) λo HT G=>?_;obtain⟨bS,rfl,_,_⟩:=G.o.has ω;obtain⟨aX,cx,_,R,k⟩:=G.o.at_ (show(ps.map zN)[i]? = some (zN p)by rw[Z1,j];rfl);rw[y1y]at R k;have v:=(E.o p o.o).1;rw[v]at R k;refine μ4 (y5U aA nA cA lA A t a u rs aX a cx p wr ((T.o.below f.o).below g) ((HR.o.below f.o).below g) k (λr hr=>⟨F.o r hr,λc hc=>by rw[y4n W.o (F.o r hr)];exact(E.o p o.o).2 c hc⟩) ω ω) (y4a (A:=A) (rs:=rs) (p:=p)) (V.o.part rs p) v λad H U ac=>?_;generalize hMM:y1p A rs p=M at *
  have D:=un hMM;clear hMM;have ar:(i:Int)<(q:Int):=ω;have aq:(0:Int)<=(i:Int):=Zg _;clear y g k j v;go_wp2_with fail
  refine ad.o.mono ?_;rintro e w2 ⟨O,cO,l,rfl,hO,hb2⟩;rw[H.o.1,Y.o]at hO ⊢;have Z:=un (hO.base (Zb _));have B:=un (n.o.trans (hb2.mono n.o.size));clear hO hb2;go_wp2_with fail
  refine(y6d a O cO l M _ Z.o (λr hr=>by rw[H.o.2 r hr,ac.o]) U.o ω).mono ?_;rintro e w3 ⟨rfl,hb3⟩;have C:=un (B.o.trans (hb3.mono B.o.size));clear hb3;by_cases b:y1C a M=0
  ·rw[b];have HD:=un b;have ai:=un (show ∀p∈ps.take (i+1),y1C a (y1p A rs p)=0 from λx Q=>by rw[HT.o]at Q;rcases ZT.1 Q with h | h;exact J.o x h;rw[XF.1 h,D.o];exact b)
   clear b;go_wp2;go_roundw
   case rel=>exact⟨i+1,by go_num,ω,ai.o,C.o⟩
   case measure=>simp[intOf];omega
  have HY:=un (show wb=true by rw[I.o];exact List.any_eq_true.2 ⟨p,o.o,ZG (by rw[D.o];exact b)⟩);generalize y1C a M=d at *
  have ao:(d == 0)=false:=by simpa using b
  have ap:(d != 0)=true:=by simpa using b
  clear b;go_wp2;go_ret;exact⟨by rw[HY.o];rfl,f.o.trans (C.o.mono f.o.size)⟩
 obtain rfl:i=q:=ω;have X:=un (show wb=false by rw[I.o,Ya];intro p j;have h:=J.o p (by rw[Z2 (Nat.le_of_eq s.o)];exact j);simpa using h);clear y g;go_wp2;go_ret;exact⟨by rw[X.o];rfl,f.o.trans (n.o.mono f.o.size)⟩
def y5Y(aA:OA)(nA cA:Nat)(lA:List Value)(A:List (List Int))(N:Nat)(w:World)(j:TabZ w 0 (aA,nA,cA) lA A)(v:∀x∈A,x.length=N)(u:y1U 9 A)(R:nA<=4)(hN:N<=8) :
  Calls prog 152 #[(aA,nA,cA),(N:Int)] w (zv3 w (zN (y1i A N nA))):=by
 refine μ4 j v u j.nlen λz F C n=>?_;clear j v u;go_enter func152,ntmps152;go_wp2_with fail
 go_loopw [5,6] (λM m wr=>∃(r k:Nat) (O:OA) (cO:Nat),m=.int .i64 r/\M=(O,k,cO)/\r<=nA/\IntsZ wr w (O,k,cO) (zN (y1i A N r))/\Below w w wr)
  (λ_ m _=>nA-(intOf m).toNat)
 case atStart=>exact⟨0,0,none,0,rfl,rfl,Zb _,IntsZ.nil _ _,Zl _ _⟩
 rename World=>wr
 obtain⟨r,k,O,cO,rfl,rfl,hr,a,d⟩:=hrel;refine μ3 a d (show(y1i A N r).length=k by rw[a.len,y1y]) λg b s=>?_;have Q:k<=4:=by have:=Dz.rankTo_len A N r;rw[a.len,y1y];omega
 by_cases J:r<nA
 ·have B:=un (z.o.below d);have T:(r:Int)<(nA:Int):=ω
  have S:(0:Int)<=(r:Int):=Zg _;have P:k<=3:=by have:=Dz.rankTo_len A N r;rw[a.len,y1y];omega
  have H:=un (show ∀x∈y1i A N r++[r],x<A.length from λx L=>by rcases ZT.1 L with h | h;have:=Dz.rankTo_lt A N r x h;rw[<-n.o];omega;rw[XF.1 h,<-n.o];exact J);clear a d;go_upto_region 7 with (at_builtin;go_loud (refine wpl rfl (λK l=>y1n (N:=k) _ _ rfl rfl (IntsZ.nil _ wr.heap.size) rfl (by have h:=(g.o.base (Zb _)).news;rw[y1y,s.o]at h;exact h) (Xc _) ω (Za _) K l) ?_;rintro _ U ⟨X6,c6,rfl,hI6,hk6,hb6,hf6,ho6⟩;have D:=un hI6;have f:=un hb6;clear hI6 hk6 hb6 hf6 ho6))
  go_upto_region 8 with (at_builtin;go_loud (refine wpl rfl (λK l=>y1n (N:=k+1) _ _ rfl rfl (D.o.alloc _) rfl (ys:=[(r:Int)]) (y19 (zal _ _ _) rfl) (by rw[XY,y1y,s.o]) ω (by have:=f.o.size;simp;omega) K l) ?_;rintro _ y ⟨X7,c7,rfl,hI7,hk7,hb7,hf7,ho7⟩;have p:=un (show IntsZ y wr.heap.size (X7,k+1,c7) (zN (y1i A N r++[r]))by rw[y5j];exact hI7);have c:=un ((Xn f.o f.o.size _).trans hb7);clear hI7 hk7 hb7 hf7 ho7))
  have I:=un (y51 aA nA cA lA A X7 (k+1) c7 (y1i A N r++[r]) N y (B.o.below c.o) (p.o.base (Zb _)) F.o C.o H.o ω hN);have t:=un (show y1i A N (r+1)=if y1J A (y1i A N r++[r]) N=true then y1i A N r++[r]else y1i A N r from rfl);generalize y1J A (y1i A N r++[r]) N=wb at *
  go_wp2_with fail
  refine I.o.mono ?_;rintro e V ⟨rfl,hb8⟩;refine μ3 ((b.o.trans (c.o.mono b.o.size)).trans (hb8.mono (Zf b.o.size c.o.size))) ((p.o.below hb8).base b.o.size) ((g.o.below c.o).below hb8) λo E G=>?_;clear hb8;cases wb
  ·have i:=un (show y1i A N (r+1)=y1i A N r from t.o);go_wp2;go_roundw
   case rel=>exact⟨r+1,k,O,cO,by go_num,rfl,ω,by rw[i.o];exact G.o,o.o⟩
   case measure=>simp[intOf];omega
  have i:=un (show y1i A N (r+1)=y1i A N r++[r]from t.o);go_wp2;go_roundw
  case rel=>exact⟨r+1,k+1,X7,c7,by go_num,rfl,ω,by rw[i.o];exact E.o,o.o⟩
  case measure=>simp[intOf];omega
 obtain rfl:r=nA:=ω;have q:=un (show k=(zN (y1i A N r)).length from a.len);clear a d;go_wp2;go_ret;exact⟨O,cO,by rw[<-q.o];rfl,by rw[<-q.o];exact g.o,b.o⟩
def y5C(aA:OA)(nA cA:Nat)(lA:List Value)(A:List (List Int))(N:Nat)(w:World)(a:TabZ w 0 (aA,nA,cA) lA A)(c:∀x∈A,x.length=N)(b:y1U 9 A)(i:nA<=4)(hN:N<=8) :
  Calls prog 153 #[(aA,nA,cA),(N:Int)] w λe w'=>e=.returned ((y1i A N nA).length:Int)/\Below w w w':=by
 have f:=un (y5Y aA nA cA lA A N w a c b i hN);clear a c b;go_enter func153,ntmps153;go_wp2_with fail
 refine f.o.mono ?_;rintro e w1 ⟨O,cO,rfl,hO,hb⟩;rw[y1y];have d:=un hb;clear hO hb;generalize hn9:(y1i A N nA).length=n at *
 have g:=un hn9;clear hn9;go_wp2;go_ret;exact⟨by rw[g.o];rfl,d.o⟩
end Zr
open Dz (y1U y1i y1q y2p)
def y4x{A:List (List Int)}{x:Int}(h:A[r]? = some row)(a:B[r]? = some x):(y1q A B).take (r+1)=(y1q A B).take r++[row++[x]]:=by unfold y1q;rw[Xe,List.getElem?_mapIdx,h,Zh,a];rfl
def y46{A:List (List Int)}(h:y1U 9 A)(a:∀x∈B,x.natAbs<=9):y1U 9 (y1q A B):=λr hr x b=>by unfold y1q at hr;obtain⟨i,hi,rfl⟩:=List.mem_mapIdx.1 hr;rcases ZT.1 b with q | q;exact h _ (Xk hi) x q;rw[XF.1 q];exact Dz.getD_abs a i
def y48{A:List (List Int)}(h:∀x∈A,x.length=N):∀x∈y1q A B,x.length=N+1:=λr hr=>by unfold y1q at hr;obtain⟨i,hi,rfl⟩:=List.mem_mapIdx.1 hr;rw[Zz,h _ (Xk hi)];rfl
def y47(A:List (List Int))(B:List Int):(y1q A B).length=A.length:=by unfold y1q;rw[List.length_mapIdx]
def y5k (w:World) (rs:List Nat) (b:Bool) (e:Ending) (w':World):Prop:=∃(O:OA) (cO:Nat),e=.returned (.tuple #[(O,rs.length,cO),b])/\IntsZ w' w (O,rs.length,cO) (zN rs)/\Below w w w'
namespace Zr
def y6l(aA:OA)(nA cA:Nat)(lA:List Value)(A:List (List Int))(aB:OA)(nB cB:Nat)(B:List Int)(aC:OA)(nC cC:Nat)(own:Int)(N:Nat)(w:World)(y:TabZ w 0 (aA,nA,cA) lA A)(b:IntsZ w 0 (aB,nB,cB) B)(C:∀x∈A,x.length=N)(M:y1U 9 A)(P:∀x∈B,x.natAbs<=9)(aw:nB=nA)(U:nA<=4)(hN:N<=7) :
  Calls prog 101 #[.agg #[(aA,nA,cA),(aB,nB,cB),(aC,nC,cC),.int .i64 own]] w (y5k w (y1i A N nA) (y2p A B N)):=by
 have f:=un y.nlen;have aa:=un b.len;subst aw;have L:=un (show ∃a,a<=7/\(nB=0/\a=0\/0<nB/\a=N)/\(∀x∈A,x.length=a)/\y1i A N nB=y1i A a nB/\y2p A B N=decide ((y1i (y1q A B) (a+1) nB).length=(y1i A a nB).length)from by rcases X2 nB with h | h;refine⟨0,ω,.inl ⟨h,rfl⟩,λx m=>?_,by rw[h];rfl,?_⟩;have:=List.length_pos_of_mem m;have:=f.o;omega;unfold y2p;rw[<-f.o,h];rfl;exact⟨N,hN,.inr ⟨h,rfl⟩,C,rfl,by unfold y2p;rw[f.o]⟩);obtain⟨a,aR,ay,S,D,z⟩:=L.o;refine μ6 S D z M P C λp aL aI I ab aK=>?_;rw[D,z];clear S D z M P L C;obtain⟨W,k⟩:∃W,(w.alloc (.cells #[(aA,nB,cA),(aB,nB,cB),(aC,nC,cC),.int .i64 own] 73))=W:=⟨_,rfl⟩
 refine μ4 (show θ W w.heap.size #[(aA,nB,cA),(aB,nB,cB),(aC,nC,cC),.int .i64 own] 73by rw[<-k];exact zam σ) (show Below w w W by rw[<-k];exact zae w _) (show TabZ W 0 (aA,nB,cA) lA A by rw[<-k];exact(y).alloc _) (show IntsZ W 0 (aB,nB,cB) B by rw[<-k];exact(b).alloc _) λap q g G=>?_;obtain⟨aG,a3,aH,a2,a4,a5,a7,a6⟩:=bc4 ap.o;clear y b;go_enter func101,ntmps101;go_upto_if 12 with fail
 clear k;go_cut[4] (λnv wx=>nv=.int .i64 (a:Int)/\wx=W)
 case first =>
  rcases ay with ⟨h1,u⟩ | ⟨h1,u⟩
  ·subst h1 u;go_wp2;go_meet
   case rel=>exact⟨rfl,rfl⟩
  obtain⟨row,d⟩:∃row,A[0]? = some row:=⟨A[0]'(by rw[<-f.o];exact h1),Ze _⟩
  obtain⟨bA,rfl,_,_⟩:=g.o.has h1;obtain⟨aX,cx,_,F,_⟩:=g.o.at_ d;have V:row.length=a:=p.o row (Zj d);rw[V]at F;have h3:(0:Int)<(nB:Int):=ω;clear d V;go_wp2;go_meet
  case rel=>exact⟨by rw[u],rfl⟩
 rename World=>wc
 obtain⟨rfl,rfl⟩:=hcut;go_wp2_with fail
 go_loopw [5,6] (λov E wr=>∃(r:Nat) (O:OA) (cO:Nat) (l:List Value),E=.int .i64 r/\ov=(O,r,cO)/\r<=nB/\TabZ wr wc.heap.size (O,r,cO) l ((y1q A B).take r)/\Below wc wc wr)
  (λ_ E _=>nB-(intOf E).toNat)
 case atStart=>exact⟨0,none,0,[],rfl,rfl,Zb _,TabZ.nil _ _,Zl _ _⟩
 rename World=>wr
 obtain⟨r,O,cO,l,rfl,rfl,hr,j,b⟩:=hrel;refine μ3 j j.nlen b λHO aj c=>?_;have e0:=zab b aG;have e1:=zab b aH;by_cases T:r<nB
 ·obtain⟨row,d⟩:∃row,A[r]? = some row:=⟨A[r]'(by rw[<-f.o];exact T),Ze _⟩
  obtain⟨x,m⟩:∃x,B[r]? = some x:=⟨B[r]'(by rw[<-aa.o];exact T),Ze _⟩
  have HT:=un (y4x d m);have t:=un (p.o row (Zj d));obtain⟨bA,rfl,_,_⟩:=g.o.has ω;obtain⟨bB,rfl,_,_⟩:=G.o.has ω;obtain⟨aX,cx,_,F,R⟩:=(g.o.below b).at_ d;have ae:=un R;have z2:=(G.o.below b).at_ m;rw[t.o]at F;have aV:(r:Int)<(nB:Int):=ω;have aU:(0:Int)<=(r:Int):=Zg _;clear j b R d m;go_upto_region 10 with (at_builtin;go_loud (refine wpl rfl (λK i=>y1n (N:=a) _ _ rfl rfl (IntsZ.nil _ wr.heap.size) rfl (by have h:=ae.o.news;rw[t.o]at h;exact h) (Xc _) ω (Za _) K i) ?_;rintro _ w6 ⟨X6,c6,rfl,hI6,hk6,hb6,hf6,ho6⟩;have ac:=un hI6;have s:=un hb6;have d0:=zab hb6 e0;have d1:=zab hb6 e1;have d2:=zab hb6 z2;clear hI6 hk6 hb6 hf6 ho6))
  go_upto_region 11 with (at_builtin;go_loud (refine wpl rfl (λK i=>y1n (N:=a+1) _ _ rfl rfl (ac.o.alloc _) rfl (ys:=[x]) (y19 (zal _ _ _) rfl) (by rw[XY,t.o]) ω (by have:=s.o.size;simp;omega) K i) ?_;rintro _ w7 ⟨X7,c7,rfl,hI7,hk7,hb7,hf7,ho7⟩;have ad:=un hI7;have o:=un ((Xn s.o s.o.size _).trans hb7);clear hI7 hk7 hb7 hf7 ho7))
  go_wp2_with (at_builtin;go_loud (refine wpl rfl (λK i=>y1Q (N:=r+1) _ _ rfl rfl ((HO.o.below o.o).alloc _) rfl (zal _ _ _) ((ad.o.base (Zb _)).alloc _) (by rw[<-aj.o]) ω (by have:=o.o.size;have:=c.o.size;simp;omega) K i) ?_;rintro _ w8 ⟨O8,c8,rfl,hO8,hk8,hb8,hf8,ho8⟩;have ai:=un hO8;have Z:=un ((Xn (c.o.trans (o.o.mono c.o.size)) (c.o.trans (o.o.mono c.o.size)).size _).trans hb8);clear hO8 hk8 hb8 hf8 ho8))
  go_roundw
  case rel=>exact⟨r+1,O8,c8,_,by go_num,rfl,ω,by rw[HT.o];exact ai.o,Z.o⟩
  case measure=>simp[intOf];omega
 obtain rfl:r=nB:=ω;have HW:=un (show TabZ wr 0 (O,r,cO) l (y1q A B)by have h:=j.base (Zb _);rw[Z2 (by rw[y47,<-f.o];exact Za _)]at h;exact h);have X:=un (g.o.below b);have ax:a+1<=8:=ω;have aT:IntKind.i64.wrap ((a:Int)+1)=((a+1:Nat):Int):=by rw[y1v ω];omega
 have af:=un (fun(w:World) (h:TabZ w 0 (aA,r,cA) lA A)=>y5Y aA r cA lA A a w h p.o I.o U ω);have ag:=un (fun(w:World) (h:TabZ w 0 (O,r,cO) l (y1q A B))=>y5C O r cO l (y1q A B) (a+1) w h (y48 p.o) (y46 I.o ab.o) U ax);clear j b;go_wp2_with fail
 refine(af.o _ X.o).mono ?_;rintro e w2 ⟨Q,cQ,rfl,hQ,hb2⟩;rw[y1y]at hQ ⊢;refine μ3 hQ (HW.o.below hb2) (c.o.trans (hb2.mono c.o.size)) λHQ ao H=>?_;clear hQ hb2;go_wp2_with fail
 refine(ag.o _ ao.o).mono ?_;rintro e w3 ⟨rfl,hb3⟩;have al:=un (HQ.o.below hb3);have Y:=un (H.o.trans (hb3.mono H.o.size));clear hb3;generalize hk1:(y1i A a r).length=n at *
 generalize hk2:(y1i (y1q A B) (a+1) r).length=k2 at *
 have J:=un hk1;have aJ:=un hk2;clear hk1 hk2;have aS:((k2:Int) == (n:Int))=decide (k2=n):=by by_cases e:k2=n<;>simp[e]<;>omega
 go_wp2;refine Zi (v:=.tuple #[(Q,n,cQ),.bool (decide (k2=n))]) (by simp[results,results101,go_sem]) rfl ?_;exact⟨Q,cQ,by rw[J.o],by rw[J.o];exact al.o.base (Zf q.o.size c.o.size),q.o.trans (Y.o.mono q.o.size)⟩
