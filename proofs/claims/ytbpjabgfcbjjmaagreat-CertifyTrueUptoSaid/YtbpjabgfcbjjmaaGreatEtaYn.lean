/- Contracts and lemmas: Eta Size2 Bas Bland Bland2 Count Lp1 LuW LuW2 Prob1 Lp2 Lp3 Prim1 Prim2 Prim3 AppZ. Conditions: as each says. -/
import Derived.Test.YtbpjabgfcbjjmaaGreatLin0Yn
import Derived.Test.YtbpjabgfcbjjmaaGreatQuot7Yn
import Derived.Lib.AppendZerosOnto
set_option linter.all false
set_option maxHeartbeats 1000000
set_option maxRecDepth 100000
namespace Am
variable {F:LUv}{C D:List (List Rat)}{a v w x y:List Rat}{i k n:Nat}
structure CSq (n:Nat) (C:List (List Rat)):Prop where
  len:C.length=n
  col:∀i,i<n->(C.getD i []).length=n
def zcZ (n:Nat) (C:List (List Rat)):List (List Rat):=(List.range n).map λr=>C.map λc=>el c r
def zfJ(n:Nat)(C:List (List Rat)):(zcZ n C).length=n:=by simp[zcZ]
def zfK(h:CSq n C):∀i,i<n->((zcZ n C).getD i []).length=n:=by intro i hi;unfold zcZ;rw[zbU _ _ ψ 0];simp[h.len]
def zeI{j:Nat}(hi:i<n)(hj:j<C.length):en (zcZ n C) i j=en C j i:=by unfold en zcZ;rw[zbU _ _ ψ 0,zcA hi];unfold el;rw[zbU _ _ hj []]
def CReg (n:Nat) (C:List (List Rat)):Prop:=Reg n λi j=>en C j i
def Mk (n:Nat) (C:List (List Rat)) (x v:List Rat):Prop:=∀i,i<n->zai n (λj=>en C j i*el x j)=el v i
def MkT (n:Nat) (C:List (List Rat)) (y c:List Rat):Prop:=∀j,j<n->zai n (λi=>el y i*en C j i)=el c j
def zvk{M N:Nat->Nat->Rat}(h:∀i,i<n->∀j,j<n->M i j=N i j):Reg n M↔Reg n N:=by
 constructor;intro r x a;exact r x λi hi=>by rw[<-a i hi];exact zaj λj hj=>by rw[h i hi j hj]
 intro r x a;exact r x λi hi=>by rw[<-a i hi];exact zaj λj hj=>by rw[h i hi j hj]
theorem zrk(h:CSq n C):Reg n (en (zcZ n C))↔CReg n C :=
 zvk λ_ hi _ hj=>zeI hi (by rw[h.len];exact hj)
theorem Mk.unique{n:Nat}{C:List (List Rat)}(h:CReg n C){x y v:List Rat}(a:Mk n C x v)(e:Mk n C y v)(f:x.length=n)(ly:y.length=n):x=y:=by
 have:=Reg.unique h (x:=el x) (y:=el y) λi hi=>by rw[a i hi,e i hi]
 grind[zyn]
def zes (n:Nat) (C:List (List Rat)) (v:List Rat):List Rat:=match zoN n (zcZ n C)with | some F=>zaR n F v | none=>[]
def zlA (n:Nat) (C:List (List Rat)) (v:List Rat):List Rat:=match zoN n (zcZ n C)with | some F=>zcq n F v | none=>[]
def ziH(h:CSq n C)(hr:CReg n C):∃F,zoN n (zcZ n C)=some F/\LUinv n (en (zcZ n C)) n F:=by
 rcases zoO (zfJ n C) (zfK h)with h1 | ⟨_,h2⟩
 exact h1;grind[zrk]
def zAZ(h:CSq n C)(hr:¬CReg n C):zoN n (zcZ n C)=none:=by
 rcases zoO (zfJ n C) (zfK h)with ⟨G,h1,a⟩ | ⟨h1,_⟩
 exact absurd ((zrk h).1 a.reg) hr;exact h1
theorem zxo(h:CSq n C)(hF:LUinv n (en (zcZ n C)) n F)(v:List Rat):Mk n C (zaR n F v) v:=λi hi=>by rw[<-zsl hF v hi];exact zaj λj hj=>by rw[zeI hi (by rw[h.len];exact hj)]
theorem zu3(h:CSq n C)(hF:LUinv n (en (zcZ n C)) n F)(v:List Rat):MkT n C (zcq n F v) v:=λj hj=>by rw[<-zla hF v hj];exact zaj λi hi=>by rw[zeI hi (by rw[h.len];exact hj)]
theorem zci(h:CSq n C)(hr:CReg n C)(v:List Rat):Mk n C (zes n C v) v/\(zes n C v).length=n:=by obtain⟨F,e,hF⟩:=ziH h hr;unfold zes;rw[e];grind[zxo,zlb]
def ze1(h:CSq n C)(hr:CReg n C)(v:List Rat):MkT n C (zlA n C v) v/\(zlA n C v).length=n:=by obtain⟨F,e,hF⟩:=ziH h hr;unfold zlA;rw[e];grind[zu3,zoP]
def znS(h:CSq n C)(hr:CReg n C)(a:Mk n C x v)(e:x.length=n):x=zes n C v :=
 by grind[Mk.unique,zci]
def zBj(h:CSq n C)(hr:CReg n C)(a:MkT n C y v)(ly:y.length=n):y=zlA n C v:=by
 have s:=ze1 h hr v;have:=zqE (n:=n) (M:=λi j=>en C j i) (λv=>by refine⟨el (zes n C ((List.range n).map v)),λi hi=>?_⟩;rw[(zci h hr _).1 i hi];unfold el;rw[zbU _ _ (by simpa using hi) 0,zcA hi]) (y:=el y) (z:=el (zlA n C v)) λj hj=>by rw[a j hj,s.1 j hj]
 grind[zyn]
def zsC (n k:Nat) (w x:List Rat):List Rat:=(List.range n).map λi=>if i=k then el x k/el w k else el x i-el w i*(el x k/el w k)
def zng(n k:Nat)(w x:List Rat):(zsC n k w x).length=n:=by simp[zsC]
def zkK(hi:i<n):el (zsC n k w x) i=if i=k then el x k/el w k else el x i-el w i*(el x k/el w k):=by
 unfold zsC
 conv=>lhs;unfold el
 rw[zbU _ _ ψ 0,zcA hi];rfl
def zp2 (n k:Nat) (w z:List Rat):List Rat:=z.set k ((el z k-zai n (λi=>if i=k then 0 else el w i*el z i))/el w k)
theorem zjn(n k:Nat)(w z:List Rat):(zp2 n k w z).length=z.length:=by simp[zp2]
def zvw(hk:k<C.length)(h:k<n)(x:Nat->Rat)(i:Nat):zai n (λj=>en (C.set k a) j i*x j)=el a i*x k+zai n (λj=>if j=k then 0 else en C j i*x j):=by
 rw[zdJ h]
 simp_all[zi2,if_pos,zaj,if_neg,Z6]
def zp3(h:CSq n C)(hk:k<n)(hw:Mk n C w a)(o:el w k≠0)(l:Mk n C x v):Mk n (C.set k a) (zsC n k w x) v:=by
 intro i hi;rw[zvw (by rw[h.len];exact hk) hk];have g:zai n (λj=>if j=k then 0 else en C j i*el (zsC n k w x) j)=zai n (λj=>(if j=k then 0 else en C j i*el x j)+(-(el x k/el w k))*(if j=k then 0 else en C j i*el w j)):=zaj λj hj=>by by_cases e:j=k;rw[if_pos e,if_pos e,if_pos e];grind;rw[if_neg e,if_neg e,if_neg e,zkK hj,if_neg e];grind
 rw[g,zcm,za7,zkK hk,if_pos rfl,<-hw i hi,<-l i hi,zdJ hk,zdJ (f:=λj=>en C j i*el x j) hk];grind
def zuK{z:List Rat}(h:CSq n C)(hk:k<n)(hw:Mk n C w a)(q:el w k≠0)(s:z.length=n)(l:MkT n C y (zp2 n k w z)):MkT n (C.set k a) y z:=by
 have ez:∀j,j<n->el (zp2 n k w z) j=if k=j then (el z k-zai n (λi=>if i=k then 0 else el w i*el z i))/el w k else el z j:=λj hj=>ziZ ω
 intro j hj;by_cases e:j=k;subst e;have f:zai n (λi=>el y i*en (C.set j a) j i)=zai n (λi=>zai n (λt=>el y i*(en C t i*el w t))):=zaj λi hi=>by rw[zi2 (by rw[h.len];exact hk),if_pos rfl,<-hw i hi,za7]
 rw[f,zbq];have o:zai n (λt=>zai n (λi=>el y i*(en C t i*el w t)))=zai n (λt=>el w t*el (zp2 n j w z) t):=zaj λt g=>by rw[<-l t g,<-za7];exact zaj λi _=>ψ
 rw[o,zdJ hk,ez j hj,if_pos rfl];have p:zai n (λt=>if t=j then 0 else el w t*el (zp2 n j w z) t)=zai n (λt=>if t=j then 0 else el w t*el z t):=zaj λt g=>by by_cases e:t=j;rw[if_pos e,if_pos e];rw[if_neg e,if_neg e,ez t g,if_neg (Z6 e)]
 rw[p];grind;have f:zai n (λi=>el y i*en (C.set k a) j i)=zai n (λi=>el y i*en C j i):=zaj λi _=>by rw[zi2 (by rw[h.len];exact hk),if_neg (Z6 e)]
 rw[f,l j hj,ez j hj,if_neg (Z6 e)]
theorem CSq.set{n k:Nat}{C:List (List Rat)}{a:List Rat}(h:CSq n C)(e:a.length=n):CSq n (C.set k a):=by
 refine⟨by rw[ZW,h.len],λi hi=>?_⟩;rw[Zh,Xy];split
 split
 exact e;rename_i h1 h2;subst h1;exact absurd (by rw[h.len];exact hi) h2;have:=h.col i hi;rw[Zh]at this;exact this
def zjl(h:CSq n C)(hr:CReg n C)(hk:k<n)(hw:Mk n C w a)(q:el w k≠0):CReg n (C.set k a):=by
 intro x p
 -- C (w x_k + x without k) = 0
 have l:=hr (λj=>el w j*x k+if j=k then 0 else x j) λi hi=>by
  have o:zai n (λj=>en C j i*(el w j*x k+if j=k then 0 else x j))=zai n (λj=>en C j i*el w j*x k+if j=k then 0 else en C j i*x j):=zaj λj _=>by split<;>grind
  have f:=p i hi;rw[zvw (by rw[h.len];exact hk) hk]at f;rw[o,zcm,zb6,hw i hi];exact f
 grind
inductive Etas (n:Nat) (C:List (List Rat)):List (Nat × List Rat)->List (List Rat)->Prop where
 | nil:Etas n C [] C
 | snoc {es:List (Nat × List Rat)} {D:List (List Rat)} {k:Nat} {w a:List Rat} (h:Etas n C es D) (hk:k<n) (lw:w.length=n) (la:a.length=n) (hw:Mk n D w a) (hp:el w k≠0):Etas n C (es++[(k,w)]) (D.set k a)
def Etas.sq{es:List (Nat × List Rat)}(h:Etas n C es D)(hC:CSq n C):CSq n D:=by
 induction h with
 | nil=>exact hC
 | snoc _ _ _ la _ _ ih=>exact ih.set la
def Etas.reg{es:List (Nat × List Rat)}(h:Etas n C es D)(hC:CSq n C)(hr:CReg n C):CReg n D:=by
 induction h with
 | nil=>exact hr
 | snoc h hk _ _ hw hp ih=>exact zjl (h.sq hC) ih hk hw hp
def zix (n:Nat) (es:List (Nat × List Rat)) (x:List Rat):List Rat:=es.foldl (λx e=>zsC n e.1 e.2 x) x
def zep (n:Nat) (es:List (Nat × List Rat)) (z:List Rat):List Rat:=es.foldr (λe z=>zp2 n e.1 e.2 z) z
def zoB(es:List (Nat × List Rat)):∀(x:List Rat),x.length=n->(zix n es x).length=n:=by
 induction es with
 | nil=>exact λx h=>h
 | cons e es ih=>exact λx _=>ih _ (zng _ _ _ _)
def Etas.solve{es:List (Nat × List Rat)}(h:Etas n C es D)(hC:CSq n C)(a:Mk n C x v):Mk n D (zix n es x) v:=by
 induction h with
 | nil=>exact a
 | snoc h hk _ _ hw hp ih =>
  unfold zix;rw[List.foldl_append];exact zp3 (h.sq hC) hk hw hp ih
def Etas.solveT{es:List (Nat × List Rat)}(h:Etas n C es D)(hC:CSq n C):∀z:List Rat,z.length=n->MkT n C y (zep n es z)->MkT n D y z:=by
 induction h with
 | nil=>exact λz _ a=>a
 | snoc h hk _ _ hw hp ih =>
  intro z e a;unfold zep at a;rw[List.foldr_append]at a;exact zuK (h.sq hC) hk hw hp e (ih _ (by grind[zjn]) a)
def Etas.take{n:Nat}{C D:List (List Rat)}{es:List (Nat × List Rat)}(h:Etas n C es D):∀t,t<es.length->∃(E:List (List Rat)) (k:Nat) (w a:List Rat),Etas n C (es.take t) E/\es[t]? = some (k,w)/\k<n/\w.length=n/\Mk n E w a/\el w k≠0:=by
 induction h with
 | nil=>grind
 | @snoc es D k w a h hk lw la hw hp ih =>
  intro t f;rw[Zz]at f;by_cases e:t<es.length;obtain⟨E,p,w',g,h1,l,o⟩:=ih t e;exact⟨E,p,w',g,by rw[Vr ω];exact h1,by rw[Z4 e];exact l,o⟩;grind
end Am
namespace Am
def sB (n S T:Nat):Nat:=xB n (uB n S) (cB n (S+T)) T
def ywp{n S T i:Nat}(hi:i<n):cB n (S+T)<=sB n S T:=by have:=ZV (uB n S+cB n (S+T)+1) (show 1<=n by omega);unfold sB xB zB;omega
section
variable {m:Rat->Nat} (h:SzLaw m) {n S T:Nat} {M:Nat->Nat->Rat} {F:LUv} {b:List Rat} (hF:LUinv n M n F) (hS:∀i,i<n->∀j,j<n->m (M i j)<=S) (hT:∀i,i<n->m (el b i)<=T)
include h hF hS
include hT in
theorem ywq:∀i,i<n->m (el (zaR n F b) i)<=cB n (S+T) :=
 h.cram (M:=M) (b:=el b) (λy a=>hF.reg y a) (λi hi j hj=>Zf (hS i hi j hj) (Yx _ _)) (λi hi=>Zf (hT i hi) (Nat.le_add_left _ _)) λi hi=>zsl hF b hi
include hT in
theorem ywm:SolLe m n F b (sB n S T):=ywt h hF (hF.size h (Za _) hS) hT (ywq h hF hS hT)
include hT in
theorem ywr:∀i,i<n->m (el (zcq n F b) i)<=cB n (S+T) :=
 h.cram (M:=λi j=>M j i) (b:=el b) (λy a=>hF.regT y a) (λi hi j hj=>Zf (hS j hj i hi) (Yx _ _)) (λi hi=>Zf (hT i hi) (Nat.le_add_left _ _)) λi hi=>by rw[<-zla hF b hi];exact zaj λj _=>ψ
theorem ywj{x:Nat}(hT:∀i,i<n->m (el b i)<=T)(a:∀i,i<n->m (el (zcq n F b) i)<=x):SolTLe m n F b (xB n (uB n S) x T):=ywo h hF (hF.size h (Za _) hS) hT a
end
section
variable {m:Rat->Nat} (h:SzLaw m) {n S T:Nat} {C:List (List Rat)} {v:List Rat} (hC:CSq n C) (hr:CReg n C) (hS:∀j,j<n->∀i,i<n->m (en C j i)<=S) (hT:∀i,i<n->m (el v i)<=T)
include h hC hr hS hT
theorem yws:∀i,i<n->m (el (zes n C v) i)<=cB n (S+T):=by obtain⟨F,e,hF⟩:=ziH hC hr;unfold zes;rw[e];exact ywq h hF (λi hi j hj=>by rw[zeI hi (by rw[hC.len];exact hj)];grind) hT
theorem ywh:∀i,i<n->m (el (zlA n C v) i)<=cB n (S+T):=by obtain⟨F,e,hF⟩:=ziH hC hr;unfold zlA;rw[e];exact ywr h hF (λi hi j hj=>by rw[zeI hi (by rw[hC.len];exact hj)];grind) hT
theorem zo0:∀i,i<n->m (el (zes n C v) i)<=sB n S T:=λi hi=>Zf (yws h hC hr hS hT i hi) (ywp hi)
theorem zlj:∀i,i<n->m (el (zlA n C v) i)<=sB n S T:=λi hi=>Zf (ywh h hC hr hS hT i hi) (ywp hi)
end
end Am
namespace Am
variable {C D:List (List Rat)}{v w x z:List Rat}{S T i j k n t:Nat}
def zhg (m:Rat->Nat) (n S:Nat) (C:List (List Rat)):Prop:=∀j,j<n->∀i,i<n->m (en C j i)<=S
inductive EtasZ (m:Rat->Nat) (S n:Nat) (D:List (List Rat)):List (Nat × List Rat)->List (List Rat)->Prop where
  | nil (h:CSq n D) (hr:CReg n D) (hz:zhg m n S D):EtasZ m S n D [] D
  | snoc {es:List (Nat × List Rat)} {E:List (List Rat)} {k:Nat} {a:List Rat} (h:EtasZ m S n D es E) (hk:k<n) (la:a.length=n) (za:∀i,i<n->m (el a i)<=S) (hp:el (zes n E a) k≠0):EtasZ m S n D (es++[(k,zes n E a)]) (E.set k a)
namespace EtasZ
variable {m:Rat->Nat} {S n:Nat} {D:List (List Rat)} {es:List (Nat × List Rat)} {C:List (List Rat)}
def good(h:EtasZ m S n D es C):CSq n C/\CReg n C/\zhg m n S C:=by
 induction h with
 | nil h hr hz=>grind
 | @snoc es E k a h hk la za hp ih =>
  obtain⟨h1,e,f⟩:=ih;refine⟨h1.set la,zjl h1 e hk (zci h1 e a).1 hp,λj hj i hi=>?_⟩;rw[zi2 (by rw[h1.len];exact hk)];split
  grind;exact f j hj i hi
def base(h:EtasZ m S n D es C):CSq n D/\CReg n D/\zhg m n S D:=by
 induction h with
 | nil h hr hz=>grind
 | snoc _ _ _ _ _ ih=>exact ih
def etas(h:EtasZ m S n D es C):Etas n D es C:=by
 induction h with
 | nil=>exact .nil
 | @snoc es E k a h hk la za hp ih=>exact .snoc ih hk (zci h.good.1 h.good.2.1 a).2 la (zci h.good.1 h.good.2.1 a).1 hp
def take(h:EtasZ m S n D es C):∀t,t<=es.length->∃E,EtasZ m S n D (es.take t) E/\∀(e:Nat × List Rat),es[t]? = some e->e.1<n/\e.2.length=n/\el e.2 e.1≠0/\∃a,e.2=zes n E a/\∀i,i<n->m (el a i)<=S:=by
  induction h with
  | nil h hr hz => intro t g;obtain rfl:t = 0:=ψ
                   exact⟨_,.nil h hr hz,λe q=>by simp at q⟩
  | @snoc es E k a h hk la za hp ih =>
    intro t g;rw[Zz]at g;by_cases e:t<=es.length;obtain⟨l,h1,p⟩:=ih t e;by_cases o:t<es.length;grind;obtain rfl:t=es.length:=ω;refine⟨E,by rw[Vr e,XL];exact h,λx f=>?_⟩;simp at f;subst f;exact⟨hk,(zci h.good.1 h.good.2.1 a).2,hp,a,rfl,za⟩;obtain rfl:t=es.length+1:=by simp at g;omega
    refine⟨E.set k a,?_,λx f=>?_⟩;rw[Z2 σ];exact .snoc h hk la za hp;grind
end EtasZ
def zsd{es:List (Nat × List Rat)}{e:Nat × List Rat}(h:es[t]? = some e)(x:List Rat):zix n (es.take (t+1)) x=zsC n e.1 e.2 (zix n (es.take t) x):=by unfold zix;rw[Xe,h];simp
def zwJ{m:Rat->Nat}{es:List (Nat × List Rat)}(h:EtasZ m S n D es C)(v:List Rat)(f:t<=es.length):∃E,EtasZ m S n D (es.take t) E/\zix n (es.take t) (zes n D v)=zes n E v:=by obtain⟨E,h1,_⟩:=h.take t f;have a:=h.base;have e:=zci a.1 a.2.1 v;exact⟨E,h1,znS h1.good.1 h1.good.2.1 (h1.etas.solve a.1 e.1) (zoB _ _ e.2)⟩
def zvq{m:Rat->Nat}{es:List (Nat × List Rat)}(h:EtasZ m S n D es C)(v:List Rat):zix n es (zes n D v)=zes n C v:=by have a:=h.base;have e:=zci a.1 a.2.1 v;exact znS h.good.1 h.good.2.1 (h.etas.solve a.1 e.1) (zoB _ _ e.2)
def zsc{m:Rat->Nat}(hm:SzLaw m){es:List (Nat × List Rat)}(h:EtasZ m S n D es C)(f:∀i,i<n->m (el v i)<=T)(e:t<=es.length):∀i,i<n->m (el (zix n (es.take t) (zes n D v)) i)<=sB n S T:=by obtain⟨E,h1,a⟩:=zwJ h v e;rw[a];exact zo0 hm h1.good.1 h1.good.2.1 h1.good.2.2 f
def zrn{m:Rat->Nat}(hm:SzLaw m){es:List (Nat × List Rat)}(h:EtasZ m S n D es C){e:Nat × List Rat}(f:es[t]? = some e):e.1<n/\e.2.length=n/\el e.2 e.1≠0/\∀i,i<n->m (el e.2 i)<=sB n S S:=by obtain⟨E,h1,g⟩:=h.take t (Xm (ZF.1 f).1);obtain⟨a1,a2,a3,a,a4,a5⟩:=g e f;refine⟨a1,a2,a3,λi hi=>?_⟩;rw[a4];exact zo0 hm h1.good.1 h1.good.2.1 h1.good.2.2 a5 i hi
def zoA (n k:Nat) (w x:List Rat) (j:Nat):List Rat:=(List.range n).map λi=>if i=k then el x k/el w k else if i<j then el x i-el w i*(el x k/el w k)else el x i
theorem zjm(n k:Nat)(w x:List Rat)(j:Nat):(zoA n k w x j).length=n:=by simp[zoA]
def zkJ(hi:i<n):(zoA n k w x j)[i]? = some (if i=k then el x k/el w k else if i<j then el x i-el w i*(el x k/el w k)else el x i):=by unfold zoA;rw[Z1,XH hi];rfl
def zuG(a:x.length=n):x.set k (el x k/el w k)=zoA n k w x 0:=by apply Xf;intro i;by_cases hi:i<n;rw[zkJ hi,Xy];by_cases e:k=i;subst e;rw[if_pos rfl,if_pos ω,if_pos rfl];rw[if_neg e,if_neg (Z6 e),if_neg ω];exact zaH ω;grind[List.getElem?_eq_none,zjm]
def zuF:zoA n k w x k=zoA n k w x (k+1):=by unfold zoA;grind
def zwI(h:j≠k)(hj:j<n):(zoA n k w x j).set j (el x j-el w j*(el x k/el w k))=zoA n k w x (j+1):=by apply Xf;intro i;by_cases hi:i<n;rw[zkJ hi,Xy,zjm];by_cases e:j=i;subst e;rw[if_pos rfl,if_pos hj,if_neg h,if_pos ω];rw[if_neg e,zkJ hi];by_cases a:i=k;rw[if_pos a,if_pos a];rw[if_neg a,if_neg a];by_cases f:i<j;rw[if_pos f,if_pos ω];rw[if_neg f,if_neg ω];grind[List.getElem?_eq_none,List.length_set,zjm]
def zuE(n k:Nat)(w x:List Rat):zoA n k w x n=zsC n k w x:=by unfold zoA zsC;simp_all
def zhB (k:Nat) (w z:List Rat) (j:Nat):Rat:=el z k-zai j (λi=>if i=k then 0 else el w i*el z i)
def zeJ (k:Nat) (w z:List Rat) (j:Nat):List Rat:=z.set k (zhB k w z j)
def zsa(k:Nat)(w z:List Rat):zeJ k w z 0=z:=by
 unfold zeJ zhB;apply Xf;intro i;rw[Xy];by_cases e:k=i;subst e;rw[if_pos rfl];by_cases h:k<z.length;rw[if_pos h,zaH h];simp only[zai];congr 1;grind
 rw[if_neg h,Xl ω];grind
def zr9:zeJ k w z k=zeJ k w z (k+1):=by unfold zeJ zhB;rw[zai,if_pos rfl];grind
def zuJ(h:j≠k):(zeJ k w z j).set k (zhB k w z j-el w j*el z j)=zeJ k w z (j+1):=by unfold zeJ zhB;rw[List.set_set,zai,if_neg h];grind
def zuI(h:k<z.length):(zeJ k w z j)[k]? = some (zhB k w z j):=by unfold zeJ;rw[YB h]
def zuH(h:i≠k)(hi:i<z.length):(zeJ k w z j)[i]? = some (el z i):=by unfold zeJ;rw[YC (Z6 h),zaH hi]
def zr8(h:z.length=n):(zeJ k w z n).set k (zhB k w z n/el w k)=zp2 n k w z:=by unfold zeJ zp2;rw[List.set_set];rfl
def zsb{es:List (Nat × List Rat)}{e:Nat × List Rat}(h:es[t]? = some e)(v:List Rat):zep n (es.drop t) v=zp2 n e.1 e.2 (zep n (es.drop (t+1)) v):=by have a:=(ZF.1 h).1;rw[Yd a];rw[Ze a]at h;injection h with h;rw[h];rfl
def zuL(es:List (Nat × List Rat))(v:List Rat):zep n (es.drop es.length) v=v:=by rw[List.drop_length];rfl
def backs{m:Rat->Nat}{es:List (Nat × List Rat)}(h:EtasZ m S n D es C){y:List Rat}:∀v:List Rat,v.length=n->MkT n D y (zep n es v)->∀t,t<=es.length->∃E,EtasZ m S n D (es.take t) E/\MkT n E y (zep n (es.drop t) v):=by
  induction h with
  | nil h hr hz => intro v _ f t g;obtain rfl:t = 0:=ψ
                   exact⟨_,.nil h hr hz,f⟩
  | @snoc es E k a h hk la za hp ih =>
    intro v o f t g;have hg:=h.good;have z:=zci hg.1 hg.2.1 a;have q:∀l:List (Nat × List Rat),zep n (l++[(k,zes n E a)]) v=zep n l (zp2 n k (zes n E a) v):=λl=>by unfold zep;rw[List.foldr_append];rfl
    rw[q]at f;rw[Zz]at g;by_cases e:t<=es.length;grind[zjn];obtain rfl:t=es.length+1:=ψ;refine⟨E.set k a,by rw[Z2 σ];exact .snoc h hk la za hp,?_⟩;rw[List.drop_of_length_le σ];obtain⟨p,h1,s⟩:=ih (zp2 n k (zes n E a) v) (by rw[zjn];exact o) f es.length (Za _);have u:=h.etas.solveT h.base.1 (zp2 n k (zes n E a) v) (by rw[zjn];exact o) f;exact zuK hg.1 hk z.1 hp o u
def zo1{m:Rat->Nat}{es:List (Nat × List Rat)}(h:EtasZ m S n D es C)(f:v.length=n):zlA n D (zep n es v)=zlA n C v:=by have a:=h.base;have e:=ze1 a.1 a.2.1 (zep n es v);exact zBj h.good.1 h.good.2.1 (h.etas.solveT a.1 v f e.1) e.2
def zxI{m:Rat->Nat}(h:SzLaw m)(f:Nat->Rat)(s k:Nat)(a:∀i,i<k->m (f i)<=s):m (zai k f)<=1+k*(s+1):=h.sum f s k a
def tB (n S T:Nat):Nat:=1+n*(cB n (S+T)+S+1)
def zr1{m:Rat->Nat}(hm:SzLaw m){es:List (Nat × List Rat)}(h:EtasZ m S n D es C)(e:v.length=n)(o:∀i,i<n->m (el v i)<=T)(l:t<=es.length):∀i,i<n->m (el (zep n (es.drop t) v) i)<=tB n S T:=by have a:=h.base;have g:=ze1 a.1 a.2.1 (zep n es v);obtain⟨E,h1,f⟩:=backs h v e g.1 t l;intro i hi;rw[<-f i hi];refine zxI hm _ _ n λk hk=>?_;have a1:=hm.mul (el (zlA n D (zep n es v)) k) (en E i k);have a2:=ywh hm h.good.1 h.good.2.1 h.good.2.2 o k hk;rw[<-zo1 h e]at a2;have a3:=h1.good.2.2 i hi k hk;omega
def zl2{m:Rat->Nat}(hm:SzLaw m){a b:Nat}(hw:∀i,i<n->m (el w i)<=a)(e:∀i,i<n->m (el z i)<=b)(hk:k<n)(hj:j<=n):m (zhB k w z j)<=b+n*(a+b+2):=by
 unfold zhB;have h1:=hm.subSum (el z k) (λi=>if i=k then 0 else el w i*el z i) (a+b+1) j (λi hi=>by
  show m (if i=k then 0 else el w i*el z i)<=_
  split
  have:=hm.zero;omega;have:=hm.mul (el w i) (el z i);have:=hw i ω;have:=e i ω;omega)
 have:=e k hk;have:=ZV (a+b+1+1) hj;grind
end Am
namespace Am
variable {m:Nat}{T:Nat->Nat->Rat}{d x y z:Nat->Rat}
structure Dic (m N:Nat) (A:Nat->Nat->Rat) (b:Nat->Rat) (β:Nat->Nat) (T:Nat->Nat->Rat) (x:Nat->Rat):Prop where
  lt:∀k,k<m->β k<N
  inj:∀k l,k<m->l<m->β k=β l->k=l
  uni:∀r k,r<m->k<m->T r (β k)=if k=r then 1 else 0
  row:∀r,r<m->∃Y:Nat->Rat,(∀j,j<N->T r j=zai m λi=>Y i*A i j)/\x r=zai m λi=>Y i*b i
  col:∀j,j<N->∀i,i<m->zai m (λk=>A i (β k)*T k j)=A i j
  sol:∀i,i<m->zai m (λk=>A i (β k)*x k)=b i
structure Pri (m N:Nat) (A:Nat->Nat->Rat) (c:Nat->Rat) (β:Nat->Nat) (y d:Nat->Rat):Prop where
  eq:∀j,j<N->d j=c j-zai m λi=>y i*A i j
  zero:∀k,k<m->d (β k)=0
def Bas (m:Nat) (β:Nat->Nat) (j:Nat):Prop:=∃k,k<m/\β k=j
def pt (m:Nat) (β:Nat->Nat) (x:Nat->Rat) (j:Nat):Rat:=zai m λk=>if β k=j then x k else 0
def zyA{N:Nat}{β:Nat->Nat}(h:∀k,k<m->β k<N)(x f:Nat->Rat):zai N (λj=>f j*pt m β x j)=zai m λk=>f (β k)*x k:=by
 have e:zai N (λj=>f j*pt m β x j)=zai N λj=>zai m λk=>if β k=j then f (β k)*x k else 0:=zaj λj _=>by unfold pt;rw[<-za7];grind
 rw[e,zbq];refine zaj λk hk=>?_;rw[zbI (k:=β k) (h k hk) λj _ hj=>if_neg (Z6 hj),if_pos rfl]
def zA7{β:Nat->Nat}(h:∀k l,k<m->l<m->β k=β l->k=l)(x:Nat->Rat){k:Nat}(hk:k<m):pt m β x (β k)=x k:=by unfold pt;rw[zbI hk λl a f=>if_neg λe=>f (h l k a hk e),if_pos rfl]
theorem zyz{β:Nat->Nat}(x:Nat->Rat){j:Nat}(h:¬Bas m β j):pt m β x j=0 :=
 zcn λk hk=>if_neg λe=>h ⟨k,hk,e⟩
def zKL{n:Nat}{f:Nat->Rat}(h:zai n f<0):∃i,i<n/\f i<0:=by
 induction n with
 | zero=>simp only[zai]at h;grind
 | succ n ih =>
  rw[zai]at h;grind
section
variable {m N:Nat} {A:Nat->Nat->Rat} {b c:Nat->Rat}
def Dic.line{β:Nat->Nat}(h:Dic m N A b β T x){r:Nat}(hr:r<m)(f:∀i,i<m->zai N (λj=>A i j*z j)=b i):zai N (λj=>T r j*z j)=x r:=by
 obtain⟨Y,h1,a⟩:=h.row r hr;have e:zai N (λj=>T r j*z j)=zai N λj=>zai m λi=>Y i*(A i j*z j):=zaj λj hj=>by rw[h1 j hj,<-zb6];exact zaj λi _=>ψ
 rw[e,zbq,a];grind[zaj,za7]
def Dic.pt_sol{β:Nat->Nat}(h:Dic m N A b β T x):∀i,i<m->zai N (λj=>A i j*pt m β x j)=b i:=λi hi=>by rw[zyA h.lt x λj=>A i j];exact h.sol i hi
def Pri.cost{β:Nat->Nat}(h:Pri m N A c β y d){v:Nat->Rat}(a:∀i,i<m->zai N (λj=>A i j*z j)=v i):zai N (λj=>c j*z j)=zai m (λi=>y i*v i)+zai N (λj=>d j*z j):=by
 have e:zai N (λj=>c j*z j)=zai N λj=>zai m (λi=>y i*(A i j*z j))+d j*z j:=zaj λj hj=>by
  have:zai m (λi=>y i*(A i j*z j))=zai m (λi=>y i*A i j)*z j:=by rw[<-zb6];exact zaj λi _=>ψ
  rw[this,h.eq j hj];grind
 rw[e,zcm,zbq];grind[zaj,za7]
def Pri.value{β:Nat->Nat}(h:Pri m N A c β y d)(a:Dic m N A b β T x):zai N (λj=>c j*pt m β x j)=zai m λi=>y i*b i:=by rw[h.cost a.pt_sol,zyA a.lt x d,zcn (f:=λk=>d (β k)*x k) λk hk=>by rw[h.zero k hk];grind];grind
def Pri.same{β γ:Nat->Nat}{g e:Nat->Rat}(h:Pri m N A c β y d)(q:Pri m N A c γ g e)(o:Dic m N A b β T x)(s:∀k,k<m->e (β k)=0):∀j,j<N->d j=e j:=by
 intro j hj
 -- d - e is a sum of lines,0 in the basis
 have u:∀j,j<N->d j-e j=zai m λk=>T k j*(d (β k)-e (β k)):=by
  intro j hj;have l:∀j,j<N->d j-e j=zai m λi=>(g i-y i)*A i j:=λj hj=>by
   rw[h.eq j hj,q.eq j hj];have:zai m (λi=>(g i-y i)*A i j)=zai m (λi=>g i*A i j+(-1)*(y i*A i j)):=zaj λi _=>ψ
   rw[this,zcm,za7];grind
  rw[l j hj];have p:zai m (λk=>T k j*(d (β k)-e (β k)))=zai m λk=>zai m λi=>(g i-y i)*(A i (β k)*T k j):=zaj λk hk=>by rw[l _ (o.lt k hk),YK,<-zb6];grind
  rw[p,zbq];exact zaj λi hi=>by rw[za7,o.col j hj i hi]
 have:=u j hj;rw[zcn (f:=λk=>T k j*(d (β k)-e (β k))) λk hk=>by rw[h.zero k hk,s k hk];grind]at this;grind
def Dic.only{β:Nat->Nat}(h:Dic m N A b β T x)(o:∀i,i<m->zai N (λj=>A i j*z j)=b i)(h0:∀j,j<N->¬Bas m β j->z j=0):∀k,k<m->z (β k)=x k:=by intro k hk;have e:=h.line hk o;rw[zbI (k:=β k) (h.lt k hk) λj hj g=>by by_cases a:Bas m β j;obtain⟨l,f,rfl⟩:=a;rw[h.uni k l hk f,if_neg λe=>g (by rw[e])];grind;grind,h.uni k k hk hk,if_pos rfl]at e;grind
end
end Am
namespace Am
variable {a i s u:Nat}
structure Ring (m L:Nat) (β:Nat->Nat->Nat) (r t:Nat->Nat):Prop where
  inj:∀i,i<=L->∀k l,k<m->l<m->β i k=β i l->k=l
  at_:∀i,i<L->r i<m
  new:∀i,i<L->¬Bas m (β i) (t i)
  st:∀i,i<L->∀k,k<m->β (i+1) k=if k=r i then t i else β i k
  per:∀j,Bas m (β 0) j↔Bas m (β L) j
namespace Ring
variable {m L:Nat} {β:Nat->Nat->Nat} {r t:Nat->Nat} (h:Ring m L β r t)
include h
theorem bas_next(hi:i<L)(u:Nat):Bas m (β (i+1)) u↔u=t i\/(u≠β i (r i)/\Bas m (β i) u):=by
 constructor;rintro⟨k,hk,e⟩;rw[h.st i hi k hk]at e;split at e
 omega;rename_i hne;exact .inr ⟨λa=>hne (h.inj i ω k (r i) hk (h.at_ i hi) (by rw[e,a])),k,hk,e⟩;rintro(rfl | ⟨hne,k,hk,e⟩);exact⟨r i,h.at_ i hi,by rw[h.st i hi _ (h.at_ i hi),if_pos rfl]⟩;exact⟨k,hk,by rw[h.st i hi k hk,if_neg λa=>hne (by rw[<-e,a])];exact e⟩
theorem enters(k:¬Bas m (β a) u):∀b,a<=b->b<=L->Bas m (β b) u->∃e,e<L/\t e=u:=by
  intro b
  induction b with
  | zero => grind
  | succ b ih =>
    intro h1 f g;by_cases e:a=b+1;grind;rcases(h.bas_next ω u).1 g with h4 | ⟨_,h4⟩
    exact⟨b,ω,h4.symm⟩;grind
theorem leaves(o:Bas m (β a) u):∀b,a<=b->b<=L->¬Bas m (β b) u->∃e,e<L/\β e (r e)=u:=by
  intro b
  induction b with
  | zero => grind
  | succ b ih =>
    intro h1 f g;by_cases e:a=b+1;grind;by_cases k:Bas m (β b) u;by_cases l:u=β b (r b);exact⟨b,ω,l.symm⟩;exact absurd ((h.bas_next ω u).2 (.inr ⟨l,k⟩)) g;grind
theorem fickle{i':Nat}(hi:i<=L)(k:i'<=L)(h1:Bas m (β i) u)(a:¬Bas m (β i') u):∃e,e<L/\t e=u:=by by_cases e:i'<=i;exact h.enters a i e hi h1;by_cases f:Bas m (β L) u;exact h.enters a L k (Za _) f;exact h.enters (λg=>f ((h.per u).1 g)) i (Zb _) hi h1
theorem gone(hi:i<L):¬Bas m (β (i+1)) (β i (r i)):=by intro h1;rcases(h.bas_next hi _).1 h1 with h2 | h2;exact h.new i hi ⟨r i,h.at_ i hi,h2⟩;omega
theorem in_out(hi:i<L):∃e,e<L/\β e (r e)=t i:=by have h1:Bas m (β (i+1)) (t i):=(h.bas_next hi _).2 (.inl rfl);by_cases a:Bas m (β L) (t i);exact h.leaves ((h.per _).2 a) i (Zb _) ω (h.new i hi);exact h.leaves h1 L ω (Za _) a
omit h in
theorem top(g:0<L):∃e,e<L/\∀i,i<L->t i<=t e:=by
 have k:∀n,0<n->n<=L->∃e,e<n/\∀i,i<n->t i<=t e:=by
  intro n
  induction n with
  | zero=>intro h;omega
  | succ n ih =>
   intro _ p;by_cases l:n=0;exact⟨n,ω,λi hi=>by obtain rfl:i=n:=ω;exact Za _⟩;obtain⟨e,o,hm⟩:=ih ω ω;by_cases f:t n<=t e;exact⟨e,ω,λi hi=>by by_cases a:i=n;rw[a];exact f;exact hm i ω⟩;exact⟨n,ω,λi hi=>by by_cases a:i=n;rw[a];exact Za _;have:=hm i ω;omega⟩
 exact k L g (Za _)
end Ring
def zMf(a b:Rat):a<=b\/b<=a:=Rat.le_total
def zLg{f:Nat->Rat}{L:Nat}(h:∀i,i<L->f i<=f (i+1))(e:f 0=f L):∀i,i<L->f i=f (i+1):=by
 have up:∀j,j<=L->f 0<=f j:=by
  intro j
  induction j with
  | zero=>grind
  | succ j ih=>grind
 have down:∀d j,j+d=L->f j<=f L:=by
  intro d
  induction d with
  | zero=>grind
  | succ d ih=>grind
 intro i hi;have:=up i ω;have:=down (L-(i+1)) (i+1) ω;have:=h i hi;grind
section
variable {m N L:Nat} {A:Nat->Nat->Rat} {b c:Nat->Rat} {β:Nat->Nat->Nat} {T:Nat->Nat->Nat->Rat} {x y d:Nat->Nat->Rat} {r t:Nat->Nat}
def zKG(R:Ring m L β r t)(a:∀i,i<=L->Dic m N A b (β i) (T i) (x i))(e:∀i,i<=L->Pri m N A c (β i) (y i) (d i))(hi:i<L) :
  zai m (λk=>y (i+1) k*b k)=zai m (λk=>y i k*b k)+d i (t i)*x (i+1) (r i):=by
 rw[<-(e (i+1) hi).value (a (i+1) hi),(e i ω).cost (a (i+1) hi).pt_sol,zyA (a (i+1) hi).lt (x (i+1)) (d i)]
 congr 1
 rw[zbI (k:=r i) (R.at_ i hi) λk hk f=>by rw[R.st i hi k hk,if_neg f,(e i ω).zero k hk];grind,R.st i hi _ (R.at_ i hi),if_pos rfl]
def zL0(a:∀i,i<=L->Dic m N A b (β i) (T i) (x i))(per:∀j,Bas m (β 0) j↔Bas m (β L) j):∀j,pt m (β 0) (x 0) j=pt m (β L) (x L) j:=by intro j;by_cases e:Bas m (β 0) j;obtain⟨k,hk,rfl⟩:=e;rw[zA7 (a 0 (Zb _)).inj _ hk];exact((a 0 (Zb _)).only (a L (Za _)).pt_sol (λj _ hj=>zyz _ λh=>hj ((per j).2 h)) k hk).symm;grind[zyz]
def zLk(a:∀i,i<=L->Dic m N A b (β i) (T i) (x i))(e:∀i,i<=L->Pri m N A c (β i) (y i) (d i))(per:∀j,Bas m (β 0) j↔Bas m (β L) j):zai m (λk=>y 0 k*b k)=zai m (λk=>y L k*b k):=by rw[<-(e 0 (Zb _)).value (a 0 (Zb _)),<-(e L (Za _)).value (a L (Za _))];exact zaj λj _=>by rw[zL0 a per j]
def zUa(R:Ring m L β r t)(f:∀i,i<=L->Dic m N A b (β i) (T i) (x i))(l:∀i,i<L->x (i+1) (r i)=0):∀i,i<=L->∀j,pt m (β i) (x i) j=pt m (β 0) (x 0) j:=by
 intro i
 induction i with
 | zero=>grind
 | succ i ih =>
  intro hi j;rw[<-ih ω j];have e:=(f i ω).only (f (i+1) hi).pt_sol λj _ hj=>by by_cases a:Bas m (β (i+1)) j;rcases(R.bas_next ω j).1 a with h | h;rw[h,show t i=β (i+1) (r i)by rw[R.st i ω _ (R.at_ i ω),if_pos rfl],zA7 (f (i+1) hi).inj _ (R.at_ i ω),l i ω];exact absurd h.2 hj;grind[zyz]
  by_cases a:Bas m (β i) j;obtain⟨k,hk,rfl⟩:=a;rw[e k hk,zA7 (f i ω).inj _ hk];rw[zyz (x i) a];by_cases g:Bas m (β (i+1)) j;rcases(R.bas_next ω j).1 g with h | h;rw[h,show t i=β (i+1) (r i)by rw[R.st i ω _ (R.at_ i ω),if_pos rfl],zA7 (f (i+1) hi).inj _ (R.at_ i ω),l i ω];exact absurd h.2 a;grind[zyz]
def way (m:Nat) (β:Nat->Nat) (T:Nat->Nat->Rat) (s j:Nat):Rat:=(if j=s then 1 else 0)+pt m β (λk => -T k s) j
def zST{β:Nat->Nat}{T:Nat->Nat->Rat}{x:Nat->Rat}(h:Dic m N A b β T x)(a:s<N):∀i,i<m->zai N (λj=>A i j*way m β T s j)=0:=by
 intro i hi;have e:zai N (λj=>A i j*way m β T s j)=zai N (λj=>(if j=s then A i s else 0)+A i j*pt m β (λk => -T k s) j):=zaj λj _=>by unfold way;grind
 rw[e,zcm,zyA h.lt _ λj=>A i j,zbI (k:=s) a λj _ hj=>if_neg hj,if_pos rfl,<-h.col s a i hi];have f:zai m (λk=>A i (β k) * -T k s)=zai m (λk=>(-1)*(A i (β k)*T k s)):=zaj λk _=>ψ
 rw[f,za7];grind
def zUd{β:Nat->Nat}{T:Nat->Nat->Rat}(h:∀k,k<m->β k<N)(f:Nat->Rat)(a:s<N):zai N (λj=>f j*way m β T s j)=f s+zai m (λk=>f (β k) * -T k s):=by
 have e:zai N (λj=>f j*way m β T s j)=zai N (λj=>(if j=s then f s else 0)+f j*pt m β (λk => -T k s) j):=zaj λj _=>by unfold way;grind
 rw[e,zcm,zyA h _ f,zbI (k:=s) a λj _ hj=>if_neg hj,if_pos rfl]
def zTi(R:Ring m L β r t)(hL:0<L)(E:∀i,i<=L->Dic m N A b (β i) (T i) (x i))(q:∀i,i<=L->Pri m N A c (β i) (y i) (d i))(hx:∀i,i<=L->∀k,k<m->0<=x i k){may:Nat->Prop}
  (G:∀i,i<L->t i<N/\may (t i)) (h1:∀i,i<L->d i (t i)<0/\∀j,j<t i->may j->0<=d i j)
  (Q:∀i,i<L->0<T i (r i) (t i)/\∀k,k<m->0<T i k (t i)->β i k<β i (r i)->x i (r i)*T i k (t i)<x i k*T i (r i) (t i)):False:=by
 have aa:=zLg (f:=λi => -zai m λk=>y i k*b k) (L:=L) (λi hi=>by
  show -zai m (λk=>y i k*b k) <= -zai m (λk=>y (i+1) k*b k)
  rw[zKG R E q hi];have:=Xt (show 0 <= -d i (t i)by have:=(h1 i hi).1;grind) (hx (i+1) hi (r i) (R.at_ i hi));grind) (by show -_ = -_;rw[zLk E q R.per])
 have xz:∀i,i<L->x (i+1) (r i)=0:=λi hi=>by have e : -zai m (λk=>y i k*b k) = -zai m (λk=>y (i+1) k*b k):=aa i hi;rw[zKG R E q hi]at e;have:=(h1 i hi).1;grind
 have U:=zUa R E xz;have P:∀u,(∃e,e<L/\t e=u)->∀i,i<=L->pt m (β i) (x i) u=0:=by rintro u ⟨e,B,rfl⟩ i hi;rw[U i hi,<-U e ω,zyz _ (R.new e B)]
 obtain⟨e,B,hm⟩:=Ring.top (t:=t) hL;obtain⟨s,o,H⟩:=R.in_out B;have De:=E e ω;have p:=E s ω
 -- what the greatest's leaving makes way for,by the prices where it comes in
 have X:=(q s ω).cost (z:=way m (β s) (T s) (t s)) (v:=λ_=>0) (zST p (G s o).1);have Y:=(q e ω).cost (z:=way m (β s) (T s) (t s)) (v:=λ_=>0) (zST p (G s o).1)
 rw[X,zUd p.lt _ (G s o).1,zUd p.lt _ (G s o).1,zcn (f:=λi=>y s i*0) λi _=>ψ,zcn (f:=λi=>y e i*0) λi _=>ψ,
  zcn (f:=λk=>d s (β s k) * -T s k (t s)) λk hk=>by rw[(q s ω).zero k hk];grind]at Y
 have n1:=(h1 s o).1;have le:=hm s o;have ne:t s≠t e:=λh=>R.new s o ⟨r s,R.at_ s o,by rw[H,h]⟩
 have n2:=(h1 e B).2 (t s) ω (G s o).2;have neg:zai m (λk=>d e (β s k) * -T s k (t s))<0:=ψ;obtain⟨k,hk,K⟩:=zKL neg;have hb:¬Bas m (β e) (β s k):=by rintro⟨l,hl,hle⟩;rw[<-hle,(q e ω).zero l hl]at K;grind
 have Z:=R.fickle (i:=s) (i':=e) ω ω ⟨k,hk,rfl⟩ hb;obtain⟨i,hi,J⟩:=Z;have hu:=hm i hi;rw[J]at hu;by_cases O:β s k=t e;have I:k=r s:=p.inj k (r s) hk (R.at_ s o) (by rw[O,H]);have a:=(h1 e B).1;have g:=(Q s o).1;rw[O,I]at K;have:=Rat.mul_pos (show 0 < -d e (t e)by grind) g;grind;have ad:=(h1 e B).2 (β s k) ω (by rw[<-J];grind);have hT:0<T s k (t s):=by rcases zMf (T s k (t s)) 0 with h | h;have:=Xt ad (show 0 <= -T s k (t s)by grind);grind;rcases Rat.le_iff_lt_or_eq.1 h with h | h;exact h;rw[<-h]at K;grind
 have g:=(Q s o).2 k hk hT (by rw[H];omega);have V:=P _ ⟨i,hi,J⟩ s ω;have W:=P (t e) ⟨e,B,rfl⟩ s ω;rw[zA7 p.inj _ hk]at V;rw[<-H,zA7 p.inj _ (R.at_ s o)]at W;rw[V,W]at g;grind
end
end Am
namespace Am
variable {N m:Nat}
def binom:Nat->Nat->Nat
  | _,0=>1
  | 0,_+1=>0
  | n+1,k+1=>binom n (k+1)+binom n k
def marks:Nat->Nat->List (List Bool)
  | 0,0=>[[]]
  | 0,_+1=>[]
  | n+1,0=>(marks n 0).map (false :: ·)
  | n+1,k+1=>(marks n (k+1)).map (false :: ·)++(marks n k).map (true :: ·)
def zKl:∀n k,(marks n k).length=binom n k
 | 0,0=>rfl
 | 0,_+1=>rfl
 | n+1,0=>by unfold marks;rw[ZK,zKl n 0];cases n<;>rfl
 | n+1,k+1=>by unfold marks;rw[Zz,ZK,ZK,zKl n (k+1),zKl n k];rfl
def zKo:∀(l:List Bool) (n k:Nat),l.length=n->l.countP id=k->l∈marks n k
 | [],n,k,h1,h2=>by simp at h1 h2;subst h1 h2;simp[marks]
 | false::l,n,k,h1,h2=>by
  cases n with
  | zero=>simp at h1
  | succ n =>
   have:=zKo l n k (by simpa using h1) (by simpa using h2);cases k with
   | zero=>simp only[marks,ZH];exact⟨l,this,rfl⟩
   | succ k=>simp only[marks,ZT,ZH];exact .inl ⟨l,this,rfl⟩
 | true::l,n,k,h1,h2=>by
  cases n with
  | zero=>simp at h1
  | succ n =>
   cases k with
   | zero=>simp at h2
   | succ k =>
    have:=zKo l n k (by simpa using h1) (by simpa using h2);simp only[marks,ZT,ZH];exact .inr ⟨l,this,rfl⟩
def pigeon{α:Type}:∀(l:List α) (n:Nat) (f:Nat->α),(∀i,i<n->f i∈l)->(∀i j,i<j->j<n->f i≠f j)->n<=l.length
 | [],n,f,h1,_=>ψ
 | a::l,n,f,h1,h2=>by
  by_cases h:∃i,i<n/\f i=a
  obtain⟨i,hi,e⟩:=h;have:=pigeon l (n-1) (λj=>if j<i then f j else f (j+1)) (λj hj=>by
   have g:∀k,k<n->k≠i->f k∈l:=λk hk p=>by rcases XI.1 (h1 k hk)with h3 | h3;rcases ZM k i with h4 | h4;exact absurd (h3.trans e.symm) (h2 k i h4 hi);exact absurd (e.trans h3.symm) (h2 i k ω hk);exact h3
   show(if j<i then f j else f (j+1))∈l
   split
   exact g j ω ω;exact g (j+1) ω ω) (λj k o hk=>by
   show(if j<i then f j else f (j+1))≠(if k<i then f k else f (k+1))
   split
   split
   exact h2 j k o ω;exact h2 j (k+1) ω ω;rw[if_neg ω];exact h2 (j+1) (k+1) ω ω)
  grind;have:=pigeon l n f (λi hi=>by rcases XI.1 (h1 i hi)with h3 | h3;exact absurd ⟨i,hi,h3⟩ h;exact h3) h2;grind
noncomputable def markOf (N m:Nat) (β:Nat->Nat):List Bool:=by
 classical exact(List.range N).map λj=>decide (Bas m β j)
def zK4(N m:Nat)(β:Nat->Nat):(markOf N m β).length=N:=by simp[markOf]
def zKD(p:Nat->Bool):∀n:Nat,(((List.range n).map p).countP id:Rat)=zai n λj=>if p j=true then 1 else 0
 | 0=>rfl
 | n+1=>by rw[Yp,X8,Ve,zai,<-zKD p n];cases h:p n;simp[h];grind;simp[h]
def zKs:∀n:Nat,zai n (λ_=>1)=(n:Rat)
 | 0=>rfl
 | n+1=>by rw[zai,zKs n];simp
def zKF{β:Nat->Nat}(h1:∀k,k<m->β k<N)(g:∀k l,k<m->l<m->β k=β l->k=l):(markOf N m β).countP id=m:=by
 classical
 have e:((markOf N m β).countP id:Rat)=(m:Rat):=by
  unfold markOf;rw[zKD,<-zKs m];have f:zai N (λj=>if decide (Bas m β j)=true then (1:Rat)else 0)=zai N λj=>1*pt m β (λ_=>1) j:=zaj λj _=>by by_cases a:Bas m β j;rw[if_pos (ZG a)];obtain⟨k,hk,rfl⟩:=a;rw[zA7 g _ hk];grind;rw[if_neg (by simpa using a),zyz _ a];grind
  rw[f,zyA h1];exact zaj λk _=>ψ
 simp_all
def zLf{β γ:Nat->Nat}(h1:∀k,k<m->β k<N)(a:∀k,k<m->γ k<N)(e:markOf N m β=markOf N m γ):∀j,Bas m β j↔Bas m γ j:=by
 classical
 intro j;by_cases hj:j<N;have:(markOf N m β)[j]? = (markOf N m γ)[j]?:=by rw[e]
 unfold markOf at this;rw[Z1,Z1,XH hj]at this;grind;constructor;rintro⟨k,hk,e⟩;have:=h1 k hk;omega;rintro⟨k,hk,e⟩;have:=a k hk;omega
def zLq{n:Nat}{β:Nat->Nat->Nat}(h1:∀i,i<n->∀k,k<m->β i k<N)(a:∀i,i<n->∀k l,k<m->l<m->β i k=β i l->k=l)(f:∀i j,i<j->j<n->¬∀u,Bas m (β i) u↔Bas m (β j) u):n<=binom N m:=by rw[<-zKl];exact pigeon _ n (λi=>markOf N m (β i)) (λi hi=>zKo _ _ _ (zK4 _ _ _) (zKF (h1 i hi) (a i hi))) (λi j g hj e=>f i j g hj (zLf (h1 i ω) (h1 j hj) e))
end Am
namespace Am
variable {A:List (List Rat)}{cols:List Nat}{c v x y:List Rat}{i j k m r:Nat}
def zb4 (A:List (List Rat)) (j:Nat):List Rat:=A.map λr=>el r j
def bc (A:List (List Rat)) (cols:List Nat):List (List Rat):=cols.map (zb4 A)
structure Rect (m N:Nat) (A:List (List Rat)):Prop where
  len:A.length=m
  row:∀i,i<m->(A.getD i []).length=N
def zbH(A:List (List Rat))(j:Nat):(zb4 A j).length=A.length:=by simp[zb4]
def zhw(h:i<A.length):el (zb4 A j) i=en A i j:=by
 unfold zb4 en
 conv=>lhs;unfold el
 rw[zbU _ _ h []];rfl
def zx7(A:List (List Rat))(cols:List Nat):(bc A cols).length=cols.length:=by simp[bc]
def zx6(h:k<cols.length):(bc A cols).getD k []=zb4 A (cols.getD k 0):=zbU _ _ h 0 _
def ztZ(h:k<cols.length)(hi:i<A.length):en (bc A cols) k i=en A i (cols.getD k 0):=by unfold en;rw[zx6 h];exact zhw hi
def zGH(a:A.length=m)(hc:cols.length=m):CSq m (bc A cols) :=
 ⟨by rw[zx7,hc],λi hi=>by rw[zx6 ω,zbH,a]⟩
def zq6:bc A (cols.set k j)=(bc A cols).set k (zb4 A j):=by simp[bc,Vf]
def zdL (m r:Nat):List Rat:=(List.replicate m 0).set r 1
def zfM(m r:Nat):(zdL m r).length=m:=by simp[zdL]
def zge(h:r<m):el (zdL m r) i=if r=i then 1 else 0:=by unfold zdL;rw[ziZ ψ,zrm]
def byL (N:Nat) (A:List (List Rat)) (y:List Rat):List Rat:=(List.range N).map λj=>zai A.length λi=>el y i*en A i j
def zkb(N:Nat)(A:List (List Rat))(y:List Rat):(byL N A y).length=N:=by simp[byL]
def zx9{N:Nat}(h:j<N):el (byL N A y) j=zai A.length λi=>el y i*en A i j:=by
 unfold byL
 conv=>lhs;unfold el
 rw[zbU _ _ ψ 0,zcA h];rfl
def za5 (A:List (List Rat)) (b:List Rat) (cols:List Nat):List Rat:=zes cols.length (bc A cols) b
def zav (A:List (List Rat)) (cols:List Nat) (j:Nat):List Rat:=zes cols.length (bc A cols) (zb4 A j)
def zbf (A:List (List Rat)) (cols:List Nat) (r:Nat):List Rat:=zlA cols.length (bc A cols) (zdL cols.length r)
def zk8 (N:Nat) (A:List (List Rat)) (cols:List Nat) (r:Nat):List Rat:=byL N A (zbf A cols r)
def zcl (A:List (List Rat)) (cols:List Nat) (c:List Rat):List Rat:=zlA cols.length (bc A cols) (cols.map λj=>el c j)
def zaC (N:Nat) (A:List (List Rat)) (cols:List Nat) (c:List Rat):List Rat:=zly c (-1) (byL N A (zcl A cols c))
structure Basis (m N:Nat) (A:List (List Rat)) (cols:List Nat):Prop where
  rect:Rect m N A
  len:cols.length=m
  lt:∀k,k<m->cols.getD k 0<N
  inj:∀k l,k<m->l<m->cols.getD k 0=cols.getD l 0->k=l
  reg:CReg m (bc A cols)
namespace Basis
variable {m N:Nat} {A:List (List Rat)} {cols:List Nat} (h:Basis m N A cols)
include h
theorem sq:CSq m (bc A cols):=zGH h.rect.len h.len
theorem vals_ok(b:List Rat):Mk m (bc A cols) (za5 A b cols) b/\(za5 A b cols).length=m:=by unfold za5;rw[h.len];exact zci h.sq h.reg b
theorem column_ok(j:Nat):Mk m (bc A cols) (zav A cols j) (zb4 A j)/\(zav A cols j).length=m:=by unfold zav;rw[h.len];exact zci h.sq h.reg _
theorem weights_ok(r:Nat):MkT m (bc A cols) (zbf A cols r) (zdL m r)/\(zbf A cols r).length=m:=by unfold zbf;rw[h.len];exact ze1 h.sq h.reg _
theorem duals_ok(c:List Rat):MkT m (bc A cols) (zcl A cols c) (cols.map λj=>el c j)/\(zcl A cols c).length=m:=by unfold zcl;rw[h.len];exact ze1 h.sq h.reg _
theorem mk_en(a:Mk m (bc A cols) x v)(hi:i<m):zai m (λk=>en A i (cols.getD k 0)*el x k)=el v i:=by rw[<-a i hi];exact zaj λk hk=>by rw[ztZ (by rw[h.len];exact hk) (by rw[h.rect.len];exact hi)]
theorem mkT_en(a:MkT m (bc A cols) y v)(hk:k<m):zai m (λi=>el y i*en A i (cols.getD k 0))=el v k:=by rw[<-a k hk];exact zaj λi hi=>by rw[ztZ (by rw[h.len];exact hk) (by rw[h.rect.len];exact hi)]
theorem by_weights(hr:r<m)(g:Mk m (bc A cols) x v):el x r=zai m λi=>el (zbf A cols r) i*el v i:=by
 have e:zai m (λi=>el (zbf A cols r) i*el v i)=zai m λi=>zai m λk=>el (zbf A cols r) i*en A i (cols.getD k 0)*el x k:=zaj λi hi=>by rw[<-h.mk_en g hi,<-za7];grind
 rw[e,zbq];have a:zai m (λk=>zai m λi=>el (zbf A cols r) i*en A i (cols.getD k 0)*el x k)=zai m λk=>el (zdL m r) k*el x k:=zaj λk hk=>by rw[zb6,h.mkT_en (h.weights_ok r).1 hk]
 rw[a,zbI (k:=r) hr λk _ f=>by rw[zge hr,if_neg (Z6 f)];grind,zge hr,if_pos rfl];grind
theorem line_el(hr:r<m)(hj:j<N):el (zk8 N A cols r) j=el (zav A cols j) r:=by unfold zk8;rw[zx9 hj,h.by_weights hr (h.column_ok j).1,h.rect.len];exact zaj λi hi=>by rw[zhw (by rw[h.rect.len];exact hi)]
theorem dic(b:List Rat):Dic m N (en A) (el b) (λk=>cols.getD k 0) (λr j=>el (zav A cols j) r) (λk=>el (za5 A b cols) k) where
 lt:=h.lt
 inj:=h.inj
 uni:=λr k hr hk=>by
  have e:=Mk.unique h.reg (h.column_ok (cols.getD k 0)).1 (y:=zdL m k) (λi hi=>by rw[zbI (k:=k) hk λl _ a=>by rw[zge hk,if_neg (Z6 a)];grind,zge hk,if_pos rfl,ztZ (by rw[h.len];exact hk) (by rw[h.rect.len];exact hi),zhw (by rw[h.rect.len];exact hi)];grind) (h.column_ok _).2 (zfM _ _);show el (zav A cols (cols.getD k 0)) r=_
  rw[e,zge hk]
 row:=λr hr=>⟨el (zbf A cols r),λj hj=>by
  show el (zav A cols j) r=_
  rw[h.by_weights hr (h.column_ok j).1];exact zaj λi hi=>by rw[zhw (by rw[h.rect.len];exact hi)],h.by_weights hr (h.vals_ok b).1⟩
 col:=λj _ i hi=>by
  show zai m (λk=>en A i (cols.getD k 0)*el (zav A cols j) k)=_
  rw[h.mk_en (h.column_ok j).1 hi,zhw (by rw[h.rect.len];exact hi)]
 sol:=λi hi=>h.mk_en (h.vals_ok b).1 hi
theorem prices_el(hc:c.length=N)(hj:j<N):el (zaC N A cols c) j=el c j-zai m λi=>el (zcl A cols c) i*en A i j:=by unfold zaC;rw[zuD _ (by rw[zkb,hc]) (by rw[hc];exact hj),zx9 hj,h.rect.len];grind
theorem pri(hc:c.length=N):Pri m N (en A) (el c) (λk=>cols.getD k 0) (el (zcl A cols c)) (el (zaC N A cols c)) where
 eq:=λj hj=>h.prices_el hc hj
 zero:=λk hk=>by
  show el (zaC N A cols c) (cols.getD k 0)=0
  rw[h.prices_el hc (h.lt k hk),h.mkT_en (h.duals_ok c).1 hk];unfold el;rw[zbU _ _ (by rw[h.len];exact hk) 0];grind
theorem swap(hk:k<m)(hj:j<N)(z:el (zav A cols j) k≠0):Basis m N A (cols.set k j):=by
 have s:¬Bas m (λk=>cols.getD k 0) j\/cols.getD k 0=j:=by by_cases f:Bas m (λk=>cols.getD k 0) j;obtain⟨l,p,e⟩:=f;have u:=(h.dic []).uni k l hk p;simp only[e]at u;by_cases q:l=k;exact .inr (by rw[<-q];exact e);rw[if_neg q]at u;exact absurd u z;grind
 have g:∀l,l<m->(cols.set k j).getD l 0=if k=l then j else cols.getD l 0:=λl _=>gset (by rw[h.len];exact hk)
 refine⟨h.rect,by rw[ZW,h.len],λl p=>?_,λa b o f e=>?_,?_⟩;rw[g l p];split
 exact hj;exact h.lt l p;rw[g a o,g b f]at e;split at e<;>split at e
 omega;rename_i h1 h2;rcases s with h3 | h3;exact absurd ⟨b,f,e.symm⟩ h3;exact absurd (h.inj k b hk f ω) h2;rename_i h1 h2;rcases s with h3 | h3;exact absurd ⟨a,o,e⟩ h3;exact absurd (h.inj k a hk o ω) h1;exact h.inj a b o f e;rw[zq6];exact zjl h.sq h.reg hk (h.column_ok j).1 z
end Basis
end Am
namespace Am
variable {z:List Rat}{c k n:Nat}
def zg6{α:Type}(xs ys:List α)(a b:α):(xs++a::ys).set xs.length b=xs++b::ys:=by rw[Yq,if_neg ω,Xz];rfl
def zk2{α:Type}(xs ys:List α)(a:α):(xs++a::ys)[xs.length]? = some a:=by rw[ZN (Za _),Xz];rfl
def fwP (F:LUv) (b:List Rat) (k c:Nat):Rat:=el b (F.perm.getD k 0)-zai c λi=>en F.lo k i*el (fwd F b k) i
def fwO (F:LUv) (b:List Rat) (n k:Nat):List Rat:=fwd F b k++List.replicate (n-k) 0
def fwI (F:LUv) (b:List Rat) (n k c:Nat):List Rat:=fwd F b k++fwP F b k c::List.replicate (n-(k+1)) 0
def zxc(F:LUv)(b:List Rat)(n:Nat):fwO F b n 0=List.replicate n 0:=by rfl
def zAQ(F:LUv)(b:List Rat)(n:Nat):fwO F b n n=fwd F b n:=by simp[fwO]
def zrw(F:LUv)(b:List Rat)(h:k<n):fwO F b n k=fwd F b k++(0::List.replicate (n-(k+1)) 0):=by unfold fwO;rw[show n-k=(n-(k+1))+1 by omega,Yu]
def zAR(F:LUv)(b:List Rat)(h:k<n):(fwO F b n k)[k]? = some 0:=by have:=zk2 (fwd F b k) (List.replicate (n-(k+1)) 0) 0;rw[zcx,<-zrw F b h]at this;exact this
def zAS(F:LUv)(b:List Rat)(h:k<n):(fwO F b n k).set k (el b (F.perm.getD k 0))=fwI F b n k 0:=by have:=zg6 (fwd F b k) (List.replicate (n-(k+1)) 0) 0 (el b (F.perm.getD k 0));rw[zcx,<-zrw F b h]at this;rw[this];unfold fwI fwP;simp only[zai];rw[show ∀a:Rat,a-0=a by grind]
def zAN(F:LUv)(b:List Rat)(n k c:Nat):(fwI F b n k c)[k]? = some (fwP F b k c):=by have:=zk2 (fwd F b k) (List.replicate (n-(k+1)) 0) (fwP F b k c);rw[zcx]at this;exact this
def zAO(F:LUv)(b:List Rat){i:Nat}(h:i<k):(fwI F b n k c)[i]? = some (el (fwd F b k) i):=by unfold fwI;rw[Z4 (by rw[zcx];exact h)];grind[zaH,zcx]
def zAP(F:LUv)(b:List Rat)(n k c:Nat):(fwI F b n k c).set k (fwP F b k c-en F.lo k c*el (fwd F b k) c)=fwI F b n k (c+1):=by have:=zg6 (fwd F b k) (List.replicate (n-(k+1)) 0) (fwP F b k c) (fwP F b k c-en F.lo k c*el (fwd F b k) c);rw[zcx]at this;unfold fwI;rw[this];congr 2;unfold fwP;rw[zai];grind
def zxb(F:LUv)(b:List Rat)(n k:Nat):fwI F b n k k=fwO F b n (k+1):=by unfold fwI fwO;simp only[fwd,XU];rfl
def bwP (F:LUv) (z:List Rat) (n k j:Nat):Rat:=el z k-zai j λc=>en F.up k (k+1+c)*el (bwd F n z (n-(k+1))) c
def bwO (F:LUv) (z:List Rat) (n k:Nat):List Rat:=z.take k++bwd F n z (n-k)
def bwI (F:LUv) (z:List Rat) (n k j:Nat):List Rat:=z.take k++bwP F z n k j::bwd F n z (n-(k+1))
def zzq(F:LUv)(h:z.length=n):bwO F z n n=z:=by unfold bwO;rw[Xz,<-h];simp[bwd]
def zwq(F:LUv)(z:List Rat)(n:Nat):bwO F z n 0=bwd F n z n:=by rfl
def zwp(F:LUv)(e:z.length=n)(h:k<n):bwI F z n k 0=bwO F z n (k+1):=by unfold bwI bwO bwP;rw[Xe,zaH ω];simp only[zai,Option.toList_some,XU,List.singleton_append];rw[show ∀a:Rat,a-0=a by grind]
def zdx(a:z.length=n)(h:k<n):(z.take k).length=k:=by rw[ZI];omega
def zzo(F:LUv)(j:Nat)(a:z.length=n)(h:k<n):(bwI F z n k j)[k]? = some (bwP F z n k j):=by have:=zk2 (z.take k) (bwd F n z (n-(k+1))) (bwP F z n k j);rw[zdx a h]at this;exact this
def zwo(F:LUv)(j:Nat)(a:z.length=n)(h:k+1+c<n):(bwI F z n k j)[k+1+c]? = some (el (bwd F n z (n-(k+1))) c):=by unfold bwI;rw[ZN (by rw[zdx a ω];omega),zdx a ω,show k+1+c-k=c+1 by omega,XJ];grind[zaH,zpC]
def zzp(F:LUv)(j:Nat)(a:z.length=n)(h:k<n):(bwI F z n k j).set k (bwP F z n k j-en F.up k (k+1+j)*el (bwd F n z (n-(k+1))) j)=bwI F z n k (j+1):=by have:=zg6 (z.take k) (bwd F n z (n-(k+1))) (bwP F z n k j) (bwP F z n k j-en F.up k (k+1+j)*el (bwd F n z (n-(k+1))) j);rw[zdx a h]at this;unfold bwI;rw[this];congr 2;unfold bwP;rw[zai];grind
def zzn(F:LUv)(a:z.length=n)(h:k<n):(bwI F z n k (n-(k+1))).set k (bwP F z n k (n-(k+1))/en F.up k k)=bwO F z n k:=by
 have:=zg6 (z.take k) (bwd F n z (n-(k+1))) (bwP F z n k (n-(k+1))) (bwP F z n k (n-(k+1))/en F.up k k);rw[zdx a h]at this;unfold bwI;rw[this];unfold bwO
 congr 1
 rw[show n-k=(n-(k+1))+1 by omega];unfold bwP;show _=(el z (n-(n-(k+1)+1))-zai (n-(k+1)) (λc=>en F.up (n-(n-(k+1)+1)) (n-(n-(k+1))+c)*el (bwd F n z (n-(k+1))) c))/en F.up (n-(n-(k+1)+1)) (n-(n-(k+1)+1))::bwd F n z (n-(k+1))
 rw[show n-(n-(k+1)+1)=k by omega,show n-(n-(k+1))=k+1 by omega]
end Am
namespace Am
variable {c z:List Rat}{k n:Nat}
def ftP (F:LUv) (c:List Rat) (k j:Nat):Rat:=el c k-zai j λi=>en F.up i k*el (zbX F c k) i
def ftO (F:LUv) (c:List Rat) (k:Nat):List Rat:=zbX F c k++c.drop k
def ftI (F:LUv) (c:List Rat) (k j:Nat):List Rat:=zbX F c k++ftP F c k j::c.drop (k+1)
def zuA(h:k<c.length):c.drop k=el c k::c.drop (k+1):=by rw[Yd h];simp_all[znd,Ze]
def zxa(F:LUv)(c:List Rat):ftO F c 0=c:=by rfl
def zAM(F:LUv)(h:c.length=n):ftO F c n=zbX F c n:=by unfold ftO;rw[<-h];simp
def zw9(F:LUv)(h:k<c.length):ftI F c k 0=ftO F c k:=by unfold ftI ftO ftP;rw[zuA h];simp only[zai];rw[show ∀a:Rat,a-0=a by grind]
def zAJ(F:LUv)(c:List Rat)(k j:Nat):(ftI F c k j)[k]? = some (ftP F c k j):=by have:=zk2 (zbX F c k) (c.drop (k+1)) (ftP F c k j);rw[zbT]at this;exact this
def zAK(F:LUv)(c:List Rat){j i:Nat}(h:i<k):(ftI F c k j)[i]? = some (el (zbX F c k) i):=by unfold ftI;rw[Z4 (by rw[zbT];exact h)];grind[zaH,zbT]
def zAL(F:LUv)(c:List Rat)(k j:Nat):(ftI F c k j).set k (ftP F c k j-en F.up j k*el (zbX F c k) j)=ftI F c k (j+1):=by have:=zg6 (zbX F c k) (c.drop (k+1)) (ftP F c k j) (ftP F c k j-en F.up j k*el (zbX F c k) j);rw[zbT]at this;unfold ftI;rw[this];congr 2;unfold ftP;rw[zai];grind
def zAI(F:LUv)(c:List Rat)(k:Nat):(ftI F c k k).set k (ftP F c k k/en F.up k k)=ftO F c (k+1):=by have:=zg6 (zbX F c k) (c.drop (k+1)) (ftP F c k k) (ftP F c k k/en F.up k k);rw[zbT]at this;unfold ftI;rw[this];unfold ftO;simp only[zbX,XU];rfl
def btP (F:LUv) (z:List Rat) (n k j:Nat):Rat:=el z k-zai j λc=>en F.lo (k+1+c) k*el (zlK F n z (n-(k+1))) c
def btO (F:LUv) (z:List Rat) (n k:Nat):List Rat:=z.take k++zlK F n z (n-k)
def btI (F:LUv) (z:List Rat) (n k j:Nat):List Rat:=z.take k++btP F z n k j::zlK F n z (n-(k+1))
def zzm(F:LUv)(h:z.length=n):btO F z n n=z:=by unfold btO;rw[Xz,<-h];simp[zlK]
def zwn(F:LUv)(z:List Rat)(n:Nat):btO F z n 0=zlK F n z n:=by rfl
def zwm(F:LUv)(e:z.length=n)(h:k<n):btI F z n k 0=btO F z n (k+1):=by unfold btI btO btP;rw[Xe,zaH ω];simp only[zai,Option.toList_some,XU,List.singleton_append];rw[show ∀a:Rat,a-0=a by grind]
def zzk(F:LUv)(j:Nat)(a:z.length=n)(h:k<n):(btI F z n k j)[k]? = some (btP F z n k j):=by have:=zk2 (z.take k) (zlK F n z (n-(k+1))) (btP F z n k j);rw[zdx a h]at this;exact this
def zwk(F:LUv){c:Nat}(j:Nat)(a:z.length=n)(h:k+1+c<n):(btI F z n k j)[k+1+c]? = some (el (zlK F n z (n-(k+1))) c):=by unfold btI;rw[ZN (by rw[zdx a ω];omega),zdx a ω,show k+1+c-k=c+1 by omega,XJ];grind[zaH,zmU]
def zzl(F:LUv)(j:Nat)(a:z.length=n)(h:k<n):(btI F z n k j).set k (btP F z n k j-en F.lo (k+1+j) k*el (zlK F n z (n-(k+1))) j)=btI F z n k (j+1):=by have:=zg6 (z.take k) (zlK F n z (n-(k+1))) (btP F z n k j) (btP F z n k j-en F.lo (k+1+j) k*el (zlK F n z (n-(k+1))) j);rw[zdx a h]at this;unfold btI;rw[this];congr 2;unfold btP;rw[zai];grind
def zwl(F:LUv)(a:z.length=n)(h:k<n):btI F z n k (n-(k+1))=btO F z n k:=by
 unfold btI btO
 congr 1
 rw[show n-k=(n-(k+1))+1 by omega];unfold btP;show _=(el z (n-(n-(k+1)+1))-zai (n-(k+1)) (λc=>en F.lo (n-(n-(k+1))+c) (n-(n-(k+1)+1))*el (zlK F n z (n-(k+1))) c))::zlK F n z (n-(k+1))
 rw[show n-(n-(k+1)+1)=k by omega,show n-(n-(k+1))=k+1 by omega]
end Am
namespace Go.Proofs.YtbpjabgfcbjjmaaGreat
open Go.RowKit Am
variable {b c n:Nat}{A:OA}
def zLy:(Tryz.prog.info? 101).map (λi=>(i.zero,i.size,i.bytes))=some (some (.agg #[(),.int .i64 0,false,(),()]),5,88):=ξ
structure PRow where
  coef:List Rat
  kind:Int
  rhs:Rat
instance:Inhabited PRow:=⟨⟨[],0,0⟩⟩
structure RR where
  c:Value
  k:Int
  g:Bool
  s:Value
  d:Value
def zcW (l:List RR):List Value:=l.flatMap λr=>[r.c,.int .i64 r.k,.bool r.g,r.s,r.d]
def zd4(r:RR)(l:List RR):zcW (r::l)=r.c::.int .i64 r.k::.bool r.g::r.s::r.d::zcW l:=by simp[zcW]
def zKq(a b:List RR):zcW (a++b)=zcW a++zcW b:=by simp[zcW]
def zqG(l:List RR):∀(k:Nat) (r:RR),l[k]? = some r->(zcW l)[k*5]? = some r.c/\(zcW l)[k*5+1]? = some (.int .i64 r.k)/\(zcW l)[k*5+2]? = some (.bool r.g)/\(zcW l)[k*5+3]? = some r.s/\(zcW l)[k*5+4]? = some r.d:=by
 induction l with
 | nil=>grind
 | cons a l ih =>
  intro k r h;rw[zd4];cases k with
  | zero=>grind
  | succ k =>
   have:=ih k r (by simpa using h);rw[show(k+1)*5=k*5+1+1+1+1+1 by omega];grind
def zpb(l:List RR):∀(k:Nat) (c:Value),(zcW l).set (k*5) c=zcW (l.modify k λr=>{ r with c:=c }):=by
 induction l with
 | nil=>intro k c;simp[zcW]
 | cons a l ih =>
  intro k c;cases k with
  | zero=>simp[zd4]
  | succ k=>rw[show(k+1)*5=k*5+1+1+1+1+1 by omega,zd4];simp[zd4,ih]
structure RowS (w:World) (r:RR) (p:PRow):Prop where
  coef:VecS w 0 r.c p.coef
  kind:r.k=p.kind
  rhs:RatS w r.g r.s r.d p.rhs
structure RowsS (w:World) (H:Nat) (v:Value) (ps:List PRow):Prop where
  row:∃l:List RR,l.length=ps.length/\(∀(k:Nat) (r:RR) (p:PRow),l[k]? = some r->ps[k]? = some p->RowS w r p)/\w.ownsRow H 101 5 v ps.length (zcW l)
def RowS.below{w w':World}{r:RR}{p:PRow}(h:RowS w r p)(hb:Below w w w'):RowS w' r p:=⟨h.coef.below hb,h.kind,h.rhs.below hb⟩
namespace RowsS
variable {w w':World} {H:Nat} {v:Value} {ps:List PRow}
def lt(h:RowsS w H v ps){k:Nat}(hk:v.ownBlock=some k):H<=k/\k<w.heap.size:=by obtain⟨l,_,_,h⟩:=h.row;exact h.lt k hk
def keepAll(h:RowsS w H v ps)(hk:∀k,v.ownBlock=some k->w'.heap[k]? = w.heap[k]?)(hr:∀r p,RowS w r p->RowS w' r p):RowsS w' H v ps:=by obtain⟨l,h1,d,e⟩:=h.row;exact⟨l,h1,λk r q a b=>hr _ _ (d k r q a b),zc9 e hk⟩
def below(h:RowsS w H v ps)(hb:Below w w w'):RowsS w' H v ps:=h.keepAll (λk hk=>hb.block k (h.lt hk).2) λ_ _ r=>r.below hb
def alloc(h:RowsS w H v ps)(o:Obj):RowsS (w.alloc o) H v ps:=h.below (zae w o)
def drew(h:RowsS w H v ps):RowsS w.drew H v ps:=h.below (zap w 1)
def base{a:Nat}(h:RowsS w H v ps)(hb:a<=H):RowsS w a v ps:=by obtain⟨l,h1,d,e⟩:=h.row;exact⟨l,h1,d,zbu e hb⟩
theorem nil(w:World)(H:Nat):RowsS w H () []:=⟨[],rfl,λk r q h=>by simp at h,Xs _ _ _ _⟩
def form(h:RowsS w H (A,n,c) ps):n=ps.length/\n<=c/\c<=maxLen/\((A=none/\c=0/\ps=[])\/∃g,A=some ⟨g,0,none⟩/\H<=g/\g<w.heap.size):=by
 obtain⟨l,_,_,e⟩:=h.row;rcases e.2 with ⟨d,a⟩ | ⟨g,cap,cur,d,hg,f,a,hm,_⟩
 injection d with e1 e2 e3;subst e1 e2 e3;exact⟨a.symm,Za _,Zb _,.inl ⟨rfl,rfl,Xo.1 a⟩⟩;grind
def len(h:RowsS w H (A,n,c) ps):n=ps.length:=h.form.1
def has(h:RowsS w H (A,n,c) ps)(f:0<n):∃g,A=some ⟨g,0,none⟩/\H<=g/\g<w.heap.size:=by obtain⟨h1,d,e,a | a⟩:=h.form;omega;exact a
def slice(h:RowsS w H v ps):∃A n c,v=.slice A n c:=by
 obtain⟨l,_,_,d⟩:=h.row;rcases d.2 with ⟨a,e⟩ | ⟨g,cap,cur,a,_⟩
 exact⟨_,_,_,a⟩;grind
def fro(h:RowsS w H (b,n,c) ps)(j:Nat):w.frozen? ⟨b,j,none⟩=false:=by have d:=h.len;subst d;obtain⟨l,_,_,a⟩:=h.row;exact a.frozenAt j
def at_(h:RowsS w H (b,n,c) ps){k:Nat}{p:PRow}(hk:ps[k]? = some p) :
  ∃(C:OA) (nc cc:Nat) (g:Bool) (A:OA) (m c:Nat) (D:OA) (f e:Nat),χ w b (k*5) (C,nc,cc)/\χ w b (k*5+1) (.int .i64 p.kind)/\χ w b (k*5+2) (.bool g) /\
   χ w b (k*5+3) (A,m,c)/\χ w b (k*5+4) (D,f,e)/\VecS w 0 (C,nc,cc) p.coef/\RatS w g (A,m,c) (D,f,e) p.rhs:=by
 have z:=h.len;subst z;obtain⟨l,h1,y,a⟩:=h.row;have B:=(ZF.1 hk).1;obtain⟨r,hr⟩:∃r,l[k]? = some r:=⟨l[k]' ω,Ze _⟩
 have d:=y k r p hr hk;obtain⟨C,nc,cc,i⟩:=d.coef.slice;obtain⟨A,m,c,D,f,e,j,o⟩:=d.rhs.shape;obtain⟨q,s,t,u,x⟩:=zqG l k r hr;refine⟨C,nc,cc,r.g,A,m,c,D,f,e,?_,?_,?_,?_,?_,?_,?_⟩;rw[a.cellAt _ ω,q,i];rw[a.cellAt _ ω,s,d.kind];rw[a.cellAt _ ω];exact t;rw[a.cellAt _ ω,u,j];rw[a.cellAt _ ω,x,o];rw[<-i];exact d.coef;rw[<-j,<-o];exact d.rhs
end RowsS
end Go.Proofs.YtbpjabgfcbjjmaaGreat
namespace Am
variable {cols:List Nat}{j k:Nat}
inductive Next where
  | stop:Next
  | bad:Nat->Next
  | piv:Nat->Nat->Next
structure RunOut where
  cols:List Nat
  at_:Option Nat
  n:Nat
  err:Bool
def pivs (next:List Nat->Next):Nat->List Nat->RunOut
  | 0,cols => match next cols with
    | .stop=>⟨cols,none,0,false⟩
    | .bad k=>⟨cols,some k,0,false⟩
    | .piv _ _=>⟨cols,none,0,true⟩
  | f + 1,cols => match next cols with
    | .stop=>⟨cols,none,0,false⟩
    | .bad k=>⟨cols,some k,0,false⟩
    | .piv k j=>{ pivs next f (cols.set k j)with n:=(pivs next f (cols.set k j)).n+1 }
def zvo (next:List Nat->Next) (cols:List Nat):Nat->List Nat
  | 0=>cols
  | i + 1 => match next (zvo next cols i) with
    | .piv k j=>(zvo next cols i).set k j
    | _=>zvo next cols i
def zmc(next:List Nat->Next)(cols:List Nat){k j:Nat}(h:next cols=.piv k j):∀i,zvo next cols (i+1)=zvo next (cols.set k j) i
 | 0=>by simp only[zvo,h]
 | i+1=>by rw[zvo,zmc next cols h i];rfl
def zLj(next:List Nat->Next):∀f cols,(pivs next f cols).n<=f
 | 0,cols=>by unfold pivs;split<;>exact Za _
 | f+1,cols=>by
  unfold pivs;split
  exact Zb _;exact Zb _;rename_i k j _;have:=zLj next f (cols.set k j);show _+1<=_;omega
def zoW(next:List Nat->Next):∀f cols,(pivs next f cols).cols=zvo next cols (pivs next f cols).n/\(∀i,i<(pivs next f cols).n->∃k j,next (zvo next cols i)=.piv k j) /\
  ((pivs next f cols).err=true->(pivs next f cols).n=f/\∃k j,next (zvo next cols f)=.piv k j) /\
  ((pivs next f cols).err=false->next (zvo next cols (pivs next f cols).n)=match (pivs next f cols).at_ with | none=>.stop | some k=>.bad k)/\((pivs next f cols).err=true->(pivs next f cols).at_=none)
 | 0,cols=>by
  unfold pivs;split
  rename_i h;exact⟨rfl,λi hi=>absurd hi (ZS _),λh=>(by cases h),λ_=>h,λ_=>rfl⟩;rename_i h;exact⟨rfl,λi hi=>absurd hi (ZS _),λh=>(by cases h),λ_=>h,λh=>(by cases h)⟩;rename_i h;exact⟨rfl,λi hi=>absurd hi (ZS _),λ_=>⟨rfl,_,_,h⟩,λh=>(by cases h),λ_=>rfl⟩
 | f+1,cols=>by
  unfold pivs;split
  rename_i h;exact⟨rfl,λi hi=>absurd hi (ZS _),λh=>(by cases h),λ_=>h,λ_=>rfl⟩;rename_i h;exact⟨rfl,λi hi=>absurd hi (ZS _),λh=>(by cases h),λ_=>h,λh=>(by cases h)⟩;rename_i k j h;obtain⟨a,b,c,d,e⟩:=zoW next f (cols.set k j);have s:=zmc next cols h;refine⟨by rw[s];exact a,λi hi=>?_,λg=>?_,λg=>by rw[s];exact d g,e⟩;cases i with
  | zero=>exact⟨k,j,h⟩
  | succ i=>rw[s];exact b i (Nat.lt_of_succ_lt_succ hi)
  grind
def zKI(next:List Nat->Next):∀f g cols,(pivs next f cols).err=false->(pivs next f cols).n<=g->pivs next g cols=pivs next f cols
 | 0,g,cols,h,_=>by
  cases hn:next cols with
  | stop=>cases g<;>simp only[pivs,hn]
  | bad k=>cases g<;>simp only[pivs,hn]
  | piv k j=>simp only[pivs,hn]at h;cases h
 | f+1,g,cols,h,hg=>by
  cases hn:next cols with
  | stop=>cases g<;>simp only[pivs,hn]
  | bad k=>cases g<;>simp only[pivs,hn]
  | piv k j =>
   simp only[pivs,hn]at h hg;cases g with
   | zero=>omega
   | succ g=>simp only[pivs,hn];rw[zKI next f g _ h ω]
def zKH(next:List Nat->Next):∀f g cols,(pivs next f cols).err=false->g<(pivs next f cols).n->(pivs next g cols).err=true/\(pivs next g cols).n=g
 | 0,g,cols,h,hg=>by have:=zLj next 0 cols;omega
 | f+1,g,cols,h,hg=>by
  cases hn:next cols with
  | stop=>simp only[pivs,hn]at hg;omega
  | bad k=>simp only[pivs,hn]at hg;omega
  | piv k j =>
   simp only[pivs,hn]at h hg;cases g with
   | zero=>simp only[pivs,hn];exact⟨trivial,trivial⟩
   | succ g =>
    simp only[pivs,hn];obtain⟨a,b⟩:=zKH next f g _ h ω;exact⟨a,ω⟩
def zbk (cols:List Nat) (xs:List Rat):Nat->Option Nat
  | 0=>none
  | k + 1 => match zbk cols xs k with
    | none=>if el xs k<0 then some k else none
    | some b=>if el xs k<0/\cols.getD k 0<cols.getD b 0 then some k else some b
def zi5 (cols:List Nat) (xs:List Rat):Option Nat:=zbk cols xs xs.length
def zdk(cols:List Nat)(xs:List Rat):∀n,match zbk cols xs n with
  | none=>∀k,k<n->0<=el xs k
  | some b=>b<n/\el xs b<0/\∀k,k<n->el xs k<0->cols.getD b 0<=cols.getD k 0
 | 0=>by simp only[zbk];omega
 | n+1=>by
  have d:=zdk cols xs n;simp only[zbk];cases h:zbk cols xs n with
  | none =>
   rw[h]at d;simp only at d ⊢;by_cases a:el xs n<0;rw[if_pos a];exact⟨ω,a,λk hk f=>by by_cases e:k=n;rw[e];exact Za _;have:=d k ω;grind⟩;rw[if_neg a];intro k hk;by_cases e:k=n;rw[e];grind;exact d k ω
  | some b =>
   rw[h]at d;simp only at d ⊢;obtain⟨i1,i2,i3⟩:=d;by_cases a:el xs n<0/\cols.getD n 0<cols.getD b 0;rw[if_pos a];exact⟨ω,a.1,λk hk f=>by by_cases e:k=n;rw[e];exact Za _;have:=i3 k ω f;omega⟩
   rw[if_neg a];exact⟨ω,i2,λk hk f=>by
    by_cases e:k=n;subst e;have:¬cols.getD k 0<cols.getD b 0:=λg=>a ⟨f,g⟩
    omega;exact i3 k ω f⟩
def za4 (p l:List Rat) (may:List Bool):Nat->Option Nat
  | 0=>none
  | j + 1 => if may.getD j false = true /\ el l j < 0 then
      match za4 p l may j with
      | none=>some j
      | some b=>if el p j / -el l j<el p b / -el l b then some j else some b
    else za4 p l may j
def zhy (p l:List Rat) (may:List Bool):Option Nat:=za4 p l may (min p.length (min l.length may.length))
def zdW(p l:List Rat)(may:List Bool):∀n,match za4 p l may n with
  | none=>∀j,j<n->may.getD j false=true->0<=el l j
  | some b=>b<n/\may.getD b false=true/\el l b<0/\∀j,j<n->may.getD j false=true->el l j<0->el p b / -el l b<=el p j / -el l j/\(j<b->el p b / -el l b<el p j / -el l j)
 | 0=>by simp only[za4];omega
 | n+1=>by
  have a:=zdW p l may n;simp only[za4];by_cases d:may.getD n false=true/\el l n<0;rw[if_pos d];cases h:za4 p l may n with
  | none =>
   rw[h]at a;grind
  | some b =>
   rw[h]at a;simp only at a ⊢;obtain⟨i1,i2,i3,i4⟩:=a;by_cases g:el p n / -el l n<el p b / -el l b;rw[if_pos g];refine⟨ω,d.1,d.2,λj hj hm f=>?_⟩;by_cases e:j=n;rw[e];exact⟨XG,λh=>ω⟩;have:=(i4 j ω hm f).1;exact⟨ψ,λ_=>ψ⟩;rw[if_neg g];refine⟨ω,i2,i3,λj hj hm f=>?_⟩;by_cases e:j=n;subst e;exact⟨ψ,λh=>ω⟩;exact i4 j ω hm f
  rw[if_neg d];cases h:za4 p l may n with
  | none =>
   rw[h]at a;grind
  | some b =>
   rw[h]at a;simp only at a ⊢;obtain⟨i1,i2,i3,i4⟩:=a;refine⟨ω,i2,i3,λj hj hm f=>?_⟩;by_cases e:j=n;subst e;exact absurd ⟨hm,f⟩ d;exact i4 j ω hm f
def zbE (N:Nat) (A:List (List Rat)) (b c:List Rat) (may:List Bool) (cols:List Nat):Next :=
  match zi5 cols (za5 A b cols)with
  | none=>.stop
  | some k => match zhy (zaC N A cols c) (zk8 N A cols k) may with
    | none=>.bad k
    | some j=>.piv k j
def zx5 (N:Nat) (A:List (List Rat)) (c:List Rat) (cols:List Nat):Prop:=∀j,j<N->0<=el (zaC N A cols c) j
section
variable {m N:Nat} {A:List (List Rat)} {b c:List Rat}
structure DPiv (m N:Nat) (A:List (List Rat)) (b c:List Rat) (cols:List Nat) (k j:Nat):Prop where
  hk:k<m
  hj:j<N
  x:el (za5 A b cols) k<0
  xl:∀l,l<m->el (za5 A b cols) l<0->cols.getD k 0<=cols.getD l 0
  t:el (zav A cols j) k<0
  q:∀i,i<N->el (zav A cols i) k<0->el (zaC N A cols c) j / -el (zav A cols j) k<=el (zaC N A cols c) i / -el (zav A cols i) k/\(i<j->el (zaC N A cols c) j / -el (zav A cols j) k<el (zaC N A cols c) i / -el (zav A cols i) k)
def zwH(h:Basis m N A cols)(hc:c.length=N)(e:zbE N A b c (List.replicate N true) cols=.piv k j):DPiv m N A b c cols k j:=by
 have hm:∀i,i<N->(List.replicate N true).getD i false=true:=λi hi=>by rw[Zh,Z9,if_pos hi];rfl
 have n:(zaC N A cols c).length=N:=by unfold zaC;rw[zdt (by rw[zkb,hc]),hc]
 have ll:∀k,(zk8 N A cols k).length=N:=λk=>zkb _ _ _
 have l:∀k,min (zaC N A cols c).length (min (zk8 N A cols k).length (List.replicate N true).length)=N:=λk=>by rw[n,ll,ZQ];omega
 unfold zbE at e;have s1:=zdk cols (za5 A b cols) (za5 A b cols).length;split at e
 cases e;rename_i k' h1;unfold zi5 at h1;rw[h1,(h.vals_ok b).2]at s1;simp only at s1;split at e
 cases e;rename_i j' h2;injection e with e1 e2;subst e1 e2;unfold zhy at h2;rw[l]at h2;have s2:=zdW (zaC N A cols c) (zk8 N A cols k') (List.replicate N true) N;rw[h2]at s2;simp only at s2;obtain⟨a1,a2,a3⟩:=s1;obtain⟨a,_,d,f⟩:=s2;rw[h.line_el a1 a]at d f;exact⟨a1,a,a2,a3,d,λi hi g=>by have:=f i hi (hm i hi) (by rw[h.line_el a1 hi];exact g);rw[h.line_el a1 hi]at this;exact this⟩
def zox{p q a b:Rat}(d:0<a)(hb:0<b):p/a<q/b↔p*b<q*a:=by rw[Rat.div_lt_iff d,show q/b*a=q*a/b by rw[Xa,Xa,Rat.mul_assoc,YK b⁻¹,<-Rat.mul_assoc],Rat.lt_div_iff hb]
def DPiv.right(h:Basis m N A cols)(hc:c.length=N)(p:DPiv m N A b c cols k j)(r:zx5 N A c cols):zx5 N A c (cols.set k j):=by
 have f:=h.swap p.hk p.hj (by have:=p.t;grind);have d:=h.dic b;have n:=h.pri hc;have z:=f.pri hc;obtain⟨Y,x,_⟩:=d.row k p.hk
 -- what the prices are behind it
 have s:0<=el (zaC N A cols c) j / -el (zav A cols j) k:=by rw[Xa];exact Xt (r j p.hj) (XZ (YL.2 (by have:=p.t;grind)))
 generalize hth:el (zaC N A cols c) j / -el (zav A cols j) k=th at s;have y:el (zaC N A cols c) j+th*el (zav A cols j) k=0:=by have:=p.t;rw[<-hth];have e:el (zaC N A cols c) j / -el (zav A cols j) k * -el (zav A cols j) k=el (zaC N A cols c) j:=Vg ψ;grind
 have o:Pri m N (en A) (el c) (λl=>(cols.set k j).getD l 0) (λi=>el (zcl A cols c) i-th*Y i) (λi=>el (zaC N A cols c) i+th*el (zav A cols i) k):=by
  refine⟨λi hi=>?_,λl a=>?_⟩;show el (zaC N A cols c) i+th*el (zav A cols i) k=_
  rw[n.eq i hi,x i hi];have:zai m (λt=>(el (zcl A cols c) t-th*Y t)*en A t i)=zai m (λt=>el (zcl A cols c) t*en A t i+(-th)*(Y t*en A t i)):=zaj λt _=>ψ
  rw[this,zcm,za7];grind;show el (zaC N A cols c) ((cols.set k j).getD l 0)+th*el (zav A cols ((cols.set k j).getD l 0)) k=0
  rw[gset (by rw[h.len];exact p.hk)];by_cases e:k=l;rw[if_pos e];exact y;rw[if_neg e];have u:el (zav A cols (cols.getD l 0)) k=if l=k then 1 else 0:=d.uni k l p.hk a
  rw[u,if_neg (Z6 e),n.zero l a];grind
 have same:=z.same o (f.dic b) o.zero;intro i hi;rw[same i hi];by_cases a:el (zav A cols i) k<0;have g:=(p.q i hi a).1;rw[hth]at g;have:th * -el (zav A cols i) k<=el (zaC N A cols c) i:=by have e:el (zaC N A cols c) i / -el (zav A cols i) k * -el (zav A cols i) k=el (zaC N A cols c) i:=Vg ψ;rw[<-e];grind[Rat.mul_le_mul_of_nonneg_right]
 grind;have:=Xt s (show 0<=el (zav A cols i) k by grind);have:=r i hi;grind
end
end Am
namespace Am
variable {cols:List Nat}{j k:Nat}
def zfV (p:List Rat) (may:List Bool):Nat->Nat->Option Nat
  | 0,_=>none
  | f+1,j=>if may.getD j false=true/\el p j<0 then some j else zfV p may f (j+1)
def zdi (p:List Rat) (may:List Bool):Option Nat:=zfV p may p.length 0
def zKj(p:List Rat)(may:List Bool):∀f s,match zfV p may f s with
  | none=>∀j,s<=j->j<s+f->may.getD j false=true->0<=el p j
  | some b=>s<=b/\b<s+f/\may.getD b false=true/\el p b<0/\∀j,s<=j->j<b->may.getD j false=true->0<=el p j
 | 0,s=>by simp only[zfV];omega
 | f+1,s=>by
  have d:=zKj p may f (s+1);simp only[zfV];by_cases h:may.getD s false=true/\el p s<0;rw[if_pos h];exact⟨Za _,ω,h.1,h.2,λj h1 a=>ω⟩
  rw[if_neg h];have h0:may.getD s false=true->0<=el p s:=λhm=>by
   have:¬el p s<0:=λa=>h ⟨hm,a⟩
   grind
  cases hb:zfV p may f (s+1)with
  | none =>
   rw[hb]at d;simp only at d ⊢;intro j h1 a hm;by_cases e:j=s;rw[e];exact h0 (by rw[<-e];exact hm);exact d j ω ω hm
  | some b =>
   rw[hb]at d;simp only at d ⊢;obtain⟨i1,i2,i3,i4,g⟩:=d;refine⟨ω,ω,i3,i4,λj h1 a hm=>?_⟩;by_cases e:j=s;rw[e];exact h0 (by rw[<-e];exact hm);exact g j ω a hm
def znH (cols:List Nat) (xs col:List Rat):Nat->Option Nat
  | 0=>none
  | k + 1 => if 0 < el col k then
      match znH cols xs col k with
      | none=>some k
      | some b=>if el xs k/el col k<el xs b/el col b\/(el xs k/el col k=el xs b/el col b/\cols.getD k 0<cols.getD b 0)then some k else some b
    else znH cols xs col k
def zDG (cols:List Nat) (xs col:List Rat):Option Nat:=znH cols xs col (min col.length cols.length)
def zKk(cols:List Nat)(xs col:List Rat):∀n,match znH cols xs col n with
  | none=>∀k,k<n->el col k<=0
  | some b=>b<n/\0<el col b/\∀k,k<n->0<el col k->el xs b/el col b<=el xs k/el col k/\(cols.getD k 0<cols.getD b 0->el xs b/el col b<el xs k/el col k)
 | 0=>by simp only[znH];omega
 | n+1=>by
  have a:=zKk cols xs col n;simp only[znH];by_cases i:0<el col n;rw[if_pos i];cases h:znH cols xs col n with
  | none =>
   rw[h]at a;grind
  | some b =>
   rw[h]at a;simp only at a ⊢;obtain⟨i1,i2,i3⟩:=a;by_cases f:el xs n/el col n<el xs b/el col b\/(el xs n/el col n=el xs b/el col b/\cols.getD n 0<cols.getD b 0);rw[if_pos f];refine⟨ω,i,λk hk d=>?_⟩;by_cases e:k=n;rw[e];exact⟨XG,λh=>ω⟩;have g:=i3 k ω d;rcases f with f | ⟨f,hc⟩
   exact⟨ψ,λ_=>ψ⟩;exact⟨ψ,λj=>by have:=g.2 ω;grind⟩;rw[if_neg f];refine⟨ω,i2,λk hk d=>?_⟩;by_cases e:k=n;subst e;have h1:¬el xs k/el col k<el xs b/el col b:=λh=>f (.inl h)
   refine⟨ψ,λj=>?_⟩;have l:¬el xs k/el col k=el xs b/el col b:=λh=>f (.inr ⟨h,j⟩)
   grind;exact i3 k ω d
  rw[if_neg i];cases h:znH cols xs col n with
  | none =>
   rw[h]at a;grind
  | some b =>
   rw[h]at a;simp only at a ⊢;obtain⟨i1,i2,i3⟩:=a;refine⟨ω,i2,λk hk d=>?_⟩;by_cases e:k=n;subst e;exact absurd d i;exact i3 k ω d
def zBX (N:Nat) (A:List (List Rat)) (b c:List Rat) (may:List Bool) (cols:List Nat):Next :=
  match zdi (zaC N A cols c) may with
  | none=>.stop
  | some j => match zDG cols (za5 A b cols) (zav A cols j) with
    | none=>.bad j
    | some k=>.piv k j
def zyF (m:Nat) (A:List (List Rat)) (b:List Rat) (cols:List Nat):Prop:=∀k,k<m->0<=el (za5 A b cols) k
section
variable {m N:Nat} {A:List (List Rat)} {b c:List Rat} {may:List Bool}
structure PPiv (m N:Nat) (A:List (List Rat)) (b c:List Rat) (may:List Bool) (cols:List Nat) (k j:Nat):Prop where
  hk:k<m
  hj:j<N
  hm:may.getD j false=true
  d:el (zaC N A cols c) j<0
  dl:∀i,i<j->may.getD i false=true->0<=el (zaC N A cols c) i
  t:0<el (zav A cols j) k
  q:∀l,l<m->0<el (zav A cols j) l->el (za5 A b cols) k/el (zav A cols j) k<=el (za5 A b cols) l/el (zav A cols j) l/\(cols.getD l 0<cols.getD k 0->el (za5 A b cols) k/el (zav A cols j) k<el (za5 A b cols) l/el (zav A cols j) l)
def zKp(hc:c.length=N):(zaC N A cols c).length=N:=by unfold zaC;rw[zdt (by rw[zkb,hc]),hc]
def zK6(h:Basis m N A cols)(hc:c.length=N)(e:zBX N A b c may cols=.piv k j):PPiv m N A b c may cols k j:=by
 have g:=zKp (A:=A) (cols:=cols) hc;unfold zBX at e;have s1:=zKj (zaC N A cols c) may N 0;split at e
 cases e;rename_i j' h1;unfold zdi at h1;rw[g]at h1;rw[h1]at s1;simp only at s1;split at e
 cases e;rename_i k' h2;injection e with e1 e2;subst e1 e2;unfold zDG at h2;rw[(h.column_ok _).2,h.len,Vh]at h2;have s2:=zKk cols (za5 A b cols) (zav A cols j') m;rw[h2]at s2;simp only at s2;obtain⟨_,a1,a2,a3,a4⟩:=s1;obtain⟨a,d,f⟩:=s2;exact⟨a,ω,a2,a3,λi hi hm=>a4 i (Zb _) hi hm,d,f⟩
def zo9(h:Basis m N A cols)(hk:k<m)(hj:j<N)(d:el (zav A cols j) k≠0):za5 A b (cols.set k j)=zsC m k (zav A cols j) (za5 A b cols):=by have a:=h.swap hk hj d;have e:=zp3 h.sq hk (h.column_ok j).1 d (h.vals_ok b).1;rw[<-zq6]at e;have:=znS a.sq a.reg e (zng _ _ _ _);rw[this];unfold za5;rw[a.len]
def PPiv.feas(h:Basis m N A cols)(p:PPiv m N A b c may cols k j)(f:zyF m A b cols):zyF m A b (cols.set k j):=by
 intro l a;rw[zo9 h p.hk p.hj (by have:=p.t;grind),zkK a];have i:0<=el (za5 A b cols) k/el (zav A cols j) k:=by rw[Xa];exact Xt (f k p.hk) (XZ (YL.2 p.t))
 split
 exact i;by_cases d:0<el (zav A cols j) l;have g:=(p.q l a d).1;have e:el (za5 A b cols) l/el (zav A cols j) l*el (zav A cols j) l=el (za5 A b cols) l:=Vg ψ;have:=Vi g (XZ d);grind;have:=Xt (show 0 <= -el (zav A cols j) l by grind) i;have:=f l a;grind
def zVH{cols:List Nat}(h:Basis m N A cols)(hc:c.length=N)(f:zyF m A b cols):∀i,Basis m N A (zvo (zBX N A b c may) cols i)/\zyF m A b (zvo (zBX N A b c may) cols i)
 | 0=>⟨h,f⟩
 | i+1=>by
  obtain⟨h1,a⟩:=zVH h hc f i;rw[zvo];split
  rename_i k j e;have p:=zK6 h1 hc e;exact⟨h1.swap p.hk p.hj (by have:=p.t;grind),p.feas h1 a⟩;exact⟨h1,a⟩
def ysX(h:Basis m N A cols)(hc:c.length=N)(f:zyF m A b cols)(n:Nat)(I:∀i,i<n->∃k j,zBX N A b c may (zvo (zBX N A b c may) cols i)=.piv k j):∀i j,i<j->j<n->¬∀u,Bas m (λk=>(zvo (zBX N A b c may) cols i).getD k 0) u↔Bas m (λk=>(zvo (zBX N A b c may) cols j).getD k 0) u:=by
 have p:=zVH (may:=may) h hc f;have E:∀i,∃F:Nat × Nat,i<n->zBX N A b c may (zvo (zBX N A b c may) cols i)=.piv F.1 F.2:=λi=>by
  by_cases hi:i<n
  simp_all
  exact⟨(0,0),λh=>absurd h hi⟩
 generalize hnx:zBX N A b c may=nx at *
 let K:Nat->Nat × Nat:=λi=>Classical.choose (E i)
 have C:∀i,i<n->nx (zvo nx cols i)=.piv (K i).1 (K i).2:=λi=>Classical.choose_spec (E i)
 have M:∀i,i<n->zvo nx cols (i+1)=(zvo nx cols i).set (K i).1 (K i).2:=λi hi=>by rw[zvo,C i hi]
 have g:∀i,i<n->PPiv m N A b c may (zvo nx cols i) (K i).1 (K i).2:=λi hi=>zK6 (p i).1 hc (by rw[hnx];exact C i hi)
 intro i j O hj per
 refine zTi (m:=m) (N:=N) (L:=j-i) (A:=en A) (b:=el b) (c:=el c) (β:=λa k=>(zvo nx cols (i+a)).getD k 0) (T:=λa r s=>el (zav A (zvo nx cols (i+a)) s) r) (x:=λa=>el (za5 A b (zvo nx cols (i+a)))) (y:=λa=>el (zcl A (zvo nx cols (i+a)) c)) (d:=λa=>el (zaC N A (zvo nx cols (i+a)) c)) (r:=λa=>(K (i+a)).1) (t:=λa=>(K (i+a)).2) (may:=λj=>may.getD j false=true)
  ⟨λa o=>(p (i+a)).1.inj,λa o=>(g (i+a) ω).hk,λa o hb=>?_,λa o k hk=>?_,?_⟩ ω (λa o=>(p (i+a)).1.dic b) (λa o=>(p (i+a)).1.pri hc) (λa o=>(p (i+a)).2) (λa o=>⟨(g (i+a) ω).hj,(g (i+a) ω).hm⟩)
  (λa o=>⟨(g (i+a) ω).d,λs J hm=>(g (i+a) ω).dl s J hm⟩) (λa o=>⟨(g (i+a) ω).t,λl B D G=>?_⟩)
 obtain⟨l,B,e⟩:=hb;have z:=((p (i+a)).1.pri hc).zero l B;simp only at e z;rw[e]at z;have:=(g (i+a) ω).d;grind;show(zvo nx cols (i+a+1)).getD k 0=_
 rw[M (i+a) ω,gset (by rw[(p (i+a)).1.len];exact(g (i+a) ω).hk)];grind;intro u;show Bas m (λk=>(zvo nx cols (i+0)).getD k 0) u↔Bas m (λk=>(zvo nx cols (i+(j-i))).getD k 0) u
 rw[show i+(j-i)=j by omega];exact per u;have q:=((g (i+a) ω).q l B D).2 G;rw[zox (g (i+a) ω).t D]at q;exact q
def zTd(h:Basis m N A cols)(hc:c.length=N)(f:zyF m A b cols):∀n,(∀i,i<n->∃k j,zBX N A b c may (zvo (zBX N A b c may) cols i)=.piv k j)->n<=binom N m:=λn a =>
 zLq (β:=λi k=>(zvo (zBX N A b c may) cols i).getD k 0) (λi _=>(zVH h hc f i).1.lt) (λi _=>(zVH h hc f i).1.inj) (ysX h hc f n a)
end
end Am
namespace Am
variable {cols:List Nat}{c xs:List Rat}{N i j k m t:Nat}
def sgn (q:Rat):Rat:=if q<0 then -1 else 1
def zDO(q:Rat):sgn q*sgn q=1:=by unfold sgn;split<;>grind
def zYm(q:Rat):0<=sgn q*q:=by unfold sgn;split<;>grind
def zt0 (A:List (List Rat)) (b:List Rat):List (List Rat):=(List.range A.length).map λk=>((A.getD k []).map λx=>sgn (el b k)*x)++zdL A.length k
def zwh (b:List Rat):List Rat:=b.map λq=>sgn q*q
def zKb (m:Nat) (c:List Rat):List Rat:=c++List.replicate m 0
def zJG (N m:Nat):List Rat:=List.replicate N 0++List.replicate m 1
def zKa (N m:Nat):List Nat:=(List.range m).map λk=>N+k
def zKc (N m:Nat):List Bool:=List.replicate N true++List.replicate m false
def zyo{f:Rat->Rat}(h:j<xs.length):el (xs.map f) j=f (el xs j):=by
 conv=>lhs;unfold el
 rw[zbU _ _ h 0];rfl
def zS9{ys:List Rat}:el (xs++ys) (xs.length+i)=el ys i:=by unfold el;rw[Zh,Zh,ZN ω,show xs.length+i-xs.length=i by omega]
def zVe{a:Rat}{n:Nat}(h:i<n):el (List.replicate n a) i=a:=by unfold el;rw[Zh,Z9,if_pos h];rfl
def zSS(m:Nat)(c:List Rat):(zKb m c).length=c.length+m:=by simp[zKb]
def zSD(N m:Nat):(zJG N m).length=N+m:=by simp[zJG]
def zTq(h:j<N):el (zJG N m) j=0:=by unfold zJG;rw[zkF ψ,zVe h]
def zTp(h:t<m):el (zJG N m) (N+t)=1:=by unfold zJG;have:=zS9 (xs:=List.replicate N (0:Rat)) (ys:=List.replicate m 1) (i:=t);rw[ZQ]at this;rw[this,zVe h]
def zTu(h:j<c.length):el (zKb m c) j=el c j:=by unfold zKb;rw[zkF h]
def zVP:el (zKb m c) (c.length+t)=0:=by unfold zKb;rw[zS9,zrm]
def zUA(h:j<N):(zKc N m).getD j false=true:=by unfold zKc;rw[Zh,Z4 ψ,Z9,if_pos h];rfl
theorem zUz(h:N<=j):(zKc N m).getD j false=false:=by unfold zKc;rw[Zh,ZN ψ,Z9];split<;>rfl
def zUg(N m:Nat):(zKa N m).length=m:=by simp[zKa]
def zSI(h:k<m):(zKa N m).getD k 0=N+k:=by unfold zKa;rw[zbU _ _ ψ 0,zcA h]
section
variable {m N:Nat} {A:List (List Rat)} {b c:List Rat} (hA:Rect m N A) (hb:b.length=m)
include hA
theorem zwg(h:k<m):(zt0 A b).getD k []=((A.getD k []).map λx=>sgn (el b k)*x)++zdL m k:=by unfold zt0;rw[zbU _ _ (by rw[VF,hA.len];exact h) 0,zcA (by rw[hA.len];exact h),hA.len]
theorem zSV:Rect m (N+m) (zt0 A b) :=
 ⟨by simp[zt0,hA.len],λi hi=>by rw[zwg hA hi,Zz,ZK,zfM,hA.row i hi]⟩
theorem zwf(h:k<m)(hj:j<N):en (zt0 A b) k j=sgn (el b k)*en A k j:=by unfold en;rw[zwg hA h,zkF (by rw[ZK,hA.row k h];exact hj),zyo (by rw[hA.row k h];exact hj)]
theorem zTs(h:k<m):en (zt0 A b) k (N+t)=if k=t then 1 else 0:=by unfold en;rw[zwg hA h];have:=zS9 (xs:=(A.getD k []).map λx=>sgn (el b k)*x) (ys:=zdL m k) (i:=t);rw[ZK,hA.row k h]at this;rw[this,zge h]
theorem zSU:Basis m (N+m) (zt0 A b) (zKa N m):=by
 refine⟨zSV hA,zUg _ _,λk hk=>by rw[zSI hk];omega,λk l hk a e=>by rw[zSI hk,zSI a]at e;omega,λx f j hj=>?_⟩;have:zai m (λi=>en (bc (zt0 A b) (zKa N m)) i j*x i)=0:=f j hj;have e:∀i,i<m->en (bc (zt0 A b) (zKa N m)) i j=if j=i then 1 else 0:=λi hi=>by rw[ztZ (by rw[zUg];exact hi) (by rw[(zSV hA).len];exact hj),zSI hi,zTs hA hj]
 rw[zbI (k:=j) hj λi hi d=>by rw[e i hi,if_neg (Z6 d)];grind,e j hj,if_pos rfl]at this;grind
omit hA in
theorem zzj{b:List Rat}(h:i<b.length):el (zwh b) i=sgn (el b i)*el b i:=by unfold zwh;rw[zyo h]
include hb
theorem zVO(hk:k<m):el (za5 (zt0 A b) (zwh b) (zKa N m)) k=sgn (el b k)*el b k:=by have a:=zSU (b:=b) hA;have e:=a.mk_en (a.vals_ok (zwh b)).1 hk;rw[zbI (k:=k) hk λi hi d=>by rw[zSI hi,zTs hA hk,if_neg (Z6 d)];grind,zSI hk,zTs hA hk,if_pos rfl,zzj ω]at e;grind
theorem zVN:zyF m (zt0 A b) (zwh b) (zKa N m):=λk hk=>by rw[zVO hA hb hk];exact zYm _
end
section
variable {m N:Nat} {A:List (List Rat)} {b c:List Rat} {may:List Bool}
def zTe(hc:c.length=N)(e:zBX N A b c may cols=.stop):∀j,j<N->may.getD j false=true->0<=el (zaC N A cols c) j:=by
 have a:=zKp (A:=A) (cols:=cols) hc;unfold zBX at e;have s1:=zKj (zaC N A cols c) may N 0;split at e
 rename_i h1;unfold zdi at h1;rw[a]at h1;rw[h1]at s1;intro j hj hm;exact s1 j (Zb _) ω hm;grind
def zSR(h:Basis m N A cols)(hc:c.length=N)(e:zBX N A b c may cols=.bad j) :
  j<N/\may.getD j false=true/\el (zaC N A cols c) j<0/\∀k,k<m->el (zav A cols j) k<=0:=by
 have a:=zKp (A:=A) (cols:=cols) hc;unfold zBX at e;have s1:=zKj (zaC N A cols c) may N 0;split at e
 cases e;rename_i j' h1;unfold zdi at h1;rw[a]at h1;rw[h1]at s1;simp only at s1;split at e
 rename_i h2;injection e with e;subst e;unfold zDG at h2;rw[(h.column_ok _).2,h.len,Vh]at h2;have s2:=zKk cols (za5 A b cols) (zav A cols j') m;rw[h2]at s2;grind;cases e
def zUS(h:Basis m N A cols)(hc:c.length=N)(hj:j<N)(a:∀k,k<m->el (zav A cols j) k<=0) :
  (∀i,0<=way m (λk=>cols.getD k 0) (λr s=>el (zav A cols s) r) j i)/\(∀i,i<m->zai N (λs=>en A i s*way m (λk=>cols.getD k 0) (λr s=>el (zav A cols s) r) j s)=0) /\
  zai N (λs=>el c s*way m (λk=>cols.getD k 0) (λr s=>el (zav A cols s) r) j s)=el (zaC N A cols c) j:=by
 have D:=h.dic [];refine⟨λi=>?_,zST D hj,?_⟩;unfold way;have q:0<=pt m (λk=>cols.getD k 0) (λk => -el (zav A cols j) k) i:=by by_cases hb:Bas m (λk=>cols.getD k 0) i;obtain⟨k,hk,rfl⟩:=hb;rw[zA7 h.inj _ hk];have:=a k hk;grind;grind[zyz,Rat.le_refl]
 split<;>grind
 rw[(h.pri hc).cost (z:=way m (λk=>cols.getD k 0) (λr s=>el (zav A cols s) r) j) (v:=λ_=>0) (zST D hj),zUd h.lt _ hj,zcn (f:=λi=>el (zcl A cols c) i*0) λi _=>ψ,
  zcn (f:=λk=>el (zaC N A cols c) (cols.getD k 0) * -el (zav A cols j) k) λk hk=>by rw[(h.pri hc).zero k hk];grind]
 grind
def zVC(h:Basis m N A cols)(hc:c.length=N)(d:∀j,0<=el c j)(j:Nat):zBX N A b c may cols≠.bad j:=by intro e;obtain⟨h1,_,a,f⟩:=zSR h hc e;obtain⟨w1,_,g⟩:=zUS h hc h1 f;rw[<-g]at a;obtain⟨i,hi,k⟩:=zKL a;have:=Xt (d i) (w1 i);grind
end
end Am
namespace Am
variable {cols:List Nat}{j k:Nat}
def zTg{n:Nat}{f:Nat->Rat}(h0:∀i,i<n->0<=f i)(a:zai n f<=0):∀i,i<n->f i=0:=by
 induction n with
 | zero=>omega
 | succ n ih =>
  rw[zai]at a;have d:=h0 n ω;have j:0<=zai n f:=by
   have:=zUD (n:=n) (f:=λ_=>0) (g:=f) λi hi=>h0 i ω
   rw[zgd]at this;exact this
  grind
def zkZ (xs:List Rat):Nat->Nat->Option Nat
  | 0,_=>none
  | f+1,j=>if el xs j=0 then zkZ xs f (j+1)else some j
def zSM(xs:List Rat):∀f s,match zkZ xs f s with
  | none=>∀j,s<=j->j<s+f->el xs j=0
  | some b=>s<=b/\b<s+f/\el xs b≠0
 | 0,s=>by simp only[zkZ];omega
 | f+1,s=>by have a:=zSM xs f (s+1);simp only[zkZ];grind
def zuz (own N:Nat) (A:List (List Rat)) (k:Nat) (cn:List Nat × Nat):List Nat × Nat :=
  if own<=cn.1.getD k 0 then match zkZ (zk8 N A cn.1 k) own 0 with
    | none=>cn
    | some j=>(cn.1.set k j,cn.2+1)
  else cn
def zAd (own N:Nat) (A:List (List Rat)) (cols:List Nat):Nat->List Nat × Nat
  | 0=>(cols,0)
  | k+1=>zuz own N A k (zAd own N A cols k)
section
variable {m N own:Nat} {A:List (List Rat)} {b c:List Rat} {may:List Bool}
def zpV(h:Basis m N A cols)(hk:k<m)(hj:j<N)(d:el (zav A cols j) k≠0)(i:Nat):zav A (cols.set k j) i=zsC m k (zav A cols j) (zav A cols i):=by have a:=h.swap hk hj d;have e:=zp3 h.sq hk (h.column_ok j).1 d (h.column_ok i).1;rw[<-zq6]at e;have:=znS a.sq a.reg e (zng _ _ _ _);rw[this];unfold zav;rw[a.len]
structure Own (m N own:Nat) (A:List (List Rat)) (b:List Rat) (cols:List Nat) (K:Nat):Prop where
  basis:Basis m N A cols
  feas:zyF m A b cols
  zero:∀k,k<m->own<=cols.getD k 0->el (za5 A b cols) k=0
  line:∀k,k<K->k<m->own<=cols.getD k 0->∀j,j<own->el (zav A cols j) k=0
def Own.drive{cols:List Nat}(h:Own m N own A b cols 0)(z:own<=N):∀K,K<=m->Own m N own A b (zAd own N A cols K).1 K/\(zAd own N A cols K).2<=K
 | 0,_=>⟨h,Za _⟩
 | K+1,hK=>by
  obtain⟨a,B⟩:=Own.drive h z K ω;show Own m N own A b (zuz own N A K (zAd own N A cols K)).1 (K+1)/\(zuz own N A K (zAd own N A cols K)).2<=K+1
  generalize zAd own N A cols K=cn at *
  obtain⟨d,t⟩:=cn;simp only at a B;unfold zuz;simp only;split
  rename_i hart;have s:=zSM (zk8 N A d K) own 0;split
  rename_i h1;rw[h1]at s;refine⟨⟨a.basis,a.feas,a.zero,λk y n o j hj=>?_⟩,by simp only;omega⟩;by_cases e:k=K;subst e;rw[<-a.basis.line_el n ω];grind;exact a.line k ω n o j hj;rename_i j h1;rw[h1]at s;simp only at s;obtain⟨_,s2,p⟩:=s;rw[a.basis.line_el ω ω]at p;have x:=a.zero K ω hart;have u:∀l,l<m->el (za5 A b (d.set K j)) l=el (za5 A b d) l:=λl g=>by rw[zo9 a.basis ω ω p,zkK g,x];grind
  have r:∀l,(d.set K j).getD l 0=if K=l then j else d.getD l 0:=λl=>gset (by rw[a.basis.len];omega)
  refine⟨⟨a.basis.swap ω ω p,λl g=>by rw[u l g];exact a.feas l g,λl g f=>?_,λl C q f i hi=>?_⟩,ω⟩;simp only at f;rw[r l]at f;split at f
  omega;rw[u l g];exact a.zero l g f;simp only at f;rw[r l]at f;split at f
  omega;rename_i hne;rw[zpV a.basis ω ω p,zkK q,if_neg (Z6 hne),a.line l ω q f i hi,a.line l ω q f j ω];grind;rename_i hown;refine⟨⟨a.basis,a.feas,a.zero,λk y n o j hj=>?_⟩,by simp only;omega⟩;by_cases e:k=K;grind;exact a.line k ω n o j hj
def Own.piv(h:Own m N own A b cols m)(p:PPiv m N A b c may cols k j)(hj:j<own):Own m N own A b (cols.set k j) m:=by
 have e:el (zav A cols j) k≠0:=by have:=p.t;grind
 have f:∀l,(cols.set k j).getD l 0=if k=l then j else cols.getD l 0:=λl=>gset (by rw[h.basis.len];exact p.hk)
 refine⟨h.basis.swap p.hk p.hj e,p.feas h.basis h.feas,λl a d=>?_,λl _ a d i hi=>?_⟩;rw[f l]at d;split at d
 omega;rename_i hne;rw[zo9 h.basis p.hk p.hj e,zkK a,if_neg (Z6 hne),h.line l a a d j hj,h.zero l a d];grind;rw[f l]at d;split at d
 omega;rename_i hne;rw[zpV h.basis p.hk p.hj e,zkK a,if_neg (Z6 hne),h.line l a a d j hj,h.line l a a d i hi];grind
def Own.seq{cols:List Nat}(h:Own m N own A b cols m)(hc:c.length=N)(hm:∀j,may.getD j false=true->j<own):∀i,Own m N own A b (zvo (zBX N A b c may) cols i) m
 | 0=>h
 | i+1=>by
  have a:=Own.seq h hc hm i;rw[zvo];split
  rename_i k j e;have p:=zK6 a.basis hc e;exact a.piv p (hm j p.hm);exact a
end
section
variable {m N:Nat} {A:List (List Rat)} {b c:List Rat} (hA:Rect m N A) (hb:b.length=m)
theorem zsq{z:Nat->Rat}(k:∀i,i<m->zai (N+m) (λj=>en (zt0 A b) i j*z j)=el (zwh b) i)(h0:∀t,t<m->z (N+t)=0)(hA:Rect m N A)(hb:b.length=m):∀i,i<m->zai N (λj=>en A i j*z j)=el b i:=by
 intro i hi;have e:=k i hi;rw[zgc _ N m,zcn (f:=λt=>en (zt0 A b) i (N+t)*z (N+t)) λt g=>by rw[h0 t g];grind,zzj ω]at e;have a:zai N (λj=>en (zt0 A b) i j*z j)=sgn (el b i)*zai N (λj=>en A i j*z j):=by rw[<-za7];exact zaj λj hj=>by rw[zwf hA hi hj];grind
 rw[a]at e;have s:=zDO (el b i);grind
theorem Own.art_zero(h:Own m (N+m) N (zt0 A b) (zwh b) cols m){t:Nat}(_:t<m):pt m (λk=>cols.getD k 0) (el (za5 (zt0 A b) (zwh b) cols)) (N+t)=0:=by by_cases hb:Bas m (λk=>cols.getD k 0) (N+t);obtain⟨k,hk,e⟩:=hb;simp only at e;rw[<-e,zA7 h.basis.inj _ hk];exact h.zero k hk (by rw[e];omega);grind[zyz]
theorem Own.fits(h:Own m (N+m) N (zt0 A b) (zwh b) cols m)(hA:Rect m N A)(hb:b.length=m) :
  (∀j,0<=pt m (λk=>cols.getD k 0) (el (za5 (zt0 A b) (zwh b) cols)) j)/\∀i,i<m->zai N (λj=>en A i j*pt m (λk=>cols.getD k 0) (el (za5 (zt0 A b) (zwh b) cols)) j)=el b i:=by
 refine⟨λj=>?_,zsq (h.basis.dic (zwh b)).pt_sol (λt a=>h.art_zero a) hA hb⟩;by_cases hb:Bas m (λk=>cols.getD k 0) j;obtain⟨k,hk,rfl⟩:=hb;rw[zA7 h.basis.inj _ hk];exact h.feas k hk;grind[zyz,Rat.le_refl]
theorem Own.best(h:Own m (N+m) N (zt0 A b) (zwh b) cols m)(hA:Rect m N A)(hb:b.length=m)(hc:c.length=N)(e:zBX (N+m) (zt0 A b) (zwh b) (zKb m c) (zKc N m) cols=.stop) :
  (∀j,j<N->zai m (λi=>sgn (el b i)*el (zcl (zt0 A b) cols (zKb m c)) i*en A i j)<=el c j) /\
  zai N (λj=>el c j*pt m (λk=>cols.getD k 0) (el (za5 (zt0 A b) (zwh b) cols)) j)=zai m λi=>sgn (el b i)*el (zcl (zt0 A b) cols (zKb m c)) i*el b i:=by
 have lc:(zKb m c).length=N+m:=by rw[zSS,hc]
 refine⟨λj hj=>?_,?_⟩;have:=zTe lc e j ω (zUA hj);rw[h.basis.prices_el lc ω,zTu ω,zaj λi hi=>by rw[zwf hA hi hj]]at this;rw[zaj (g:=λi=>el (zcl (zt0 A b) cols (zKb m c)) i*(sgn (el b i)*en A i j)) λi _=>ψ];grind;have v:=(h.basis.pri lc).value (h.basis.dic (zwh b));rw[zgc _ N m,zcn (f:=λt=>el (zKb m c) (N+t)*_) λt l=>by rw[<-hc,zVP];grind]at v;have a:zai N (λj=>el c j*pt m (λk=>cols.getD k 0) (el (za5 (zt0 A b) (zwh b) cols)) j)=zai N (λj=>el (zKb m c) j*pt m (λk=>cols.getD k 0) (λk=>el (za5 (zt0 A b) (zwh b) cols) k) j):=zaj λj hj=>by rw[zTu ω]
 have d:zai m (λi=>sgn (el b i)*el (zcl (zt0 A b) cols (zKb m c)) i*el b i)=zai m (λi=>el (zcl (zt0 A b) cols (zKb m c)) i*el (zwh b) i):=zaj λi hi=>by rw[zzj ω];grind
 rw[a,d,<-v];grind
theorem Own.ray(h:Own m (N+m) N (zt0 A b) (zwh b) cols m)(hA:Rect m N A)(hb:b.length=m)(hc:c.length=N)(e:zBX (N+m) (zt0 A b) (zwh b) (zKb m c) (zKc N m) cols=.bad j) :
  j<N/\(∀i,0<=way m (λk=>cols.getD k 0) (λr s=>el (zav (zt0 A b) cols s) r) j i)/\(∀i,i<m->zai N (λs=>en A i s*way m (λk=>cols.getD k 0) (λr s=>el (zav (zt0 A b) cols s) r) j s)=0) /\
  zai N (λs=>el c s*way m (λk=>cols.getD k 0) (λr s=>el (zav (zt0 A b) cols s) r) j s)<0:=by
 have lc:(zKb m c).length=N+m:=by rw[zSS,hc]
 obtain⟨h1,d,p,q⟩:=zSR h.basis lc e;have hj:j<N:=by grind[Nat.lt_or_ge,zUz]
 obtain⟨w1,u,x⟩:=zUS h.basis lc h1 q;have wz:∀t,t<m->way m (λk=>cols.getD k 0) (λr s=>el (zav (zt0 A b) cols s) r) j (N+t)=0:=λt a=>by
  unfold way;rw[if_neg ω];by_cases hb:Bas m (λk=>cols.getD k 0) (N+t);obtain⟨k,hk,e⟩:=hb;simp only at e;rw[<-e,zA7 h.basis.inj _ hk];show 0 + -el (zav (zt0 A b) cols j) k=0
  rw[h.line k hk hk (by rw[e];omega) j hj];grind;grind[zyz]
 refine⟨hj,w1,λi hi=>?_,?_⟩;have e:=u i hi;rw[zgc _ N m,zcn (f:=λt=>en (zt0 A b) i (N+t)*_) λt a=>by rw[wz t a];grind]at e;have n:zai N (λs=>en (zt0 A b) i s*way m (λk=>cols.getD k 0) (λr s=>el (zav (zt0 A b) cols s) r) j s)=sgn (el b i)*zai N (λs=>en A i s*way m (λk=>cols.getD k 0) (λr s=>el (zav (zt0 A b) cols s) r) j s):=by rw[<-za7];exact zaj λs l=>by rw[zwf hA hi l];grind
 rw[n]at e;have s:=zDO (el b i);grind;rw[<-x,zgc _ N m,zcn (f:=λt=>el (zKb m c) (N+t)*_) λt a=>by rw[wz t a];grind]at p;rw[zaj (g:=λs=>el (zKb m c) s*way m (λk=>cols.getD k 0) (λr s=>el (zav (zt0 A b) cols s) r) j s) λs l=>by rw[zTu ω]];grind
theorem zTS(h:Basis m (N+m) (zt0 A b) cols)(f:zyF m (zt0 A b) (zwh b) cols)(hA:Rect m N A)(hb:b.length=m)(e:zBX (N+m) (zt0 A b) (zwh b) (zJG N m) (zKc N m) cols=.stop) :
  (zai (N+m) (λj=>el (zJG N m) j*pt m (λk=>cols.getD k 0) (el (za5 (zt0 A b) (zwh b) cols)) j)<=0->Own m (N+m) N (zt0 A b) (zwh b) cols 0) /\
  (0<zai (N+m) (λj=>el (zJG N m) j*pt m (λk=>cols.getD k 0) (el (za5 (zt0 A b) (zwh b) cols)) j) ->
   (∀j,j<N->zai m (λi=>sgn (el b i)*el (zcl (zt0 A b) cols (zJG N m)) i*en A i j)<=0)/\0<zai m λi=>sgn (el b i)*el (zcl (zt0 A b) cols (zJG N m)) i*el b i):=by
 have lc:(zJG N m).length=N+m:=zSD _ _;have p:∀j,0<=pt m (λk=>cols.getD k 0) (el (za5 (zt0 A b) (zwh b) cols)) j:=λj=>by by_cases hb:Bas m (λk=>cols.getD k 0) j;obtain⟨k,hk,rfl⟩:=hb;rw[zA7 h.inj _ hk];exact f k hk;grind[zyz,Rat.le_refl]
 have l:∀j,j<N+m->0<=el (zJG N m) j:=λj hj=>by by_cases o:j<N;rw[zTq o];rfl;have:=zTp (N:=N) (m:=m) (t:=j-N) ω;rw[show N+(j-N)=j by omega]at this;rw[this];decide
 refine⟨λa=>⟨h,f,λk hk q=>?_,λk hk=>absurd hk (ZS _)⟩,λa=>⟨λj hj=>?_,?_⟩⟩;have:=zTg (λj hj=>Xt (l j hj) (p j)) a (cols.getD k 0) (h.lt k hk);have d:=zTp (N:=N) (m:=m) (t:=cols.getD k 0-N) (by have:=h.lt k hk;omega);rw[show N+(cols.getD k 0-N)=cols.getD k 0 by omega]at d;rw[d,zA7 h.inj _ hk]at this;grind;have:=zTe lc e j ω (zUA hj);rw[h.prices_el lc ω,zTq hj,zaj λi hi=>by rw[zwf hA hi hj]]at this;rw[zaj (g:=λi=>el (zcl (zt0 A b) cols (zJG N m)) i*(sgn (el b i)*en A i j)) λi _=>ψ];grind;have v:=(h.pri lc).value (h.dic (zwh b));have n:zai m (λi=>sgn (el b i)*el (zcl (zt0 A b) cols (zJG N m)) i*el b i)=zai m (λi=>el (zcl (zt0 A b) cols (zJG N m)) i*el (zwh b) i):=zaj λi hi=>by rw[zzj ω];grind
 rw[n,<-v];exact a
end
end Am
namespace Am
variable {B:Nat}
def zSz (own N:Nat) (A:List (List Rat)) (budget:Nat):Nat->Nat->List Nat × Nat->(List Nat × Nat) × Bool
  | 0,_,cn=>(cn,false)
  | f + 1,k,cn => if own <= cn.1.getD k 0 then match zkZ (zk8 N A cn.1 k) own 0 with
      | none=>zSz own N A budget f (k+1) cn
      | some j=>if budget<=cn.2 then (cn,true)else zSz own N A budget f (k+1) (cn.1.set k j,cn.2+1)
    else zSz own N A budget f (k+1) cn
def zSG (own N:Nat) (A:List (List Rat)):Nat->Nat->List Nat × Nat->List Nat × Nat
  | 0,_,cn=>cn
  | f+1,k,cn=>zSG own N A f (k+1) (zuz own N A k cn)
def zTL(own N:Nat)(A:List (List Rat))(cols:List Nat):∀f k,zSG own N A f k (zAd own N A cols k)=zAd own N A cols (k+f)
 | 0,k=>rfl
 | f+1,k=>by
  show zSG own N A f (k+1) (zAd own N A cols (k+1))=_
  rw[zTL own N A cols f (k+1),show k+1+f=k+(f+1)by omega]
def zS8(own N:Nat)(A:List (List Rat)):∀f k a,a.2<=(zSG own N A f k a).2
 | 0,_,_=>Za _
 | f+1,k,a=>by
  refine Zf ?_ (zS8 own N A f (k+1) (zuz own N A k a));unfold zuz;split
  split
  exact Za _;exact Nat.le_succ _;exact Za _
def zSC(own N:Nat)(A:List (List Rat))(B:Nat):∀f k a,(zSG own N A f k a).2<=B->zSz own N A B f k a=(zSG own N A f k a,false)
 | 0,_,_,_=>rfl
 | f+1,k,a,h=>by
  unfold zSz;show _=(zSG own N A f (k+1) (zuz own N A k a),false)
  have d:(zSG own N A f (k+1) (zuz own N A k a)).2<=B:=h;have mono:=zS8 own N A f (k+1) (zuz own N A k a);unfold zuz at d mono ⊢;by_cases h1:own<=a.1.getD k 0;rw[if_pos h1]at d mono ⊢;rw[if_pos h1];cases e:zkZ (zk8 N A a.1 k) own 0 with
  | none =>
   rw[e]at d;exact zSC own N A B f (k+1) a d
  | some j =>
   rw[e]at d mono;simp only at d mono ⊢;rw[if_neg ω];exact zSC own N A B f (k+1) _ d
  rw[if_neg h1]at d ⊢;rw[if_neg h1];exact zSC own N A B f (k+1) a d
def zSF(own N:Nat)(A:List (List Rat))(B:Nat):∀f k a,a.2<=B->B<(zSG own N A f k a).2->(zSz own N A B f k a).2=true/\(zSz own N A B f k a).1.2=B
 | 0,_,a,h0,h=>by simp only[zSG]at h;omega
 | f+1,k,a,h0,h=>by
  unfold zSz;have d:B<(zSG own N A f (k+1) (zuz own N A k a)).2:=h;unfold zuz at d;by_cases h1:own<=a.1.getD k 0;rw[if_pos h1]at d ⊢;cases e:zkZ (zk8 N A a.1 k) own 0 with
  | none =>
   rw[e]at d;exact zSF own N A B f (k+1) a h0 d
  | some j =>
   rw[e]at d;simp only at d ⊢;by_cases hb:B<=a.2;rw[if_pos hb];exact⟨rfl,by simp only;omega⟩;rw[if_neg hb];exact zSF own N A B f (k+1) _ (by simp only;omega) d
  rw[if_neg h1]at d ⊢;exact zSF own N A B f (k+1) a h0 d
inductive Out where
 | spent:Nat->Out
 | none:List Nat->Nat->Out
 | best:List Nat->Nat->Out
 | falls:List Nat->Nat->Nat->Out
def zSB (N m:Nat) (A:List (List Rat)) (b:List Rat) (cols:List Nat):Rat:=zai (N+m) λj=>el (zJG N m) j*pt m (λk=>cols.getD k 0) (el (za5 (zt0 A b) (zwh b) cols)) j
def zSA (N m:Nat) (A:List (List Rat)) (b c:List Rat) (B:Nat):Out :=
  let r:=pivs (zBX (N+m) (zt0 A b) (zwh b) (zJG N m) (zKc N m)) B (zKa N m)
  if r.err then .spent r.n
  else if 0<zSB N m A b r.cols then .none r.cols r.n
  else
    let d:=zSz N (N+m) (zt0 A b) (B-r.n) m 0 (r.cols,0)
    if d.2 then .spent (r.n+d.1.2)
    else
      let s:=pivs (zBX (N+m) (zt0 A b) (zwh b) (zKb m c) (zKc N m)) (B-(r.n+d.1.2)) d.1.1
      if s.err then .spent (r.n+d.1.2+s.n)
      else match s.at_ with
        | some j=>.falls s.cols j (r.n+d.1.2+s.n)
        | .none=>.best s.cols (r.n+d.1.2+s.n)
def Out.pivots:Out->Nat
  | .spent n=>n
  | .none _ n=>n
  | .best _ n=>n
  | .falls _ _ n=>n
section
variable {m N:Nat} {A:List (List Rat)} {b c:List Rat} (hA:Rect m N A) (hb:b.length=m) (hc:c.length=N)
include hA hb
theorem zUF(x:binom (N+m) m<=B):∃cols n,pivs (zBX (N+m) (zt0 A b) (zwh b) (zJG N m) (zKc N m)) B (zKa N m)=⟨cols,none,n,false⟩/\n<=binom (N+m) m/\Basis m (N+m) (zt0 A b) cols/\zyF m (zt0 A b) (zwh b) cols /\
  zBX (N+m) (zt0 A b) (zwh b) (zJG N m) (zKc N m) cols=.stop:=by
 have h:=zSU (b:=b) hA;have f:=zVN hA hb;have s:=zoW (zBX (N+m) (zt0 A b) (zwh b) (zJG N m) (zKc N m)) B (zKa N m);have g:=zTd (may:=zKc N m) h (zSD N m) f;have q:=zVH (may:=zKc N m) h (zSD N m) f;generalize hr:pivs (zBX (N+m) (zt0 A b) (zwh b) (zJG N m) (zKc N m)) B (zKa N m)=r at *
 obtain⟨cols,at_,n,err⟩:=r;obtain⟨s1,s2,l,a,t⟩:=s;simp only at s1 s2 l a t;have p:=g n s2;cases err with
 | true =>
  obtain⟨u,k,j,o⟩:=l rfl;have:=g (B+1) λi hi=>by by_cases e:i=B;rw[e];exact⟨k,j,o⟩;exact s2 i ω
  omega
 | false =>
  have a:=a rfl;rw[<-s1]at a;have d:=q n;rw[<-s1]at d;cases at_ with
  | some j => exact absurd a (zVC d.1 (zSD N m) (λj => by unfold zJG el;rw[Zh];grind) j)
  | none=>exact⟨cols,n,rfl,p,d.1,d.2,a⟩
inductive Ends (m N:Nat) (A:List (List Rat)) (b c:List Rat):Out->Prop where
 | none {cols:List Nat} {n:Nat} (h:Basis m (N+m) (zt0 A b) cols) (f:zyF m (zt0 A b) (zwh b) cols) (s:zBX (N+m) (zt0 A b) (zwh b) (zJG N m) (zKc N m) cols=.stop) (v:0<zSB N m A b cols):Ends m N A b c (.none cols n)
 | best {cols:List Nat} {n:Nat} (h:Own m (N+m) N (zt0 A b) (zwh b) cols m) (s:zBX (N+m) (zt0 A b) (zwh b) (zKb m c) (zKc N m) cols=.stop):Ends m N A b c (.best cols n)
 | falls {cols:List Nat} {j n:Nat} (h:Own m (N+m) N (zt0 A b) (zwh b) cols m) (s:zBX (N+m) (zt0 A b) (zwh b) (zKb m c) (zKc N m) cols=.bad j):Ends m N A b c (.falls cols j n)
include hc in
theorem zUc(T:2*binom (N+m) m+m<=B):Ends m N A b c (zSA N m A b c B)/\(zSA N m A b c B).pivots<=2*binom (N+m) m+m /\
  ∀a,((zSA N m A b c B).pivots<=a->zSA N m A b c a=zSA N m A b c B)/\(a<(zSA N m A b c B).pivots->∃n,zSA N m A b c a=.spent n):=by
 obtain⟨cols,n,hr,U,h1,D,st⟩:=zUF (B:=B) hA hb ω;have more:=λg=>zKI (zBX (N+m) (zt0 A b) (zwh b) (zJG N m) (zKc N m)) B g (zKa N m) (by rw[hr])
 have less:=λg=>zKH (zBX (N+m) (zt0 A b) (zwh b) (zJG N m) (zKc N m)) B g (zKa N m) (by rw[hr])
 rw[hr]at more less;simp only at more less;by_cases q:0<zSB N m A b cols;have f:∀a,n<=a->zSA N m A b c a=.none cols n:=λa E=>by unfold zSA;rw[more a E];simp only[XV,if_false,if_pos q]
 rw[f B ω];refine⟨.none h1 D st q,by show n<=_;omega,λa=>⟨λh=>f a h,λh=>?_⟩⟩;obtain⟨e,_⟩:=less a h;exact⟨_,by unfold zSA;simp only[e,if_true];rfl⟩;have Q:=(zTS h1 D hA hb st).1 (by show zSB N m A b cols<=0;grind);obtain⟨t,M⟩:=Q.drive ω m (Za _);have hF:zSG N (N+m) (zt0 A b) m 0 (cols,0)=zAd N (N+m) (zt0 A b) cols m:=by have:=zTL N (N+m) (zt0 A b) cols m 0;rw[Xc]at this;exact this
 generalize hdr:zAd N (N+m) (zt0 A b) cols m=d at *
 obtain⟨p,dn⟩:=d;simp only at t M;have lc:(zKb m c).length=N+m:=by rw[zSS,hc]
 have P:∀j,(zKc N m).getD j false=true->j<N:=λj h=>by rcases ZM j N with h5 | h5;exact h5;rw[zUz h5]at h;cases h
 have seq:=t.seq (c:=zKb m c) (may:=zKc N m) lc P;have z:=zTd (may:=zKc N m) t.basis lc t.feas;have s:=zoW (zBX (N+m) (zt0 A b) (zwh b) (zKb m c) (zKc N m)) (B-(n+dn)) p;have G:=λg=>zKI (zBX (N+m) (zt0 A b) (zwh b) (zKb m c) (zKc N m)) (B-(n+dn)) g p
 have F:=λg=>zKH (zBX (N+m) (zt0 A b) (zwh b) (zKb m c) (zKc N m)) (B-(n+dn)) g p
 generalize hr2:pivs (zBX (N+m) (zt0 A b) (zwh b) (zKb m c) (zKc N m)) (B-(n+dn)) p=r2 at *
 obtain⟨y,r,l,C⟩:=r2;obtain⟨s1,s2,I,o,R⟩:=s;simp only at s1 s2 I o R G F;have V:=z l s2;have O:C=false:=by
  cases C with
  | false=>rfl
  | true =>
   obtain⟨S,k,j,J⟩:=I rfl;have:=z (B-(n+dn)+1) λi hi=>by by_cases e:i=B-(n+dn);rw[e];exact⟨k,j,J⟩;exact s2 i ω
   omega
 subst O;have o:=o rfl;rw[<-s1]at o;have u:=seq l;rw[<-s1]at u;have f:∀a,n+dn+l<=a->zSA N m A b c a=match r with | some j=>.falls y j (n+dn+l) | .none=>.best y (n+dn+l):=λa E=>by unfold zSA;rw[more a ω];simp only[XV,if_false,if_neg q];rw[zSC N (N+m) (zt0 A b) (a-n) m 0 (cols,0) (by rw[hF];simp only;omega),hF];simp only[XV,if_false];rw[G (a-(n+dn)) rfl ω];simp only[XV,if_false];cases r<;>rfl
 have x:(zSA N m A b c B).pivots=n+dn+l:=by rw[f B ω];cases r<;>rfl
 refine⟨?_,by rw[x];omega,λa=>⟨λh=>?_,λh=>?_⟩⟩;rw[f B ω];cases r with
 | none=>exact .best u o
 | some j=>exact .falls u o
 rw[x]at h;rw[f a h,f B ω];rw[x]at h;by_cases K:a<n;obtain⟨e,_⟩:=less a K;exact⟨_,by unfold zSA;simp only[e,if_true];rfl⟩;by_cases L:a-n<dn;obtain⟨e,_⟩:=zSF N (N+m) (zt0 A b) (a-n) m 0 (cols,0) (Zb _) (by rw[hF];exact L);exact⟨_,by unfold zSA;rw[more a ω];simp only[XV,if_false,if_neg q,e,if_true];rfl⟩;obtain⟨e,_⟩:=F (a-(n+dn)) rfl ω;refine⟨n+dn+(pivs (zBX (N+m) (zt0 A b) (zwh b) (zKb m c) (zKc N m)) (a-(n+dn)) p).n,?_⟩;unfold zSA;rw[more a ω];simp only[XV,if_false,if_neg q];rw[zSC N (N+m) (zt0 A b) (a-n) m 0 (cols,0) (by rw[hF];simp only;omega),hF];simp only[XV,if_false,e,if_true]
end
end Am
namespace Go.Proofs.YtbpjabgfcbjjmaaGreat
open Go.RowKit Am
def zfG{P:Program}(w:World)(t o D e:TypeId)(i:TypeInfo)(z:Value)(C:IntKind)(j:P.underlying t=some (.slice e))(l:P.underlying o=some (.int C))(hi:P.info? e=some i)(n:i.zero=some z)
  (g zKx d:Nat) (cur:Array Value) (hg:θ w g cur e) (k:Nat) (G:0<i.size) (I:z.cells.size=i.size) (f:zKx+k<=d) (F:((zKx+k:Nat):Int)<=9223372036854775807) (E:k*i.bytes<=281474976710656)
  (r:zKx*i.size+(Builtin.zeroCells z.cells k).toList.length<=cur.size) (h1:∀u∈(Builtin.zeroCells z.cells k).toList,u.oneCell'=true) :
  (Builtin.append_ #[t,o] D #[(g,zKx,d),.int .i64 k]).run P w =
   .ok (g,zKx+k,d) (w.setRow g (cur.toList.take (zKx*i.size)++(Builtin.zeroCells z.cells k).toList++cur.toList.drop (zKx*i.size+(Builtin.zeroCells z.cells k).toList.length)).toArray):=by
 have hw:IntKind.i64.wrap (k:Int)=k:=by rw[Vj];omega
 have s:¬((k:Int)<0):=ω;have q:¬(281474976710656<(k:Int)*(i.bytes:Int)):=by rw[<-XQ];omega
 have a:=run_storeCells_at P g (zKx*i.size) e (Builtin.zeroCells z.cells k).toList 0 cur w hg ω h1;simp only[Yl]at a;by_cases hk:k=0;subst hk;have p:Builtin.zeroCells z.cells 0=#[]:=by simp[Builtin.zeroCells]
 rw[p]at a ⊢;have B:IntKind.i64.wrap (0:Int)=0:=δ;have y:zKx<=d:=f;simp[Builtin.append_,run_underlying j,run_underlying l,sizeOf,typeInfo,zeroValue,hi,n,asInt,asIntOf,B,y,Addr.add_lit]at a ⊢;simp[a];have x:¬(k*i.size=0):=Nat.mul_ne_zero hk ω;simp[Builtin.append_,run_underlying j,run_underlying l,sizeOf,typeInfo,zeroValue,hi,n,asInt,asIntOf,hw,s,x,q,f,Addr.add_lit,a]
def zgk{P:Program}(w:World)(base:Nat)(t f r e:TypeId)(i:TypeInfo)(z:Value)(size D:Nat)(q:IntKind)(o:P.underlying t=some (.slice e))(p:P.underlying f=some (.int q))(hi:P.info? e=some i)(B:i.zero=some z)
  (T:i.size=size) (M:i.bytes=D) (C:z.cells.size=size) (y:0<size)
  (v:Value) (n:Nat) (xs:List Value) (d:w.ownsRow base e size v n xs) (m:Nat) (h1:∀u∈(Builtin.zeroCells z.cells m).toList,u.oneCell'=true)
  (E:n+m<=maxLen) (O:(n+m)*D<=140737488355328) (K:base<=w.heap.size) :
  ∃I w',(Builtin.append_ #[t,f] r #[v,.int .i64 m]).run P w=.ok I w'/\w'.ownsRow base e size I (n+m) (xs++(Builtin.zeroCells z.cells m).toList)/\w.grownBy w' v.ownBlock:=by
 subst T;subst M;have Z:n+m<=9223372036854775807:=by simp only[maxLen]at E;omega
 have G:(Builtin.zeroCells z.cells m).toList.length=m*i.size:=by rw[Array.length_toList,size_zeroCells,C]
 have W:m*i.bytes<=140737488355328:=Zf (ZV _ ω) O;have l:(xs++(Builtin.zeroCells z.cells m).toList).length=(n+m)*i.size:=by rw[Zz,d.1,G,XE]
 have grown:∀(old:Nat),old<n+m->∀(row:Option Nat),
   (w.drew.alloc (.cells (xs.toArray++Builtin.zeroCells z.cells m++Builtin.zeroCells z.cells (grownCap w (n+m) old e-(n+m))) e)).ownsRow base e i.size
    (.slice (some ⟨w,0,none⟩) (n+m) (grownCap w (n+m) old e)) (n+m) (xs++(Builtin.zeroCells z.cells m).toList) /\
   w.grownBy (w.drew.alloc (.cells (xs.toArray++Builtin.zeroCells z.cells m++Builtin.zeroCells z.cells (grownCap w (n+m) old e-(n+m))) e)) row:=by
  intro old Y row;have R:=grownCap_ge w (n+m) old e;have s:grownCap w (n+m) old e<=maxLen:=grownCap_le_maxLen w (n+m) old e E;refine⟨⟨l,.inr ⟨w.heap.size,_,_,rfl,K,heap_alloc_new w.drew _,R,s,?_,?_⟩⟩,⟨rfl,rfl,rfl,σ,λk hk _=>Below.heap_alloc w.drew _ k hk⟩⟩;simp only[Array.size_append,List.size_toArray,size_zeroCells,C,d.1,<-XE]
  congr 1
  omega;simp only[Array.toList_append,XU];rw[<-XU,<-l];exact List.take_left
 rcases d.2 with ⟨rfl,rfl⟩ | ⟨g,cap,cur,rfl,L,hg,X,s,Q,U⟩
 have V:xs=[]:=List.eq_nil_of_length_eq_zero (by simpa using d.1);subst V;by_cases hm:m=0;subst hm;have J:(Builtin.zeroCells z.cells 0).toList=[]:=by simp[Builtin.zeroCells]
 rw[J];refine⟨.slice none 0 0,w,?_,Xs w base e i.size,⟨rfl,rfl,rfl,Za _,λ_ _ _=>rfl⟩⟩;have hw:IntKind.i64.wrap (0:Int)=0:=δ;simp[Builtin.append_,run_underlying o,run_underlying p,sizeOf,typeInfo,hi,asInt,asIntOf,hw];have hr:=Lib.run_append_nil_zeros (P:=P) w t f r e i z .i64 q o p hi B m ω y ω ω;have a:=grown 0 ω (Value.ownBlock ());simp only[Xc,XY,Array.empty_append]at a ⊢;exact⟨_,_,hr,a.1,a.2⟩;by_cases x:n+m<=cap;have F:n*i.size+(Builtin.zeroCells z.cells m).toList.length<=cur.size:=by rw[G,Q,<-XE];exact ZV _ x
 have hr:=zfG (P:=P) w t f r e i z q o p hi B g n cap cur hg m y C x ω ω F h1;refine⟨_,_,hr,⟨l,.inr ⟨g,cap,_,rfl,L,setRow_heap w g cur _ e _ hg,x,s,?_,?_⟩⟩,⟨rfl,rfl,rfl,σ,λk _ hk=>setRow_other w g k _ (λe=>hk (by simp[Value.ownBlock,e]))⟩⟩;simp only[List.size_toArray,Zz,ZI,Yh,Array.length_toList]at F ⊢;omega;rw[U,<-l];exact List.take_left;have holds:=d.cells (g:=g) rfl;have S:(Builtin.firstCells i.size n (g,n,cap)).run P w.drew=.ok xs.toArray w.drew:=by have h:=run_loadCells_list (P:=P) w.drew ⟨g,0,none⟩ xs holds;rw[d.1]at h;simpa[Builtin.firstCells]using h
 have hr:=Lib.run_append_grow_zeros (P:=P) w t f r e i z .i64 q o p hi B (some ⟨g,0,none⟩) n cap xs S m ω y ω ω ω (growslice_fits ω ω);have a:=grown cap ω (some g);exact⟨_,_,hr,a.1,a.2⟩
