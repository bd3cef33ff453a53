/- Contracts and lemmas: Eta Size2 Bas Bland Bland2 Count Lp1 LuW LuW2. Conditions: as each says. -/
import Derived.Test.YtbpjabgfcbjjmaaGreatLin0Ye
set_option linter.all false
namespace Am
variable {F:LUv}{C D:List (List Rat)}{a v w x y:List Rat}{i k n:Nat}
structure CSq (n:Nat) (C:List (List Rat)):Prop where
  len:C.length=n
  col:∀i,i<n->(C.getD i []).length=n
def zcZ (n:Nat) (C:List (List Rat)):List (List Rat):=(List.range n).map λr=>C.map λc=>el c r
theorem zfJ(n:Nat)(C:List (List Rat)):(zcZ n C).length=n:=by simp[zcZ]
theorem zfK(h:CSq n C):∀i,i<n->((zcZ n C).getD i []).length=n:=by intro i hi;unfold zcZ;rw[zbU _ _ ψ 0];simp[h.len]
theorem zeI{j:Nat}(hi:i<n)(hj:j<C.length):en (zcZ n C) i j=en C j i:=by unfold en zcZ;rw[zbU _ _ ψ 0,zcA hi];unfold el;rw[zbU _ _ hj []]
def CReg (n:Nat) (C:List (List Rat)):Prop:=Reg n λi j=>en C j i
def Mk (n:Nat) (C:List (List Rat)) (x v:List Rat):Prop:=∀i,i<n->zai n (λj=>en C j i*el x j)=el v i
def MkT (n:Nat) (C:List (List Rat)) (y c:List Rat):Prop:=∀j,j<n->zai n (λi=>el y i*en C j i)=el c j
theorem zvk{M N:Nat->Nat->Rat}(h:∀i,i<n->∀j,j<n->M i j=N i j):Reg n M↔Reg n N:=by
 constructor;intro r x a;exact r x λi hi=>by rw[<-a i hi];exact zaj λj hj=>by rw[h i hi j hj]
 intro r x a;exact r x λi hi=>by rw[<-a i hi];exact zaj λj hj=>by rw[h i hi j hj]
theorem zrk(h:CSq n C):Reg n (en (zcZ n C))↔CReg n C :=
 zvk λ_ hi _ hj=>zeI hi (by rw[h.len];exact hj)
theorem Mk.unique{n:Nat}{C:List (List Rat)}(h:CReg n C){x y v:List Rat}(a:Mk n C x v)(e:Mk n C y v)(f:x.length=n)(g:y.length=n):x=y:=by
 have:=Reg.unique h (x:=el x) (y:=el y) λi hi=>by rw[a i hi,e i hi]
 grind[zyn]
def zes (n:Nat) (C:List (List Rat)) (v:List Rat):List Rat:=match zoN n (zcZ n C)with | some F=>zaR n F v | none=>[]
def zlA (n:Nat) (C:List (List Rat)) (v:List Rat):List Rat:=match zoN n (zcZ n C)with | some F=>zcq n F v | none=>[]
theorem ziH(h:CSq n C)(hr:CReg n C):∃F,zoN n (zcZ n C)=some F/\LUinv n (en (zcZ n C)) n F:=by
 rcases zoO (zfJ n C) (zfK h)with h1 | ⟨_,h2⟩
 exact h1;grind[zrk]
theorem zAZ(h:CSq n C)(hr:¬CReg n C):zoN n (zcZ n C)=none:=by
 rcases zoO (zfJ n C) (zfK h)with ⟨G,h1,a⟩ | ⟨h1,_⟩
 exact absurd ((zrk h).1 a.reg) hr;exact h1
theorem zxo(h:CSq n C)(hF:LUinv n (en (zcZ n C)) n F)(v:List Rat):Mk n C (zaR n F v) v:=λi hi=>by rw[<-zsl hF v hi];exact zaj λj hj=>by rw[zeI hi (by rw[h.len];exact hj)]
theorem zu3(h:CSq n C)(hF:LUinv n (en (zcZ n C)) n F)(v:List Rat):MkT n C (zcq n F v) v:=λj hj=>by rw[<-zla hF v hj];exact zaj λi hi=>by rw[zeI hi (by rw[h.len];exact hj)]
theorem zci(h:CSq n C)(hr:CReg n C)(v:List Rat):Mk n C (zes n C v) v/\(zes n C v).length=n:=by obtain⟨F,e,hF⟩:=ziH h hr;unfold zes;rw[e];grind[zxo,zlb]
theorem ze1(h:CSq n C)(hr:CReg n C)(v:List Rat):MkT n C (zlA n C v) v/\(zlA n C v).length=n:=by obtain⟨F,e,hF⟩:=ziH h hr;unfold zlA;rw[e];grind[zu3,zoP]
theorem znS(h:CSq n C)(hr:CReg n C)(a:Mk n C x v)(e:x.length=n):x=zes n C v :=
 by grind[Mk.unique,zci]
theorem zBj(h:CSq n C)(hr:CReg n C)(a:MkT n C y v)(e:y.length=n):y=zlA n C v:=by
 have s:=ze1 h hr v;have:=zqE (n:=n) (M:=λi j=>en C j i) (λv=>by refine⟨el (zes n C ((List.range n).map v)),λi hi=>?_⟩;rw[(zci h hr _).1 i hi];unfold el;rw[zbU _ _ (by simpa using hi) 0,zcA hi]) (y:=el y) (z:=el (zlA n C v)) λj hj=>by rw[a j hj,s.1 j hj]
 grind[zyn]
def zsC (n k:Nat) (w x:List Rat):List Rat:=(List.range n).map λi=>if i=k then el x k/el w k else el x i-el w i*(el x k/el w k)
theorem zng(n k:Nat)(w x:List Rat):(zsC n k w x).length=n:=by simp[zsC]
theorem zkK(hi:i<n):el (zsC n k w x) i=if i=k then el x k/el w k else el x i-el w i*(el x k/el w k):=by
 unfold zsC
 conv=>lhs;unfold el
 rw[zbU _ _ ψ 0,zcA hi];rfl
def zp2 (n k:Nat) (w z:List Rat):List Rat:=z.set k ((el z k-zai n (λi=>if i=k then 0 else el w i*el z i))/el w k)
theorem zjn(n k:Nat)(w z:List Rat):(zp2 n k w z).length=z.length:=by simp[zp2]
theorem zvw(hk:k<C.length)(h:k<n)(x:Nat->Rat)(i:Nat):zai n (λj=>en (C.set k a) j i*x j)=el a i*x k+zai n (λj=>if j=k then 0 else en C j i*x j):=by
 rw[zdJ h]
 simp_all[zi2,if_pos,zaj,if_neg,Z4]
theorem zp3(h:CSq n C)(hk:k<n)(hw:Mk n C w a)(o:el w k≠0)(l:Mk n C x v):Mk n (C.set k a) (zsC n k w x) v:=by
 intro i hi;rw[zvw (by rw[h.len];exact hk) hk];have g:zai n (λj=>if j=k then 0 else en C j i*el (zsC n k w x) j)=zai n (λj=>(if j=k then 0 else en C j i*el x j)+(-(el x k/el w k))*(if j=k then 0 else en C j i*el w j)):=zaj λj hj=>by by_cases e:j=k;rw[if_pos e,if_pos e,if_pos e];grind;rw[if_neg e,if_neg e,if_neg e,zkK hj,if_neg e];grind
 rw[g,zcm,za7,zkK hk,if_pos rfl,<-hw i hi,<-l i hi,zdJ hk,zdJ (f:=λj=>en C j i*el x j) hk];grind
theorem zuK{z:List Rat}(h:CSq n C)(hk:k<n)(hw:Mk n C w a)(q:el w k≠0)(s:z.length=n)(l:MkT n C y (zp2 n k w z)):MkT n (C.set k a) y z:=by
 have ez:∀j,j<n->el (zp2 n k w z) j=if k=j then (el z k-zai n (λi=>if i=k then 0 else el w i*el z i))/el w k else el z j:=λj hj=>ziZ ω
 intro j hj;by_cases e:j=k;subst e;have f:zai n (λi=>el y i*en (C.set j a) j i)=zai n (λi=>zai n (λt=>el y i*(en C t i*el w t))):=zaj λi hi=>by rw[zi2 (by rw[h.len];exact hk),if_pos rfl,<-hw i hi,za7]
 rw[f,zbq];have o:zai n (λt=>zai n (λi=>el y i*(en C t i*el w t)))=zai n (λt=>el w t*el (zp2 n j w z) t):=zaj λt g=>by rw[<-l t g,<-za7];exact zaj λi _=>ψ
 rw[o,zdJ hk,ez j hj,if_pos rfl];have p:zai n (λt=>if t=j then 0 else el w t*el (zp2 n j w z) t)=zai n (λt=>if t=j then 0 else el w t*el z t):=zaj λt g=>by by_cases e:t=j;rw[if_pos e,if_pos e];rw[if_neg e,if_neg e,ez t g,if_neg (Z4 e)]
 rw[p];grind;have f:zai n (λi=>el y i*en (C.set k a) j i)=zai n (λi=>el y i*en C j i):=zaj λi _=>by rw[zi2 (by rw[h.len];exact hk),if_neg (Z4 e)]
 rw[f,l j hj,ez j hj,if_neg (Z4 e)]
theorem CSq.set{n k:Nat}{C:List (List Rat)}{a:List Rat}(h:CSq n C)(e:a.length=n):CSq n (C.set k a):=by
 refine⟨by rw[ZQ,h.len],λi hi=>?_⟩;rw[Zg,XA];split
 split
 exact e;rename_i h1 h2;subst h1;exact absurd (by rw[h.len];exact hi) h2;have:=h.col i hi;rw[Zg]at this;exact this
theorem zjl(h:CSq n C)(hr:CReg n C)(hk:k<n)(hw:Mk n C w a)(q:el w k≠0):CReg n (C.set k a):=by
 intro x p
 -- C (w x_k + x without k) = 0
 have l:=hr (λj=>el w j*x k+if j=k then 0 else x j) λi hi=>by
  have o:zai n (λj=>en C j i*(el w j*x k+if j=k then 0 else x j))=zai n (λj=>en C j i*el w j*x k+if j=k then 0 else en C j i*x j):=zaj λj _=>by split<;>grind
  have f:=p i hi;rw[zvw (by rw[h.len];exact hk) hk]at f;rw[o,zcm,zb6,hw i hi];exact f
 grind
inductive Etas (n:Nat) (C:List (List Rat)):List (Nat × List Rat)->List (List Rat)->Prop where
 | nil:Etas n C [] C
 | snoc {es:List (Nat × List Rat)} {D:List (List Rat)} {k:Nat} {w a:List Rat} (h:Etas n C es D) (hk:k<n) (lw:w.length=n) (la:a.length=n) (hw:Mk n D w a) (hp:el w k≠0):Etas n C (es++[(k,w)]) (D.set k a)
theorem Etas.sq{es:List (Nat × List Rat)}(h:Etas n C es D)(hC:CSq n C):CSq n D:=by
 induction h with
 | nil=>exact hC
 | snoc _ _ _ la _ _ ih=>exact ih.set la
theorem Etas.reg{es:List (Nat × List Rat)}(h:Etas n C es D)(hC:CSq n C)(hr:CReg n C):CReg n D:=by
 induction h with
 | nil=>exact hr
 | snoc h hk _ _ hw hp ih=>exact zjl (h.sq hC) ih hk hw hp
def zix (n:Nat) (es:List (Nat × List Rat)) (x:List Rat):List Rat:=es.foldl (λx e=>zsC n e.1 e.2 x) x
def zep (n:Nat) (es:List (Nat × List Rat)) (z:List Rat):List Rat:=es.foldr (λe z=>zp2 n e.1 e.2 z) z
theorem zoB(es:List (Nat × List Rat)):∀(x:List Rat),x.length=n->(zix n es x).length=n:=by
 induction es with
 | nil=>exact λx h=>h
 | cons e es ih=>exact λx _=>ih _ (zng _ _ _ _)
theorem Etas.solve{es:List (Nat × List Rat)}(h:Etas n C es D)(hC:CSq n C)(a:Mk n C x v):Mk n D (zix n es x) v:=by
 induction h with
 | nil=>exact a
 | snoc h hk _ _ hw hp ih =>
  unfold zix;rw[List.foldl_append];exact zp3 (h.sq hC) hk hw hp ih
theorem Etas.solveT{es:List (Nat × List Rat)}(h:Etas n C es D)(hC:CSq n C):∀z:List Rat,z.length=n->MkT n C y (zep n es z)->MkT n D y z:=by
 induction h with
 | nil=>exact λz _ a=>a
 | snoc h hk _ _ hw hp ih =>
  intro z e a;unfold zep at a;rw[List.foldr_append]at a;exact zuK (h.sq hC) hk hw hp e (ih _ (by grind[zjn]) a)
theorem Etas.take{n:Nat}{C D:List (List Rat)}{es:List (Nat × List Rat)}(h:Etas n C es D):∀t,t<es.length->∃(E:List (List Rat)) (k:Nat) (w a:List Rat),Etas n C (es.take t) E/\es[t]? = some (k,w)/\k<n/\w.length=n/\Mk n E w a/\el w k≠0:=by
 induction h with
 | nil=>grind
 | @snoc es D k w a h hk lw la hw hp ih =>
  intro t f;rw[ZD]at f;by_cases e:t<es.length;obtain⟨E,p,w',g,h1,l,o⟩:=ih t e;exact⟨E,p,w',g,by rw[Vk ω];exact h1,by rw[Z1 e];exact l,o⟩;grind
end Am
namespace Am
def sB (n S T:Nat):Nat:=xB n (uB n S) (cB n (S+T)) T
theorem ywp{n S T i:Nat}(hi:i<n):cB n (S+T)<=sB n S T:=by have:=ZV (uB n S+cB n (S+T)+1) (show 1<=n by omega);unfold sB xB zB;omega
section
variable {m:Rat->Nat} (h:SzLaw m) {n S T:Nat} {M:Nat->Nat->Rat} {F:LUv} {b:List Rat} (hF:LUinv n M n F) (hS:∀i,i<n->∀j,j<n->m (M i j)<=S) (hT:∀i,i<n->m (el b i)<=T)
include h hF hS
include hT in
theorem ywq:∀i,i<n->m (el (zaR n F b) i)<=cB n (S+T) :=
 h.cram (M:=M) (b:=el b) (λy a=>hF.reg y a) (λi hi j hj=>Zl (hS i hi j hj) (Yu _ _)) (λi hi=>Zl (hT i hi) (Nat.le_add_left _ _)) λi hi=>zsl hF b hi
include hT in
theorem ywm:SolLe m n F b (sB n S T):=ywt h hF (hF.size h (Za _) hS) hT (ywq h hF hS hT)
include hT in
theorem ywr:∀i,i<n->m (el (zcq n F b) i)<=cB n (S+T) :=
 h.cram (M:=λi j=>M j i) (b:=el b) (λy a=>hF.regT y a) (λi hi j hj=>Zl (hS j hj i hi) (Yu _ _)) (λi hi=>Zl (hT i hi) (Nat.le_add_left _ _)) λi hi=>by rw[<-zla hF b hi];exact zaj λj _=>ψ
theorem ywj{x:Nat}(hT:∀i,i<n->m (el b i)<=T)(a:∀i,i<n->m (el (zcq n F b) i)<=x):SolTLe m n F b (xB n (uB n S) x T):=ywo h hF (hF.size h (Za _) hS) hT a
end
section
variable {m:Rat->Nat} (h:SzLaw m) {n S T:Nat} {C:List (List Rat)} {v:List Rat} (hC:CSq n C) (hr:CReg n C) (hS:∀j,j<n->∀i,i<n->m (en C j i)<=S) (hT:∀i,i<n->m (el v i)<=T)
include h hC hr hS hT
theorem yws:∀i,i<n->m (el (zes n C v) i)<=cB n (S+T):=by obtain⟨F,e,hF⟩:=ziH hC hr;unfold zes;rw[e];exact ywq h hF (λi hi j hj=>by rw[zeI hi (by rw[hC.len];exact hj)];grind) hT
theorem ywh:∀i,i<n->m (el (zlA n C v) i)<=cB n (S+T):=by obtain⟨F,e,hF⟩:=ziH hC hr;unfold zlA;rw[e];exact ywr h hF (λi hi j hj=>by rw[zeI hi (by rw[hC.len];exact hj)];grind) hT
theorem zo0:∀i,i<n->m (el (zes n C v) i)<=sB n S T:=λi hi=>Zl (yws h hC hr hS hT i hi) (ywp hi)
theorem zlj:∀i,i<n->m (el (zlA n C v) i)<=sB n S T:=λi hi=>Zl (ywh h hC hr hS hT i hi) (ywp hi)
end
end Am
namespace Am
variable {C D:List (List Rat)}{v w x z:List Rat}{S T i j k n t:Nat}
def zhg (m:Rat->Nat) (n S:Nat) (C:List (List Rat)):Prop:=∀j,j<n->∀i,i<n->m (en C j i)<=S
inductive EtasZ (m:Rat->Nat) (S n:Nat) (D:List (List Rat)):List (Nat × List Rat)->List (List Rat)->Prop where
  | nil (h:CSq n D) (hr:CReg n D) (hz:zhg m n S D):EtasZ m S n D [] D
  | snoc {es:List (Nat × List Rat)} {E:List (List Rat)} {k:Nat} {a:List Rat} (h:EtasZ m S n D es E) (hk:k<n) (la:a.length=n) (za:∀i,i<n->m (el a i)<=S) (hp:el (zes n E a) k≠0):EtasZ m S n D (es++[(k,zes n E a)]) (E.set k a)
namespace EtasZ
variable {m:Rat->Nat} {S n:Nat} {D:List (List Rat)} {es:List (Nat × List Rat)} {C:List (List Rat)}
theorem good(h:EtasZ m S n D es C):CSq n C/\CReg n C/\zhg m n S C:=by
 induction h with
 | nil h hr hz=>grind
 | @snoc es E k a h hk la za hp ih =>
  obtain⟨h1,e,f⟩:=ih;refine⟨h1.set la,zjl h1 e hk (zci h1 e a).1 hp,λj hj i hi=>?_⟩;rw[zi2 (by rw[h1.len];exact hk)];split
  grind;exact f j hj i hi
theorem base(h:EtasZ m S n D es C):CSq n D/\CReg n D/\zhg m n S D:=by
 induction h with
 | nil h hr hz=>grind
 | snoc _ _ _ _ _ ih=>exact ih
theorem etas(h:EtasZ m S n D es C):Etas n D es C:=by
 induction h with
 | nil=>exact .nil
 | @snoc es E k a h hk la za hp ih=>exact .snoc ih hk (zci h.good.1 h.good.2.1 a).2 la (zci h.good.1 h.good.2.1 a).1 hp
theorem take(h:EtasZ m S n D es C):∀t,t<=es.length->∃E,EtasZ m S n D (es.take t) E/\∀(e:Nat × List Rat),es[t]? = some e->e.1<n/\e.2.length=n/\el e.2 e.1≠0/\∃a,e.2=zes n E a/\∀i,i<n->m (el a i)<=S:=by
  induction h with
  | nil h hr hz => intro t g;obtain rfl:t = 0:=ψ
                   exact⟨_,.nil h hr hz,λe q=>by simp at q⟩
  | @snoc es E k a h hk la za hp ih =>
    intro t g;rw[ZD]at g;by_cases e:t<=es.length;obtain⟨l,h1,p⟩:=ih t e;by_cases o:t<es.length;grind;obtain rfl:t=es.length:=ω;refine⟨E,by rw[Vk e,XK];exact h,λx f=>?_⟩;simp at f;subst f;exact⟨hk,(zci h.good.1 h.good.2.1 a).2,hp,a,rfl,za⟩;obtain rfl:t=es.length+1:=by simp at g;omega
    refine⟨E.set k a,?_,λx f=>?_⟩;rw[ZZ σ];exact .snoc h hk la za hp;grind
end EtasZ
theorem zsd{es:List (Nat × List Rat)}{e:Nat × List Rat}(h:es[t]? = some e)(x:List Rat):zix n (es.take (t+1)) x=zsC n e.1 e.2 (zix n (es.take t) x):=by unfold zix;rw[Xb,h];simp
theorem zwJ{m:Rat->Nat}{es:List (Nat × List Rat)}(h:EtasZ m S n D es C)(v:List Rat)(f:t<=es.length):∃E,EtasZ m S n D (es.take t) E/\zix n (es.take t) (zes n D v)=zes n E v:=by obtain⟨E,h1,_⟩:=h.take t f;have a:=h.base;have e:=zci a.1 a.2.1 v;exact⟨E,h1,znS h1.good.1 h1.good.2.1 (h1.etas.solve a.1 e.1) (zoB _ _ e.2)⟩
theorem zvq{m:Rat->Nat}{es:List (Nat × List Rat)}(h:EtasZ m S n D es C)(v:List Rat):zix n es (zes n D v)=zes n C v:=by have a:=h.base;have e:=zci a.1 a.2.1 v;exact znS h.good.1 h.good.2.1 (h.etas.solve a.1 e.1) (zoB _ _ e.2)
theorem zsc{m:Rat->Nat}(hm:SzLaw m){es:List (Nat × List Rat)}(h:EtasZ m S n D es C)(f:∀i,i<n->m (el v i)<=T)(e:t<=es.length):∀i,i<n->m (el (zix n (es.take t) (zes n D v)) i)<=sB n S T:=by obtain⟨E,h1,a⟩:=zwJ h v e;rw[a];exact zo0 hm h1.good.1 h1.good.2.1 h1.good.2.2 f
theorem zrn{m:Rat->Nat}(hm:SzLaw m){es:List (Nat × List Rat)}(h:EtasZ m S n D es C){e:Nat × List Rat}(f:es[t]? = some e):e.1<n/\e.2.length=n/\el e.2 e.1≠0/\∀i,i<n->m (el e.2 i)<=sB n S S:=by obtain⟨E,h1,q⟩:=h.take t (Xi (ZF.1 f).1);obtain⟨g,k,l,a,o,p⟩:=q e f;refine⟨g,k,l,λi hi=>?_⟩;rw[o];exact zo0 hm h1.good.1 h1.good.2.1 h1.good.2.2 p i hi
def zoA (n k:Nat) (w x:List Rat) (j:Nat):List Rat:=(List.range n).map λi=>if i=k then el x k/el w k else if i<j then el x i-el w i*(el x k/el w k)else el x i
theorem zjm(n k:Nat)(w x:List Rat)(j:Nat):(zoA n k w x j).length=n:=by simp[zoA]
theorem zkJ(hi:i<n):(zoA n k w x j)[i]? = some (if i=k then el x k/el w k else if i<j then el x i-el w i*(el x k/el w k)else el x i):=by unfold zoA;rw[Z2,XC hi];rfl
theorem zuG(a:x.length=n):x.set k (el x k/el w k)=zoA n k w x 0:=by apply Xc;intro i;by_cases hi:i<n;rw[zkJ hi,XA];by_cases e:k=i;subst e;rw[if_pos rfl,if_pos ω,if_pos rfl];rw[if_neg e,if_neg (Z4 e),if_neg ω];exact zaH ω;grind[List.getElem?_eq_none,zjm]
theorem zuF:zoA n k w x k=zoA n k w x (k+1):=by unfold zoA;grind
theorem zwI(h:j≠k)(hj:j<n):(zoA n k w x j).set j (el x j-el w j*(el x k/el w k))=zoA n k w x (j+1):=by apply Xc;intro i;by_cases hi:i<n;rw[zkJ hi,XA,zjm];by_cases e:j=i;subst e;rw[if_pos rfl,if_pos hj,if_neg h,if_pos ω];rw[if_neg e,zkJ hi];by_cases a:i=k;rw[if_pos a,if_pos a];rw[if_neg a,if_neg a];by_cases f:i<j;rw[if_pos f,if_pos ω];rw[if_neg f,if_neg ω];grind[List.getElem?_eq_none,List.length_set,zjm]
theorem zuE(n k:Nat)(w x:List Rat):zoA n k w x n=zsC n k w x:=by unfold zoA zsC;simp_all
def zhB (k:Nat) (w z:List Rat) (j:Nat):Rat:=el z k-zai j (λi=>if i=k then 0 else el w i*el z i)
def zeJ (k:Nat) (w z:List Rat) (j:Nat):List Rat:=z.set k (zhB k w z j)
theorem zsa(k:Nat)(w z:List Rat):zeJ k w z 0=z:=by
 unfold zeJ zhB;apply Xc;intro i;rw[XA];by_cases e:k=i;subst e;rw[if_pos rfl];by_cases h:k<z.length;rw[if_pos h,zaH h];simp only[zai];congr 1;grind
 rw[if_neg h,Xe ω];grind
theorem zr9:zeJ k w z k=zeJ k w z (k+1):=by unfold zeJ zhB;rw[zai,if_pos rfl];grind
theorem zuJ(h:j≠k):(zeJ k w z j).set k (zhB k w z j-el w j*el z j)=zeJ k w z (j+1):=by unfold zeJ zhB;rw[List.set_set,zai,if_neg h];grind
theorem zuI(h:k<z.length):(zeJ k w z j)[k]? = some (zhB k w z j):=by unfold zeJ;rw[Yy h]
theorem zuH(h:i≠k)(hi:i<z.length):(zeJ k w z j)[i]? = some (el z i):=by unfold zeJ;rw[YF (Z4 h),zaH hi]
theorem zr8(h:z.length=n):(zeJ k w z n).set k (zhB k w z n/el w k)=zp2 n k w z:=by unfold zeJ zp2;rw[List.set_set];rfl
theorem zsb{es:List (Nat × List Rat)}{e:Nat × List Rat}(h:es[t]? = some e)(v:List Rat):zep n (es.drop t) v=zp2 n e.1 e.2 (zep n (es.drop (t+1)) v):=by have a:=(ZF.1 h).1;rw[X8 a];rw[Ze a]at h;injection h with h;rw[h];rfl
theorem zuL(es:List (Nat × List Rat))(v:List Rat):zep n (es.drop es.length) v=v:=by rw[List.drop_length];rfl
theorem backs{m:Rat->Nat}{es:List (Nat × List Rat)}(h:EtasZ m S n D es C){y:List Rat}:∀v:List Rat,v.length=n->MkT n D y (zep n es v)->∀t,t<=es.length->∃E,EtasZ m S n D (es.take t) E/\MkT n E y (zep n (es.drop t) v):=by
  induction h with
  | nil h hr hz => intro v _ f t g;obtain rfl:t = 0:=ψ
                   exact⟨_,.nil h hr hz,f⟩
  | @snoc es E k a h hk la za hp ih =>
    intro v o f t g;have hg:=h.good;have z:=zci hg.1 hg.2.1 a;have q:∀l:List (Nat × List Rat),zep n (l++[(k,zes n E a)]) v=zep n l (zp2 n k (zes n E a) v):=λl=>by unfold zep;rw[List.foldr_append];rfl
    rw[q]at f;rw[ZD]at g;by_cases e:t<=es.length;grind[zjn];obtain rfl:t=es.length+1:=ψ;refine⟨E.set k a,by rw[ZZ σ];exact .snoc h hk la za hp,?_⟩;rw[List.drop_of_length_le σ];obtain⟨p,h1,s⟩:=ih (zp2 n k (zes n E a) v) (by rw[zjn];exact o) f es.length (Za _);have u:=h.etas.solveT h.base.1 (zp2 n k (zes n E a) v) (by rw[zjn];exact o) f;exact zuK hg.1 hk z.1 hp o u
theorem zo1{m:Rat->Nat}{es:List (Nat × List Rat)}(h:EtasZ m S n D es C)(f:v.length=n):zlA n D (zep n es v)=zlA n C v:=by have a:=h.base;have e:=ze1 a.1 a.2.1 (zep n es v);exact zBj h.good.1 h.good.2.1 (h.etas.solveT a.1 v f e.1) e.2
theorem zxI{m:Rat->Nat}(h:SzLaw m)(f:Nat->Rat)(s k:Nat)(a:∀i,i<k->m (f i)<=s):m (zai k f)<=1+k*(s+1):=h.sum f s k a
def tB (n S T:Nat):Nat:=1+n*(cB n (S+T)+S+1)
theorem zr1{m:Rat->Nat}(hm:SzLaw m){es:List (Nat × List Rat)}(h:EtasZ m S n D es C)(e:v.length=n)(p:∀i,i<n->m (el v i)<=T)(o:t<=es.length):∀i,i<n->m (el (zep n (es.drop t) v) i)<=tB n S T:=by have a:=h.base;have l:=ze1 a.1 a.2.1 (zep n es v);obtain⟨E,h1,g⟩:=backs h v e l.1 t o;intro i hi;rw[<-g i hi];refine zxI hm _ _ n λk hk=>?_;have q:=hm.mul (el (zlA n D (zep n es v)) k) (en E i k);have f:=ywh hm h.good.1 h.good.2.1 h.good.2.2 p k hk;rw[<-zo1 h e]at f;have s:=h1.good.2.2 i hi k hk;omega
theorem zl2{m:Rat->Nat}(hm:SzLaw m){a b:Nat}(hw:∀i,i<n->m (el w i)<=a)(e:∀i,i<n->m (el z i)<=b)(hk:k<n)(hj:j<=n):m (zhB k w z j)<=b+n*(a+b+2):=by
 unfold zhB;have h1:=hm.subSum (el z k) (λi=>if i=k then 0 else el w i*el z i) (a+b+1) j (λi hi=>by
  show m (if i=k then 0 else el w i*el z i)<=_
  split
  have:=hm.zero;omega;have:=hm.mul (el w i) (el z i);have:=hw i ω;have:=e i ω;omega)
 have:=e k hk;have:=ZV (a+b+1+1) hj;grind
end Am
namespace Am
variable {m:Nat}{T:Nat->Nat->Rat}{d x y z:Nat->Rat}
structure Dic (m N:Nat) (A:Nat->Nat->Rat) (b:Nat->Rat) (β:Nat->Nat) (T:Nat->Nat->Rat) (x:Nat->Rat):Prop where
  lt:∀k,k<m->β k<N
  inj:∀k l,k<m->l<m->β k=β l->k=l
  uni:∀r k,r<m->k<m->T r (β k)=if k=r then 1 else 0
  row:∀r,r<m->∃Y:Nat->Rat,(∀j,j<N->T r j=zai m λi=>Y i*A i j)/\x r=zai m λi=>Y i*b i
  col:∀j,j<N->∀i,i<m->zai m (λk=>A i (β k)*T k j)=A i j
  sol:∀i,i<m->zai m (λk=>A i (β k)*x k)=b i
structure Pri (m N:Nat) (A:Nat->Nat->Rat) (c:Nat->Rat) (β:Nat->Nat) (y d:Nat->Rat):Prop where
  eq:∀j,j<N->d j=c j-zai m λi=>y i*A i j
  zero:∀k,k<m->d (β k)=0
def Bas (m:Nat) (β:Nat->Nat) (j:Nat):Prop:=∃k,k<m/\β k=j
def pt (m:Nat) (β:Nat->Nat) (x:Nat->Rat) (j:Nat):Rat:=zai m λk=>if β k=j then x k else 0
theorem zyA{N:Nat}{β:Nat->Nat}(h:∀k,k<m->β k<N)(x f:Nat->Rat):zai N (λj=>f j*pt m β x j)=zai m λk=>f (β k)*x k:=by
 have e:zai N (λj=>f j*pt m β x j)=zai N λj=>zai m λk=>if β k=j then f (β k)*x k else 0:=zaj λj _=>by unfold pt;rw[<-za7];grind
 rw[e,zbq];refine zaj λk hk=>?_;rw[zbI (k:=β k) (h k hk) λj _ hj=>if_neg (Z4 hj),if_pos rfl]
theorem zA7{β:Nat->Nat}(h:∀k l,k<m->l<m->β k=β l->k=l)(x:Nat->Rat){k:Nat}(hk:k<m):pt m β x (β k)=x k:=by unfold pt;rw[zbI hk λl a f=>if_neg λe=>f (h l k a hk e),if_pos rfl]
theorem zyz{β:Nat->Nat}(x:Nat->Rat){j:Nat}(h:¬Bas m β j):pt m β x j=0 :=
 zcn λk hk=>if_neg λe=>h ⟨k,hk,e⟩
theorem zKL{n:Nat}{f:Nat->Rat}(h:zai n f<0):∃i,i<n/\f i<0:=by
 induction n with
 | zero=>simp only[zai]at h;grind
 | succ n ih =>
  rw[zai]at h;grind
section
variable {m N:Nat} {A:Nat->Nat->Rat} {b c:Nat->Rat}
theorem Dic.line{β:Nat->Nat}(h:Dic m N A b β T x){r:Nat}(hr:r<m)(f:∀i,i<m->zai N (λj=>A i j*z j)=b i):zai N (λj=>T r j*z j)=x r:=by
 obtain⟨Y,h1,a⟩:=h.row r hr;have e:zai N (λj=>T r j*z j)=zai N λj=>zai m λi=>Y i*(A i j*z j):=zaj λj hj=>by rw[h1 j hj,<-zb6];exact zaj λi _=>ψ
 rw[e,zbq,a];grind[zaj,za7]
theorem Dic.pt_sol{β:Nat->Nat}(h:Dic m N A b β T x):∀i,i<m->zai N (λj=>A i j*pt m β x j)=b i:=λi hi=>by rw[zyA h.lt x λj=>A i j];exact h.sol i hi
theorem Pri.cost{β:Nat->Nat}(h:Pri m N A c β y d){v:Nat->Rat}(a:∀i,i<m->zai N (λj=>A i j*z j)=v i):zai N (λj=>c j*z j)=zai m (λi=>y i*v i)+zai N (λj=>d j*z j):=by
 have e:zai N (λj=>c j*z j)=zai N λj=>zai m (λi=>y i*(A i j*z j))+d j*z j:=zaj λj hj=>by
  have:zai m (λi=>y i*(A i j*z j))=zai m (λi=>y i*A i j)*z j:=by rw[<-zb6];exact zaj λi _=>ψ
  rw[this,h.eq j hj];grind
 rw[e,zcm,zbq];grind[zaj,za7]
theorem Pri.value{β:Nat->Nat}(h:Pri m N A c β y d)(a:Dic m N A b β T x):zai N (λj=>c j*pt m β x j)=zai m λi=>y i*b i:=by rw[h.cost a.pt_sol,zyA a.lt x d,zcn (f:=λk=>d (β k)*x k) λk hk=>by rw[h.zero k hk];grind];grind
theorem Pri.same{β γ:Nat->Nat}{g e:Nat->Rat}(h:Pri m N A c β y d)(q:Pri m N A c γ g e)(o:Dic m N A b β T x)(s:∀k,k<m->e (β k)=0):∀j,j<N->d j=e j:=by
 intro j hj
 -- d - e is a sum of lines,0 in the basis
 have u:∀j,j<N->d j-e j=zai m λk=>T k j*(d (β k)-e (β k)):=by
  intro j hj;have l:∀j,j<N->d j-e j=zai m λi=>(g i-y i)*A i j:=λj hj=>by
   rw[h.eq j hj,q.eq j hj];have:zai m (λi=>(g i-y i)*A i j)=zai m (λi=>g i*A i j+(-1)*(y i*A i j)):=zaj λi _=>ψ
   rw[this,zcm,za7];grind
  rw[l j hj];have p:zai m (λk=>T k j*(d (β k)-e (β k)))=zai m λk=>zai m λi=>(g i-y i)*(A i (β k)*T k j):=zaj λk hk=>by rw[l _ (o.lt k hk),Rat.mul_comm,<-zb6];grind
  rw[p,zbq];exact zaj λi hi=>by rw[za7,o.col j hj i hi]
 have:=u j hj;rw[zcn (f:=λk=>T k j*(d (β k)-e (β k))) λk hk=>by rw[h.zero k hk,s k hk];grind]at this;grind
theorem Dic.only{β:Nat->Nat}(h:Dic m N A b β T x)(o:∀i,i<m->zai N (λj=>A i j*z j)=b i)(h0:∀j,j<N->¬Bas m β j->z j=0):∀k,k<m->z (β k)=x k:=by intro k hk;have e:=h.line hk o;rw[zbI (k:=β k) (h.lt k hk) λj hj g=>by by_cases a:Bas m β j;obtain⟨l,f,rfl⟩:=a;rw[h.uni k l hk f,if_neg λe=>g (by rw[e])];grind;grind,h.uni k k hk hk,if_pos rfl]at e;grind
end
end Am
namespace Am
variable {a i s u:Nat}
structure Ring (m L:Nat) (β:Nat->Nat->Nat) (r t:Nat->Nat):Prop where
  inj:∀i,i<=L->∀k l,k<m->l<m->β i k=β i l->k=l
  at_:∀i,i<L->r i<m
  new:∀i,i<L->¬Bas m (β i) (t i)
  st:∀i,i<L->∀k,k<m->β (i+1) k=if k=r i then t i else β i k
  per:∀j,Bas m (β 0) j↔Bas m (β L) j
namespace Ring
variable {m L:Nat} {β:Nat->Nat->Nat} {r t:Nat->Nat} (h:Ring m L β r t)
include h
theorem bas_next(hi:i<L)(u:Nat):Bas m (β (i+1)) u↔u=t i\/(u≠β i (r i)/\Bas m (β i) u):=by
 constructor;rintro⟨k,hk,e⟩;rw[h.st i hi k hk]at e;split at e
 omega;rename_i hne;exact .inr ⟨λa=>hne (h.inj i ω k (r i) hk (h.at_ i hi) (by rw[e,a])),k,hk,e⟩;rintro(rfl | ⟨hne,k,hk,e⟩);exact⟨r i,h.at_ i hi,by rw[h.st i hi _ (h.at_ i hi),if_pos rfl]⟩;exact⟨k,hk,by rw[h.st i hi k hk,if_neg λa=>hne (by rw[<-e,a])];exact e⟩
theorem enters(k:¬Bas m (β a) u):∀b,a<=b->b<=L->Bas m (β b) u->∃e,e<L/\t e=u:=by
  intro b
  induction b with
  | zero => grind
  | succ b ih =>
    intro h1 f g;by_cases e:a=b+1;grind;rcases(h.bas_next ω u).1 g with h4 | ⟨_,h4⟩
    exact⟨b,ω,h4.symm⟩;grind
theorem leaves(o:Bas m (β a) u):∀b,a<=b->b<=L->¬Bas m (β b) u->∃e,e<L/\β e (r e)=u:=by
  intro b
  induction b with
  | zero => grind
  | succ b ih =>
    intro h1 f g;by_cases e:a=b+1;grind;by_cases k:Bas m (β b) u;by_cases l:u=β b (r b);exact⟨b,ω,l.symm⟩;exact absurd ((h.bas_next ω u).2 (.inr ⟨l,k⟩)) g;grind
theorem fickle{i':Nat}(hi:i<=L)(k:i'<=L)(h1:Bas m (β i) u)(a:¬Bas m (β i') u):∃e,e<L/\t e=u:=by by_cases e:i'<=i;exact h.enters a i e hi h1;by_cases f:Bas m (β L) u;exact h.enters a L k (Za _) f;exact h.enters (λg=>f ((h.per u).1 g)) i (Zb _) hi h1
theorem gone(hi:i<L):¬Bas m (β (i+1)) (β i (r i)):=by intro h1;rcases(h.bas_next hi _).1 h1 with h2 | h2;exact h.new i hi ⟨r i,h.at_ i hi,h2⟩;omega
theorem in_out(hi:i<L):∃e,e<L/\β e (r e)=t i:=by have h1:Bas m (β (i+1)) (t i):=(h.bas_next hi _).2 (.inl rfl);by_cases a:Bas m (β L) (t i);exact h.leaves ((h.per _).2 a) i (Zb _) ω (h.new i hi);exact h.leaves h1 L ω (Za _) a
omit h in
theorem top(g:0<L):∃e,e<L/\∀i,i<L->t i<=t e:=by
 have k:∀n,0<n->n<=L->∃e,e<n/\∀i,i<n->t i<=t e:=by
  intro n
  induction n with
  | zero=>intro h;omega
  | succ n ih =>
   intro _ p;by_cases l:n=0;exact⟨n,ω,λi hi=>by obtain rfl:i=n:=ω;exact Za _⟩;obtain⟨e,o,hm⟩:=ih ω ω;by_cases f:t n<=t e;exact⟨e,ω,λi hi=>by by_cases a:i=n;rw[a];exact f;exact hm i ω⟩;exact⟨n,ω,λi hi=>by by_cases a:i=n;rw[a];exact Za _;have:=hm i ω;omega⟩
 exact k L g (Za _)
end Ring
theorem zMf(a b:Rat):a<=b\/b<=a:=Rat.le_total
theorem zLg{f:Nat->Rat}{L:Nat}(h:∀i,i<L->f i<=f (i+1))(e:f 0=f L):∀i,i<L->f i=f (i+1):=by
 have up:∀j,j<=L->f 0<=f j:=by
  intro j
  induction j with
  | zero=>grind
  | succ j ih=>grind
 have down:∀d j,j+d=L->f j<=f L:=by
  intro d
  induction d with
  | zero=>grind
  | succ d ih=>grind
 intro i hi;have:=up i ω;have:=down (L-(i+1)) (i+1) ω;have:=h i hi;grind
section
variable {m N L:Nat} {A:Nat->Nat->Rat} {b c:Nat->Rat} {β:Nat->Nat->Nat} {T:Nat->Nat->Nat->Rat} {x y d:Nat->Nat->Rat} {r t:Nat->Nat}
theorem zKG(R:Ring m L β r t)(a:∀i,i<=L->Dic m N A b (β i) (T i) (x i))(e:∀i,i<=L->Pri m N A c (β i) (y i) (d i))(hi:i<L) :
  zai m (λk=>y (i+1) k*b k)=zai m (λk=>y i k*b k)+d i (t i)*x (i+1) (r i):=by
 rw[<-(e (i+1) hi).value (a (i+1) hi),(e i ω).cost (a (i+1) hi).pt_sol,zyA (a (i+1) hi).lt (x (i+1)) (d i)]
 congr 1
 rw[zbI (k:=r i) (R.at_ i hi) λk hk f=>by rw[R.st i hi k hk,if_neg f,(e i ω).zero k hk];grind,R.st i hi _ (R.at_ i hi),if_pos rfl]
theorem zL0(a:∀i,i<=L->Dic m N A b (β i) (T i) (x i))(per:∀j,Bas m (β 0) j↔Bas m (β L) j):∀j,pt m (β 0) (x 0) j=pt m (β L) (x L) j:=by intro j;by_cases e:Bas m (β 0) j;obtain⟨k,hk,rfl⟩:=e;rw[zA7 (a 0 (Zb _)).inj _ hk];exact((a 0 (Zb _)).only (a L (Za _)).pt_sol (λj _ hj=>zyz _ λh=>hj ((per j).2 h)) k hk).symm;grind[zyz]
theorem zLk(a:∀i,i<=L->Dic m N A b (β i) (T i) (x i))(e:∀i,i<=L->Pri m N A c (β i) (y i) (d i))(per:∀j,Bas m (β 0) j↔Bas m (β L) j):zai m (λk=>y 0 k*b k)=zai m (λk=>y L k*b k):=by rw[<-(e 0 (Zb _)).value (a 0 (Zb _)),<-(e L (Za _)).value (a L (Za _))];exact zaj λj _=>by rw[zL0 a per j]
theorem zUa(R:Ring m L β r t)(f:∀i,i<=L->Dic m N A b (β i) (T i) (x i))(l:∀i,i<L->x (i+1) (r i)=0):∀i,i<=L->∀j,pt m (β i) (x i) j=pt m (β 0) (x 0) j:=by
 intro i
 induction i with
 | zero=>grind
 | succ i ih =>
  intro hi j;rw[<-ih ω j];have e:=(f i ω).only (f (i+1) hi).pt_sol λj _ hj=>by by_cases a:Bas m (β (i+1)) j;rcases(R.bas_next ω j).1 a with h | h;rw[h,show t i=β (i+1) (r i)by rw[R.st i ω _ (R.at_ i ω),if_pos rfl],zA7 (f (i+1) hi).inj _ (R.at_ i ω),l i ω];exact absurd h.2 hj;grind[zyz]
  by_cases a:Bas m (β i) j;obtain⟨k,hk,rfl⟩:=a;rw[e k hk,zA7 (f i ω).inj _ hk];rw[zyz (x i) a];by_cases g:Bas m (β (i+1)) j;rcases(R.bas_next ω j).1 g with h | h;rw[h,show t i=β (i+1) (r i)by rw[R.st i ω _ (R.at_ i ω),if_pos rfl],zA7 (f (i+1) hi).inj _ (R.at_ i ω),l i ω];exact absurd h.2 a;grind[zyz]
def way (m:Nat) (β:Nat->Nat) (T:Nat->Nat->Rat) (s j:Nat):Rat:=(if j=s then 1 else 0)+pt m β (λk => -T k s) j
theorem zST{β:Nat->Nat}{T:Nat->Nat->Rat}{x:Nat->Rat}(h:Dic m N A b β T x)(a:s<N):∀i,i<m->zai N (λj=>A i j*way m β T s j)=0:=by
 intro i hi;have e:zai N (λj=>A i j*way m β T s j)=zai N (λj=>(if j=s then A i s else 0)+A i j*pt m β (λk => -T k s) j):=zaj λj _=>by unfold way;grind
 rw[e,zcm,zyA h.lt _ λj=>A i j,zbI (k:=s) a λj _ hj=>if_neg hj,if_pos rfl,<-h.col s a i hi];have f:zai m (λk=>A i (β k) * -T k s)=zai m (λk=>(-1)*(A i (β k)*T k s)):=zaj λk _=>ψ
 rw[f,za7];grind
theorem zUd{β:Nat->Nat}{T:Nat->Nat->Rat}(h:∀k,k<m->β k<N)(f:Nat->Rat)(a:s<N):zai N (λj=>f j*way m β T s j)=f s+zai m (λk=>f (β k) * -T k s):=by
 have e:zai N (λj=>f j*way m β T s j)=zai N (λj=>(if j=s then f s else 0)+f j*pt m β (λk => -T k s) j):=zaj λj _=>by unfold way;grind
 rw[e,zcm,zyA h _ f,zbI (k:=s) a λj _ hj=>if_neg hj,if_pos rfl]
theorem zTi(R:Ring m L β r t)(hL:0<L)(E:∀i,i<=L->Dic m N A b (β i) (T i) (x i))(q:∀i,i<=L->Pri m N A c (β i) (y i) (d i))(hx:∀i,i<=L->∀k,k<m->0<=x i k){may:Nat->Prop}
  (G:∀i,i<L->t i<N/\may (t i)) (h1:∀i,i<L->d i (t i)<0/\∀j,j<t i->may j->0<=d i j)
  (Q:∀i,i<L->0<T i (r i) (t i)/\∀k,k<m->0<T i k (t i)->β i k<β i (r i)->x i (r i)*T i k (t i)<x i k*T i (r i) (t i)):False:=by
 have aa:=zLg (f:=λi => -zai m λk=>y i k*b k) (L:=L) (λi hi=>by
  show -zai m (λk=>y i k*b k) <= -zai m (λk=>y (i+1) k*b k)
  rw[zKG R E q hi];have:=Xg (show 0 <= -d i (t i)by have:=(h1 i hi).1;grind) (hx (i+1) hi (r i) (R.at_ i hi));grind) (by show -_ = -_;rw[zLk E q R.per])
 have xz:∀i,i<L->x (i+1) (r i)=0:=λi hi=>by have e : -zai m (λk=>y i k*b k) = -zai m (λk=>y (i+1) k*b k):=aa i hi;rw[zKG R E q hi]at e;have:=(h1 i hi).1;grind
 have U:=zUa R E xz;have P:∀u,(∃e,e<L/\t e=u)->∀i,i<=L->pt m (β i) (x i) u=0:=by rintro u ⟨e,B,rfl⟩ i hi;rw[U i hi,<-U e ω,zyz _ (R.new e B)]
 obtain⟨e,B,hm⟩:=Ring.top (t:=t) hL;obtain⟨s,o,H⟩:=R.in_out B;have De:=E e ω;have p:=E s ω
 -- what the greatest's leaving makes way for,by the prices where it comes in
 have X:=(q s ω).cost (z:=way m (β s) (T s) (t s)) (v:=λ_=>0) (zST p (G s o).1);have Y:=(q e ω).cost (z:=way m (β s) (T s) (t s)) (v:=λ_=>0) (zST p (G s o).1)
 rw[X,zUd p.lt _ (G s o).1,zUd p.lt _ (G s o).1,zcn (f:=λi=>y s i*0) λi _=>ψ,zcn (f:=λi=>y e i*0) λi _=>ψ,
  zcn (f:=λk=>d s (β s k) * -T s k (t s)) λk hk=>by rw[(q s ω).zero k hk];grind]at Y
 have n1:=(h1 s o).1;have le:=hm s o;have ne:t s≠t e:=λh=>R.new s o ⟨r s,R.at_ s o,by rw[H,h]⟩
 have n2:=(h1 e B).2 (t s) ω (G s o).2;have neg:zai m (λk=>d e (β s k) * -T s k (t s))<0:=ψ;obtain⟨k,hk,K⟩:=zKL neg;have hb:¬Bas m (β e) (β s k):=by rintro⟨l,hl,hle⟩;rw[<-hle,(q e ω).zero l hl]at K;grind
 have Z:=R.fickle (i:=s) (i':=e) ω ω ⟨k,hk,rfl⟩ hb;obtain⟨i,hi,J⟩:=Z;have hu:=hm i hi;rw[J]at hu;by_cases O:β s k=t e;have I:k=r s:=p.inj k (r s) hk (R.at_ s o) (by rw[O,H]);have a:=(h1 e B).1;have g:=(Q s o).1;rw[O,I]at K;have:=Rat.mul_pos (show 0 < -d e (t e)by grind) g;grind;have ad:=(h1 e B).2 (β s k) ω (by rw[<-J];grind);have hT:0<T s k (t s):=by rcases zMf (T s k (t s)) 0 with h | h;have:=Xg ad (show 0 <= -T s k (t s)by grind);grind;rcases Rat.le_iff_lt_or_eq.1 h with h | h;exact h;rw[<-h]at K;grind
 have g:=(Q s o).2 k hk hT (by rw[H];omega);have V:=P _ ⟨i,hi,J⟩ s ω;have W:=P (t e) ⟨e,B,rfl⟩ s ω;rw[zA7 p.inj _ hk]at V;rw[<-H,zA7 p.inj _ (R.at_ s o)]at W;rw[V,W]at g;grind
end
end Am
namespace Am
variable {N m:Nat}
def binom:Nat->Nat->Nat
  | _,0=>1
  | 0,_+1=>0
  | n+1,k+1=>binom n (k+1)+binom n k
def marks:Nat->Nat->List (List Bool)
  | 0,0=>[[]]
  | 0,_+1=>[]
  | n+1,0=>(marks n 0).map (false :: ·)
  | n+1,k+1=>(marks n (k+1)).map (false :: ·)++(marks n k).map (true :: ·)
theorem zKl:∀n k,(marks n k).length=binom n k
 | 0,0=>rfl
 | 0,_+1=>rfl
 | n+1,0=>by unfold marks;rw[ZK,zKl n 0];cases n<;>rfl
 | n+1,k+1=>by unfold marks;rw[ZD,ZK,ZK,zKl n (k+1),zKl n k];rfl
theorem zKo:∀(l:List Bool) (n k:Nat),l.length=n->l.countP id=k->l∈marks n k
 | [],n,k,h1,h2=>by simp at h1 h2;subst h1 h2;simp[marks]
 | false::l,n,k,h1,h2=>by
  cases n with
  | zero=>simp at h1
  | succ n =>
   have:=zKo l n k (by simpa using h1) (by simpa using h2);cases k with
   | zero=>simp only[marks,ZH];exact⟨l,this,rfl⟩
   | succ k=>simp only[marks,ZU,ZH];exact .inl ⟨l,this,rfl⟩
 | true::l,n,k,h1,h2=>by
  cases n with
  | zero=>simp at h1
  | succ n =>
   cases k with
   | zero=>simp at h2
   | succ k =>
    have:=zKo l n k (by simpa using h1) (by simpa using h2);simp only[marks,ZU,ZH];exact .inr ⟨l,this,rfl⟩
theorem pigeon{α:Type}:∀(l:List α) (n:Nat) (f:Nat->α),(∀i,i<n->f i∈l)->(∀i j,i<j->j<n->f i≠f j)->n<=l.length
 | [],n,f,h1,_=>ψ
 | a::l,n,f,h1,h2=>by
  by_cases h:∃i,i<n/\f i=a
  obtain⟨i,hi,e⟩:=h;have:=pigeon l (n-1) (λj=>if j<i then f j else f (j+1)) (λj hj=>by
   have g:∀k,k<n->k≠i->f k∈l:=λk hk p=>by rcases XM.1 (h1 k hk)with h3 | h3;rcases ZI k i with h4 | h4;exact absurd (h3.trans e.symm) (h2 k i h4 hi);exact absurd (e.trans h3.symm) (h2 i k ω hk);exact h3
   show(if j<i then f j else f (j+1))∈l
   split
   exact g j ω ω;exact g (j+1) ω ω) (λj k o hk=>by
   show(if j<i then f j else f (j+1))≠(if k<i then f k else f (k+1))
   split
   split
   exact h2 j k o ω;exact h2 j (k+1) ω ω;rw[if_neg ω];exact h2 (j+1) (k+1) ω ω)
  grind;have:=pigeon l n f (λi hi=>by rcases XM.1 (h1 i hi)with h3 | h3;exact absurd ⟨i,hi,h3⟩ h;exact h3) h2;grind
noncomputable def markOf (N m:Nat) (β:Nat->Nat):List Bool:=by
 classical exact(List.range N).map λj=>decide (Bas m β j)
theorem zK4(N m:Nat)(β:Nat->Nat):(markOf N m β).length=N:=by simp[markOf]
theorem zKD(p:Nat->Bool):∀n:Nat,(((List.range n).map p).countP id:Rat)=zai n λj=>if p j=true then 1 else 0
 | 0=>rfl
 | n+1=>by rw[Yd,Ye,List.countP_append,zai,<-zKD p n];cases h:p n;simp[h];grind;simp[h]
theorem zKs:∀n:Nat,zai n (λ_=>1)=(n:Rat)
 | 0=>rfl
 | n+1=>by rw[zai,zKs n];simp
theorem zKF{β:Nat->Nat}(h1:∀k,k<m->β k<N)(g:∀k l,k<m->l<m->β k=β l->k=l):(markOf N m β).countP id=m:=by
 classical
 have e:((markOf N m β).countP id:Rat)=(m:Rat):=by
  unfold markOf;rw[zKD,<-zKs m];have f:zai N (λj=>if decide (Bas m β j)=true then (1:Rat)else 0)=zai N λj=>1*pt m β (λ_=>1) j:=zaj λj _=>by by_cases a:Bas m β j;rw[if_pos (ZT a)];obtain⟨k,hk,rfl⟩:=a;rw[zA7 g _ hk];grind;rw[if_neg (by simpa using a),zyz _ a];grind
  rw[f,zyA h1];exact zaj λk _=>ψ
 simp_all
theorem zLf{β γ:Nat->Nat}(h1:∀k,k<m->β k<N)(a:∀k,k<m->γ k<N)(e:markOf N m β=markOf N m γ):∀j,Bas m β j↔Bas m γ j:=by
 classical
 intro j;by_cases hj:j<N;have:(markOf N m β)[j]? = (markOf N m γ)[j]?:=by rw[e]
 unfold markOf at this;rw[Z2,Z2,XC hj]at this;grind;constructor;rintro⟨k,hk,e⟩;have:=h1 k hk;omega;rintro⟨k,hk,e⟩;have:=a k hk;omega
theorem zLq{n:Nat}{β:Nat->Nat->Nat}(h1:∀i,i<n->∀k,k<m->β i k<N)(a:∀i,i<n->∀k l,k<m->l<m->β i k=β i l->k=l)(f:∀i j,i<j->j<n->¬∀u,Bas m (β i) u↔Bas m (β j) u):n<=binom N m:=by rw[<-zKl];exact pigeon _ n (λi=>markOf N m (β i)) (λi hi=>zKo _ _ _ (zK4 _ _ _) (zKF (h1 i hi) (a i hi))) (λi j g hj e=>f i j g hj (zLf (h1 i ω) (h1 j hj) e))
end Am
namespace Am
variable {A:List (List Rat)}{cols:List Nat}{c v x y:List Rat}{i j k m r:Nat}
def zb4 (A:List (List Rat)) (j:Nat):List Rat:=A.map λr=>el r j
def bc (A:List (List Rat)) (cols:List Nat):List (List Rat):=cols.map (zb4 A)
structure Rect (m N:Nat) (A:List (List Rat)):Prop where
  len:A.length=m
  row:∀i,i<m->(A.getD i []).length=N
theorem zbH(A:List (List Rat))(j:Nat):(zb4 A j).length=A.length:=by simp[zb4]
theorem zhw(h:i<A.length):el (zb4 A j) i=en A i j:=by
 unfold zb4 en
 conv=>lhs;unfold el
 rw[zbU _ _ h []];rfl
theorem zx7(A:List (List Rat))(cols:List Nat):(bc A cols).length=cols.length:=by simp[bc]
theorem zx6(h:k<cols.length):(bc A cols).getD k []=zb4 A (cols.getD k 0):=zbU _ _ h 0 _
theorem ztZ(h:k<cols.length)(hi:i<A.length):en (bc A cols) k i=en A i (cols.getD k 0):=by unfold en;rw[zx6 h];exact zhw hi
theorem zGH(a:A.length=m)(hc:cols.length=m):CSq m (bc A cols) :=
 ⟨by rw[zx7,hc],λi hi=>by rw[zx6 ω,zbH,a]⟩
theorem zq6:bc A (cols.set k j)=(bc A cols).set k (zb4 A j):=by simp[bc,Vd]
def zdL (m r:Nat):List Rat:=(List.replicate m 0).set r 1
theorem zfM(m r:Nat):(zdL m r).length=m:=by simp[zdL]
theorem zge(h:r<m):el (zdL m r) i=if r=i then 1 else 0:=by unfold zdL;rw[ziZ ψ,zrm]
def byL (N:Nat) (A:List (List Rat)) (y:List Rat):List Rat:=(List.range N).map λj=>zai A.length λi=>el y i*en A i j
theorem zkb(N:Nat)(A:List (List Rat))(y:List Rat):(byL N A y).length=N:=by simp[byL]
theorem zx9{N:Nat}(h:j<N):el (byL N A y) j=zai A.length λi=>el y i*en A i j:=by
 unfold byL
 conv=>lhs;unfold el
 rw[zbU _ _ ψ 0,zcA h];rfl
def za5 (A:List (List Rat)) (b:List Rat) (cols:List Nat):List Rat:=zes cols.length (bc A cols) b
def zav (A:List (List Rat)) (cols:List Nat) (j:Nat):List Rat:=zes cols.length (bc A cols) (zb4 A j)
def zbf (A:List (List Rat)) (cols:List Nat) (r:Nat):List Rat:=zlA cols.length (bc A cols) (zdL cols.length r)
def zk8 (N:Nat) (A:List (List Rat)) (cols:List Nat) (r:Nat):List Rat:=byL N A (zbf A cols r)
def zcl (A:List (List Rat)) (cols:List Nat) (c:List Rat):List Rat:=zlA cols.length (bc A cols) (cols.map λj=>el c j)
def zaC (N:Nat) (A:List (List Rat)) (cols:List Nat) (c:List Rat):List Rat:=zly c (-1) (byL N A (zcl A cols c))
structure Basis (m N:Nat) (A:List (List Rat)) (cols:List Nat):Prop where
  rect:Rect m N A
  len:cols.length=m
  lt:∀k,k<m->cols.getD k 0<N
  inj:∀k l,k<m->l<m->cols.getD k 0=cols.getD l 0->k=l
  reg:CReg m (bc A cols)
namespace Basis
variable {m N:Nat} {A:List (List Rat)} {cols:List Nat} (h:Basis m N A cols)
include h
theorem sq:CSq m (bc A cols):=zGH h.rect.len h.len
theorem vals_ok(b:List Rat):Mk m (bc A cols) (za5 A b cols) b/\(za5 A b cols).length=m:=by unfold za5;rw[h.len];exact zci h.sq h.reg b
theorem column_ok(j:Nat):Mk m (bc A cols) (zav A cols j) (zb4 A j)/\(zav A cols j).length=m:=by unfold zav;rw[h.len];exact zci h.sq h.reg _
theorem weights_ok(r:Nat):MkT m (bc A cols) (zbf A cols r) (zdL m r)/\(zbf A cols r).length=m:=by unfold zbf;rw[h.len];exact ze1 h.sq h.reg _
theorem duals_ok(c:List Rat):MkT m (bc A cols) (zcl A cols c) (cols.map λj=>el c j)/\(zcl A cols c).length=m:=by unfold zcl;rw[h.len];exact ze1 h.sq h.reg _
theorem mk_en(a:Mk m (bc A cols) x v)(hi:i<m):zai m (λk=>en A i (cols.getD k 0)*el x k)=el v i:=by rw[<-a i hi];exact zaj λk hk=>by rw[ztZ (by rw[h.len];exact hk) (by rw[h.rect.len];exact hi)]
theorem mkT_en(a:MkT m (bc A cols) y v)(hk:k<m):zai m (λi=>el y i*en A i (cols.getD k 0))=el v k:=by rw[<-a k hk];exact zaj λi hi=>by rw[ztZ (by rw[h.len];exact hk) (by rw[h.rect.len];exact hi)]
theorem by_weights(hr:r<m)(g:Mk m (bc A cols) x v):el x r=zai m λi=>el (zbf A cols r) i*el v i:=by
 have e:zai m (λi=>el (zbf A cols r) i*el v i)=zai m λi=>zai m λk=>el (zbf A cols r) i*en A i (cols.getD k 0)*el x k:=zaj λi hi=>by rw[<-h.mk_en g hi,<-za7];grind
 rw[e,zbq];have a:zai m (λk=>zai m λi=>el (zbf A cols r) i*en A i (cols.getD k 0)*el x k)=zai m λk=>el (zdL m r) k*el x k:=zaj λk hk=>by rw[zb6,h.mkT_en (h.weights_ok r).1 hk]
 rw[a,zbI (k:=r) hr λk _ f=>by rw[zge hr,if_neg (Z4 f)];grind,zge hr,if_pos rfl];grind
theorem line_el(hr:r<m)(hj:j<N):el (zk8 N A cols r) j=el (zav A cols j) r:=by unfold zk8;rw[zx9 hj,h.by_weights hr (h.column_ok j).1,h.rect.len];exact zaj λi hi=>by rw[zhw (by rw[h.rect.len];exact hi)]
theorem dic(b:List Rat):Dic m N (en A) (el b) (λk=>cols.getD k 0) (λr j=>el (zav A cols j) r) (λk=>el (za5 A b cols) k) where
 lt:=h.lt
 inj:=h.inj
 uni:=λr k hr hk=>by
  have e:=Mk.unique h.reg (h.column_ok (cols.getD k 0)).1 (y:=zdL m k) (λi hi=>by rw[zbI (k:=k) hk λl _ a=>by rw[zge hk,if_neg (Z4 a)];grind,zge hk,if_pos rfl,ztZ (by rw[h.len];exact hk) (by rw[h.rect.len];exact hi),zhw (by rw[h.rect.len];exact hi)];grind) (h.column_ok _).2 (zfM _ _);show el (zav A cols (cols.getD k 0)) r=_
  rw[e,zge hk]
 row:=λr hr=>⟨el (zbf A cols r),λj hj=>by
  show el (zav A cols j) r=_
  rw[h.by_weights hr (h.column_ok j).1];exact zaj λi hi=>by rw[zhw (by rw[h.rect.len];exact hi)],h.by_weights hr (h.vals_ok b).1⟩
 col:=λj _ i hi=>by
  show zai m (λk=>en A i (cols.getD k 0)*el (zav A cols j) k)=_
  rw[h.mk_en (h.column_ok j).1 hi,zhw (by rw[h.rect.len];exact hi)]
 sol:=λi hi=>h.mk_en (h.vals_ok b).1 hi
theorem prices_el(hc:c.length=N)(hj:j<N):el (zaC N A cols c) j=el c j-zai m λi=>el (zcl A cols c) i*en A i j:=by unfold zaC;rw[zuD _ (by rw[zkb,hc]) (by rw[hc];exact hj),zx9 hj,h.rect.len];grind
theorem pri(hc:c.length=N):Pri m N (en A) (el c) (λk=>cols.getD k 0) (el (zcl A cols c)) (el (zaC N A cols c)) where
 eq:=λj hj=>h.prices_el hc hj
 zero:=λk hk=>by
  show el (zaC N A cols c) (cols.getD k 0)=0
  rw[h.prices_el hc (h.lt k hk),h.mkT_en (h.duals_ok c).1 hk];unfold el;rw[zbU _ _ (by rw[h.len];exact hk) 0];grind
theorem swap(hk:k<m)(hj:j<N)(z:el (zav A cols j) k≠0):Basis m N A (cols.set k j):=by
 have s:¬Bas m (λk=>cols.getD k 0) j\/cols.getD k 0=j:=by by_cases f:Bas m (λk=>cols.getD k 0) j;obtain⟨l,p,e⟩:=f;have u:=(h.dic []).uni k l hk p;simp only[e]at u;by_cases q:l=k;exact .inr (by rw[<-q];exact e);rw[if_neg q]at u;exact absurd u z;grind
 have g:∀l,l<m->(cols.set k j).getD l 0=if k=l then j else cols.getD l 0:=λl _=>gset (by rw[h.len];exact hk)
 refine⟨h.rect,by rw[ZQ,h.len],λl p=>?_,λa b o f e=>?_,?_⟩;rw[g l p];split
 exact hj;exact h.lt l p;rw[g a o,g b f]at e;split at e<;>split at e
 omega;rename_i h1 h2;rcases s with h3 | h3;exact absurd ⟨b,f,e.symm⟩ h3;exact absurd (h.inj k b hk f ω) h2;rename_i h1 h2;rcases s with h3 | h3;exact absurd ⟨a,o,e⟩ h3;exact absurd (h.inj k a hk o ω) h1;exact h.inj a b o f e;rw[zq6];exact zjl h.sq h.reg hk (h.column_ok j).1 z
end Basis
end Am
namespace Am
variable {z:List Rat}{c k n:Nat}
theorem zg6{α:Type}(xs ys:List α)(a b:α):(xs++a::ys).set xs.length b=xs++b::ys:=by rw[Yo,if_neg ω,Xq];rfl
theorem zk2{α:Type}(xs ys:List α)(a:α):(xs++a::ys)[xs.length]? = some a:=by rw[ZJ (Za _),Xq];rfl
def fwP (F:LUv) (b:List Rat) (k c:Nat):Rat:=el b (F.perm.getD k 0)-zai c λi=>en F.lo k i*el (fwd F b k) i
def fwO (F:LUv) (b:List Rat) (n k:Nat):List Rat:=fwd F b k++List.replicate (n-k) 0
def fwI (F:LUv) (b:List Rat) (n k c:Nat):List Rat:=fwd F b k++fwP F b k c::List.replicate (n-(k+1)) 0
theorem zxc(F:LUv)(b:List Rat)(n:Nat):fwO F b n 0=List.replicate n 0:=by rfl
theorem zAQ(F:LUv)(b:List Rat)(n:Nat):fwO F b n n=fwd F b n:=by simp[fwO]
theorem zrw(F:LUv)(b:List Rat)(h:k<n):fwO F b n k=fwd F b k++(0::List.replicate (n-(k+1)) 0):=by unfold fwO;rw[show n-k=(n-(k+1))+1 by omega,Ys]
theorem zAR(F:LUv)(b:List Rat)(h:k<n):(fwO F b n k)[k]? = some 0:=by have:=zk2 (fwd F b k) (List.replicate (n-(k+1)) 0) 0;rw[zcx,<-zrw F b h]at this;exact this
theorem zAS(F:LUv)(b:List Rat)(h:k<n):(fwO F b n k).set k (el b (F.perm.getD k 0))=fwI F b n k 0:=by have:=zg6 (fwd F b k) (List.replicate (n-(k+1)) 0) 0 (el b (F.perm.getD k 0));rw[zcx,<-zrw F b h]at this;rw[this];unfold fwI fwP;simp only[zai];rw[show ∀a:Rat,a-0=a by grind]
theorem zAN(F:LUv)(b:List Rat)(n k c:Nat):(fwI F b n k c)[k]? = some (fwP F b k c):=by have:=zk2 (fwd F b k) (List.replicate (n-(k+1)) 0) (fwP F b k c);rw[zcx]at this;exact this
theorem zAO(F:LUv)(b:List Rat){i:Nat}(h:i<k):(fwI F b n k c)[i]? = some (el (fwd F b k) i):=by unfold fwI;rw[Z1 (by rw[zcx];exact h)];grind[zaH,zcx]
theorem zAP(F:LUv)(b:List Rat)(n k c:Nat):(fwI F b n k c).set k (fwP F b k c-en F.lo k c*el (fwd F b k) c)=fwI F b n k (c+1):=by have:=zg6 (fwd F b k) (List.replicate (n-(k+1)) 0) (fwP F b k c) (fwP F b k c-en F.lo k c*el (fwd F b k) c);rw[zcx]at this;unfold fwI;rw[this];congr 2;unfold fwP;rw[zai];grind
theorem zxb(F:LUv)(b:List Rat)(n k:Nat):fwI F b n k k=fwO F b n (k+1):=by unfold fwI fwO;simp only[fwd,XT];rfl
def bwP (F:LUv) (z:List Rat) (n k j:Nat):Rat:=el z k-zai j λc=>en F.up k (k+1+c)*el (bwd F n z (n-(k+1))) c
def bwO (F:LUv) (z:List Rat) (n k:Nat):List Rat:=z.take k++bwd F n z (n-k)
def bwI (F:LUv) (z:List Rat) (n k j:Nat):List Rat:=z.take k++bwP F z n k j::bwd F n z (n-(k+1))
theorem zzq(F:LUv)(h:z.length=n):bwO F z n n=z:=by unfold bwO;rw[Xq,<-h];simp[bwd]
theorem zwq(F:LUv)(z:List Rat)(n:Nat):bwO F z n 0=bwd F n z n:=by rfl
theorem zwp(F:LUv)(e:z.length=n)(h:k<n):bwI F z n k 0=bwO F z n (k+1):=by unfold bwI bwO bwP;rw[Xb,zaH ω];simp only[zai,Option.toList_some,XT,List.singleton_append];rw[show ∀a:Rat,a-0=a by grind]
theorem zdx(a:z.length=n)(h:k<n):(z.take k).length=k:=by rw[ZG];omega
theorem zzo(F:LUv)(j:Nat)(a:z.length=n)(h:k<n):(bwI F z n k j)[k]? = some (bwP F z n k j):=by have:=zk2 (z.take k) (bwd F n z (n-(k+1))) (bwP F z n k j);rw[zdx a h]at this;exact this
theorem zwo(F:LUv)(j:Nat)(a:z.length=n)(h:k+1+c<n):(bwI F z n k j)[k+1+c]? = some (el (bwd F n z (n-(k+1))) c):=by unfold bwI;rw[ZJ (by rw[zdx a ω];omega),zdx a ω,show k+1+c-k=c+1 by omega,XH];grind[zaH,zpC]
theorem zzp(F:LUv)(j:Nat)(a:z.length=n)(h:k<n):(bwI F z n k j).set k (bwP F z n k j-en F.up k (k+1+j)*el (bwd F n z (n-(k+1))) j)=bwI F z n k (j+1):=by have:=zg6 (z.take k) (bwd F n z (n-(k+1))) (bwP F z n k j) (bwP F z n k j-en F.up k (k+1+j)*el (bwd F n z (n-(k+1))) j);rw[zdx a h]at this;unfold bwI;rw[this];congr 2;unfold bwP;rw[zai];grind
theorem zzn(F:LUv)(a:z.length=n)(h:k<n):(bwI F z n k (n-(k+1))).set k (bwP F z n k (n-(k+1))/en F.up k k)=bwO F z n k:=by
 have:=zg6 (z.take k) (bwd F n z (n-(k+1))) (bwP F z n k (n-(k+1))) (bwP F z n k (n-(k+1))/en F.up k k);rw[zdx a h]at this;unfold bwI;rw[this];unfold bwO
 congr 1
 rw[show n-k=(n-(k+1))+1 by omega];unfold bwP;show _=(el z (n-(n-(k+1)+1))-zai (n-(k+1)) (λc=>en F.up (n-(n-(k+1)+1)) (n-(n-(k+1))+c)*el (bwd F n z (n-(k+1))) c))/en F.up (n-(n-(k+1)+1)) (n-(n-(k+1)+1))::bwd F n z (n-(k+1))
 rw[show n-(n-(k+1)+1)=k by omega,show n-(n-(k+1))=k+1 by omega]
end Am
namespace Am
variable {c z:List Rat}{k n:Nat}
def ftP (F:LUv) (c:List Rat) (k j:Nat):Rat:=el c k-zai j λi=>en F.up i k*el (zbX F c k) i
def ftO (F:LUv) (c:List Rat) (k:Nat):List Rat:=zbX F c k++c.drop k
def ftI (F:LUv) (c:List Rat) (k j:Nat):List Rat:=zbX F c k++ftP F c k j::c.drop (k+1)
theorem zuA(h:k<c.length):c.drop k=el c k::c.drop (k+1):=by rw[X8 h];simp_all[znd,Ze]
theorem zxa(F:LUv)(c:List Rat):ftO F c 0=c:=by rfl
theorem zAM(F:LUv)(h:c.length=n):ftO F c n=zbX F c n:=by unfold ftO;rw[<-h];simp
theorem zw9(F:LUv)(h:k<c.length):ftI F c k 0=ftO F c k:=by unfold ftI ftO ftP;rw[zuA h];simp only[zai];rw[show ∀a:Rat,a-0=a by grind]
theorem zAJ(F:LUv)(c:List Rat)(k j:Nat):(ftI F c k j)[k]? = some (ftP F c k j):=by have:=zk2 (zbX F c k) (c.drop (k+1)) (ftP F c k j);rw[zbT]at this;exact this
theorem zAK(F:LUv)(c:List Rat){j i:Nat}(h:i<k):(ftI F c k j)[i]? = some (el (zbX F c k) i):=by unfold ftI;rw[Z1 (by rw[zbT];exact h)];grind[zaH,zbT]
theorem zAL(F:LUv)(c:List Rat)(k j:Nat):(ftI F c k j).set k (ftP F c k j-en F.up j k*el (zbX F c k) j)=ftI F c k (j+1):=by have:=zg6 (zbX F c k) (c.drop (k+1)) (ftP F c k j) (ftP F c k j-en F.up j k*el (zbX F c k) j);rw[zbT]at this;unfold ftI;rw[this];congr 2;unfold ftP;rw[zai];grind
theorem zAI(F:LUv)(c:List Rat)(k:Nat):(ftI F c k k).set k (ftP F c k k/en F.up k k)=ftO F c (k+1):=by have:=zg6 (zbX F c k) (c.drop (k+1)) (ftP F c k k) (ftP F c k k/en F.up k k);rw[zbT]at this;unfold ftI;rw[this];unfold ftO;simp only[zbX,XT];rfl
def btP (F:LUv) (z:List Rat) (n k j:Nat):Rat:=el z k-zai j λc=>en F.lo (k+1+c) k*el (zlK F n z (n-(k+1))) c
def btO (F:LUv) (z:List Rat) (n k:Nat):List Rat:=z.take k++zlK F n z (n-k)
def btI (F:LUv) (z:List Rat) (n k j:Nat):List Rat:=z.take k++btP F z n k j::zlK F n z (n-(k+1))
theorem zzm(F:LUv)(h:z.length=n):btO F z n n=z:=by unfold btO;rw[Xq,<-h];simp[zlK]
theorem zwn(F:LUv)(z:List Rat)(n:Nat):btO F z n 0=zlK F n z n:=by rfl
theorem zwm(F:LUv)(e:z.length=n)(h:k<n):btI F z n k 0=btO F z n (k+1):=by unfold btI btO btP;rw[Xb,zaH ω];simp only[zai,Option.toList_some,XT,List.singleton_append];rw[show ∀a:Rat,a-0=a by grind]
theorem zzk(F:LUv)(j:Nat)(a:z.length=n)(h:k<n):(btI F z n k j)[k]? = some (btP F z n k j):=by have:=zk2 (z.take k) (zlK F n z (n-(k+1))) (btP F z n k j);rw[zdx a h]at this;exact this
theorem zwk(F:LUv){c:Nat}(j:Nat)(a:z.length=n)(h:k+1+c<n):(btI F z n k j)[k+1+c]? = some (el (zlK F n z (n-(k+1))) c):=by unfold btI;rw[ZJ (by rw[zdx a ω];omega),zdx a ω,show k+1+c-k=c+1 by omega,XH];grind[zaH,zmU]
theorem zzl(F:LUv)(j:Nat)(a:z.length=n)(h:k<n):(btI F z n k j).set k (btP F z n k j-en F.lo (k+1+j) k*el (zlK F n z (n-(k+1))) j)=btI F z n k (j+1):=by have:=zg6 (z.take k) (zlK F n z (n-(k+1))) (btP F z n k j) (btP F z n k j-en F.lo (k+1+j) k*el (zlK F n z (n-(k+1))) j);rw[zdx a h]at this;unfold btI;rw[this];congr 2;unfold btP;rw[zai];grind
theorem zwl(F:LUv)(a:z.length=n)(h:k<n):btI F z n k (n-(k+1))=btO F z n k:=by
 unfold btI btO
 congr 1
 rw[show n-k=(n-(k+1))+1 by omega];unfold btP;show _=(el z (n-(n-(k+1)+1))-zai (n-(k+1)) (λc=>en F.lo (n-(n-(k+1))+c) (n-(n-(k+1)+1))*el (zlK F n z (n-(k+1))) c))::zlK F n z (n-(k+1))
 rw[show n-(n-(k+1)+1)=k by omega,show n-(n-(k+1))=k+1 by omega]
