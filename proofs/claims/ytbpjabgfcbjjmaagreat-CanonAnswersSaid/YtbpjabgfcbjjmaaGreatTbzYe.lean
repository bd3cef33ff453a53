/- Contracts and lemmas: Tbz Zm Zr Zn. Conditions: as each says. -/
import Derived.Maps.AppendAt
import Derived.Test.YtbpjabgfcbjjmaaGreatRgFYe
set_option linter.all false
set_option maxHeartbeats 2000000
set_option maxRecDepth 100000
namespace Go.Proofs.YtbpjabgfcbjjmaaGreat
open Go.RowKit Am Go.Proofs.Tryz
variable {x:Int}{r xs ys:List Int}{l:List Value}{H N a b c k m n:Nat}{A:OA}{q:Rat}{t:TypeId}{g u v:Value}{w:World}
structure TabZ (w:World) (H:Nat) (v:Value) (l:List Value) (M:List (List Int)):Prop where
  len:l.length=M.length
  each:∀(k:Nat) (s:Value) (r:List Int),l[k]? = some s->M[k]? = some r->IntsZ w 0 s r
  own:w.ownsRow H 41 1 v M.length l
namespace TabZ
variable {w w':World} {H:Nat} {v:Value} {l:List Value} {M:List (List Int)}
theorem keepAll(h:TabZ w H v l M)(hk:∀k,v.ownBlock=some k->w'.heap[k]? = w.heap[k]?)(hr:∀s r,s∈l->IntsZ w 0 s r->IntsZ w' 0 s r):TabZ w' H v l M :=
 ⟨h.len,λk s r a b=>hr s r (Zz a) (h.each k s r a b),zc9 h.own hk⟩
theorem below(h:TabZ w H v l M)(a:Below w w w'):TabZ w' H v l M:=h.keepAll (λk hk=>a.block k (h.own.lt k hk).2) λ_ _ _ r=>r.below a
theorem alloc(h:TabZ w H v l M)(o:Obj):TabZ (w.alloc o) H v l M:=h.below (zae w o)
theorem drew(h:TabZ w H v l M):TabZ w.drew H v l M:=h.below (zap w 1)
theorem base(h:TabZ w H v l M)(b:a<=H):TabZ w a v l M:=⟨h.len,h.each,zbu h.own b⟩
theorem nil(w:World)(H:Nat):TabZ w H () [] []:=⟨rfl,λk s r h=>by simp at h,Xo _ _ _ _⟩
theorem tk{t:TypeId}(h:TabZ w H v l M)(hk:TKeep t w w')(h1:3≠t)(b:41≠t):TabZ w' H v l M :=
 h.keepAll (λk a=>hk k (h.own.lt k a).2 λcs e=>za6 h.own e b a) λ_ _ _ r=>r.tk hk h1
theorem form(h:TabZ w H (A,n,c) l M):n=M.length/\n<=c/\c<=maxLen/\((A=none/\c=0/\M=[])\/∃g,A=some ⟨g,0,none⟩/\H<=g/\g<w.heap.size):=by
 rcases h.own.2 with ⟨b,a⟩ | ⟨g,cap,cur,b,hg,d,a,hm,_⟩
 injection b with e1 e2 e3;subst e1 e2 e3;exact⟨a.symm,Za _,Zb _,.inl ⟨rfl,rfl,Xk.1 a⟩⟩;injection b with e1 e2 e3;subst e1 e2 e3;exact⟨rfl,a,hm,.inr ⟨g,rfl,hg,(ZS.1 d).1⟩⟩
theorem nlen(h:TabZ w H (A,n,c) l M):n=M.length:=h.form.1
theorem has(h:TabZ w H (A,n,c) l M)(e:0<n):∃g,A=some ⟨g,0,none⟩/\H<=g/\g<w.heap.size:=by obtain⟨h1,b,d,a | a⟩:=h.form;omega;exact a
theorem slice(h:TabZ w H v l M):∃A c,v=.slice A M.length c:=by
 rcases h.own.2 with ⟨a,b⟩ | ⟨g,cap,cur,a,_⟩
 exact⟨_,_,by rw[a,b]⟩;grind
theorem fro(h:TabZ w H (b,n,c) l M)(j:Nat):w.frozen? ⟨b,j,none⟩=false:=by have a:=h.nlen;subst a;exact h.own.frozenAt j
theorem get(h:TabZ w H v l M)(hk:M[k]? = some r):∃(A:OA) (c:Nat),l[k]? = some (A,r.length,c)/\IntsZ w 0 (A,r.length,c) r:=by
 have d:=(ZF.1 hk).1;obtain⟨s,b⟩:∃s,l[k]? = some s:=⟨l[k]'(by rw[h.len];exact d),Ze _⟩
 have a:=h.each k s r b hk;obtain⟨A,c,rfl⟩:=a.slice;grind
theorem at_(h:TabZ w H (b,n,c) l M)(hk:M[k]? = some r):∃(A:OA) (c:Nat),l[k]? = some (A,r.length,c)/\χ w b k (A,r.length,c)/\IntsZ w 0 (A,r.length,c) r:=by have d:=h.nlen;subst d;obtain⟨A,c',a,e⟩:=h.get hk;have f:=(ZF.1 hk).1;exact⟨A,c',a,by rw[h.own.cellAt _ ω];exact a,e⟩
end TabZ
theorem y4N:(prog.info? 41).map (λi=>(i.zero,i.size,i.bytes))=some (some (.slice none 0 0),1,24):=ξ
theorem y32:(prog.info? 36).map (λi=>(i.zero,i.size,i.bytes))=some (some (.agg #[.int .i64 0,.int .i64 0]),2,16):=ξ
theorem y4M:(prog.info? 37).map (λi=>(i.zero,i.size,i.bytes))=some (some (.slice none 0 0),1,24):=ξ
def News (w:World) (sz:Nat) (u:Value) (m:Nat) (news:List Value):Prop:=(u=()/\m=0/\news=[])\/∃(ad:Addr) (c:Nat),u=.slice (some ad) m c/\news.length=m*sz/\(∀j x,news[j]? = some x->w.cell? (ad.add j)=some x)/\∀x∈news,x.oneCell'=true
theorem y2l{o:Oper}{a:Act}{K:Act->World->Prop}{Q:Exit->Act->World->Prop}(s x:Operand){e:TypeId}{z:Value}(g:Nat)
  (B:o.op=.call { callee:=.builtin .append,args:=#[s,x],argTypes:=#[t,t] }) (D:prog.underlying t=some (.slice e)) (hi:(prog.info? e).map (λi=>(i.zero,i.size,i.bytes))=some (some z,b,g)) (W:z.cells.size=b) (U:0<b) (I:g<=56)
     {xs:List Value} (C:a.eval s=v) (f:w.ownsRow H e b v n xs)   {news:List Value} (E:a.eval x=u) (V:News w b u m news) (O:n+m<=1000000) (r:H<=w.heap.size)
  (y:∀d w',w'.ownsRow H e b d (n+m) (xs++news)->TKeep e w w'->Below H w w'->(∀j,j<w.heap.size->v.ownBlock≠some j->w'.heap[j]? = w.heap[j]?)->(d.ownBlock=v.ownBlock\/d.ownBlock=some w.heap.size)->K (a.put o.dst d) w'):Oper.wp prog o a w K Q:=by
 obtain⟨F,A,X,Y,Z⟩:=info_parts hi;rcases V with ⟨rfl,rfl,rfl⟩ | ⟨G,c,rfl,N,hc,h1⟩
 have q:=run_append_owned_none (P:=prog) (w:=w) H t o.type e F b D A v n xs f;exact Lib.wp_append_run w s x t t B v _ C E v w q (y v w (by rw[XS];exact f) (λ_ _ _=>rfl) (Zj _ _) (λ_ _ _=>rfl) (.inl rfl));have J:(n+m)*g<=140737488355328:=Zl (Xn O I) δ;obtain⟨d,w',q,T,p,_,S⟩:=run_append_own_at (P:=prog) w H t o.type e F z b g D A X Y Z W U v n xs f G m c news N hc h1 (by unfold maxLen;omega) J r;exact Lib.wp_append_run w s x t t B v _ C E d w' q (y d w' T (TKeep.grown f p) ((Zj _ _).grown p r (λk hk=>(f.lt k hk).1)) (λj hj R=>p.block j hj (λe=>R e.symm)) S)
theorem wpl{ops:Array Oper}{rest:List Oper}{o:Oper}{a:Act}{Q:Exit->Act->World->Prop}(e:o.guard=none){R:Value->World->Prop}(h:∀K:Act->World->Prop,(∀b w',R b w'->K (a.put o.dst b) w')->Oper.wp prog o a w K Q)(c:∀b w',R b w'->wpList prog ops Q rest (a.put o.dst b) w'):wpList prog ops Q (o::rest) a w :=
 by grind[wpList_plain]
theorem wps{ops:Array Oper}{o:Oper}{a:Act}{Q:Exit->Act->World->Prop}{E:Prop}{K:Act->World->Prop}(hg:o.guard=none){R:Value->World->Prop}(h:∀K:Act->World->Prop,(∀b w',R b w'->K (a.put o.dst b) w')->Oper.wp prog o a w K Q)(c:∀b w',R b w'->K (a.put o.dst b) w') :
  if Region.wanted o (yielded ops a.tmps)=true then Oper.wp prog o a w K Q else E:=by
 have hw:Region.wanted o (yielded ops a.tmps)=true:=by simp[Region.wanted,hg]
 rw[if_pos hw];exact h _ c
theorem y19(c:θ w b #[u] t)(d:u.oneCell'=true):News w 1 (.slice (some ⟨b,0,none⟩) 1 1) 1 [u]:=.inr ⟨_,_,rfl,rfl,zrj c,λx a=>ψ⟩
theorem y6k{p q:Int}(c:θ w b #[.int .i64 p,.int .i64 q] t):News w 2 (.slice (some ⟨b,0,none⟩) 1 1) 1 [.int .i64 p,.int .i64 q]:=by
 refine .inr ⟨_,_,rfl,rfl,λj x a=>?_,λx a=>?_⟩;rw[show(⟨b,0,none⟩:Addr).add j=⟨b,j,none⟩by unfold Addr.add;split<;>simp_all,zac c];rw[<-a];rcases j with _ | _ | j<;>simp
 simp at a;rcases a with rfl | rfl<;>rfl
theorem y3s(b o j:Nat):(⟨b,o,none⟩:Addr).add j=⟨b,o+j,none⟩:=by unfold Addr.add;split<;>simp_all
theorem IntsZ.news(h:IntsZ w H v ys):News w 1 v ys.length (zcells ys):=by obtain⟨A,c,rfl⟩:=h.slice;obtain⟨_,_,_,⟨rfl,rfl,rfl⟩ | ⟨g,rfl,_,_⟩⟩:=h.form;exact .inl ⟨rfl,rfl,rfl⟩;exact .inr ⟨_,_,rfl,by rw[zmo,Xy],λj u a=>h.own.cells (g:=g) rfl j u a,zsA ys⟩
theorem IntsZ.newsCut(h:IntsZ w H (b,n,c) ys)(lo hi:Nat)(h1:lo<=hi)(e:hi<=n):News w 1 (.slice (some ⟨b,lo,none⟩) (hi-lo) (c-lo)) (hi-lo) (zcells ((ys.take hi).drop lo)):=by
 have f:=h.len;refine .inr ⟨_,_,rfl,by rw[zmo,Xy,Yc,ZG];omega,λj u d=>?_,zsA _⟩;rw[y3s];simp only[zcells,Z2,Option.map_eq_some_iff]at d;obtain⟨x,a,rfl⟩:=d;have hj:lo+j<hi:=by have:=(ZF.1 a).1;rw[Yc,ZG]at this;omega
 rw[YT,List.getElem?_take_of_lt hj]at a;exact h.at_ a
theorem y1n{o:Oper}{a:Act}{Q:Exit->Act->World->Prop}(s x:Operand)(r:o.op=.call { callee:=.builtin .append,args:=#[s,x],argTypes:=#[41,41] })
     (t:a.eval s=v) (y:IntsZ w H v xs)    (z:a.eval x=u) (i:News w 1 u m (zcells ys))  (hN:xs.length+m=N) (q:N<=1000000) (n:H<=w.heap.size) (K:Act->World->Prop)
  (p:∀d w',(∃b c',d=.slice b N c'/\IntsZ w' H (.slice b N c') (xs++ys)/\TKeep 3 w w'/\Below H w w'/\(∀j,j<w.heap.size->v.ownBlock≠some j->w'.heap[j]? = w.heap[j]?)/\((Value.slice b N c').ownBlock=v.ownBlock\/(Value.slice b N c').ownBlock=some w.heap.size))->K (a.put o.dst d) w'):Oper.wp prog o a w K Q:=by
 subst hN;have hm:m=ys.length:=by
  rcases i with ⟨_,e,c⟩ | ⟨_,_,_,c,_⟩
  have:=congrArg List.length c;rw[zmo]at this;simp at this;rw[e,this];rfl;rw[zmo,Xy]at c;exact c.symm
 refine y2l s x 8 r underlying41 znF rfl δ δ t y.own z i q n λd w' h1 e c k g=>?_;have f:IntsZ w' H d (xs++ys):=⟨by rw[ZD,<-hm];simpa[zcells]using h1⟩
 obtain⟨b,c',rfl⟩:=f.slice;rw[ZD,<-hm]at f g ⊢;grind
theorem y1Q{o:Oper}{a:Act}{Q:Exit->Act->World->Prop}(s x:Operand)(G:o.op=.call { callee:=.builtin .append,args:=#[s,x],argTypes:=#[71,71] })
     {M:List (List Int)} (I:a.eval s=v) (f:TabZ w H v l M)  (O:a.eval x=.slice (some ⟨b,0,none⟩) 1 1)   (D:θ w b #[g] 41) (hr:IntsZ w 0 g r)
   (hN:M.length+1=N) (F:N<=1000000) (B:H<=w.heap.size) (K:Act->World->Prop)
  (C:∀i w',(∃d c',i=.slice d N c'/\TabZ w' H (.slice d N c') (l++[g]) (M++[r])/\TKeep 41 w w'/\Below H w w'/\(∀j,j<w.heap.size->v.ownBlock≠some j->w'.heap[j]? = w.heap[j]?)/\((Value.slice d N c').ownBlock=v.ownBlock\/(Value.slice d N c').ownBlock=some w.heap.size))->K (a.put o.dst i) w'):Oper.wp prog o a w K Q:=by
 subst hN;obtain⟨P,R,J⟩:=hr.slice;refine y2l s x 24 G underlying71 y4N rfl δ δ I f.own O (y19 D (by rw[J];rfl)) F B λi w' h1 m z A t=>?_
 have n:TabZ w' H i (l++[g]) (M++[r]):=by
  refine⟨by simp[f.len],λk q y c e=>?_,by rw[ZD];exact h1⟩;by_cases u:k<l.length;rw[Z1 u]at c;rw[Z1 (by rw[<-f.len];exact u)]at e;exact(f.each k q y c e).tk m δ;rw[ZJ ω]at c;rw[ZJ (by rw[<-f.len];omega),<-f.len]at e;obtain⟨p,E⟩:∃p,k-l.length=p:=⟨_,rfl⟩
  rw[E]at c e;cases p with
  | zero=>simp at c e;subst c e;exact hr.tk m δ
  | succ=>simp at c
 obtain⟨d,c',rfl⟩:=n.slice;rw[ZD]at n t ⊢;exact C _ _ ⟨d,c',rfl,n,m,z,A,t⟩
def fcells:List Rat->List Value
  | []=>[]
  | q::l=>.int .i64 q.num::.int .i64 (q.den:Int)::fcells l
theorem y2E:∀l:List Rat,(fcells l).length=l.length*2
 | []=>rfl
 | q::l=>by show(fcells l).length+2=(l.length+1)*2;rw[y2E l];omega
theorem y18:∀l m:List Rat,fcells (l++m)=fcells l++fcells m
 | [],_=>rfl
 | q::l,m=>by show _::_::fcells (l++m)=_;rw[y18 l m];rfl
theorem y20:∀ {l:List Rat} {k:Nat} {q:Rat},l[k]? = some q->(fcells l)[k*2]? = some (.int .i64 q.num)/\(fcells l)[k*2+1]? = some (.int .i64 (q.den:Int))
 | [],k,q,h=>by simp at h
 | p::l,0,q,h=>by simp at h;subst h;exact⟨rfl,rfl⟩
 | p::l,k+1,q,h=>by have:=y20 (l:=l) (k:=k) (q:=q) ψ;rw[show(k+1)*2=k*2+2 by omega];exact this
theorem y2F:∀(l:List Rat) (k:Nat) (q:Rat),fcells (l.set k q)=((fcells l).set (k*2) (.int .i64 q.num)).set (k*2+1) (q.den:Int)
 | [],k,q=>rfl
 | p::l,0,q=>rfl
 | p::l,k+1,q=>by
  rw[show(k+1)*2=k*2+2 by omega];show _::_::fcells (l.set k q)=_::_::_
  rw[y2F l k q]
structure FracsZ (w:World) (H:Nat) (v:Value) (qs:List Rat):Prop where
  own:w.ownsRow H 36 2 v qs.length (fcells qs)
namespace FracsZ
variable {w w':World} {H:Nat} {v:Value} {qs:List Rat}
theorem keep(h:FracsZ w H v qs)(hk:∀k,v.ownBlock=some k->w'.heap[k]? = w.heap[k]?):FracsZ w' H v qs:=⟨zc9 h.own hk⟩
theorem below(h:FracsZ w H v qs)(a:Below w w w'):FracsZ w' H v qs:=h.keep λk hk=>a.block k (h.own.lt k hk).2
theorem alloc(h:FracsZ w H v qs)(o:Obj):FracsZ (w.alloc o) H v qs:=h.below (zae w o)
theorem drew(h:FracsZ w H v qs):FracsZ w.drew H v qs:=h.below (zap w 1)
theorem base(h:FracsZ w H v qs)(b:a<=H):FracsZ w a v qs:=⟨zbu h.own b⟩
theorem nil(w:World)(H:Nat):FracsZ w H () []:=⟨Xo _ _ _ _⟩
theorem tk(h:FracsZ w H v qs)(hk:TKeep t w w')(h1:36≠t):FracsZ w' H v qs :=
 h.keep λk a=>hk k (h.own.lt k a).2 λcs e=>za6 h.own e h1 a
theorem form(h:FracsZ w H (A,n,c) qs):n=qs.length/\n<=c/\c<=maxLen/\((A=none/\c=0/\qs=[])\/∃g,A=some ⟨g,0,none⟩/\H<=g/\g<w.heap.size):=by
 rcases h.own.2 with ⟨b,a⟩ | ⟨g,cap,cur,b,hg,d,a,hm,_⟩
 injection b with e1 e2 e3;subst e1 e2 e3;exact⟨a.symm,Za _,Zb _,.inl ⟨rfl,rfl,Xk.1 a⟩⟩;injection b with e1 e2 e3;subst e1 e2 e3;exact⟨rfl,a,hm,.inr ⟨g,rfl,hg,(ZS.1 d).1⟩⟩
theorem len(h:FracsZ w H (A,n,c) qs):n=qs.length:=h.form.1
theorem has(h:FracsZ w H (A,n,c) qs)(e:0<n):∃g,A=some ⟨g,0,none⟩/\H<=g/\g<w.heap.size:=by obtain⟨h1,b,d,a | a⟩:=h.form;omega;exact a
theorem slice(h:FracsZ w H v qs):∃A c,v=.slice A qs.length c:=by
 rcases h.own.2 with ⟨a,b⟩ | ⟨g,cap,cur,a,_⟩
 exact⟨_,_,by rw[a,b]⟩;grind
theorem fro(h:FracsZ w H (b,n,c) qs)(j:Nat):w.frozen? ⟨b,j,none⟩=false:=by have a:=h.len;subst a;exact h.own.frozenAt j
theorem at_(h:FracsZ w H (b,n,c) qs)(hk:qs[k]? = some q):χ w b (k*2) (.int .i64 q.num)/\χ w b (k*2+1) (.int .i64 (q.den:Int)):=by have d:=h.len;subst d;have e:=(ZF.1 hk).1;obtain⟨h1,a⟩:=y20 hk;exact⟨by rw[h.own.cellAt _ ω];exact h1,by rw[h.own.cellAt _ ω];exact a⟩
theorem store(h:FracsZ w H (b,n,c) qs)(k:Nat)(q:Rat):FracsZ ((w.setCell ⟨b,k*2,none⟩ (.int .i64 q.num)).setCell ⟨b,k*2+1,none⟩ (q.den:Int)) H (b,n,c) (qs.set k q):=by have a:=h.len;subst a;refine⟨?_⟩;have:=((h.own.stored (k*2) (.int .i64 q.num)).1.stored (k*2+1) (q.den:Int)).1;rw[ZQ,y2F];exact this
end FracsZ
theorem IntsZ.store(h:IntsZ w H (b,n,c) xs)(k:Nat)(x:Int):IntsZ (w.setCell ⟨b,k,none⟩ (.int .i64 x)) H (b,n,c) (xs.set k x):=by have a:=h.len;subst a;refine⟨?_⟩;have:=(h.own.stored k (.int .i64 x)).1;rw[ZQ];simpa[zcells,Vd]using this
theorem y4B{o:Oper}{a:Act}{Q:Exit->Act->World->Prop}(s x:Operand)(n:o.op=.call { callee:=.builtin .append,args:=#[s,x],argTypes:=#[37,37] })
    {qs:List Rat} (p:a.eval s=v) (r:FracsZ w H v qs)  (t:a.eval x=.slice (some ⟨b,0,none⟩) 1 1)  (k:θ w b #[.int .i64 q.num,(q.den:Int)] 36)
   (hN:qs.length+1=N) (m:N<=1000000) (i:H<=w.heap.size) (K:Act->World->Prop)
  (j:∀d w',(∃c c',d=.slice c N c'/\FracsZ w' H (.slice c N c') (qs++[q])/\TKeep 36 w w'/\Below H w w')->K (a.put o.dst d) w'):Oper.wp prog o a w K Q:=by
 subst hN;refine y2l s x 16 n underlying37 y32 rfl δ δ p r.own t (y6k k) m i λd w' h1 f g u y=>?_;have e:FracsZ w' H d (qs++[q]):=⟨by rw[ZD,y18];exact h1⟩
 obtain⟨c,c',rfl⟩:=e.slice;rw[ZD]at e ⊢;exact j _ _ ⟨c,c',rfl,e,f,g⟩
structure PtsZ (w:World) (H:Nat) (v:Value) (l:List Value) (L:List (List Rat)):Prop where
  len:l.length=L.length
  each:∀(k:Nat) (s:Value) (r:List Rat),l[k]? = some s->L[k]? = some r->FracsZ w 0 s r
  own:w.ownsRow H 37 1 v L.length l
namespace PtsZ
variable {w w':World} {H:Nat} {v:Value} {l:List Value} {L:List (List Rat)}
theorem keepAll(h:PtsZ w H v l L)(hk:∀k,v.ownBlock=some k->w'.heap[k]? = w.heap[k]?)(hr:∀s r,s∈l->FracsZ w 0 s r->FracsZ w' 0 s r):PtsZ w' H v l L :=
 ⟨h.len,λk s r a b=>hr s r (Zz a) (h.each k s r a b),zc9 h.own hk⟩
theorem below(h:PtsZ w H v l L)(a:Below w w w'):PtsZ w' H v l L:=h.keepAll (λk hk=>a.block k (h.own.lt k hk).2) λ_ _ _ r=>r.below a
theorem alloc(h:PtsZ w H v l L)(o:Obj):PtsZ (w.alloc o) H v l L:=h.below (zae w o)
theorem drew(h:PtsZ w H v l L):PtsZ w.drew H v l L:=h.below (zap w 1)
theorem base(h:PtsZ w H v l L)(b:a<=H):PtsZ w a v l L:=⟨h.len,h.each,zbu h.own b⟩
theorem nil(w:World)(H:Nat):PtsZ w H () [] []:=⟨rfl,λk s r h=>by simp at h,Xo _ _ _ _⟩
theorem tk{t:TypeId}(h:PtsZ w H v l L)(hk:TKeep t w w')(h1:36≠t)(b:37≠t):PtsZ w' H v l L :=
 h.keepAll (λk a=>hk k (h.own.lt k a).2 λcs e=>za6 h.own e b a) λ_ _ _ r=>r.tk hk h1
theorem form(h:PtsZ w H (A,n,c) l L):n=L.length/\n<=c/\c<=maxLen/\((A=none/\c=0/\L=[])\/∃g,A=some ⟨g,0,none⟩/\H<=g/\g<w.heap.size):=by
 rcases h.own.2 with ⟨b,a⟩ | ⟨g,cap,cur,b,hg,d,a,hm,_⟩
 injection b with e1 e2 e3;subst e1 e2 e3;exact⟨a.symm,Za _,Zb _,.inl ⟨rfl,rfl,Xk.1 a⟩⟩;injection b with e1 e2 e3;subst e1 e2 e3;exact⟨rfl,a,hm,.inr ⟨g,rfl,hg,(ZS.1 d).1⟩⟩
theorem nlen(h:PtsZ w H (A,n,c) l L):n=L.length:=h.form.1
theorem has(h:PtsZ w H (A,n,c) l L)(e:0<n):∃g,A=some ⟨g,0,none⟩/\H<=g/\g<w.heap.size:=by obtain⟨h1,b,d,a | a⟩:=h.form;omega;exact a
theorem slice(h:PtsZ w H v l L):∃A c,v=.slice A L.length c:=by
 rcases h.own.2 with ⟨a,b⟩ | ⟨g,cap,cur,a,_⟩
 exact⟨_,_,by rw[a,b]⟩;grind
theorem at_(h:PtsZ w H (b,n,c) l L){r:List Rat}(hk:L[k]? = some r):∃(A:OA) (c:Nat),l[k]? = some (A,r.length,c)/\χ w b k (A,r.length,c)/\FracsZ w 0 (A,r.length,c) r:=by
 have f:=h.nlen;subst f;have e:=(ZF.1 hk).1;obtain⟨s,a⟩:∃s,l[k]? = some s:=⟨l[k]'(by rw[h.len];exact e),Ze _⟩
 have d:=h.each k s r a hk;obtain⟨A,c,rfl⟩:=d.slice;exact⟨A,c,a,by rw[h.own.cellAt _ ω];exact a,d⟩
end PtsZ
theorem y5l{o:Oper}{a:Act}{Q:Exit->Act->World->Prop}(s x:Operand)(D:o.op=.call { callee:=.builtin .append,args:=#[s,x],argTypes:=#[102,102] })
     {M:List (List Rat)} (E:a.eval s=v) (e:PtsZ w H v l M)  (G:a.eval x=.slice (some ⟨b,0,none⟩) 1 1)  {r:List Rat} (A:θ w b #[g] 37) (hr:FracsZ w 0 g r)
   (hN:M.length+1=N) (C:N<=1000000) (u:H<=w.heap.size) (K:Act->World->Prop)
  (z:∀i w',(∃f c',i=.slice f N c'/\PtsZ w' H (.slice f N c') (l++[g]) (M++[r])/\TKeep 37 w w'/\Below H w w')->K (a.put o.dst i) w'):Oper.wp prog o a w K Q:=by
 subst hN;obtain⟨I,J,F⟩:=hr.slice;refine y2l s x 24 D underlying102 y4M rfl δ δ E e.own G (y19 A (by rw[F];rfl)) C u λi w' h1 j t O P=>?_
 have m:PtsZ w' H i (l++[g]) (M++[r]):=by
  refine⟨by simp[e.len],λk q y c d=>?_,by rw[ZD];exact h1⟩;by_cases p:k<l.length;rw[Z1 p]at c;rw[Z1 (by rw[<-e.len];exact p)]at d;exact(e.each k q y c d).tk j δ;rw[ZJ ω]at c;rw[ZJ (by rw[<-e.len];omega),<-e.len]at d;obtain⟨n,B⟩:∃n,k-l.length=n:=⟨_,rfl⟩
  rw[B]at c d;cases n with
  | zero=>simp at c d;subst c d;exact hr.tk j δ
  | succ=>simp at c
 obtain⟨f,c',rfl⟩:=m.slice;rw[ZD]at m ⊢;exact z _ _ ⟨f,c',rfl,m,j,t⟩
theorem y33:(prog.info? 85).map (λi=>(i.zero,i.size,i.bytes))=some (some (.agg #[(),.int .i64 0,.int .i64 0]),3,40):=ξ
def rcz:List Value->List ZRow->List Value
  | s::l,r::rs=>s::.int .i64 r.kind::.int .i64 r.rhs::rcz l rs
  | _,_=>[]
theorem y5h:∀ {l:List Value} {rs:List ZRow} {k:Nat} {s:Value} {r:ZRow},l[k]? = some s->rs[k]? = some r->(rcz l rs)[k*3]? = some s/\(rcz l rs)[k*3+1]? = some (.int .i64 r.kind)/\(rcz l rs)[k*3+2]? = some (.int .i64 r.rhs)
 | [],_,k,_,_,h,_=>by simp at h
 | _::_,[],k,_,_,_,h=>by simp at h
 | a::l,b::rs,0,s,r,h1,h2=>by simp at h1 h2;subst h1 h2;exact⟨rfl,rfl,rfl⟩
 | a::l,b::rs,k+1,s,r,h1,h2=>by have:=y5h (l:=l) (rs:=rs) (k:=k) (s:=s) (r:=r) ψ (by simpa using h2);rw[show(k+1)*3=k*3+3 by omega];exact this
theorem y2I:∀ {l:List Value} {rs:List ZRow} (s:Value) (r:ZRow),l.length=rs.length->rcz (l++[s]) (rs++[r])=rcz l rs++[s,.int .i64 r.kind,.int .i64 r.rhs]
 | [],[],s,r,_=>rfl
 | a::l,b::rs,s,r,h=>by
  show a::_::_::rcz (l++[s]) (rs++[r])=_
  rw[y2I s r (by simpa using h)];rfl
 | [],b::rs,_,_,h=>by simp at h
 | a::l,[],_,_,h=>by simp at h
structure ZRows (w:World) (H:Nat) (v:Value) (l:List Value) (rs:List ZRow):Prop where
  len:l.length=rs.length
  each:∀(k:Nat) (s:Value) (r:ZRow),l[k]? = some s->rs[k]? = some r->IntsZ w 0 s r.coef
  own:w.ownsRow H 85 3 v rs.length (rcz l rs)
namespace ZRows
variable {w w':World} {H:Nat} {v:Value} {l:List Value} {rs:List ZRow}
theorem keepAll(h:ZRows w H v l rs)(hk:∀k,v.ownBlock=some k->w'.heap[k]? = w.heap[k]?)(hr:∀s r,s∈l->IntsZ w 0 s r->IntsZ w' 0 s r):ZRows w' H v l rs :=
 ⟨h.len,λk s r a b=>hr s r.coef (Zz a) (h.each k s r a b),zc9 h.own hk⟩
theorem below(h:ZRows w H v l rs)(a:Below w w w'):ZRows w' H v l rs:=h.keepAll (λk hk=>a.block k (h.own.lt k hk).2) λ_ _ _ r=>r.below a
theorem alloc(h:ZRows w H v l rs)(o:Obj):ZRows (w.alloc o) H v l rs:=h.below (zae w o)
theorem drew(h:ZRows w H v l rs):ZRows w.drew H v l rs:=h.below (zap w 1)
theorem base(h:ZRows w H v l rs)(b:a<=H):ZRows w a v l rs:=⟨h.len,h.each,zbu h.own b⟩
theorem nil(w:World)(H:Nat):ZRows w H () [] []:=⟨rfl,λk s r h=>by simp at h,Xo _ _ _ _⟩
theorem tk{t:TypeId}(h:ZRows w H v l rs)(hk:TKeep t w w')(h1:3≠t)(b:85≠t):ZRows w' H v l rs :=
 h.keepAll (λk a=>hk k (h.own.lt k a).2 λcs e=>za6 h.own e b a) λ_ _ _ r=>r.tk hk h1
theorem form(h:ZRows w H (A,n,c) l rs):n=rs.length/\n<=c/\c<=maxLen/\((A=none/\c=0/\rs=[])\/∃g,A=some ⟨g,0,none⟩/\H<=g/\g<w.heap.size):=by
 rcases h.own.2 with ⟨b,a⟩ | ⟨g,cap,cur,b,hg,d,a,hm,_⟩
 injection b with e1 e2 e3;subst e1 e2 e3;exact⟨a.symm,Za _,Zb _,.inl ⟨rfl,rfl,Xk.1 a⟩⟩;injection b with e1 e2 e3;subst e1 e2 e3;exact⟨rfl,a,hm,.inr ⟨g,rfl,hg,(ZS.1 d).1⟩⟩
theorem nlen(h:ZRows w H (A,n,c) l rs):n=rs.length:=h.form.1
theorem has(h:ZRows w H (A,n,c) l rs)(e:0<n):∃g,A=some ⟨g,0,none⟩/\H<=g/\g<w.heap.size:=by obtain⟨h1,b,d,a | a⟩:=h.form;omega;exact a
theorem slice(h:ZRows w H v l rs):∃A c,v=.slice A rs.length c:=by
 rcases h.own.2 with ⟨a,b⟩ | ⟨g,cap,cur,a,_⟩
 exact⟨_,_,by rw[a,b]⟩;grind
theorem fro(h:ZRows w H (b,n,c) l rs)(j:Nat):w.frozen? ⟨b,j,none⟩=false:=by have a:=h.nlen;subst a;exact h.own.frozenAt j
theorem at_(h:ZRows w H (b,n,c) l rs){r:ZRow}(hk:rs[k]? = some r):∃(A:OA) (c:Nat),l[k]? = some (A,r.coef.length,c)/\χ w b (k*3) (A,r.coef.length,c)/\χ w b (k*3+1) (.int .i64 r.kind)/\χ w b (k*3+2) (.int .i64 r.rhs)/\IntsZ w 0 (A,r.coef.length,c) r.coef:=by
 have j:=h.nlen;subst j;have i:=(ZF.1 hk).1;obtain⟨s,a⟩:∃s,l[k]? = some s:=⟨l[k]'(by rw[h.len];exact i),Ze _⟩
 have d:=h.each k s r a hk;obtain⟨A,c,rfl⟩:=d.slice;obtain⟨e,f,g⟩:=y5h a hk;exact⟨A,c,a,by rw[h.own.cellAt _ ω];exact e,by rw[h.own.cellAt _ ω];exact f,by rw[h.own.cellAt _ ω];exact g,d⟩
end ZRows
theorem y4C{o:Oper}{a:Act}{Q:Exit->Act->World->Prop}(s x:Operand)(F:o.op=.call { callee:=.builtin .append,args:=#[s,x],argTypes:=#[42,42] })
     {rs:List ZRow} (G:a.eval s=v) (d:ZRows w H v l rs)  (f:a.eval x=.slice (some ⟨b,0,none⟩) 1 1)  {r:ZRow} (C:θ w b #[g,.int .i64 r.kind,.int .i64 r.rhs] 85) (hr:IntsZ w 0 g r.coef)
   (hN:rs.length+1=N) (E:N<=1000000) (A:H<=w.heap.size) (K:Act->World->Prop)
  (B:∀m w',(∃i c',m=.slice i N c'/\ZRows w' H (.slice i N c') (l++[g]) (rs++[r])/\TKeep 85 w w'/\Below H w w')->K (a.put o.dst m) w'):Oper.wp prog o a w K Q:=by
 subst hN;obtain⟨O,P,I⟩:=hr.slice;have J:News w 3 (.slice (some ⟨b,0,none⟩) 1 1) 1 [g,.int .i64 r.kind,.int .i64 r.rhs]:=by
  refine .inr ⟨_,_,rfl,rfl,λj x f=>?_,λx f=>?_⟩;rw[y3s,zac C,Z6,<-f];rcases j with _ | _ | _ | j<;>simp
  simp at f;rcases f with rfl | rfl | rfl;rw[I];rfl;rfl;rfl
 refine y2l s x 40 F underlying42 y33 rfl δ δ G d.own f J E A λm w' h1 n z R S=>?_
 have p:ZRows w' H m (l++[g]) (rs++[r]):=by
  refine⟨by simp[d.len],λk q y c e=>?_,by rw[ZD,y2I _ _ d.len];exact h1⟩;by_cases u:k<l.length;rw[Z1 u]at c;rw[Z1 (by rw[<-d.len];exact u)]at e;exact(d.each k q y c e).tk n δ;rw[ZJ ω]at c;rw[ZJ (by rw[<-d.len];omega),<-d.len]at e;obtain⟨t,D⟩:∃t,k-l.length=t:=⟨_,rfl⟩
  rw[D]at c e;cases t with
  | zero=>simp at c e;subst c e;exact hr.tk n δ
  | succ=>simp at c
 obtain⟨i,c',rfl⟩:=p.slice;rw[ZD]at p ⊢;exact B _ _ ⟨i,c',rfl,p,n,z⟩
open Dz (newG Fz y28)
attribute [local go_sem ↓] Go.wp_at_zero Go.wp_at_succ
def y5M (w:World) (q:Rat) (e:Ending) (w':World):Prop:=e=.returned (.agg #[.int .i64 q.num,(q.den:Int)])/\Below w w w'
theorem y1v(h:x.natAbs<=4611686018427387904):IntKind.i64.wrap x=x:=by unfold IntKind.wrap IntKind.signed IntKind.bits;simp;omega
theorem y11{y:Int}(a:x.natAbs<=100000000)(b:y.natAbs<=100000000):(x*y).natAbs<=10000000000000000:=by rw[XZ];exact Zl (Xn a b) δ
theorem y2w{d:Nat}(h:d<=100000000):(d:Int).natAbs<=100000000:=ω
namespace Zr
theorem y6p(x:Int)(w:World)(h:x.natAbs<=4611686018427387904):Calls prog 179 #[.int .i64 x] w λe w'=>e=.returned (x.natAbs:Int)/\w'=w:=by
 by_cases b:x<0
 ·have a:(x.natAbs:Int) = -x:=ω
  go_enter func179,ntmps179;go_wp2;go_ret;exact⟨by first | rfl | (rw[a];rfl),rfl⟩
 have a:(x.natAbs:Int)=x:=ω;go_enter func179,ntmps179;go_wp2;go_ret;exact⟨by first | rfl | (rw[a];rfl),rfl⟩
theorem y6j(p d:Int)(w:World)(m:p.natAbs<=4611686018427387904)(n:d.natAbs<=4611686018427387904)(u:d≠0):Calls prog 154 #[.int .i64 p,.int .i64 d] w (y5M w (Rat.divInt p d)):=by
 refine μ3 m n u λG I g=>?_;clear u;obtain⟨W,k⟩:∃W,(w.alloc (.cells #[.int .i64 0,.int .i64 0] 36))=W:=⟨_,rfl⟩
 have J:=un (show θ W w.heap.size #[.int .i64 0,.int .i64 0] 36by rw[<-k];exact zam σ);have o:=un (show Below w w W by rw[<-k];exact zae w _);obtain⟨C,E,ag,ae,D,B,ah,af⟩:=bf2 J.o;go_enter func154,ntmps154;go_wp2_with fail
 clear k;refine(y6p p _ m).mono ?_;rintro e w1 ⟨rfl,rfl⟩;go_wp2_with fail
 refine(y6p d _ n).mono ?_;rintro e w1 ⟨rfl,rfl⟩;clear m n;have i:=un (show p.natAbs<=4611686018427387904/\d.natAbs<=4611686018427387904 from⟨G.o,I.o⟩);generalize hpn:p.natAbs=pn at *
 generalize hdn:d.natAbs=dn at *
 have s:=un hpn;have r:=un hdn;clear hpn hdn;go_wp2_with fail
 go_loopw [5,6] (λN j wr=>∃x y:Nat,N=.int .i64 x/\j=.int .i64 y/\wr=w1/\Nat.gcd x y=Nat.gcd pn dn/\x<=4611686018427387904/\y<=4611686018427387904)
  (λ_ j _=>(intOf j).toNat)
 case atStart=>exact⟨pn,dn,rfl,rfl,rfl,rfl,i.o.1,i.o.2⟩
 obtain⟨x,y,rfl,rfl,rfl,hg,hx,Q⟩:=hrel;by_cases A:y=0
 ·subst A;have t:(x:Int)=(Int.gcd p d:Int):=by unfold Int.gcd;rw[s.o,r.o,<-hg,Nat.gcd_zero_right]
  have a:=Dz.newG_ne (p:=p) g.o;have f:=Dz.new_num (p:=p) g.o;have c:=Dz.new_den (p:=p) g.o;have O:=Dz.frac_abs (p:=p) g.o;have Y:IntKind.i64.wrap (Rat.divInt p d).num=(Rat.divInt p d).num:=y1v (by have:=s.o;have:=i.o.1;omega);have Z:IntKind.i64.wrap ((Rat.divInt p d).den:Int)=((Rat.divInt p d).den:Int):=y1v (by have:=r.o;have:=i.o.2;omega);clear O;unfold Dz.newG at a f c;rw[<-t]at a f c;generalize Rat.divInt p d=q at *
  clear hg Q t;have ab : -9223372036854775808<=(x:Int)/\(x:Int)<=9223372036854775807:=ω;have T:=un f;have R:=un c;by_cases z:d<0
  ·simp only[z,if_true]at a f c;have P : -(x:Int)≠0:=a;go_upto_region 9 with fail
   refine zaS (S:=λw'=>True) [7] (hS:=trivial) (h:=λhHeld=>?_);refine zaw [0,1,2,3,4,5,6] ?_;repeat refine tkL (hS:=hHeld) (h:=?_)
   refine zao ?_;refine zay 7 (h:=λK b=>?_);go_simp;refine shutOff b ?_;clear b K;refine zaM (h:=?_);go_wp2;refine Zh (v:=.agg #[.int .i64 q.num,(q.den:Int)]) (by simp[results,results154,go_sem,C,E,D,B]) rfl ?_;exact⟨rfl,bdrew (bsc (bsc o.o))⟩
  simp only[z,if_false]at a f c;have P:(x:Int)≠0:=a;have X:¬x=0:=ω;go_upto_region 9 with fail
  refine zaS (S:=λw'=>True) [7] (hS:=trivial) (h:=λhHeld=>?_);refine zaw [0,1,2,3,4,5,6] ?_;repeat refine tkL (hS:=hHeld) (h:=?_)
  refine zao ?_;refine zay 7 (h:=λK b=>?_);go_simp;refine shutOff b ?_;clear b K;refine zaM (h:=?_);go_wp2;refine Zh (v:=.agg #[.int .i64 q.num,(q.den:Int)]) (by simp[results,results154,go_sem,C,E,D,B]) rfl ?_;exact⟨rfl,bdrew (bsc (bsc o.o))⟩
 have V:(x:Int).tmod (y:Int)=((x%y:Nat):Int):=rfl;have U:=ZW x (X9 A);have ac:(0:Int)<(y:Int):=ω;have ad:(y:Int)≠0:=ω;have F:=un (show Nat.gcd y (x%y)=Nat.gcd pn dn by rw[<-hg,YY x y,Nat.gcd_rec y x,YY]);clear hg;go_wp2;go_roundw
 case rel=>exact⟨y,x%y,rfl,by go_num,trivial,F.o,ω,ω⟩
 case measure=>simp[intOf];omega
theorem y6r(a b:Rat)(w:World)(f:Fz a)(c:Fz b):Calls prog 106 #[.agg #[.int .i64 a.num,(a.den:Int)],.agg #[.int .i64 b.num,(b.den:Int)]] w (y5M w (a+b)):=by
 have h1:=y11 f.1 (y2w c.2);have o:=y11 c.1 (y2w f.2);have q:=y11 (y2w f.2) (y2w c.2);have r:=y11 f.1 c.1;have n:=Int.mul_ne_zero (Int.natCast_ne_zero.2 a.den_nz) (Int.natCast_ne_zero.2 b.den_nz);have w1:IntKind.i64.wrap (a.num*(b.den:Int))=a.num*b.den:=y1v ω;have C:IntKind.i64.wrap (b.num*(a.den:Int))=b.num*a.den:=y1v ω;have D:IntKind.i64.wrap ((a.den:Int)*(b.den:Int))=(a.den:Int)*b.den:=y1v ω;have E:IntKind.i64.wrap (a.num*(b.den:Int)+b.num*a.den)=a.num*b.den+b.num*a.den:=y1v ω;have i:=un (fun(w:World)=>y6j (a.num*b.den+b.num*a.den) (a.den*b.den) w ω ω n);rw[Dz.add_new]at i;clear h1 o q r n f c;obtain⟨W,d⟩:∃W,(((w.alloc (.cells #[.int .i64 a.num,(a.den:Int)] 36)).alloc (.cells #[.int .i64 b.num,(b.den:Int)] 36)).alloc (.cells #[.int .i64 0,.int .i64 0] 36))=W:=⟨_,rfl⟩
 refine μ4 (show θ W w.heap.size #[.int .i64 a.num,(a.den:Int)] 36by rw[<-d];exact zak (zak (zam σ))) (show θ W (w.heap.size+1) #[.int .i64 b.num,(b.den:Int)] 36by rw[<-d];exact zak (zam σ)) (show θ W (w.heap.size+1+1) #[.int .i64 0,.int .i64 0] 36by rw[<-d];exact zam σ) (show Below w w W by rw[<-d];exact((zae w _).alloc σ _).alloc (by simp;omega) _) λj k m g=>?_;obtain⟨K,R,N,G⟩:=bc2 j.o;obtain⟨V,T,S,Y⟩:=bc2 k.o;obtain⟨aj,ae,ag,Z,ak,af,ai,ab⟩:=bf2 m.o;go_enter func106,ntmps106;go_wp2_with fail
 clear d;with_reducible refine(i.o _).mono ?_
 rintro e w1 ⟨rfl,c⟩;refine μ4 (zad c j.o) (zad c k.o) (zad c m.o) (g.o.trans ((c).mono g.o.size)) λu s z t=>?_;obtain⟨I,P,J,Q⟩:=bc2 u.o;obtain⟨U,O,X,F⟩:=bc2 s.o;obtain⟨A,x,ah,aa,B,y,ad,ac⟩:=bf2 z.o;clear c;go_wp2;refine Zh (v:=.agg #[.int .i64 (a+b).num,((a+b).den:Int)]) (by simp[results,results106,go_sem,A,x,B,y]) rfl ?_;exact⟨rfl,bsc (bsc t.o)⟩
theorem y6t(a b:Rat)(w:World)(f:Fz a)(c:Fz b):Calls prog 107 #[.agg #[.int .i64 a.num,(a.den:Int)],.agg #[.int .i64 b.num,(b.den:Int)]] w (y5M w (a*b)):=by
 have h1:=y11 f.1 (y2w c.2);have o:=y11 c.1 (y2w f.2);have q:=y11 (y2w f.2) (y2w c.2);have r:=y11 f.1 c.1;have n:=Int.mul_ne_zero (Int.natCast_ne_zero.2 a.den_nz) (Int.natCast_ne_zero.2 b.den_nz);have w1:IntKind.i64.wrap (a.num*b.num)=a.num*b.num:=y1v ω;have C:IntKind.i64.wrap ((a.den:Int)*(b.den:Int))=(a.den:Int)*b.den:=y1v ω;have i:=un (fun(w:World)=>y6j (a.num*b.num) (a.den*b.den) w ω ω n);rw[Dz.mul_new]at i;clear h1 o q r n f c;obtain⟨W,d⟩:∃W,(((w.alloc (.cells #[.int .i64 a.num,(a.den:Int)] 36)).alloc (.cells #[.int .i64 b.num,(b.den:Int)] 36)).alloc (.cells #[.int .i64 0,.int .i64 0] 36))=W:=⟨_,rfl⟩
 refine μ4 (show θ W w.heap.size #[.int .i64 a.num,(a.den:Int)] 36by rw[<-d];exact zak (zak (zam σ))) (show θ W (w.heap.size+1) #[.int .i64 b.num,(b.den:Int)] 36by rw[<-d];exact zak (zam σ)) (show θ W (w.heap.size+1+1) #[.int .i64 0,.int .i64 0] 36by rw[<-d];exact zam σ) (show Below w w W by rw[<-d];exact((zae w _).alloc σ _).alloc (by simp;omega) _) λj k m g=>?_;obtain⟨I,P,J,E⟩:=bc2 j.o;obtain⟨T,R,Q,V⟩:=bc2 k.o;obtain⟨ah,ac,ae,X,ai,ad,ag,Z⟩:=bf2 m.o;go_enter func107,ntmps107;go_wp2_with fail
 clear d;with_reducible refine(i.o _).mono ?_
 rintro e w1 ⟨rfl,c⟩;refine μ4 (zad c j.o) (zad c k.o) (zad c m.o) (g.o.trans ((c).mono g.o.size)) λu s z t=>?_;obtain⟨F,N,G,O⟩:=bc2 u.o;obtain⟨S,K,U,D⟩:=bc2 s.o;obtain⟨A,x,af,Y,B,y,ab,aa⟩:=bf2 z.o;clear c;go_wp2;refine Zh (v:=.agg #[.int .i64 (a*b).num,((a*b).den:Int)]) (by simp[results,results107,go_sem,A,x,B,y]) rfl ?_;exact⟨rfl,bsc (bsc t.o)⟩
theorem y5P(a b:Rat)(w:World)(m:Fz a)(n:Fz b):Calls prog 105 #[.agg #[.int .i64 a.num,(a.den:Int)],.agg #[.int .i64 b.num,(b.den:Int)]] w λe w'=>e=.returned (.int .i64 (y28 a b))/\Below w w w':=by
 have h1:=y11 m.1 (y2w n.2);have k:=y11 n.1 (y2w m.2);have w1:IntKind.i64.wrap (a.num*(b.den:Int))=a.num*b.den:=y1v ω;have s:IntKind.i64.wrap (b.num*(a.den:Int))=b.num*a.den:=y1v ω;have t:IntKind.i64.wrap (a.num*(b.den:Int)-b.num*a.den)=a.num*b.den-b.num*a.den:=y1v ω;have hc:=Dz.cmp_new a b
 have g:=un (show(a.num*b.den-b.num*a.den<0/\y28 a b = -1)\/(¬(a.num*b.den-b.num*a.den<0)/\0<a.num*b.den-b.num*a.den/\y28 a b=1)\/(¬(a.num*b.den-b.num*a.den<0)/\¬(0<a.num*b.den-b.num*a.den)/\y28 a b=0)from by
  unfold y28;by_cases h:a<b;left;rw[if_pos h];exact⟨hc.1.2 h,rfl⟩;right;rw[if_neg h];have o:¬(a.num*b.den-b.num*a.den<0):=λq=>h (hc.1.1 q)
  by_cases i:b<a;left;rw[if_pos i];exact⟨o,hc.2.2 i,rfl⟩;right;rw[if_neg i];exact⟨o,λq=>i (hc.2.1 q),rfl⟩)
 clear h1 k m n hc;obtain⟨W,f⟩:∃W,((w.alloc (.cells #[.int .i64 a.num,(a.den:Int)] 36)).alloc (.cells #[.int .i64 b.num,(b.den:Int)] 36))=W:=⟨_,rfl⟩
 refine μ4 (show θ W w.heap.size #[.int .i64 a.num,(a.den:Int)] 36by rw[<-f];exact zak (zam σ)) (show θ W (w.heap.size+1) #[.int .i64 b.num,(b.den:Int)] 36by rw[<-f];exact zam σ) (show Below w w W by rw[<-f];exact(zae w _).alloc σ _) (show w.heap.size+2<=W.heap.size by rw[<-f];simp) λp r j d=>?_;obtain⟨x,A,y,u⟩:=bc2 p.o;obtain⟨D,C,B,E⟩:=bc2 r.o;go_enter func105,ntmps105;go_upto_region 2 with fail
 clear f;rcases g.o with ⟨h1,c⟩ | ⟨h1,k,c⟩ | ⟨h1,k,c⟩
 ·have d:=un c;generalize a.num*(b.den:Int)-b.num*a.den=z at *
  clear c g;go_wp2;go_ret;exact⟨by rw[d.o];rfl,j.o⟩
 ·have d:=un c;generalize a.num*(b.den:Int)-b.num*a.den=z at *
  clear c g;go_wp2;go_ret;exact⟨by rw[d.o];rfl,j.o⟩
 have d:=un c;generalize a.num*(b.den:Int)-b.num*a.den=z at *
 clear c g;go_wp2;go_ret;exact⟨by rw[d.o];rfl,j.o⟩
