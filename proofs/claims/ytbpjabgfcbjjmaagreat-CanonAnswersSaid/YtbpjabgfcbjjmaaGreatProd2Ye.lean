/- Contracts and lemmas: Prod2 Prod3 Prod4 Quot1. Conditions: as each says. -/
import Derived.Test.YtbpjabgfcbjjmaaGreatNat5Ye
import Derived.Test.YtbpjabgfcbjjmaaGreatNat3Ye
import Derived.Deep.DeepCutAuto
set_option linter.all false
set_option maxHeartbeats 10000000
set_option maxRecDepth 100000
namespace Go.Proofs.YtbpjabgfcbjjmaaGreat
open Go.RowKit Am Tryz
attribute [local go_sem ↓] Go.wp_at_zero Go.wp_at_succ
variable {xs:List Nat}{c g k:Nat}{s:Value}{w:World}
def zpo (w:World) (x y:Nat) (e:Ending) (w':World):Prop:=∃(A:OA) (m c:Nat) (B:OA) (m' c':Nat),e=.returned (.tuple #[.agg #[(A,m,c)],.agg #[(B,m',c')]])/\zas w' (A,m,c) x/\zas w' (B,m',c') y/\Below w w w'
namespace Pr
theorem zxA(W:World)(g n c k:Nat)(h1:k<=n) :
  (Instr.slice 56 (g,n,c) (some (.int .i64 (k:Int))) none none).run prog W=.ok (.slice (some ⟨g,if c=k then 0 else k,none⟩) (n-k) (c-k)) W:=by
 have d:prog.underlying 56=some (.slice (prog.elem 56)):=by simp[Program.elem,underlying56]
 have b:prog.elem 56=206:=by simp[Program.elem,underlying56]
 rw[run_slice_l W 56 _ _ _ d .i64 _ ω ω,b];by_cases h0:c=k;simp[Result.andThen,sliced,h0];by_cases a:k=0;subst a;simp[Result.andThen,sliced,Addr.add,h0];simp[Result.andThen,sliced,Addr.add,h0,a]
theorem run_upto(W:World)(g n c k:Nat)(h1:k<=c)(d:0<c) :
  (Instr.slice 56 (g,n,c) none (some (.int .i64 (k:Int))) none).run prog W=.ok (g,k,c) W:=by
 have b:prog.underlying 56=some (.slice (prog.elem 56)):=by simp[Program.elem,underlying56]
 have a:prog.elem 56=206:=by simp[Program.elem,underlying56]
 rw[run_slice_h W 56 _ _ _ b .i64 _ ω ω,a];have h0:c≠0:=ω;simp[Result.andThen,sliced,Addr.add,h0]
theorem znN(hw:Wds xs)(k:Nat):nval (xs.take k)=nval xs%B64^k/\nval (xs.drop k)=nval xs/B64^k:=by by_cases hk:k<=xs.length;have e:=zaY xs k hk;have h1:=zc8 (xs.take k) (λx b=>hw x (Yh b));rw[ZG,Xx hk]at h1;have a:0<B64^k:=Z0 δ;rw[e,YP,Yl h1,YQ _ _ a,Yt h1];omega;have h1:=zc8 xs hw;have c:B64^xs.length<=B64^k:=Xm δ ω;rw[ZZ ω,XG ω,Yl ω,Yt ω];exact⟨rfl,rfl⟩
theorem zv6(hw:Wds xs)(k:Nat):Wds (xs.take k):=λx a=>hw x (Yh a)
theorem zv5(hw:Wds xs)(k:Nat):Wds (xs.drop k):=λx a=>hw x (Vi a)
theorem zBn(h:SW w (g,xs.length,c) xs)(hk:k<=xs.length):SR w (g,k,c) (xs.take k):=by obtain⟨A,c',e,h1,b,d,m,f⟩:=h.reads;cases e;refine⟨some ⟨g,0,none⟩,c,by rw[ZG,Xx hk],by rw[ZG];omega,b,zv6 d k,nofun,λl i j u a=>?_⟩;grind[zg7,List.getElem?_take_of_lt,List.getElem?_take_eq_none]
theorem zBm(h:SW w (g,xs.length,c) xs)(hk:k<=xs.length):SR w (.slice (some ⟨g,if c=k then 0 else k,none⟩) (xs.length-k) (c-k)) (xs.drop k):=by
 obtain⟨A,c',e,h1,m,d,n,f⟩:=h.reads;cases e;refine⟨some ⟨g,if c=k then 0 else k,none⟩,c-k,by rw[Yc],by rw[Yc];omega,ω,zv5 d k,nofun,λl i j u a=>?_⟩;cases i;have b:(wcells xs)[k+j]? = some u:=by unfold wcells at a ⊢;rw[List.map_drop,YT]at a;exact a
 have o:k+j<xs.length:=by
  have:=(ZF.1 b).1
  rwa [zdA]at this
 rw[if_neg ω];have:=f _ rfl (k+j) u b;have e:(⟨g,0,none⟩:Addr).add (k+j)=(⟨g,k,none⟩:Addr).add j:=by unfold Addr.add;simp only[];split<;>split<;>simp<;>omega
 rwa [e]at this
theorem zrS{w':World}(h:SR w s xs)(i:Below w w w'):SR w' s xs:=by obtain⟨A,c,h1,b,d,e,f,g⟩:=h;exact⟨A,c,h1,b,d,e,f,λa k j u l=>by have hc:=g a k j u l;rw[i.cell (Yb w _ hc)];exact hc⟩
theorem zvr(h:SR w s xs):SR w.drew s xs:=zrS h (zap w 1)
theorem zJE(A:OA)(c k j:Nat)(xs:List Nat)(w:World)(r:SW w (A,xs.length,c) xs)(h1:1<=j)(hk:k<=LIM)(n:xs.length<=LIM)(i:j<=xs.length)
  (hj:(xs.length<k/\j=xs.length)\/(¬xs.length<k/\j=k)) :
  Calls prog 141 #[.agg #[(A,xs.length,c)],(k:Int)] w (zpo w (nval (xs.take j)) (nval (xs.drop j))):=by
 refine μ3 r n hk λy d M=>?_;have Q:k<=9223372036854775807:=by have:=zaP;omega
 have S:xs.length<=9223372036854775807:=by have:=zaP;omega
 have F:(if xs.length<k then xs.length else k)=j:=by rcases hj with ⟨h,rfl⟩ | ⟨h,rfl⟩<;>simp[h]
 have P:j<=9223372036854775807:=ω;clear r n hk;go_enter func141,ntmps141;go_wp2_with fail
 refine(Nt.words A xs.length c xs _ (((y.o.alloc _).alloc _).alloc _) d.o).mono ?_;rintro e w1 ⟨A1,m1,c1,rfl,hs1,hb1⟩;rcases hs1.form with ⟨h,rfl⟩ | ⟨g,cap,h,hg,hcap,hm, -⟩
 exact absurd (Zl h1 i) δ;cases h;unfold maxLen at hm;have R:=λW=>run_upto W g xs.length c1 j ω ω
 have r2:=zBm hs1 i;have f:=λW=>zxA W g xs.length c1 j ω
 generalize (if c1=j then 0 else j)=o at r2 f;have s:xs.length-j=(xs.drop j).length:=by rw[Yc]
 rw[s]at r2 f;generalize c1-j=q at r2 f;have x:=un hb1;have u:=zBn hs1 i;refine μ6 u r2 (show(xs.take j).length<=LIM by rw[ZG];have:=d.o;omega) (show(xs.drop j).length<=LIM by rw[Yc];have:=d.o;omega) ((hb1.block (w.heap.size+1) σ).trans (zak (zam (cs:=#[.slice none 0 0]) (t:=58) σ))) ((hb1.block (w.heap.size+1+1) σ).trans (zam (cs:=#[.slice none 0 0]) (t:=58) σ)) λC E z B I J=>?_;have H:=hb1.size;simp at H;clear hs1 hb1 u r2 s;generalize hT:xs.take j=T at *
 generalize hD:xs.drop j=D at *
 clear F;rcases hj with ⟨G,rfl⟩ | ⟨G,rfl⟩
 all_goals
  go_wp2_with fail
  go_region_with (first
   | (go_at_call 130;(with_reducible refine(Nt.of _ _ _ (zvr C.o) z.o).mono ?_);rintro e U ⟨A2,m2,c2,rfl,hs2,hb2⟩)
   | (go_at_call 130;(with_reducible refine(Nt.of _ _ _ (zrS (zvr E.o) hb2) B.o).mono ?_);rintro e V ⟨A3,m3,c3,rfl,hs3,hb3⟩;have a:=un (zad hb3 (zad hb2 I.o));have b:=un (zad hb3 (zad hb2 J.o));have l:=zac a.o 0;have N:=zag a.o 0;have m:=zac b.o 0;have O:=zag b.o 0;simp only[Xa,Z9]at l m))
  go_goals
  go_wp2;refine Zh (v:=.tuple #[.agg #[(A2,m2,c2)],.agg #[(A3,m3,c3)]]) (by simp[results,results141,go_sem,l,m]) rfl ?_;refine⟨_,_,_,_,_,_,rfl,((hs2.below hb3).setCell (p:=⟨w.heap.size+1,0,none⟩) a.o δ _).setCell (p:=⟨w.heap.size+1+1,0,none⟩) ((ZE _ ⟨w.heap.size+1,0,none⟩ _ (w.heap.size+1+1) σ).trans b.o) δ _,(hs3.setCell (p:=⟨w.heap.size+1,0,none⟩) a.o δ _).setCell (p:=⟨w.heap.size+1+1,0,none⟩) ((ZE _ ⟨w.heap.size+1,0,none⟩ _ (w.heap.size+1+1) σ).trans b.o) δ _,Xf (Xf ?_ σ _) (by simp;omega) _⟩;have K:=(((zae w (.cells #[(A,xs.length,c)] 58)).alloc σ (.cells #[()] 58)).alloc (by simp;omega) (.cells #[()] 58)).trans (x.o.mono (by simp;omega));have L:=bstep K (zhk (Zj _ _) 1) ω;exact bstep (bstep L hb2 (by simp;omega)) hb3 (by have:=hb2.size;simp at this;omega)
theorem cut(A:OA)(m c a k:Nat)(w:World)(l:zas w (A,m,c) a)(h1:1<=k)(hk:k<=LIM)(g:1<=wlen a)(d:wlen a<=LIM) :
  Calls prog 141 #[.agg #[(A,m,c)],(k:Int)] w (zpo w (a%B64^k) (a/B64^k)):=by
 obtain⟨xs,f,o,rfl,n,rfl⟩:=l.words;rw[<-n]at d g;have e:=znN f.2 k;by_cases b:xs.length<k;have h:=zJE A c k xs.length xs w f g hk d (Za _) (.inl ⟨b,rfl⟩);have i:xs.take xs.length=xs.take k:=by rw[ZZ (Za _),ZZ (Xi b)]
 have j:xs.drop xs.length=xs.drop k:=by rw[XG (Za _),XG (Xi b)]
 rw[i,j,e.1,e.2]at h;exact h;grind[zJE]
theorem raised(A:OA)(m c a k:Nat)(w:World)(x:zas w (A,m,c) a)(hk:k+wlen a<=LIM) :
    Calls prog 142 #[.agg #[(A,m,c)],(k:Int)] w (zc0 w (a*B64^k)):=by
  obtain⟨xs,E,V,rfl,B,rfl⟩:=x.words;rw[<-B]at hk;have P:=un E;have n:=un hk;have j:k<=16*LIM:=by have:=zaP;omega
  have q:=un j;have Q:=un (show xs.length<=LIM by omega);have D:nval (List.replicate k 0++xs)=nval xs*B64^k:=by rw[zc7,zbK,ZO];simp[ZN]
  have O:=un D;have aa:k<=9223372036854775807:=by have:=zaP;omega
  have zm:=zyv k j;clear x E hk B j V D;have S:χ ((w.alloc (.cells #[(A,xs.length,c)] 58)).alloc (.cells #[()] 58)) w 0 (A,xs.length,c):=cell_al (zax rfl rfl);have I:θ ((w.alloc (.cells #[(A,xs.length,c)] 58)).alloc (.cells #[()] 58)) (w.heap.size+1) #[()] 58:=zam σ;have y:Below w w ((w.alloc (.cells #[(A,xs.length,c)] 58)).alloc (.cells #[()] 58)):=(zae w _).alloc σ _;have F:((w.alloc (.cells #[(A,xs.length,c)] 58)).alloc (.cells #[()] 58)).heap.size=w.heap.size+1+1:=σ;have u:=(P.o.alloc (.cells #[(A,xs.length,c)] 58)).alloc (.cells #[()] 58);go_enter func142,ntmps142;go_wp2_with fail
  generalize ((w.alloc (.cells #[(A,xs.length,c)] 58)).alloc (.cells #[()] 58))=W at *
  refine μ4 u y F I λs l R o=>?_;clear u y F I;have T:=cell_al (ob:=.cells (zrow k) 206) S
  go_region_law (first
    | (refine znT (by rfl) 173 func173 ξ (by rfl) _ _ (by rfl) _ (by rfl) (Nt.words A xs.length c xs _ (by first | exact s.o.drew | exact(s.o.alloc _).drew) Q.o) ?_;rintro e w1 ⟨A1,m1,T,rfl,hs1,hb1⟩;refine⟨_,rfl,?_⟩;have r:=un hs1;have b:=un hb1;clear hs1 hb1)
    | (refine zqA (by rfl) _ _ (by rfl) (by first | exact(zn5 W k q.o).drew.step b.o | exact zn5 _ k q.o) (Wds.replicate k) (by rfl) (by rfl) (by first | exact(r.o.alloc _).reads | exact r.o.reads) n.o ?_;rintro K Y U w2 C z;have M:=un C;have d:=un z;clear C z)
    | (refine znT (by rfl) 130 func130 ξ (by rfl) _ _ (by rfl) _ (by rfl) (Nt.of (K,Y,U) (List.replicate k 0 ++ xs) _ M.o.reads (by rw [ZD,ZO];exact n.o)) ?_;rintro e J ⟨A3,m3,c3,rfl,f,hb3⟩;refine ⟨_,rfl,?_⟩;have N:=un f;have g:=un hb3;clear f hb3;
       have X:=R.o;have G:=b.o.size;try simp at G;have H:=d.o.size;try simp at H;
       have L:=un (show Below w w J by first
         | exact bstep ((bstep (zhk (l.o.alloc ω (.cells (zrow k) 206)) 1) b.o (by first | omega | (simp;done) | (simp;omega))).trans (d.o.mono (by first | omega | (simp;done) | (simp;omega)))) g.o (by first | omega | (simp;done) | (simp;omega))
         | exact bstep (((bstep (zhk l.o 1) b.o (by first | omega | (simp;done) | (simp;omega))).alloc (by first | omega | (simp;done) | (simp;omega)) (.cells (zrow k) 206)).trans (d.o.mono (by first | omega | (simp;done) | (simp;omega)))) g.o (by first | omega | (simp;done) | (simp;omega)));
       have i:=un (show θ J (w.heap.size+1) #[()] 58by first
         | exact zad g.o ((d.o.block _ ω).trans (zad b.o (zak o.o)))
         | exact zad g.o ((d.o.block _ ω).trans (zak (zad b.o o.o))));
       have t:=zac i.o 0;have Z:=zag i.o 0;simp only[Xa,Z9]at t;clear X G H))
  all_goals
    go_wp2;refine Zh (v:=.agg #[(A3,m3,c3)]) (by simp[results,results142,go_sem,t]) rfl ?_;have f:=N.o;rw[O.o]at f;exact⟨_,_,_,rfl,f.setCell (p:=⟨w.heap.size+1,0,none⟩) i.o δ _,Xf L.o σ _⟩
end Pr
namespace Pr
theorem zu7(A B:OA)(m c m' c' a b:Nat)(w:World)(i:zas w (A,m,c) a)(j:zas w (B,m',c') b)(s:wlen a+wlen b<=LIM)(x:wlen a<8\/wlen b<8) :
  Calls prog 90 #[.agg #[(A,m,c)],.agg #[(B,m',c')]] w (zc0 w (a*b)):=by
 obtain⟨xs,y,T,V,t,rfl⟩:=i.words;obtain⟨ys,z,U,W,u,rfl⟩:=j.words;refine μ5 i j s y z λD F K N P=>?_;rw[<-t,<-u]at x;obtain⟨f,k⟩:∃f,f=if ys.length<xs.length then ys.length else xs.length:=⟨_,rfl⟩
 have X:(f:Int)<8:=by split at k<;>omega
 have Y:(if ys.length<xs.length then (ys.length:Int)else (xs.length:Int))=(f:Int):=by rw[k];split<;>rfl
 clear k x;clear i j s y z T U V W t u;have R:χ (((w.alloc (.cells #[(A,xs.length,c)] 58)).alloc (.cells #[(B,ys.length,c')] 58)).alloc (.cells #[()] 58)) w 0 (A,xs.length,c):=cell_al (cell_al (zax rfl rfl));have g:χ (((w.alloc (.cells #[(A,xs.length,c)] 58)).alloc (.cells #[(B,ys.length,c')] 58)).alloc (.cells #[()] 58)) (w.heap.size+1) 0 (B,ys.length,c'):=cell_al (zax σ rfl);have k2:θ (((w.alloc (.cells #[(A,xs.length,c)] 58)).alloc (.cells #[(B,ys.length,c')] 58)).alloc (.cells #[()] 58)) (w.heap.size+1+1) #[()] 58:=zam σ;have kb:Below w w (((w.alloc (.cells #[(A,xs.length,c)] 58)).alloc (.cells #[(B,ys.length,c')] 58)).alloc (.cells #[()] 58)):=((zae w _).alloc σ _).alloc (by simp;omega) _;have C:(((w.alloc (.cells #[(A,xs.length,c)] 58)).alloc (.cells #[(B,ys.length,c')] 58)).alloc (.cells #[()] 58)).heap.size=w.heap.size+1+1+1:=σ;have n:=D.o.below kb;have o:=F.o.below kb;have q:=N.o.below kb;have r:=P.o.below kb;go_enter func90,ntmps90;go_wp2_with fail
 generalize (((w.alloc (.cells #[(A,xs.length,c)] 58)).alloc (.cells #[(B,ys.length,c')] 58)).alloc (.cells #[()] 58))=W0 at *
 refine μ8 (show ∀w',Below W0 W0 w'->((χ w' w 0 (A,xs.length,c)/\χ w' (w.heap.size+1) 0 (B,ys.length,c'))/\Below W0 W0 w')from λw' h=>⟨⟨zab h R,zab h g⟩,h⟩) q r n o k2 kb C λL O Q E G H J l=>?_;clear q r n o k2 kb C
 go_region_held3 (λw'=>(χ w' w 0 (A,xs.length,c)/\χ w' (w.heap.size+1) 0 (B,ys.length,c'))/\Below W0 W0 w')
  ((refine L.o _ ?_;repeat(first | exact Zj _ _ | exact(by assumption:_/\Below _ _ _).2 | with_reducible refine bdrew ?_ | with_reducible refine al2 ?_ _)))
  (first
   | (go_at_call 139;(with_reducible refine(Nt.len (A,xs.length,c) xs _ (O.o.below (by assumption:_/\Below _ _ _).2)).mono ?_);rintro e w' ⟨rfl,rfl⟩)
   | (go_at_call 139;(with_reducible refine(Nt.len (B,ys.length,c') ys _ (Q.o.below (by assumption:_/\Below _ _ _).2)).mono ?_);rintro e w' ⟨rfl,rfl⟩))
 go_wp2_with fail
 have d:=(by assumption:_/\Below W0 W0 ((W0.alloc (.cells #[(A,xs.length,c)] 58)).alloc (.cells #[(B,ys.length,c')] 58)).drew).2;refine(school A B xs.length c ys.length c' a b _ (E.o.below d) (G.o.below d) K.o).mono ?_;rintro e w1 ⟨A1,m1,g,rfl,hs1,hb1⟩;have hk:=zad hb1 (zad d H.o);have hc:χ w1 (w.heap.size+1+1) 0 ():=zac hk 0;have hf:=zag hk 0;refine μ3 hk (bstep (J.o.trans (d.mono (by have:=l.o;omega))) hb1 (by have:=l.o;have:=d.size;omega)) hs1 λI S M=>?_;clear hk hs1 d;go_wp2;refine Zh (v:=.agg #[(A1,m1,g)]) (by simp[results,results90,go_sem,hc]) rfl ?_;exact⟨_,_,_,rfl,M.o.setCell (p:=⟨w.heap.size+1+1,0,none⟩) I.o δ _,Xf S.o (by simp;omega) _⟩
end Pr
namespace Pr
theorem zA8(A:OA)(m c a k:Nat)(K:Int)(b:K=(k:Int))(w:World)(d:zas w (A,m,c) a)(hk:k+wlen a<=LIM) :
  Calls prog 142 #[.agg #[(A,m,c)],.int .i64 K] w (zc0 w (a*B64^k)):=by grind[raised]
theorem zAW(p q r s:Nat):p*r+q*s<=(p+q)*(r+s):=ψ
theorem kara(a b X:Nat)(_:0<X):a%X*(b%X)+(((a%X+a/X)*(b%X+b/X)-(a%X*(b%X)+a/X*(b/X)))*X+a/X*(b/X)*(X*X))=a*b:=by
 have c:=Nat.mod_add_div a X;have d:=Nat.mod_add_div b X;generalize a%X=p at *
 generalize a/X=q at *
 generalize b%X=r at *
 generalize b/X=s at *
 have:(p+q)*(r+s)-(p*r+q*s)=p*s+q*r:=ψ;rw[this,<-c,<-d];grind
def zpn (M:Nat):Prop := ∀ (A B:OA) (m c m' c' a b:Nat) (w:World),zas w (A,m,c) a -> zas w (B,m',c') b -> 4 * wlen a <= LIM -> 4 * wlen b <= LIM -> wlen a < M -> wlen b < M ->
    Calls prog 90 #[.agg #[(A,m,c)],.agg #[(B,m',c')]] w (zc0 w (a*b))
theorem zA1(A B:OA)(m c m' c' a b M:Nat)(w:World)(ih:zpn M)(hM:wlen a<=M/\wlen b<=M)(ha:zas w (A,m,c) a)(hb:zas w (B,m',c') b)(dX:4*wlen a<=LIM)(dY:4*wlen b<=LIM)(bB:8<=wlen a)(bC:8<=wlen b) :
  Calls prog 90 #[.agg #[(A,m,c)],.agg #[(B,m',c')]] w (zc0 w (a*b)):=by
 obtain⟨xs,hx,dT,d4,bG,rfl⟩:=ha.words;obtain⟨ys,hy,dU,d5,bH,rfl⟩:=hb.words;refine μ4 ha hb bG bH λHA HB bt bu=>?_;unfold zpn at ih;refine μ3 ih hx hy λIH HX HY=>?_;rw[<-bG]at bB;rw[<-bH]at bC;obtain⟨mn,bI⟩:∃mn,mn=if ys.length<xs.length then ys.length else xs.length:=⟨_,rfl⟩
 have dZ:¬(mn:Int)<8:=by split at bI<;>omega
 have d2:(if ys.length<xs.length then (ys.length:Int)else (xs.length:Int))=(mn:Int):=by rw[bI];split<;>rfl
 obtain⟨g,bJ⟩:∃g,g=if xs.length<ys.length then ys.length else xs.length:=⟨_,rfl⟩
 have d0:(if xs.length<ys.length then (ys.length:Int)else (xs.length:Int))=(g:Int):=by rw[bJ];split<;>rfl
 have dl:xs.length<=g/\ys.length<=g/\g<=LIM/\g<=M/\4*g<=LIM:=by have:=zaP;split at bJ<;>omega
 have eW:8<=g:=ω;have R:=un dl;have eX:g<=9223372036854775806:=by have:=zaP;omega
 clear bI bJ dl;clear ih ha hb hx hy dT dU d4 d5 bG bH;have c0:χ (((w.alloc (.cells #[(A,xs.length,c)] 58)).alloc (.cells #[(B,ys.length,c')] 58)).alloc (.cells #[()] 58)) w 0 (A,xs.length,c):=cell_al (cell_al (zax rfl rfl));have n:χ (((w.alloc (.cells #[(A,xs.length,c)] 58)).alloc (.cells #[(B,ys.length,c')] 58)).alloc (.cells #[()] 58)) (w.heap.size+1) 0 (B,ys.length,c'):=cell_al (zax σ rfl);have k2:θ (((w.alloc (.cells #[(A,xs.length,c)] 58)).alloc (.cells #[(B,ys.length,c')] 58)).alloc (.cells #[()] 58)) (w.heap.size+1+1) #[()] 58:=zam σ;have kb:Below w w (((w.alloc (.cells #[(A,xs.length,c)] 58)).alloc (.cells #[(B,ys.length,c')] 58)).alloc (.cells #[()] 58)):=((zae w _).alloc σ _).alloc (by simp;omega) _;have kz:(((w.alloc (.cells #[(A,xs.length,c)] 58)).alloc (.cells #[(B,ys.length,c')] 58)).alloc (.cells #[()] 58)).heap.size=w.heap.size+1+1+1:=σ;have c6:=HA.o.below kb;have c7:=HB.o.below kb;have de:=HX.o.below kb;have df:=HY.o.below kb;go_enter func90,ntmps90;go_wp2_with fail
 generalize (((w.alloc (.cells #[(A,xs.length,c)] 58)).alloc (.cells #[(B,ys.length,c')] 58)).alloc (.cells #[()] 58))=W0 at *
 refine μ8 (show ∀w',Below W0 W0 w'->((χ w' w 0 (A,xs.length,c)/\χ w' (w.heap.size+1) 0 (B,ys.length,c'))/\Below W0 W0 w')from λw' h=>⟨⟨zab h c0,zab h n⟩,h⟩) de df c6 c7 k2 kb kz λo bv bw dz dB cn co cp=>?_;clear de df c6 c7 k2 kb kz;have dw:=un bB;have dx:=un bC;clear dX dY bB bC
 go_region_held3 (λw'=>(χ w' w 0 (A,xs.length,c)/\χ w' (w.heap.size+1) 0 (B,ys.length,c'))/\Below W0 W0 w')
  ((refine o.o _ ?_;repeat(first | exact Zj _ _ | exact(by assumption:_/\Below _ _ _).2 | with_reducible refine bdrew ?_ | with_reducible refine al2 ?_ _)))
  (first
   | (go_at_call 139;(with_reducible refine(Nt.len (A,xs.length,c) xs _ (bv.o.below (by assumption:_/\Below _ _ _).2)).mono ?_);rintro e w' ⟨rfl,rfl⟩)
   | (go_at_call 139;(with_reducible refine(Nt.len (B,ys.length,c') ys _ (bw.o.below (by assumption:_/\Below _ _ _).2)).mono ?_);rintro e w' ⟨rfl,rfl⟩))
 go_wp2_with fail
 go_region_held3 (λw'=>(χ w' w 0 (A,xs.length,c)/\χ w' (w.heap.size+1) 0 (B,ys.length,c'))/\Below W0 W0 w')
  ((refine o.o _ ?_;repeat(first | exact Zj _ _ | exact(by assumption:_/\Below _ _ _).2 | with_reducible refine bdrew ?_ | with_reducible refine al2 ?_ _)))
  (first
   | (go_at_call 139;(with_reducible refine(Nt.len (A,xs.length,c) xs _ (bv.o.below (by assumption:_/\Below _ _ _).2)).mono ?_);rintro e w' ⟨rfl,rfl⟩)
   | (go_at_call 139;(with_reducible refine(Nt.len (B,ys.length,c') ys _ (bw.o.below (by assumption:_/\Below _ _ _).2)).mono ?_);rintro e w' ⟨rfl,rfl⟩))
 obtain⟨k,hk⟩:∃k,k=(g+1)/2:=⟨_,rfl⟩
 have e1:IntKind.i64.wrap ((IntKind.i64.wrap ((g:Int)+1)).tdiv 2)=(k:Int):=by rw[Xz ((g:Int)+1) ω,Int.tdiv_eq_ediv_of_nonneg ω,hk];have:((g:Int)+1)/2=(((g+1)/2:Nat):Int):=ω;rw[this,Xz _ ω]
 simp only[e1];clear e1;have dW:4<=k:=ω;have dk:k+1<g:=ω;have dj:g<=2*k:=ω;clear hk;have hh:=(by assumption:_/\Below W0 W0 ((((W0.alloc (.cells #[(A,xs.length,c)] 58)).alloc (.cells #[(B,ys.length,c')] 58)).alloc (.cells #[(A,xs.length,c)] 58)).alloc (.cells #[(B,ys.length,c')] 58)).drew.drew).2;generalize hV:((((W0.alloc (.cells #[(A,xs.length,c)] 58)).alloc (.cells #[(B,ys.length,c')] 58)).alloc (.cells #[(A,xs.length,c)] 58)).alloc (.cells #[(B,ys.length,c')] 58)).drew.drew=w1 at *
 clear hV;refine μ3 dW dk dj λHK i bs=>?_;have d1:=zab hh n;refine μ6 (dz.o.below hh) (dB.o.below hh) d1 (zad hh cn.o) (co.o.trans (hh.mono (by have:=cp.o;omega))) (show w.heap.size+3<=w1.heap.size by have:=hh.size;have:=cp.o;omega) λci cj D1 D2 DB DZ=>?_;clear dj dk c0 n d2 d0 dZ HX HY bv bw co o cn;go_wp2_with fail
 have G:(∃v,v=1):=⟨1,rfl⟩
 refine(cut A xs.length c a k _ ci.o ω (by have:=R.o;have:=i.o;omega) (by rw[<-bt.o];have:=dw.o;omega) (by have:=R.o;rw[<-bt.o];omega)).mono ?_;rintro e w2 ⟨A1,m1,n,A2,m2,c2,rfl,ha0,a4,f⟩;have d3:=cell_al (ob:=.cells #[(A2,m2,c2)] 58) (cell_al (ob:=.cells #[(A1,m1,n)] 58) (zab f D1.o));refine μ3 ha0 a4 f λcb cc a5=>?_;have aW:=f.size;have aV:=DZ.o;clear ha0 a4 f G;go_wp2_with fail
 refine(cut B ys.length c' b k _ ((cj.o.below a5.o).alloc _ |>.alloc _) ω (by have:=R.o;have:=i.o;omega) (by rw[<-bu.o];have:=dx.o;omega) (by have:=R.o;rw[<-bu.o];omega)).mono ?_;rintro e H ⟨B1,m3,c3,B2,m4,c4,rfl,hb0,hb1',hb3⟩;have aX:=hb3.size;simp at aX;clear d3;go_wp2_with fail
 have P0:χ ((H.alloc (.cells #[(B1,m3,c3)] 58)).alloc (.cells #[(B2,m4,c4)] 58)) w2 0 (A1,m1,n):=cell_al (cell_al (zab hb3 (cell_al (zax rfl rfl))));have P1:χ ((H.alloc (.cells #[(B1,m3,c3)] 58)).alloc (.cells #[(B2,m4,c4)] 58)) (w2.heap.size+1) 0 (A2,m2,c2):=cell_al (cell_al (zab hb3 (zax σ rfl)));have P2:χ ((H.alloc (.cells #[(B1,m3,c3)] 58)).alloc (.cells #[(B2,m4,c4)] 58)) H 0 (B1,m3,c3):=cell_al (zax rfl rfl);have P3:χ ((H.alloc (.cells #[(B1,m3,c3)] 58)).alloc (.cells #[(B2,m4,c4)] 58)) (H.heap.size+1) 0 (B2,m4,c4):=zax σ rfl;refine μ7 ((((cb.o.alloc (.cells #[(A1,m1,n)] 58)).alloc (.cells #[(A2,m2,c2)] 58)).below hb3).alloc (.cells #[(B1,m3,c3)] 58) |>.alloc (.cells #[(B2,m4,c4)] 58)) ((((cc.o.alloc (.cells #[(A1,m1,n)] 58)).alloc (.cells #[(A2,m2,c2)] 58)).below hb3).alloc (.cells #[(B1,m3,c3)] 58) |>.alloc (.cells #[(B2,m4,c4)] 58)) ((hb0.alloc (.cells #[(B1,m3,c3)] 58)).alloc (.cells #[(B2,m4,c4)] 58)) ((hb1'.alloc (.cells #[(B1,m3,c3)] 58)).alloc (.cells #[(B2,m4,c4)] 58)) (show θ ((H.alloc (.cells #[(B1,m3,c3)] 58)).alloc (.cells #[(B2,m4,c4)] 58)) (w.heap.size+1+1) #[()] 58from zak (zak (zad hb3 (zak (zak (zad a5.o D2.o)))))) (show Below w w ((H.alloc (.cells #[(B1,m3,c3)] 58)).alloc (.cells #[(B2,m4,c4)] 58))from al2 (al2 (zc1 (al2 (al2 (zc1 DB.o a5.o) _) _) hb3) _) _) (show w.heap.size+3<=((H.alloc (.cells #[(B1,m3,c3)] 58)).alloc (.cells #[(B2,m4,c4)] 58)).heap.size by simp;omega) λN0 N1 N2 N3 X W E=>?_;generalize hV:(H.alloc (.cells #[(B1,m3,c3)] 58)).alloc (.cells #[(B2,m4,c4)] 58)=V at *
 clear hV hb0 hb1' hb3 aX a5 cb cc DB DZ D2 D1 ci cj;generalize w2.heap.size=p0 at *
 generalize H.heap.size=q0 at *
 have a4:wlen (a%B64^k)<=k:=zaZ (ZW _ (Z0 δ));have l:wlen (b%B64^k)<=k:=zaZ (ZW _ (Z0 δ));have dg:wlen (a/B64^k)<=g-k:=zaZ (by
  have h1:=zfD a;have h2:B64^wlen a<=B64^(g-k)*B64^k:=by rw[<-Xw];exact Xm δ (by have:=R.o;have:=bt.o;have:=i.o;omega)
  exact(Xs (Z0 δ)).2 ω)
 have f:wlen (b/B64^k)<=g-k:=zaZ (by
  have h1:=zfD b;have h2:B64^wlen b<=B64^(g-k)*B64^k:=by rw[<-Xw];exact Xm δ (by have:=R.o;have:=bu.o;have:=i.o;omega)
  exact(Xs (Z0 δ)).2 ω)
 have dc:4*g<=LIM:=by have:=R.o;omega
 refine μ4 (show 4*wlen (a%B64^k)<=LIM by have:=i.o;omega) (show 4*wlen (a/B64^k)<=LIM by omega) (show 4*wlen (b%B64^k)<=LIM by have:=i.o;omega) (show 4*wlen (b/B64^k)<=LIM by omega) λF0 F1 F2 F3=>?_;have dd:g<=M:=by have:=R.o;omega
 refine μ8 (show wlen (a%B64^k)<M by have:=i.o;omega) (show wlen (a/B64^k)<M by have:=HK.o;omega) (show wlen (b%B64^k)<M by have:=i.o;omega) (show wlen (b/B64^k)<M by have:=HK.o;omega) (And.intro a4 dg) (And.intro l f) dc dd λG0 G1 G2 G3 a6 a7 F cq=>?_;clear a4 dg l f dc dd;have o:=un (show ∀w',Below V V w'->((χ w' p0 0 (A1,m1,n)/\χ w' (p0+1) 0 (A2,m2,c2)/\χ w' q0 0 (B1,m3,c3)/\χ w' (q0+1) 0 (B2,m4,c4))/\Below V V w')from λw' h=>⟨⟨zab h P0,zab h P1,zab h P2,zab h P3⟩,h⟩)
 go_cut[10,11] (λea eb wr=>∃(N O:Nat) (q:OA) (C x:Nat) (r:OA) (z u:Nat),ea=.pointer (some ⟨N,0,none⟩)/\eb=.pointer (some ⟨O,0,none⟩)/\Below V V wr /\
  χ wr N 0 (q,C,x)/\χ wr O 0 (r,z,u)/\zas wr (q,C,x) (a%B64^k*(b%B64^k))/\zas wr (r,z,u) (a/B64^k*(b/B64^k))/\V.heap.size<=N/\V.heap.size<=O)
 case first =>
  go_region_held3 (λw'=>(χ w' p0 0 (A1,m1,n)/\χ w' (p0+1) 0 (A2,m2,c2)/\χ w' q0 0 (B1,m3,c3)/\χ w' (q0+1) 0 (B2,m4,c4))/\Below V V w')
   ((refine o.o _ ?_;repeat(first | exact Zj _ _ | exact(by assumption:_/\Below _ _ _).2 | with_reducible refine bdrew ?_ | with_reducible refine al2 ?_ _ | with_reducible refine set2 ?_ ω | with_reducible refine zc1 ?_ (by assumption))))
   (first
    | (go_at_call 90;(with_reducible refine(IH.o A1 B1 m1 n m3 c3 (a%B64^k) (b%B64^k) _ (N0.o.below (by assumption:_/\Below _ _ _).2) (N2.o.below (by assumption:_/\Below _ _ _).2) F0.o F2.o G0.o G2.o).mono ?_);rintro e u1 ⟨q,C,x,rfl,hl,hbl⟩;have d9:=hbl.size;(try simp at d9);have eY:V.heap.size<=u1.heap.size:=ω;(try((first | (have d:=zan (b:=V.heap.size) (v:=.slice none 0 0) (t:=58) hbl (zal _ _ _);obtain⟨j,⟨cF,cI⟩,⟨cG,cJ⟩,⟨cH,cK⟩,⟨cL,cM⟩,cN,cO⟩:=d) | (have d:=zan (b:=V.heap.size) (v:=.slice none 0 0) (t:=58) hbl (zak (zal _ _ _));obtain⟨j,⟨cF,cI⟩,⟨cG,cJ⟩,⟨cH,cK⟩,⟨cL,cM⟩,cN,cO⟩:=d) | (have d:=zan (b:=V.heap.size) (v:=.slice none 0 0) (t:=58) hbl (zbD _ _ _ _);obtain⟨j,⟨cF,cI⟩,⟨cG,cJ⟩,⟨cH,cK⟩,⟨cL,cM⟩,cN,cO⟩:=d));have j:=un j));(try((first | (have d:=zan (b:=V.heap.size+1) (v:=.slice none 0 0) (t:=58) hbl (zal _ _ _);obtain⟨s,⟨cP,cS⟩,⟨cQ,cT⟩,⟨cR,cU⟩,⟨cV,cW⟩,cX,cY⟩:=d) | (have d:=zan (b:=V.heap.size+1) (v:=.slice none 0 0) (t:=58) hbl (zak (zal _ _ _));obtain⟨s,⟨cP,cS⟩,⟨cQ,cT⟩,⟨cR,cU⟩,⟨cV,cW⟩,cX,cY⟩:=d) | (have d:=zan (b:=V.heap.size+1) (v:=.slice none 0 0) (t:=58) hbl (zbD _ _ _ _);obtain⟨s,⟨cP,cS⟩,⟨cQ,cT⟩,⟨cR,cU⟩,⟨cV,cW⟩,cX,cY⟩:=d));have s:=un s));have dE:=un hl;clear hl)
    | (go_at_call 90;(with_reducible refine(IH.o A2 B2 m2 c2 m4 c4 (a/B64^k) (b/B64^k) _ (N1.o.below (by assumption:_/\Below _ _ _).2) (N3.o.below (by assumption:_/\Below _ _ _).2) F1.o F3.o G1.o G3.o).mono ?_);rintro e u2 ⟨r,z,u,rfl,hh2,hbh⟩;have d8:=hbh.size;(try simp at d8);have eZ:V.heap.size<=u2.heap.size:=ω;(try((first | (have d:=zan (b:=V.heap.size) (v:=.slice none 0 0) (t:=58) hbh (j.o);obtain⟨I,⟨Y,ab⟩,⟨Z,ac⟩,⟨aa,ad⟩,⟨ae,af⟩,ag,ah⟩:=d) | (have d:=zan (b:=V.heap.size) (v:=.slice none 0 0) (t:=58) hbh (s.o);obtain⟨I,⟨Y,ab⟩,⟨Z,ac⟩,⟨aa,ad⟩,⟨ae,af⟩,ag,ah⟩:=d) | (have d:=zan (b:=V.heap.size) (v:=.slice none 0 0) (t:=58) hbh (zak j.o);obtain⟨I,⟨Y,ab⟩,⟨Z,ac⟩,⟨aa,ad⟩,⟨ae,af⟩,ag,ah⟩:=d) | (have d:=zan (b:=V.heap.size) (v:=.slice none 0 0) (t:=58) hbh (zak s.o);obtain⟨I,⟨Y,ab⟩,⟨Z,ac⟩,⟨aa,ad⟩,⟨ae,af⟩,ag,ah⟩:=d) | (have d:=zan (b:=V.heap.size) (v:=.slice none 0 0) (t:=58) hbh (zak (zak j.o));obtain⟨I,⟨Y,ab⟩,⟨Z,ac⟩,⟨aa,ad⟩,⟨ae,af⟩,ag,ah⟩:=d) | (have d:=zan (b:=V.heap.size) (v:=.slice none 0 0) (t:=58) hbh (zal _ _ _);obtain⟨I,⟨Y,ab⟩,⟨Z,ac⟩,⟨aa,ad⟩,⟨ae,af⟩,ag,ah⟩:=d) | (have d:=zan (b:=V.heap.size) (v:=.slice none 0 0) (t:=58) hbh (zak (zal _ _ _));obtain⟨I,⟨Y,ab⟩,⟨Z,ac⟩,⟨aa,ad⟩,⟨ae,af⟩,ag,ah⟩:=d) | (have d:=zan (b:=V.heap.size) (v:=.slice none 0 0) (t:=58) hbh (zbD _ _ _ _);obtain⟨I,⟨Y,ab⟩,⟨Z,ac⟩,⟨aa,ad⟩,⟨ae,af⟩,ag,ah⟩:=d));have I:=un I));(try((first | (have d:=zan (b:=V.heap.size+1) (v:=.slice none 0 0) (t:=58) hbh (j.o);obtain⟨J,⟨ai,al⟩,⟨aj,am⟩,⟨ak,an⟩,⟨ao,ap⟩,aq,ar⟩:=d) | (have d:=zan (b:=V.heap.size+1) (v:=.slice none 0 0) (t:=58) hbh (s.o);obtain⟨J,⟨ai,al⟩,⟨aj,am⟩,⟨ak,an⟩,⟨ao,ap⟩,aq,ar⟩:=d) | (have d:=zan (b:=V.heap.size+1) (v:=.slice none 0 0) (t:=58) hbh (zak j.o);obtain⟨J,⟨ai,al⟩,⟨aj,am⟩,⟨ak,an⟩,⟨ao,ap⟩,aq,ar⟩:=d) | (have d:=zan (b:=V.heap.size+1) (v:=.slice none 0 0) (t:=58) hbh (zak s.o);obtain⟨J,⟨ai,al⟩,⟨aj,am⟩,⟨ak,an⟩,⟨ao,ap⟩,aq,ar⟩:=d) | (have d:=zan (b:=V.heap.size+1) (v:=.slice none 0 0) (t:=58) hbh (zak (zak j.o));obtain⟨J,⟨ai,al⟩,⟨aj,am⟩,⟨ak,an⟩,⟨ao,ap⟩,aq,ar⟩:=d) | (have d:=zan (b:=V.heap.size+1) (v:=.slice none 0 0) (t:=58) hbh (zal _ _ _);obtain⟨J,⟨ai,al⟩,⟨aj,am⟩,⟨ak,an⟩,⟨ao,ap⟩,aq,ar⟩:=d) | (have d:=zan (b:=V.heap.size+1) (v:=.slice none 0 0) (t:=58) hbh (zak (zal _ _ _));obtain⟨J,⟨ai,al⟩,⟨aj,am⟩,⟨ak,an⟩,⟨ao,ap⟩,aq,ar⟩:=d) | (have d:=zan (b:=V.heap.size+1) (v:=.slice none 0 0) (t:=58) hbh (zbD _ _ _ _);obtain⟨J,⟨ai,al⟩,⟨aj,am⟩,⟨ak,an⟩,⟨ao,ap⟩,aq,ar⟩:=d));have J:=un J));(try((first | (have d:=zan (b:=u1.heap.size) (v:=.slice none 0 0) (t:=58) hbh (j.o);obtain⟨K,⟨au,ax⟩,⟨av,ay⟩,⟨aw,az⟩,⟨aA,aB⟩,aC,aD⟩:=d) | (have d:=zan (b:=u1.heap.size) (v:=.slice none 0 0) (t:=58) hbh (s.o);obtain⟨K,⟨au,ax⟩,⟨av,ay⟩,⟨aw,az⟩,⟨aA,aB⟩,aC,aD⟩:=d) | (have d:=zan (b:=u1.heap.size) (v:=.slice none 0 0) (t:=58) hbh (zak j.o);obtain⟨K,⟨au,ax⟩,⟨av,ay⟩,⟨aw,az⟩,⟨aA,aB⟩,aC,aD⟩:=d) | (have d:=zan (b:=u1.heap.size) (v:=.slice none 0 0) (t:=58) hbh (zak s.o);obtain⟨K,⟨au,ax⟩,⟨av,ay⟩,⟨aw,az⟩,⟨aA,aB⟩,aC,aD⟩:=d) | (have d:=zan (b:=u1.heap.size) (v:=.slice none 0 0) (t:=58) hbh (zak (zak j.o));obtain⟨K,⟨au,ax⟩,⟨av,ay⟩,⟨aw,az⟩,⟨aA,aB⟩,aC,aD⟩:=d) | (have d:=zan (b:=u1.heap.size) (v:=.slice none 0 0) (t:=58) hbh (zal _ _ _);obtain⟨K,⟨au,ax⟩,⟨av,ay⟩,⟨aw,az⟩,⟨aA,aB⟩,aC,aD⟩:=d) | (have d:=zan (b:=u1.heap.size) (v:=.slice none 0 0) (t:=58) hbh (zak (zal _ _ _));obtain⟨K,⟨au,ax⟩,⟨av,ay⟩,⟨aw,az⟩,⟨aA,aB⟩,aC,aD⟩:=d) | (have d:=zan (b:=u1.heap.size) (v:=.slice none 0 0) (t:=58) hbh (zbD _ _ _ _);obtain⟨K,⟨au,ax⟩,⟨av,ay⟩,⟨aw,az⟩,⟨aA,aB⟩,aC,aD⟩:=d));have K:=un K));(try((first | (have d:=zan (b:=u1.heap.size+1) (v:=.slice none 0 0) (t:=58) hbh (j.o);obtain⟨L,⟨aE,aH⟩,⟨aF,aI⟩,⟨aG,aJ⟩,⟨aK,aL⟩,aM,aN⟩:=d) | (have d:=zan (b:=u1.heap.size+1) (v:=.slice none 0 0) (t:=58) hbh (s.o);obtain⟨L,⟨aE,aH⟩,⟨aF,aI⟩,⟨aG,aJ⟩,⟨aK,aL⟩,aM,aN⟩:=d) | (have d:=zan (b:=u1.heap.size+1) (v:=.slice none 0 0) (t:=58) hbh (zak j.o);obtain⟨L,⟨aE,aH⟩,⟨aF,aI⟩,⟨aG,aJ⟩,⟨aK,aL⟩,aM,aN⟩:=d) | (have d:=zan (b:=u1.heap.size+1) (v:=.slice none 0 0) (t:=58) hbh (zak s.o);obtain⟨L,⟨aE,aH⟩,⟨aF,aI⟩,⟨aG,aJ⟩,⟨aK,aL⟩,aM,aN⟩:=d) | (have d:=zan (b:=u1.heap.size+1) (v:=.slice none 0 0) (t:=58) hbh (zak (zak j.o));obtain⟨L,⟨aE,aH⟩,⟨aF,aI⟩,⟨aG,aJ⟩,⟨aK,aL⟩,aM,aN⟩:=d) | (have d:=zan (b:=u1.heap.size+1) (v:=.slice none 0 0) (t:=58) hbh (zal _ _ _);obtain⟨L,⟨aE,aH⟩,⟨aF,aI⟩,⟨aG,aJ⟩,⟨aK,aL⟩,aM,aN⟩:=d) | (have d:=zan (b:=u1.heap.size+1) (v:=.slice none 0 0) (t:=58) hbh (zak (zal _ _ _));obtain⟨L,⟨aE,aH⟩,⟨aF,aI⟩,⟨aG,aJ⟩,⟨aK,aL⟩,aM,aN⟩:=d) | (have d:=zan (b:=u1.heap.size+1) (v:=.slice none 0 0) (t:=58) hbh (zbD _ _ _ _);obtain⟨L,⟨aE,aH⟩,⟨aF,aI⟩,⟨aG,aJ⟩,⟨aK,aL⟩,aM,aN⟩:=d));have L:=un L));have dF:=un hh2;clear hh2))
  all_goals
   go_wp2;go_meet;refine⟨_,_,q,C,x,r,z,u,rfl,rfl,(by assumption:_/\Below V V _).2,?_,?_,?_,?_,?_,?_⟩
   all_goals (repeat' (first
    | exact dF.o | exact dE.o | assumption
    | with_reducible exact zeo _ _ _ | with_reducible exact zfx _ _ _ _
    | with_reducible refine cell_al ?_ | with_reducible refine Box.cell ?_ | with_reducible refine cell_set ?_ ?_
    | with_reducible exact Box.new _ _ | with_reducible exact Box.new1 _ _ _ | with_reducible refine Box.alloc ?_ | with_reducible refine Box.set ?_
    | exact Box.of I.o | exact Box.of J.o | exact Box.of K.o | exact Box.of L.o
    | with_reducible refine zas.alloc ?_ _ | with_reducible refine zas.setBox ?_ ?_ | refine zas.below ?_ hbh | with_reducible refine zas.drew ?_
    | omega))
 obtain⟨N,O,q,C,x,r,z,u,rfl,rfl,y,k0,k1,da,db,dh,di⟩:=hcut;rename World=>wa
 have P0:=zab y P0;have P1:=zab y P1;have P2:=zab y P2;have P3:=zab y P3;refine μ6 (N0.o.below y) (N1.o.below y) (N2.o.below y) (N3.o.below y) da db λN0 N1 N2 N3 aQ aR=>?_;have dv:=E;refine μ4 (zad y X.o) (W.o.trans (y.mono (by have:=E.o;omega))) (show w.heap.size+3<=wa.heap.size by have:=E.o;have:=y.size;omega) (show w.heap.size+3<=N/\w.heap.size+3<=O by have:=dv.o;omega) λX W E ck=>?_;clear dh di;have S1:wlen (a%B64^k+a/B64^k)<=k+1:=by have:=zgg (a%B64^k) (a/B64^k);have:=a6.o;have:=bs.o;omega
 have S2:wlen (b%B64^k+b/B64^k)<=k+1:=by have:=zgg (b%B64^k) (b/B64^k);have:=a7.o;have:=bs.o;omega
 refine μ8 (show 4*wlen (a%B64^k+a/B64^k)<=LIM by have:=F.o;have:=i.o;omega) (show 4*wlen (b%B64^k+b/B64^k)<=LIM by have:=F.o;have:=i.o;omega) (show wlen (a%B64^k+a/B64^k)<M by have:=cq.o;have:=i.o;omega) (show wlen (b%B64^k+b/B64^k)<M by have:=cq.o;have:=i.o;omega) (show wlen (a%B64^k)<=LIM by have:=F0.o;omega) (show wlen (a/B64^k)<=LIM by have:=F1.o;omega) (show wlen (b%B64^k)<=LIM by have:=F2.o;omega) (show wlen (b/B64^k)<=LIM by have:=F3.o;omega) λF4 F5 G4 G5 Q0 Q1 Q2 Q3=>?_;clear S1 S2 y da db o F0 F1 F2 F3 G0 G1 G2 G3;go_wp2_with fail
 have o:=un (show ∀w',Below wa wa w'->((χ w' p0 0 (A1,m1,n)/\χ w' (p0+1) 0 (A2,m2,c2)/\χ w' q0 0 (B1,m3,c3)/\χ w' (q0+1) 0 (B2,m4,c4)/\χ w' N 0 (q,C,x)/\χ w' O 0 (r,z,u))/\Below wa wa w')from λw' h=>⟨⟨zab h P0,zab h P1,zab h P2,zab h P3,zab h k0,zab h k1⟩,h⟩)
 go_cut[12] (λec wr=>∃(g2:Nat) (D:OA) (md cd:Nat),ec=.pointer (some ⟨g2,0,none⟩)/\Below wa wa wr /\
  χ wr g2 0 (D,md,cd)/\zas wr (D,md,cd) ((a%B64^k+a/B64^k)*(b%B64^k+b/B64^k)))
 case first =>
  go_region_held3 (λw'=>((χ w' p0 0 (A1,m1,n)/\χ w' (p0+1) 0 (A2,m2,c2)/\χ w' q0 0 (B1,m3,c3)/\χ w' (q0+1) 0 (B2,m4,c4)/\χ w' N 0 (q,C,x)/\χ w' O 0 (r,z,u))/\Below wa wa w'))
   ((refine o.o _ ?_;repeat(first | exact Zj _ _ | exact(by assumption:_/\Below _ _ _).2 | with_reducible refine bdrew ?_ | with_reducible refine al2 ?_ _ | with_reducible refine set2 ?_ ω | with_reducible refine zc1 ?_ (by assumption))))
   (first
    | (go_at_call 137;(with_reducible refine(Nt.add A1 A2 m1 n m2 c2 (a%B64^k) (a/B64^k) _ (N0.o.below (by assumption:_/\Below _ _ _).2) (N1.o.below (by assumption:_/\Below _ _ _).2) Q0.o Q1.o).mono ?_);rintro e u1 ⟨E1,me,ce,rfl,he1,l⟩;have aV:=l.size;(try simp at aV);have dq:wa.heap.size<=u1.heap.size:=ω;(try((first | (have d:=zan (b:=wa.heap.size) (v:=.slice none 0 0) (t:=58) l (zal _ _ _);obtain⟨Q,⟨eo,er⟩,⟨ep,es⟩,⟨eq,et⟩,⟨eu,ev⟩,ew,ex⟩:=d));have Q:=un Q));have a1:=un he1;clear he1)
    | (go_at_call 137;(with_reducible refine(Nt.add B1 B2 m3 c3 m4 c4 (b%B64^k) (b/B64^k) _ (N2.o.below (by assumption:_/\Below _ _ _).2) (N3.o.below (by assumption:_/\Below _ _ _).2) Q2.o Q3.o).mono ?_);rintro e u2 ⟨E2,mf,cf,rfl,he2,f⟩;have aW:=f.size;(try simp at aW);have dr:wa.heap.size<=u2.heap.size:=ω;(try((first | (have d:=zan (b:=wa.heap.size) (v:=.slice none 0 0) (t:=58) f (Q.o);obtain⟨P,⟨bN,bQ⟩,⟨bO,bR⟩,⟨bP,bS⟩,⟨bT,bU⟩,bV,bW⟩:=d) | (have d:=zan (b:=wa.heap.size) (v:=.slice none 0 0) (t:=58) f (zak Q.o);obtain⟨P,⟨bN,bQ⟩,⟨bO,bR⟩,⟨bP,bS⟩,⟨bT,bU⟩,bV,bW⟩:=d));have P:=un P));(try((first | (have d:=zan (b:=u1.heap.size) (v:=.slice none 0 0) (t:=58) f (zal _ _ _);obtain⟨U,⟨ey,eh⟩,⟨ez,ei⟩,⟨eg,ej⟩,⟨ek,el⟩,em,en⟩:=d));have U:=un U));have a2:=un he2;clear he2)
    | (go_at_call 90;(with_reducible refine(IH.o E1 E2 me ce mf cf _ _ _ (by repeat(first | exact a1.o | with_reducible refine zas.alloc ?_ _ | with_reducible refine zas.drew ?_ | refine zas.below ?_ f)) (by repeat(first | exact a2.o | with_reducible refine zas.alloc ?_ _ | with_reducible refine zas.drew ?_)) F4.o F5.o G4.o G5.o).mono ?_);rintro e u3 ⟨E3,mg,cg,rfl,he3,hb3⟩;have aX:=hb3.size;(try simp at aX);(try((first | (have d:=zan (b:=wa.heap.size) (v:=.slice none 0 0) (t:=58) hb3 (P.o);obtain⟨bi,⟨eQ,eT⟩,⟨eR,eA⟩,⟨eS,eB⟩,⟨eC,eD⟩,eE,eF⟩:=d) | (have d:=zan (b:=wa.heap.size) (v:=.slice none 0 0) (t:=58) hb3 (zak P.o);obtain⟨bi,⟨eQ,eT⟩,⟨eR,eA⟩,⟨eS,eB⟩,⟨eC,eD⟩,eE,eF⟩:=d));have bi:=un bi));(try((first | (have d:=zan (b:=u1.heap.size) (v:=.slice none 0 0) (t:=58) hb3 (U.o);obtain⟨bj,⟨eG,eJ⟩,⟨eH,eK⟩,⟨eI,eL⟩,⟨eM,eN⟩,eO,eP⟩:=d) | (have d:=zan (b:=u1.heap.size) (v:=.slice none 0 0) (t:=58) hb3 (zak U.o);obtain⟨bj,⟨eG,eJ⟩,⟨eH,eK⟩,⟨eI,eL⟩,⟨eM,eN⟩,eO,eP⟩:=d));have bj:=un bj));(try((first | (have d:=zan (b:=u2.heap.size) (v:=.slice none 0 0) (t:=58) hb3 (zal _ _ _);obtain⟨bX,⟨e2,e5⟩,⟨e3,e6⟩,⟨e4,e7⟩,⟨e8,e9⟩,fa,fb⟩:=d));have bX:=un bX));have br:=un he3;clear he3))
  all_goals
   go_wp2;go_meet;refine⟨_,E3,mg,cg,rfl,(by assumption:_/\Below wa wa _).2,?_,?_⟩
   all_goals
    repeat' (first
     | with_reducible exact br.o
     | with_reducible assumption
     | with_reducible exact zeo _ _ _
     | with_reducible exact zfx _ _ _ _
     | with_reducible refine cell_al ?_
     | with_reducible refine Box.cell ?_
     | with_reducible refine cell_set ?_ ?_
     | with_reducible exact Box.new _ _
     | with_reducible exact Box.new1 _ _ _
     | with_reducible refine Box.alloc ?_
     | with_reducible refine Box.set ?_
     | exact Box.of bi.o
     | exact Box.of bj.o
     | exact Box.of bX.o
     | with_reducible refine zas.alloc ?_ _
     | with_reducible refine zas.setBox ?_ ?_
     | with_reducible refine zas.drew ?_
     | omega)
 obtain⟨g2,D,md,cd,rfl,S,k2,hD⟩:=hcut;rename World=>wb
 have k0:=zab S k0;have k1:=zab S k1;refine μ6 (aQ.o.below S) (aR.o.below S) hD (zad S X.o) (W.o.trans (S.mono (by have:=E.o;omega))) (show w.heap.size+3<=wb.heap.size by have:=E.o;have:=S.size;omega) λaQ aR ND X W E=>?_;have S3:wlen (a%B64^k*(b%B64^k))<=2*k:=by have:=zdy (a%B64^k) (b%B64^k);have:=a6.o;have:=a7.o;omega
 have S4:wlen (a/B64^k*(b/B64^k))<=2*(g-k):=by have:=zdy (a/B64^k) (b/B64^k);have:=a6.o;have:=a7.o;omega
 have S5:wlen ((a%B64^k+a/B64^k)*(b%B64^k+b/B64^k))<=2*(k+1):=by have:=zdy (a%B64^k+a/B64^k) (b%B64^k+b/B64^k);have:=zgg (a%B64^k) (a/B64^k);have:=zgg (b%B64^k) (b/B64^k);have:=a6.o;have:=a7.o;have:=bs.o;omega
 have hle:a%B64^k*(b%B64^k)+a/B64^k*(b/B64^k)<=(a%B64^k+a/B64^k)*(b%B64^k+b/B64^k):=zAW _ _ _ _;have S6:wlen ((a%B64^k+a/B64^k)*(b%B64^k+b/B64^k)-(a%B64^k*(b%B64^k)+a/B64^k*(b/B64^k)))<=2*(k+1):=Zl (zco (Nat.sub_le _ _)) S5;refine μ5 (show wlen (a%B64^k*(b%B64^k))<=LIM by have:=F.o;have:=i.o;omega) (show wlen (a/B64^k*(b/B64^k))<=LIM by have:=F.o;have:=i.o;omega) (show wlen ((a%B64^k+a/B64^k)*(b%B64^k+b/B64^k))<=LIM by have:=F.o;have:=i.o;omega) hle (kara a b (B64^k) (Z0 δ)) λQ4 Q5 Q6 Q7 HV=>?_;have bk:B64^(2*k)=B64^k*B64^k:=by rw[Nat.two_mul,Xw]
 have wX:wlen (B64^k)<=k+1:=zaZ (YV δ ω);have R1:=un (show k+wlen ((a%B64^k+a/B64^k)*(b%B64^k+b/B64^k)-(a%B64^k*(b%B64^k)+a/B64^k*(b/B64^k)))<=LIM by have:=F.o;have:=i.o;omega);have R2:=un (show 2*k+wlen (a/B64^k*(b/B64^k))<=LIM by have:=F.o;have:=i.o;omega);generalize a%B64^k*(b%B64^k)=lo at *
 generalize a/B64^k*(b/B64^k)=hi at *
 generalize (a%B64^k+a/B64^k)*(b%B64^k+b/B64^k)=bo at *
 have R3:=un (show wlen ((bo-(lo+hi))*B64^k)<=3*k+3 by have:=zdy (bo-(lo+hi)) (B64^k);omega);have R4:=un (show wlen (hi*B64^(2*k))<=2*g+2 by have h1:=zdy hi (B64^(2*k));have h2:=zdy (B64^k) (B64^k);rw[<-bk]at h2;have:=i.o;omega);refine μ4 (show wlen ((bo-(lo+hi))*B64^k)<=LIM by have:=R3.o;have:=F.o;have:=i.o;omega) (show wlen (hi*B64^(2*k))<=LIM by have:=R4.o;have:=F.o;omega) (show wlen ((bo-(lo+hi))*B64^k+hi*B64^(2*k))<=LIM by have:=zgg ((bo-(lo+hi))*B64^k) (hi*B64^(2*k));have:=R3.o;have:=R4.o;have:=F.o;have:=i.o;omega) (show lo+((bo-(lo+hi))*B64^k+hi*B64^(2*k))=a*b by rw[bk];exact HV.o) λR5 R6 R7 cs=>?_;clear S3 S4 S5 S6 hle S hD o bk wX HV Q0 Q1 Q2 Q3 F4 F5 G4 G5;go_wp2_with fail
 have o:=un (show ∀w',Below wb wb w'->((χ w' N 0 (q,C,x)/\χ w' O 0 (r,z,u)/\χ w' g2 0 (D,md,cd))/\Below wb wb w')from λw' h=>⟨⟨zab h k0,zab h k1,zab h k2⟩,h⟩)
 go_cut[13,14] (λed ee wr=>∃(g3:Nat) (G:OA) (mg cg:Nat),ed=.pointer (some ⟨g3,0,none⟩)/\ee=true/\Below wb wb wr /\
  χ wr g3 0 (G,mg,cg)/\zas wr (G,mg,cg) (bo-(lo+hi))/\wb.heap.size<=g3)
 case first =>
  go_region_held3 (λw'=>((χ w' N 0 (q,C,x)/\χ w' O 0 (r,z,u)/\χ w' g2 0 (D,md,cd))/\Below wb wb w'))
   ((refine o.o _ ?_;repeat(first | exact Zj _ _ | exact(by assumption:_/\Below _ _ _).2 | with_reducible refine bdrew ?_ | with_reducible refine al2 ?_ _ | with_reducible refine set2 ?_ ω | with_reducible refine zc1 ?_ (by assumption))))
   (first
    | (go_at_call 137;(with_reducible refine(Nt.add q r C x z u lo hi _ (aQ.o.below (by assumption:_/\Below _ _ _).2) (aR.o.below (by assumption:_/\Below _ _ _).2) Q4.o Q5.o).mono ?_);rintro e u1 ⟨E1,me,ce,rfl,he1,l⟩;have aV:=l.size;(try simp at aV);have dq:wb.heap.size<=u1.heap.size:=ω;(try((first | (have d:=zan (b:=wb.heap.size) (v:=.slice none 0 0) (t:=58) l (zal _ _ _);obtain⟨Q,⟨eo,er⟩,⟨ep,es⟩,⟨eq,et⟩,⟨eu,ev⟩,ew,ex⟩:=d));have Q:=un Q));have a1:=un he1;clear he1)
    | (go_at_call 138;(with_reducible refine(Nt.sub_ok D E1 md cd me ce bo (lo+hi) _ (ND.o.below (by assumption:_/\Below _ _ _).2) (by repeat(first | exact a1.o | with_reducible refine zas.alloc ?_ _ | with_reducible refine zas.drew ?_)) Q7.o Q6.o).mono ?_);rintro e u2 ⟨E2,mf,cf,rfl,he2,f⟩;have aW:=f.size;(try simp at aW);have dr:wb.heap.size<=u2.heap.size:=ω;(try((first | (have d:=zan (b:=wb.heap.size) (v:=.slice none 0 0) (t:=58) f (Q.o);obtain⟨P,⟨bN,bQ⟩,⟨bO,bR⟩,⟨bP,bS⟩,⟨bT,bU⟩,bV,bW⟩:=d) | (have d:=zan (b:=wb.heap.size) (v:=.slice none 0 0) (t:=58) f (zak Q.o);obtain⟨P,⟨bN,bQ⟩,⟨bO,bR⟩,⟨bP,bS⟩,⟨bT,bU⟩,bV,bW⟩:=d));have P:=un P));(try((first | (have d:=zan (b:=u1.heap.size) (v:=.slice none 0 0) (t:=58) f (zal _ _ _);obtain⟨U,⟨ey,eh⟩,⟨ez,ei⟩,⟨eg,ej⟩,⟨ek,el⟩,em,en⟩:=d));have U:=un U));have a2:=un he2;clear he2))
  all_goals
   go_wp2;go_meet;refine⟨_,E2,mf,cf,rfl,rfl,(by assumption:_/\Below wb wb _).2,?_,?_,?_⟩
   all_goals
    repeat' (first
     | with_reducible exact a2.o
     | with_reducible assumption
     | with_reducible exact zeo _ _ _
     | with_reducible exact zfx _ _ _ _
     | with_reducible refine cell_al ?_
     | with_reducible refine Box.cell ?_
     | with_reducible refine cell_set ?_ ?_
     | with_reducible exact Box.new _ _
     | with_reducible exact Box.new1 _ _ _
     | with_reducible refine Box.alloc ?_
     | with_reducible refine Box.set ?_
     | exact Box.of P.o
     | exact Box.of U.o
     | with_reducible refine zas.alloc ?_ _
     | with_reducible refine zas.setBox ?_ ?_
     | with_reducible refine zas.drew ?_
     | omega)
 obtain⟨g3,G,mg,cg,rfl,rfl,T,k3,hG,dV⟩:=hcut;rename World=>wd
 have k0:=zab T k0;have k1:=zab T k1;refine μ3 (aQ.o.below T) (aR.o.below T) hG λaQ aR NG=>?_;have du:=E;refine μ3 (zad T X.o) (W.o.trans (T.mono (by have:=E.o;omega))) (show w.heap.size+3<=wd.heap.size by have:=E.o;have:=T.size;omega) λX W E=>?_;have dV:w.heap.size+3<=g3:=by have:=du.o;omega
 have dh:=ck.o.1;have di:=ck.o.2;clear T hG o;go_wp2_with fail
 obtain⟨kk,bF⟩:∃kk,kk=2*k:=⟨_,rfl⟩
 rw[<-bF]at R2 R4 R6 R7 cs;have dD:=un (show IntKind.i64.wrap (2*(k:Int))=(kk:Int)by rw[Xz _ (by have:=i.o;have:=F.o;have:=zaP;omega),bF];omega);clear bF
 go_region_held3 (λw'=>χ w' N 0 (q,C,x)/\χ w' O 0 (r,z,u)/\χ w' g3 0 (G,mg,cg))
  (((try go_split_ands);(try simp only[Xp]);(repeat' apply And.intro)<;>(first | assumption | exact zab l (by assumption) | exact zab f (by assumption) | exact zab hb3 (by assumption) | exact zab hb4 (by assumption) | exact cell_set ω (by assumption) | exact cell_al (by assumption))))
  (first
   | (go_at_call 142;(with_reducible refine(raised G mg cg (bo-(lo+hi)) k _ (by repeat(first | exact NG.o | with_reducible refine zas.alloc ?_ _ | with_reducible refine zas.drew ?_)) R1.o).mono ?_);rintro e u1 ⟨E1,me,ce,rfl,he1,l⟩;have aV:=l.size;(try simp at aV);have dq:wd.heap.size<=u1.heap.size:=ω;have a1:=un he1;clear he1)
   | (go_at_call 142;(with_reducible refine(zA8 r z u hi kk (IntKind.i64.wrap (2*(k:Int))) dD.o _ (by repeat(first | exact aR.o | with_reducible refine zas.alloc ?_ _ | with_reducible refine zas.drew ?_ | refine zas.below ?_ l)) R2.o).mono ?_);rintro e u2 ⟨E2,mf,cf,rfl,he2,f⟩;have aW:=f.size;(try simp at aW);have dr:wd.heap.size<=u2.heap.size:=ω;have a2:=un he2;clear he2)
   | (go_at_call 137;(with_reducible refine(Nt.add E1 E2 me ce mf cf _ _ _ (by repeat(first | exact a1.o | with_reducible refine zas.alloc ?_ _ | with_reducible refine zas.drew ?_ | refine zas.below ?_ f)) (by repeat(first | exact a2.o | with_reducible refine zas.alloc ?_ _ | with_reducible refine zas.drew ?_)) R5.o R6.o).mono ?_);rintro e u3 ⟨E3,mg3,cg3,rfl,he3,hb3⟩;have aX:=hb3.size;(try simp at aX);have br:=un he3;clear he3)
   | (go_at_call 137;(with_reducible refine(Nt.add q E3 C x mg3 cg3 lo _ _ (by repeat(first | exact aQ.o | with_reducible refine zas.alloc ?_ _ | with_reducible refine zas.drew ?_ | refine zas.below ?_ hb3 | refine zas.below ?_ f | refine zas.below ?_ l)) (by repeat(first | exact br.o | with_reducible refine zas.alloc ?_ _ | with_reducible refine zas.drew ?_)) Q4.o R7.o).mono ?_);rintro e u4 ⟨E4,mh4,ch4,rfl,he4,hb4⟩;have d6:=hb4.size;(try simp at d6);refine μ3 he4 (zad hb4 (zad hb3 (zad f (zad l X.o)))) (zc1 (zc1 (zc1 (zc1 (bdrew W.o) l) f) hb3) hb4) λdC bl dt=>?_;have b2:=zac bl.o 0;have eU:=zag bl.o 0;simp only[Xa,Z9]at b2;clear he4))
 all_goals
  go_wp2;refine Zh (v:=.agg #[(E4,mh4,ch4)]) (by simp[results,results90,go_sem,b2]) rfl ?_;have dm:=dC.o;rw[cs.o]at dm;exact⟨_,_,_,rfl,dm.setCell (p:=⟨w.heap.size+1+1,0,none⟩) bl.o δ _,Xf dt.o (by simp;omega) _⟩
theorem zrH:∀M,zpn M
 | 0=>λ_ _ _ _ _ _ _ _ _ _ _ _ _ h _=>absurd h ω
 | M+1=>λA B m c m' c' a b w d e g i j k=>by by_cases f:wlen a<8\/wlen b<8;grind[zu7];exact zA1 A B m c m' c' a b M w (zrH M) ω d e g i ω ω
theorem mul(A B:OA)(m c m' c' a b:Nat)(w:World)(d:zas w (A,m,c) a)(e:zas w (B,m',c') b)(f:4*wlen a<=LIM)(g:4*wlen b<=LIM) :
  Calls prog 90 #[.agg #[(A,m,c)],.agg #[(B,m',c')]] w (zc0 w (a*b)) :=
 zrH (wlen a+wlen b+1) A B m c m' c' a b w d e f g ω ω
end Pr
namespace Qt
def zsP (w:World) (q r:Nat) (b:Bool) (e:Ending) (w':World):Prop:=∃(A:OA) (m c:Nat),e=.returned (.tuple #[.agg #[(A,m,c)],.int .u64 (r:Int),b])/\zas w' (A,m,c) q/\Below w w w'
theorem zCw(A:OA)(m c a x:Nat)(w:World)(C:zas w (A,m,c) a)(H:0<x)(hx:x<18446744073709551616)(q:wlen a<=LIM) :
  Calls prog 186 #[.agg #[(A,m,c)],.int .u64 (x:Int)] w (zsP w (a/x) (a%x) true):=by
 obtain⟨xs,J,ac,rfl,D,rfl⟩:=C.words;rw[<-D]at q;have f:=un J;have S:=un q;have an:((x:Int) == 0)=false:=by rw[beq_eq_false_iff_ne];omega
 have am:xs.length<=9223372036854775806:=by have:=zaP;omega
 have Z:=un (show xs.length<=16*LIM by have:=zaP;omega);clear C J ac D q;go_enter func186,ntmps186;go_wp2_with fail
 refine(Nt.len (A,xs.length,c) xs _ ((f.o.alloc _).alloc _)).mono ?_;rintro e w' ⟨rfl,rfl⟩;have z:χ (((w.alloc (.cells #[(A,xs.length,c)] 58)).alloc (.cells #[()] 58)).alloc (.cells #[(A,xs.length,c)] 58)) w 0 (A,xs.length,c):=cell_al (cell_al (zax rfl rfl));have M:θ (((w.alloc (.cells #[(A,xs.length,c)] 58)).alloc (.cells #[()] 58)).alloc (.cells #[(A,xs.length,c)] 58)) (w.heap.size+1) #[()] 58:=zak (zam σ);have kb:Below w w (((w.alloc (.cells #[(A,xs.length,c)] 58)).alloc (.cells #[()] 58)).alloc (.cells #[(A,xs.length,c)] 58)):=al2 (al2 (zae w _) _) _;have N:(((w.alloc (.cells #[(A,xs.length,c)] 58)).alloc (.cells #[()] 58)).alloc (.cells #[(A,xs.length,c)] 58)).heap.size=w.heap.size+1+1+1:=σ;have I:=f.o.below kb;generalize ((w.alloc (.cells #[(A,xs.length,c)] 58)).alloc (.cells #[()] 58)).alloc (.cells #[(A,xs.length,c)] 58)=W at *
 refine μ4 I M kb N λy O Q d=>?_;clear I M kb N;go_wp2_with (at_make;go_must (refine zdz rfl _ _ rfl xs.length _ rfl rfl rfl Z.o W.heap.size rfl ?_))
 intro w1 r;have u:=un r;have Y:=r.old (by have:=d.o;omega) z;clear r;go_wp2_with (go_at_call 139;(with_reducible refine(Nt.len (A,xs.length,c) xs _ (u.o.keep y.o (Za _))).mono ?_);rintro e w' ⟨rfl,rfl⟩)
 have B:=u.o.alloc (.cells #[(A,xs.length,c)] 58);have T:=un B;clear B Y
 go_loopw [8,9] (λlv s wr=>∃(K:Int) (j L:Nat) (os:List Nat),s=.int .i64 K/\lv=.int .u64 L/\K+1=j/\j<=xs.length/\DivWInv xs os x j L/\OutAt W wr W.heap.size xs.length os)
  (λ_ s _=>(intOf s+1).toNat)
 case atStart=>exact⟨_,xs.length,0,List.replicate xs.length 0,rfl,rfl,ω,Za _,DivWInv.start xs x xs.length xs.length H (Za _) (Za _),T.o⟩
 obtain⟨K,j,L,os,rfl,rfl,hK,hj,n,b⟩:=hrel;have i:=un n;have o:=n.lft;clear n;rcases j with _ | p
 ·obtain rfl:K = -1:=ω
  have g:=i.o.eq;rw[Yx,Yx]at g;have E:nval os=nval xs/x:=by rw[g,Nat.mul_add_div H,Yt o,Yj]
  have hr:L=nval xs%x:=by rw[g,Nat.mul_add_mod,Yl o]
  have U:=un E;have V:=un hr;have F:=b.sw i.o.wds;refine μ3 F b.bel b.len λX t R=>?_;have G:=b.lt;clear g E hr F b;go_wp2_with fail
  refine(Nt.of _ os _ X.o.reads (by rw[R.o];exact S.o)).mono ?_;rintro e w3 ⟨A2,m2,c2,rfl,hs2,hb2⟩;have hk:=zad hb2 ((t.o.block (w.heap.size+1) (by have:=d.o;omega)).trans O.o);have hc:χ w3 (w.heap.size+1) 0 ():=zac hk 0;have hf:=zag hk 0;have P:=un hk;clear hk;go_wp2;refine Zh (v:=.tuple #[.agg #[(A2,m2,c2)],.int .u64 (L:Int),true]) (by simp[results,results186,go_sem,hc]) rfl ?_;rw[U.o]at hs2;rw[V.o];refine⟨_,_,_,rfl,hs2.setCell (p:=⟨w.heap.size+1,0,none⟩) P.o δ _,Xf ?_ σ _⟩;exact bstep (Q.o.trans (t.o.mono (by have:=d.o;omega))) hb2 (by have:=d.o;omega)
 obtain rfl:K=(p:Int):=ω;have aa:=un (b.keep y.o (Za _));have ak:=b.old (by have:=d.o;omega) z;have ab:=b.cell (k:=p) ω;have ad:=b.fro p;have af:=zdM f.o.2 p;have G:=b.lt;have q1:=cell_al (ob:=.cells #[(A,xs.length,c)] 58) ab;have q2:=zd1 (ob:=.cells #[(A,xs.length,c)] 58) G ad;have l:=un b;have ae:(0:Int)<=(p:Int):=Zf _;have al:(p:Int)<(xs.length:Int):=ω;clear b
 go_wp2_with (first
  | (go_at_call 170;(with_reducible refine(Nt.word (A,xs.length,c) xs _ ae _ aa.o).mono ?_);rintro e w' ⟨rfl,rfl⟩)
  | (go_at_call 195;(refine(Word.div_ok L (wd xs p) x o af hx _).mono ?_);rintro e w' ⟨rfl,nd,rfl⟩))
 refine⟨⟨_,p,_,_,rfl,rfl,ω,ω,i.o.next (by rw[l.o.len];omega) f.o.2,?_⟩,by simp[intOf]⟩
 first
  | exact((l.o.alloc _).drewN _).store p _
  | exact((l.o.alloc _).store p _).drewN _
