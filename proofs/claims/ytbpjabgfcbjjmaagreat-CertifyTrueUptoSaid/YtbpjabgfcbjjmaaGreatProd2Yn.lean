/- Contracts and lemmas: Prod2 Prod3 Prod4 Quot1 Quot2 Quot3 Quot4 Quot5 Quot6 Quot8 Quot9. Conditions: as each says. -/
import Derived.Test.YtbpjabgfcbjjmaaGreatWord3Yn
import Derived.Deep.DeepCutAuto
set_option linter.all false
set_option maxHeartbeats 10000000
set_option maxRecDepth 100000
namespace Go.Proofs.YtbpjabgfcbjjmaaGreat
open Go.RowKit Am Tryz
attribute [local go_sem ↓] Go.wp_at_zero Go.wp_at_succ
variable {xs:List Nat}{c g k:Nat}{s:Value}{w:World}
def zpo (w:World) (x y:Nat) (e:Ending) (w':World):Prop:=∃(A:OA) (m c:Nat) (B:OA) (m' c':Nat),e=.returned (.tuple #[.agg #[(A,m,c)],.agg #[(B,m',c')]])/\zas w' (A,m,c) x/\zas w' (B,m',c') y/\Below w w w'
namespace Pr
def zxA(W:World)(g n c k:Nat)(h1:k<=n) :
  (Instr.slice 56 (g,n,c) (some (.int .i64 (k:Int))) none none).run prog W=.ok (.slice (some ⟨g,if c=k then 0 else k,none⟩) (n-k) (c-k)) W:=by
 have d:prog.underlying 56=some (.slice (prog.elem 56)):=by simp[Program.elem,underlying56]
 have b:prog.elem 56=206:=by simp[Program.elem,underlying56]
 rw[run_slice_l W 56 _ _ _ d .i64 _ ω ω,b];by_cases h0:c=k;simp[Result.andThen,sliced,h0];by_cases a:k=0;subst a;simp[Result.andThen,sliced,Addr.add,h0];simp[Result.andThen,sliced,Addr.add,h0,a]
theorem run_upto(W:World)(g n c k:Nat)(h1:k<=c)(d:0<c) :
  (Instr.slice 56 (g,n,c) none (some (.int .i64 (k:Int))) none).run prog W=.ok (g,k,c) W:=by
 have b:prog.underlying 56=some (.slice (prog.elem 56)):=by simp[Program.elem,underlying56]
 have a:prog.elem 56=206:=by simp[Program.elem,underlying56]
 rw[run_slice_h W 56 _ _ _ b .i64 _ ω ω,a];have h0:c≠0:=ω;simp[Result.andThen,sliced,Addr.add,h0]
def znN(hw:Wds xs)(k:Nat):nval (xs.take k)=nval xs%B64^k/\nval (xs.drop k)=nval xs/B64^k:=by by_cases hk:k<=xs.length;have e:=zaY xs k hk;have h1:=zc8 (xs.take k) (λx b=>hw x (Yj b));rw[ZI,XD hk]at h1;have a:0<B64^k:=Z3 δ;rw[e,YQ,Yn h1,YR _ _ a,Yw h1];omega;have h1:=zc8 xs hw;have c:B64^xs.length<=B64^k:=Xq δ ω;rw[Z2 ω,XK ω,Yn ω,Yw ω];exact⟨rfl,rfl⟩
def zv6(hw:Wds xs)(k:Nat):Wds (xs.take k):=λx a=>hw x (Yj a)
def zv5(hw:Wds xs)(k:Nat):Wds (xs.drop k):=λx a=>hw x (Vp a)
def zBn(h:SW w (g,xs.length,c) xs)(hk:k<=xs.length):SR w (g,k,c) (xs.take k):=by obtain⟨A,c',e,h1,b,d,m,f⟩:=h.reads;cases e;refine⟨some ⟨g,0,none⟩,c,by rw[ZI,XD hk],by rw[ZI];omega,b,zv6 d k,nofun,λl i j u a=>?_⟩;grind[zg7,List.getElem?_take_of_lt,List.getElem?_take_eq_none]
def zBm(h:SW w (g,xs.length,c) xs)(hk:k<=xs.length):SR w (.slice (some ⟨g,if c=k then 0 else k,none⟩) (xs.length-k) (c-k)) (xs.drop k):=by
 obtain⟨A,c',e,h1,m,d,n,f⟩:=h.reads;cases e;refine⟨some ⟨g,if c=k then 0 else k,none⟩,c-k,by rw[Yh],by rw[Yh];omega,ω,zv5 d k,nofun,λl i j u a=>?_⟩;cases i;have b:(wcells xs)[k+j]? = some u:=by unfold wcells at a ⊢;rw[List.map_drop,YU]at a;exact a
 have o:k+j<xs.length:=by
  have:=(ZF.1 b).1
  rwa [zdA]at this
 rw[if_neg ω];have:=f _ rfl (k+j) u b;have e:(⟨g,0,none⟩:Addr).add (k+j)=(⟨g,k,none⟩:Addr).add j:=by unfold Addr.add;simp only[];split<;>split<;>simp<;>omega
 rwa [e]at this
def zrS{w':World}(h:SR w s xs)(i:Below w w w'):SR w' s xs:=by obtain⟨A,c,h1,b,d,e,f,g⟩:=h;exact⟨A,c,h1,b,d,e,f,λa k j u l=>by have hc:=g a k j u l;rw[i.cell (Yg w _ hc)];exact hc⟩
def zvr(h:SR w s xs):SR w.drew s xs:=zrS h (zap w 1)
theorem zJE(A:OA)(c k j:Nat)(xs:List Nat)(w:World)(r:SW w (A,xs.length,c) xs)(h1:1<=j)(hk:k<=LIM)(n:xs.length<=LIM)(i:j<=xs.length)
  (hj:(xs.length<k/\j=xs.length)\/(¬xs.length<k/\j=k)) :
  Calls prog 141 #[.agg #[(A,xs.length,c)],(k:Int)] w (zpo w (nval (xs.take j)) (nval (xs.drop j))):=by
 refine μ3 r n hk λy d M=>?_;have Q:k<=9223372036854775807:=by have:=zaP;omega
 have S:xs.length<=9223372036854775807:=by have:=zaP;omega
 have F:(if xs.length<k then xs.length else k)=j:=by rcases hj with ⟨h,rfl⟩ | ⟨h,rfl⟩<;>simp[h]
 have P:j<=9223372036854775807:=ω;clear r n hk;go_enter func141,ntmps141;go_wp2_with fail
 refine(Nt.words A xs.length c xs _ (((y.o.alloc _).alloc _).alloc _) d.o).mono ?_;rintro e w1 ⟨A1,m1,c1,rfl,hs1,hb1⟩;rcases hs1.form with ⟨h,rfl⟩ | ⟨g,cap,h,hg,hcap,hm, -⟩
 exact absurd (Zf h1 i) δ;cases h;unfold maxLen at hm;have R:=λW=>run_upto W g xs.length c1 j ω ω
 have r2:=zBm hs1 i;have f:=λW=>zxA W g xs.length c1 j ω
 generalize (if c1=j then 0 else j)=o at r2 f;have s:xs.length-j=(xs.drop j).length:=by rw[Yh]
 rw[s]at r2 f;generalize c1-j=q at r2 f;have x:=un hb1;have u:=zBn hs1 i;refine μ6 u r2 (show(xs.take j).length<=LIM by rw[ZI];have:=d.o;omega) (show(xs.drop j).length<=LIM by rw[Yh];have:=d.o;omega) ((hb1.block (w.heap.size+1) σ).trans (zak (zam (cs:=#[.slice none 0 0]) (t:=58) σ))) ((hb1.block (w.heap.size+1+1) σ).trans (zam (cs:=#[.slice none 0 0]) (t:=58) σ)) λC E z B I J=>?_;have H:=hb1.size;simp at H;clear hs1 hb1 u r2 s;generalize hT:xs.take j=T at *
 generalize hD:xs.drop j=D at *
 clear F;rcases hj with ⟨G,rfl⟩ | ⟨G,rfl⟩
 all_goals
  go_wp2_with fail
  go_region_with (first
   | (go_at_call 130;(with_reducible refine(Nt.of _ _ _ (zvr C.o) z.o).mono ?_);rintro e U ⟨A2,m2,c2,rfl,hs2,hb2⟩)
   | (go_at_call 130;(with_reducible refine(Nt.of _ _ _ (zrS (zvr E.o) hb2) B.o).mono ?_);rintro e V ⟨A3,m3,c3,rfl,hs3,hb3⟩;have a:=un (zad hb3 (zad hb2 I.o));have b:=un (zad hb3 (zad hb2 J.o));have l:=zac a.o 0;have N:=zag a.o 0;have m:=zac b.o 0;have O:=zag b.o 0;simp only[Xd,Z8]at l m))
  go_goals
  go_wp2;refine Zi (v:=.tuple #[.agg #[(A2,m2,c2)],.agg #[(A3,m3,c3)]]) (by simp[results,results141,go_sem,l,m]) rfl ?_;refine⟨_,_,_,_,_,_,rfl,((hs2.below hb3).setCell (p:=⟨w.heap.size+1,0,none⟩) a.o δ _).setCell (p:=⟨w.heap.size+1+1,0,none⟩) ((ZE _ ⟨w.heap.size+1,0,none⟩ _ (w.heap.size+1+1) σ).trans b.o) δ _,(hs3.setCell (p:=⟨w.heap.size+1,0,none⟩) a.o δ _).setCell (p:=⟨w.heap.size+1+1,0,none⟩) ((ZE _ ⟨w.heap.size+1,0,none⟩ _ (w.heap.size+1+1) σ).trans b.o) δ _,Xj (Xj ?_ σ _) (by simp;omega) _⟩;have K:=(((zae w (.cells #[(A,xs.length,c)] 58)).alloc σ (.cells #[()] 58)).alloc (by simp;omega) (.cells #[()] 58)).trans (x.o.mono (by simp;omega));have L:=bstep K (zhk (Zl _ _) 1) ω;exact bstep (bstep L hb2 (by simp;omega)) hb3 (by have:=hb2.size;simp at this;omega)
def cut(A:OA)(m c a k:Nat)(w:World)(l:zas w (A,m,c) a)(h1:1<=k)(hk:k<=LIM)(g:1<=wlen a)(d:wlen a<=LIM) :
  Calls prog 141 #[.agg #[(A,m,c)],(k:Int)] w (zpo w (a%B64^k) (a/B64^k)):=by
 obtain⟨xs,f,o,rfl,n,rfl⟩:=l.words;rw[<-n]at d g;have e:=znN f.2 k;by_cases b:xs.length<k;have h:=zJE A c k xs.length xs w f g hk d (Za _) (.inl ⟨b,rfl⟩);have i:xs.take xs.length=xs.take k:=by rw[Z2 (Za _),Z2 (Xm b)]
 have j:xs.drop xs.length=xs.drop k:=by rw[XK (Za _),XK (Xm b)]
 rw[i,j,e.1,e.2]at h;exact h;grind[zJE]
theorem raised(A:OA)(m c a k:Nat)(w:World)(x:zas w (A,m,c) a)(hk:k+wlen a<=LIM) :
    Calls prog 142 #[.agg #[(A,m,c)],(k:Int)] w (zc0 w (a*B64^k)):=by
  obtain⟨xs,E,V,rfl,B,rfl⟩:=x.words;rw[<-B]at hk;have P:=un E;have n:=un hk;have j:k<=16*LIM:=by have:=zaP;omega
  have q:=un j;have Q:=un (show xs.length<=LIM by omega);have D:nval (List.replicate k 0++xs)=nval xs*B64^k:=by rw[zc7,zbK,ZQ];simp[ZO]
  have O:=un D;have aa:k<=9223372036854775807:=by have:=zaP;omega
  have zm:=zyv k j;clear x E hk B j V D;have S:χ ((w.alloc (.cells #[(A,xs.length,c)] 58)).alloc (.cells #[()] 58)) w 0 (A,xs.length,c):=cell_al (zax rfl rfl);have I:θ ((w.alloc (.cells #[(A,xs.length,c)] 58)).alloc (.cells #[()] 58)) (w.heap.size+1) #[()] 58:=zam σ;have y:Below w w ((w.alloc (.cells #[(A,xs.length,c)] 58)).alloc (.cells #[()] 58)):=(zae w _).alloc σ _;have F:((w.alloc (.cells #[(A,xs.length,c)] 58)).alloc (.cells #[()] 58)).heap.size=w.heap.size+1+1:=σ;have u:=(P.o.alloc (.cells #[(A,xs.length,c)] 58)).alloc (.cells #[()] 58);go_enter func142,ntmps142;go_wp2_with fail
  generalize ((w.alloc (.cells #[(A,xs.length,c)] 58)).alloc (.cells #[()] 58))=W at *
  refine μ4 u y F I λs l R o=>?_;clear u y F I;have T:=cell_al (ob:=.cells (zrow k) 206) S
  go_region_law (first
    | (refine znT (by rfl) 173 func173 ξ (by rfl) _ _ (by rfl) _ (by rfl) (Nt.words A xs.length c xs _ (by first | exact s.o.drew | exact(s.o.alloc _).drew) Q.o) ?_;rintro e w1 ⟨A1,m1,T,rfl,hs1,hb1⟩;refine⟨_,rfl,?_⟩;have r:=un hs1;have b:=un hb1;clear hs1 hb1)
    | (refine zqA (by rfl) _ _ (by rfl) (by first | exact(zn5 W k q.o).drew.step b.o | exact zn5 _ k q.o) (Wds.replicate k) (by rfl) (by rfl) (by first | exact(r.o.alloc _).reads | exact r.o.reads) n.o ?_;rintro K Y U w2 C z;have M:=un C;have d:=un z;clear C z)
    | (refine znT (by rfl) 130 func130 ξ (by rfl) _ _ (by rfl) _ (by rfl) (Nt.of (K,Y,U) (List.replicate k 0 ++ xs) _ M.o.reads (by rw [Zz,ZQ];exact n.o)) ?_;rintro e J ⟨A3,m3,c3,rfl,f,hb3⟩;refine ⟨_,rfl,?_⟩;have N:=un f;have g:=un hb3;clear f hb3;
       have X:=R.o;have G:=b.o.size;try simp at G;have H:=d.o.size;try simp at H;
       have L:=un (show Below w w J by first
         | exact bstep ((bstep (zhk (l.o.alloc ω (.cells (zrow k) 206)) 1) b.o (by first | omega | (simp;done) | (simp;omega))).trans (d.o.mono (by first | omega | (simp;done) | (simp;omega)))) g.o (by first | omega | (simp;done) | (simp;omega))
         | exact bstep (((bstep (zhk l.o 1) b.o (by first | omega | (simp;done) | (simp;omega))).alloc (by first | omega | (simp;done) | (simp;omega)) (.cells (zrow k) 206)).trans (d.o.mono (by first | omega | (simp;done) | (simp;omega)))) g.o (by first | omega | (simp;done) | (simp;omega)));
       have i:=un (show θ J (w.heap.size+1) #[()] 58by first
         | exact zad g.o ((d.o.block _ ω).trans (zad b.o (zak o.o)))
         | exact zad g.o ((d.o.block _ ω).trans (zak (zad b.o o.o))));
       have t:=zac i.o 0;have Z:=zag i.o 0;simp only[Xd,Z8]at t;clear X G H))
  all_goals
    go_wp2;refine Zi (v:=.agg #[(A3,m3,c3)]) (by simp[results,results142,go_sem,t]) rfl ?_;have f:=N.o;rw[O.o]at f;exact⟨_,_,_,rfl,f.setCell (p:=⟨w.heap.size+1,0,none⟩) i.o δ _,Xj L.o σ _⟩
end Pr
namespace Pr
theorem zu7(A B:OA)(m c m' c' a b:Nat)(w:World)(i:zas w (A,m,c) a)(j:zas w (B,m',c') b)(s:wlen a+wlen b<=LIM)(x:wlen a<8\/wlen b<8) :
  Calls prog 90 #[.agg #[(A,m,c)],.agg #[(B,m',c')]] w (zc0 w (a*b)):=by
 obtain⟨xs,y,T,V,t,rfl⟩:=i.words;obtain⟨ys,z,U,W,u,rfl⟩:=j.words;refine μ5 i j s y z λD F K N P=>?_;rw[<-t,<-u]at x;obtain⟨f,k⟩:∃f,f=if ys.length<xs.length then ys.length else xs.length:=⟨_,rfl⟩
 have X:(f:Int)<8:=by split at k<;>omega
 have Y:(if ys.length<xs.length then (ys.length:Int)else (xs.length:Int))=(f:Int):=by rw[k];split<;>rfl
 clear k x;clear i j s y z T U V W t u;have R:χ (((w.alloc (.cells #[(A,xs.length,c)] 58)).alloc (.cells #[(B,ys.length,c')] 58)).alloc (.cells #[()] 58)) w 0 (A,xs.length,c):=cell_al (cell_al (zax rfl rfl));have g:χ (((w.alloc (.cells #[(A,xs.length,c)] 58)).alloc (.cells #[(B,ys.length,c')] 58)).alloc (.cells #[()] 58)) (w.heap.size+1) 0 (B,ys.length,c'):=cell_al (zax σ rfl);have k2:θ (((w.alloc (.cells #[(A,xs.length,c)] 58)).alloc (.cells #[(B,ys.length,c')] 58)).alloc (.cells #[()] 58)) (w.heap.size+1+1) #[()] 58:=zam σ;have kb:Below w w (((w.alloc (.cells #[(A,xs.length,c)] 58)).alloc (.cells #[(B,ys.length,c')] 58)).alloc (.cells #[()] 58)):=((zae w _).alloc σ _).alloc (by simp;omega) _;have C:(((w.alloc (.cells #[(A,xs.length,c)] 58)).alloc (.cells #[(B,ys.length,c')] 58)).alloc (.cells #[()] 58)).heap.size=w.heap.size+1+1+1:=σ;have n:=D.o.below kb;have o:=F.o.below kb;have q:=N.o.below kb;have r:=P.o.below kb;go_enter func90,ntmps90;go_wp2_with fail
 generalize (((w.alloc (.cells #[(A,xs.length,c)] 58)).alloc (.cells #[(B,ys.length,c')] 58)).alloc (.cells #[()] 58))=W0 at *
 refine μ8 (show ∀w',Below W0 W0 w'->((χ w' w 0 (A,xs.length,c)/\χ w' (w.heap.size+1) 0 (B,ys.length,c'))/\Below W0 W0 w')from λw' h=>⟨⟨zab h R,zab h g⟩,h⟩) q r n o k2 kb C λL O Q E G H J l=>?_;clear q r n o k2 kb C
 go_region_held3 (λw'=>(χ w' w 0 (A,xs.length,c)/\χ w' (w.heap.size+1) 0 (B,ys.length,c'))/\Below W0 W0 w')
  ((refine L.o _ ?_;repeat(first | exact Zl _ _ | exact(by assumption:_/\Below _ _ _).2 | with_reducible refine bdrew ?_ | with_reducible refine al2 ?_ _)))
  (first
   | (go_at_call 139;(with_reducible refine(Nt.len (A,xs.length,c) xs _ (O.o.below (by assumption:_/\Below _ _ _).2)).mono ?_);rintro e w' ⟨rfl,rfl⟩)
   | (go_at_call 139;(with_reducible refine(Nt.len (B,ys.length,c') ys _ (Q.o.below (by assumption:_/\Below _ _ _).2)).mono ?_);rintro e w' ⟨rfl,rfl⟩))
 go_wp2_with fail
 have d:=(by assumption:_/\Below W0 W0 ((W0.alloc (.cells #[(A,xs.length,c)] 58)).alloc (.cells #[(B,ys.length,c')] 58)).drew).2;refine(school A B xs.length c ys.length c' a b _ (E.o.below d) (G.o.below d) K.o).mono ?_;rintro e w1 ⟨A1,m1,g,rfl,hs1,hb1⟩;have hk:=zad hb1 (zad d H.o);have hc:χ w1 (w.heap.size+1+1) 0 ():=zac hk 0;have hf:=zag hk 0;refine μ3 hk (bstep (J.o.trans (d.mono (by have:=l.o;omega))) hb1 (by have:=l.o;have:=d.size;omega)) hs1 λI S M=>?_;clear hk hs1 d;go_wp2;refine Zi (v:=.agg #[(A1,m1,g)]) (by simp[results,results90,go_sem,hc]) rfl ?_;exact⟨_,_,_,rfl,M.o.setCell (p:=⟨w.heap.size+1+1,0,none⟩) I.o δ _,Xj S.o (by simp;omega) _⟩
end Pr
namespace Pr
def zA8(A:OA)(m c a k:Nat)(K:Int)(b:K=(k:Int))(w:World)(d:zas w (A,m,c) a)(hk:k+wlen a<=LIM) :
  Calls prog 142 #[.agg #[(A,m,c)],.int .i64 K] w (zc0 w (a*B64^k)):=by grind[raised]
def zAW(p q r s:Nat):p*r+q*s<=(p+q)*(r+s):=ψ
def kara(a b X:Nat)(_:0<X):a%X*(b%X)+(((a%X+a/X)*(b%X+b/X)-(a%X*(b%X)+a/X*(b/X)))*X+a/X*(b/X)*(X*X))=a*b:=by
 have c:=Nat.mod_add_div a X;have d:=Nat.mod_add_div b X;generalize a%X=p at *
 generalize a/X=q at *
 generalize b%X=r at *
 generalize b/X=s at *
 have:(p+q)*(r+s)-(p*r+q*s)=p*s+q*r:=ψ;rw[this,<-c,<-d];grind
def zpn (M:Nat):Prop := ∀ (A B:OA) (m c m' c' a b:Nat) (w:World),zas w (A,m,c) a -> zas w (B,m',c') b -> 4 * wlen a <= LIM -> 4 * wlen b <= LIM -> wlen a < M -> wlen b < M ->
    Calls prog 90 #[.agg #[(A,m,c)],.agg #[(B,m',c')]] w (zc0 w (a*b))
def zA1(A B:OA)(m c m' c' a b M:Nat)(w:World)(ih:zpn M)(hM:wlen a<=M/\wlen b<=M)(ha:zas w (A,m,c) a)(hb:zas w (B,m',c') b)(dX:4*wlen a<=LIM)(dY:4*wlen b<=LIM)(bB:8<=wlen a)(bC:8<=wlen b) :
  Calls prog 90 #[.agg #[(A,m,c)],.agg #[(B,m',c')]] w (zc0 w (a*b)):=by
 obtain⟨xs,hx,dT,d4,bG,rfl⟩:=ha.words;obtain⟨ys,hy,dU,d5,bH,rfl⟩:=hb.words;refine μ4 ha hb bG bH λHA HB bt bu=>?_;unfold zpn at ih;refine μ3 ih hx hy λIH HX HY=>?_;rw[<-bG]at bB;rw[<-bH]at bC;obtain⟨mn,bI⟩:∃mn,mn=if ys.length<xs.length then ys.length else xs.length:=⟨_,rfl⟩
 have dZ:¬(mn:Int)<8:=by split at bI<;>omega
 have d2:(if ys.length<xs.length then (ys.length:Int)else (xs.length:Int))=(mn:Int):=by rw[bI];split<;>rfl
 obtain⟨g,bJ⟩:∃g,g=if xs.length<ys.length then ys.length else xs.length:=⟨_,rfl⟩
 have d0:(if xs.length<ys.length then (ys.length:Int)else (xs.length:Int))=(g:Int):=by rw[bJ];split<;>rfl
 have dl:xs.length<=g/\ys.length<=g/\g<=LIM/\g<=M/\4*g<=LIM:=by have:=zaP;split at bJ<;>omega
 have eW:8<=g:=ω;have R:=un dl;have eX:g<=9223372036854775806:=by have:=zaP;omega
 clear bI bJ dl;clear ih ha hb hx hy dT dU d4 d5 bG bH;have c0:χ (((w.alloc (.cells #[(A,xs.length,c)] 58)).alloc (.cells #[(B,ys.length,c')] 58)).alloc (.cells #[()] 58)) w 0 (A,xs.length,c):=cell_al (cell_al (zax rfl rfl));have n:χ (((w.alloc (.cells #[(A,xs.length,c)] 58)).alloc (.cells #[(B,ys.length,c')] 58)).alloc (.cells #[()] 58)) (w.heap.size+1) 0 (B,ys.length,c'):=cell_al (zax σ rfl);have k2:θ (((w.alloc (.cells #[(A,xs.length,c)] 58)).alloc (.cells #[(B,ys.length,c')] 58)).alloc (.cells #[()] 58)) (w.heap.size+1+1) #[()] 58:=zam σ;have kb:Below w w (((w.alloc (.cells #[(A,xs.length,c)] 58)).alloc (.cells #[(B,ys.length,c')] 58)).alloc (.cells #[()] 58)):=((zae w _).alloc σ _).alloc (by simp;omega) _;have kz:(((w.alloc (.cells #[(A,xs.length,c)] 58)).alloc (.cells #[(B,ys.length,c')] 58)).alloc (.cells #[()] 58)).heap.size=w.heap.size+1+1+1:=σ;have c6:=HA.o.below kb;have c7:=HB.o.below kb;have de:=HX.o.below kb;have df:=HY.o.below kb;go_enter func90,ntmps90;go_wp2_with fail
 generalize (((w.alloc (.cells #[(A,xs.length,c)] 58)).alloc (.cells #[(B,ys.length,c')] 58)).alloc (.cells #[()] 58))=W0 at *
 refine μ8 (show ∀w',Below W0 W0 w'->((χ w' w 0 (A,xs.length,c)/\χ w' (w.heap.size+1) 0 (B,ys.length,c'))/\Below W0 W0 w')from λw' h=>⟨⟨zab h c0,zab h n⟩,h⟩) de df c6 c7 k2 kb kz λo bv bw dz dB cn co cp=>?_;clear de df c6 c7 k2 kb kz;have dw:=un bB;have dx:=un bC;clear dX dY bB bC
 go_region_held3 (λw'=>(χ w' w 0 (A,xs.length,c)/\χ w' (w.heap.size+1) 0 (B,ys.length,c'))/\Below W0 W0 w')
  ((refine o.o _ ?_;repeat(first | exact Zl _ _ | exact(by assumption:_/\Below _ _ _).2 | with_reducible refine bdrew ?_ | with_reducible refine al2 ?_ _)))
  (first
   | (go_at_call 139;(with_reducible refine(Nt.len (A,xs.length,c) xs _ (bv.o.below (by assumption:_/\Below _ _ _).2)).mono ?_);rintro e w' ⟨rfl,rfl⟩)
   | (go_at_call 139;(with_reducible refine(Nt.len (B,ys.length,c') ys _ (bw.o.below (by assumption:_/\Below _ _ _).2)).mono ?_);rintro e w' ⟨rfl,rfl⟩))
 go_wp2_with fail
 go_region_held3 (λw'=>(χ w' w 0 (A,xs.length,c)/\χ w' (w.heap.size+1) 0 (B,ys.length,c'))/\Below W0 W0 w')
  ((refine o.o _ ?_;repeat(first | exact Zl _ _ | exact(by assumption:_/\Below _ _ _).2 | with_reducible refine bdrew ?_ | with_reducible refine al2 ?_ _)))
  (first
   | (go_at_call 139;(with_reducible refine(Nt.len (A,xs.length,c) xs _ (bv.o.below (by assumption:_/\Below _ _ _).2)).mono ?_);rintro e w' ⟨rfl,rfl⟩)
   | (go_at_call 139;(with_reducible refine(Nt.len (B,ys.length,c') ys _ (bw.o.below (by assumption:_/\Below _ _ _).2)).mono ?_);rintro e w' ⟨rfl,rfl⟩))
 obtain⟨k,hk⟩:∃k,k=(g+1)/2:=⟨_,rfl⟩
 have e1:IntKind.i64.wrap ((IntKind.i64.wrap ((g:Int)+1)).tdiv 2)=(k:Int):=by rw[XC ((g:Int)+1) ω,Int.tdiv_eq_ediv_of_nonneg ω,hk];have:((g:Int)+1)/2=(((g+1)/2:Nat):Int):=ω;rw[this,XC _ ω]
 simp only[e1];clear e1;have dW:4<=k:=ω;have dk:k+1<g:=ω;have dj:g<=2*k:=ω;clear hk;have hh:=(by assumption:_/\Below W0 W0 ((((W0.alloc (.cells #[(A,xs.length,c)] 58)).alloc (.cells #[(B,ys.length,c')] 58)).alloc (.cells #[(A,xs.length,c)] 58)).alloc (.cells #[(B,ys.length,c')] 58)).drew.drew).2;generalize hV:((((W0.alloc (.cells #[(A,xs.length,c)] 58)).alloc (.cells #[(B,ys.length,c')] 58)).alloc (.cells #[(A,xs.length,c)] 58)).alloc (.cells #[(B,ys.length,c')] 58)).drew.drew=w1 at *
 clear hV;refine μ3 dW dk dj λHK i bs=>?_;have d1:=zab hh n;refine μ6 (dz.o.below hh) (dB.o.below hh) d1 (zad hh cn.o) (co.o.trans (hh.mono (by have:=cp.o;omega))) (show w.heap.size+3<=w1.heap.size by have:=hh.size;have:=cp.o;omega) λci cj D1 D2 DB DZ=>?_;clear dj dk c0 n d2 d0 dZ HX HY bv bw co o cn;go_wp2_with fail
 have G:(∃v,v=1):=⟨1,rfl⟩
 refine(cut A xs.length c a k _ ci.o ω (by have:=R.o;have:=i.o;omega) (by rw[<-bt.o];have:=dw.o;omega) (by have:=R.o;rw[<-bt.o];omega)).mono ?_;rintro e w2 ⟨A1,m1,n,A2,m2,c2,rfl,ha0,a4,f⟩;have d3:=cell_al (ob:=.cells #[(A2,m2,c2)] 58) (cell_al (ob:=.cells #[(A1,m1,n)] 58) (zab f D1.o));refine μ3 ha0 a4 f λcb cc a5=>?_;have aW:=f.size;have aV:=DZ.o;clear ha0 a4 f G;go_wp2_with fail
 refine(cut B ys.length c' b k _ ((cj.o.below a5.o).alloc _ |>.alloc _) ω (by have:=R.o;have:=i.o;omega) (by rw[<-bu.o];have:=dx.o;omega) (by have:=R.o;rw[<-bu.o];omega)).mono ?_;rintro e H ⟨B1,m3,c3,B2,m4,c4,rfl,hb0,hb1',hb3⟩;have aX:=hb3.size;simp at aX;clear d3;go_wp2_with fail
 have P0:χ ((H.alloc (.cells #[(B1,m3,c3)] 58)).alloc (.cells #[(B2,m4,c4)] 58)) w2 0 (A1,m1,n):=cell_al (cell_al (zab hb3 (cell_al (zax rfl rfl))));have P1:χ ((H.alloc (.cells #[(B1,m3,c3)] 58)).alloc (.cells #[(B2,m4,c4)] 58)) (w2.heap.size+1) 0 (A2,m2,c2):=cell_al (cell_al (zab hb3 (zax σ rfl)));have P2:χ ((H.alloc (.cells #[(B1,m3,c3)] 58)).alloc (.cells #[(B2,m4,c4)] 58)) H 0 (B1,m3,c3):=cell_al (zax rfl rfl);have P3:χ ((H.alloc (.cells #[(B1,m3,c3)] 58)).alloc (.cells #[(B2,m4,c4)] 58)) (H.heap.size+1) 0 (B2,m4,c4):=zax σ rfl;refine μ7 ((((cb.o.alloc (.cells #[(A1,m1,n)] 58)).alloc (.cells #[(A2,m2,c2)] 58)).below hb3).alloc (.cells #[(B1,m3,c3)] 58) |>.alloc (.cells #[(B2,m4,c4)] 58)) ((((cc.o.alloc (.cells #[(A1,m1,n)] 58)).alloc (.cells #[(A2,m2,c2)] 58)).below hb3).alloc (.cells #[(B1,m3,c3)] 58) |>.alloc (.cells #[(B2,m4,c4)] 58)) ((hb0.alloc (.cells #[(B1,m3,c3)] 58)).alloc (.cells #[(B2,m4,c4)] 58)) ((hb1'.alloc (.cells #[(B1,m3,c3)] 58)).alloc (.cells #[(B2,m4,c4)] 58)) (show θ ((H.alloc (.cells #[(B1,m3,c3)] 58)).alloc (.cells #[(B2,m4,c4)] 58)) (w.heap.size+1+1) #[()] 58from zak (zak (zad hb3 (zak (zak (zad a5.o D2.o)))))) (show Below w w ((H.alloc (.cells #[(B1,m3,c3)] 58)).alloc (.cells #[(B2,m4,c4)] 58))from al2 (al2 (zc1 (al2 (al2 (zc1 DB.o a5.o) _) _) hb3) _) _) (show w.heap.size+3<=((H.alloc (.cells #[(B1,m3,c3)] 58)).alloc (.cells #[(B2,m4,c4)] 58)).heap.size by simp;omega) λN0 N1 N2 N3 X W E=>?_;generalize hV:(H.alloc (.cells #[(B1,m3,c3)] 58)).alloc (.cells #[(B2,m4,c4)] 58)=V at *
 clear hV hb0 hb1' hb3 aX a5 cb cc DB DZ D2 D1 ci cj;generalize w2.heap.size=p0 at *
 generalize H.heap.size=q0 at *
 have a4:wlen (a%B64^k)<=k:=zaZ (Z0 _ (Z3 δ));have l:wlen (b%B64^k)<=k:=zaZ (Z0 _ (Z3 δ));have dg:wlen (a/B64^k)<=g-k:=zaZ (by
  have h1:=zfD a;have h2:B64^wlen a<=B64^(g-k)*B64^k:=by rw[<-XA];exact Xq δ (by have:=R.o;have:=bt.o;have:=i.o;omega)
  exact(Xv (Z3 δ)).2 ω)
 have f:wlen (b/B64^k)<=g-k:=zaZ (by
  have h1:=zfD b;have h2:B64^wlen b<=B64^(g-k)*B64^k:=by rw[<-XA];exact Xq δ (by have:=R.o;have:=bu.o;have:=i.o;omega)
  exact(Xv (Z3 δ)).2 ω)
 have dc:4*g<=LIM:=by have:=R.o;omega
 refine μ4 (show 4*wlen (a%B64^k)<=LIM by have:=i.o;omega) (show 4*wlen (a/B64^k)<=LIM by omega) (show 4*wlen (b%B64^k)<=LIM by have:=i.o;omega) (show 4*wlen (b/B64^k)<=LIM by omega) λF0 F1 F2 F3=>?_;have dd:g<=M:=by have:=R.o;omega
 refine μ8 (show wlen (a%B64^k)<M by have:=i.o;omega) (show wlen (a/B64^k)<M by have:=HK.o;omega) (show wlen (b%B64^k)<M by have:=i.o;omega) (show wlen (b/B64^k)<M by have:=HK.o;omega) (And.intro a4 dg) (And.intro l f) dc dd λG0 G1 G2 G3 a6 a7 F cq=>?_;clear a4 dg l f dc dd;have o:=un (show ∀w',Below V V w'->((χ w' p0 0 (A1,m1,n)/\χ w' (p0+1) 0 (A2,m2,c2)/\χ w' q0 0 (B1,m3,c3)/\χ w' (q0+1) 0 (B2,m4,c4))/\Below V V w')from λw' h=>⟨⟨zab h P0,zab h P1,zab h P2,zab h P3⟩,h⟩)
 go_cut[10,11] (λea eb wr=>∃(N O:Nat) (q:OA) (C x:Nat) (r:OA) (z u:Nat),ea=.pointer (some ⟨N,0,none⟩)/\eb=.pointer (some ⟨O,0,none⟩)/\Below V V wr /\
  χ wr N 0 (q,C,x)/\χ wr O 0 (r,z,u)/\zas wr (q,C,x) (a%B64^k*(b%B64^k))/\zas wr (r,z,u) (a/B64^k*(b/B64^k))/\V.heap.size<=N/\V.heap.size<=O)
 case first =>
  go_region_held3 (λw'=>(χ w' p0 0 (A1,m1,n)/\χ w' (p0+1) 0 (A2,m2,c2)/\χ w' q0 0 (B1,m3,c3)/\χ w' (q0+1) 0 (B2,m4,c4))/\Below V V w')
   ((refine o.o _ ?_;repeat(first | exact Zl _ _ | exact(by assumption:_/\Below _ _ _).2 | with_reducible refine bdrew ?_ | with_reducible refine al2 ?_ _ | with_reducible refine set2 ?_ ω | with_reducible refine zc1 ?_ (by assumption))))
   (first
    | (go_at_call 90;(with_reducible refine(IH.o A1 B1 m1 n m3 c3 (a%B64^k) (b%B64^k) _ (N0.o.below (by assumption:_/\Below _ _ _).2) (N2.o.below (by assumption:_/\Below _ _ _).2) F0.o F2.o G0.o G2.o).mono ?_);rintro e u1 ⟨q,C,x,rfl,hl,hbl⟩;have d9:=hbl.size;(try simp at d9);have eY:V.heap.size<=u1.heap.size:=ω;(try((first | (have d:=zan (b:=V.heap.size) (v:=.slice none 0 0) (t:=58) hbl (zal _ _ _);obtain⟨j,⟨cF,cI⟩,⟨cG,cJ⟩,⟨cH,cK⟩,⟨cL,cM⟩,cN,cO⟩:=d) | (have d:=zan (b:=V.heap.size) (v:=.slice none 0 0) (t:=58) hbl (zak (zal _ _ _));obtain⟨j,⟨cF,cI⟩,⟨cG,cJ⟩,⟨cH,cK⟩,⟨cL,cM⟩,cN,cO⟩:=d) | (have d:=zan (b:=V.heap.size) (v:=.slice none 0 0) (t:=58) hbl (zbD _ _ _ _);obtain⟨j,⟨cF,cI⟩,⟨cG,cJ⟩,⟨cH,cK⟩,⟨cL,cM⟩,cN,cO⟩:=d));have j:=un j));(try((first | (have d:=zan (b:=V.heap.size+1) (v:=.slice none 0 0) (t:=58) hbl (zal _ _ _);obtain⟨s,⟨cP,cS⟩,⟨cQ,cT⟩,⟨cR,cU⟩,⟨cV,cW⟩,cX,cY⟩:=d) | (have d:=zan (b:=V.heap.size+1) (v:=.slice none 0 0) (t:=58) hbl (zak (zal _ _ _));obtain⟨s,⟨cP,cS⟩,⟨cQ,cT⟩,⟨cR,cU⟩,⟨cV,cW⟩,cX,cY⟩:=d) | (have d:=zan (b:=V.heap.size+1) (v:=.slice none 0 0) (t:=58) hbl (zbD _ _ _ _);obtain⟨s,⟨cP,cS⟩,⟨cQ,cT⟩,⟨cR,cU⟩,⟨cV,cW⟩,cX,cY⟩:=d));have s:=un s));have dE:=un hl;clear hl)
    | (go_at_call 90;(with_reducible refine(IH.o A2 B2 m2 c2 m4 c4 (a/B64^k) (b/B64^k) _ (N1.o.below (by assumption:_/\Below _ _ _).2) (N3.o.below (by assumption:_/\Below _ _ _).2) F1.o F3.o G1.o G3.o).mono ?_);rintro e u2 ⟨r,z,u,rfl,hh2,hbh⟩;have d8:=hbh.size;(try simp at d8);have eZ:V.heap.size<=u2.heap.size:=ω;(try((first | (have d:=zan (b:=V.heap.size) (v:=.slice none 0 0) (t:=58) hbh (j.o);obtain⟨I,⟨Y,ab⟩,⟨Z,ac⟩,⟨aa,ad⟩,⟨ae,af⟩,ag,ah⟩:=d) | (have d:=zan (b:=V.heap.size) (v:=.slice none 0 0) (t:=58) hbh (s.o);obtain⟨I,⟨Y,ab⟩,⟨Z,ac⟩,⟨aa,ad⟩,⟨ae,af⟩,ag,ah⟩:=d) | (have d:=zan (b:=V.heap.size) (v:=.slice none 0 0) (t:=58) hbh (zak j.o);obtain⟨I,⟨Y,ab⟩,⟨Z,ac⟩,⟨aa,ad⟩,⟨ae,af⟩,ag,ah⟩:=d) | (have d:=zan (b:=V.heap.size) (v:=.slice none 0 0) (t:=58) hbh (zak s.o);obtain⟨I,⟨Y,ab⟩,⟨Z,ac⟩,⟨aa,ad⟩,⟨ae,af⟩,ag,ah⟩:=d) | (have d:=zan (b:=V.heap.size) (v:=.slice none 0 0) (t:=58) hbh (zak (zak j.o));obtain⟨I,⟨Y,ab⟩,⟨Z,ac⟩,⟨aa,ad⟩,⟨ae,af⟩,ag,ah⟩:=d) | (have d:=zan (b:=V.heap.size) (v:=.slice none 0 0) (t:=58) hbh (zal _ _ _);obtain⟨I,⟨Y,ab⟩,⟨Z,ac⟩,⟨aa,ad⟩,⟨ae,af⟩,ag,ah⟩:=d) | (have d:=zan (b:=V.heap.size) (v:=.slice none 0 0) (t:=58) hbh (zak (zal _ _ _));obtain⟨I,⟨Y,ab⟩,⟨Z,ac⟩,⟨aa,ad⟩,⟨ae,af⟩,ag,ah⟩:=d) | (have d:=zan (b:=V.heap.size) (v:=.slice none 0 0) (t:=58) hbh (zbD _ _ _ _);obtain⟨I,⟨Y,ab⟩,⟨Z,ac⟩,⟨aa,ad⟩,⟨ae,af⟩,ag,ah⟩:=d));have I:=un I));(try((first | (have d:=zan (b:=V.heap.size+1) (v:=.slice none 0 0) (t:=58) hbh (j.o);obtain⟨J,⟨ai,al⟩,⟨aj,am⟩,⟨ak,an⟩,⟨ao,ap⟩,aq,ar⟩:=d) | (have d:=zan (b:=V.heap.size+1) (v:=.slice none 0 0) (t:=58) hbh (s.o);obtain⟨J,⟨ai,al⟩,⟨aj,am⟩,⟨ak,an⟩,⟨ao,ap⟩,aq,ar⟩:=d) | (have d:=zan (b:=V.heap.size+1) (v:=.slice none 0 0) (t:=58) hbh (zak j.o);obtain⟨J,⟨ai,al⟩,⟨aj,am⟩,⟨ak,an⟩,⟨ao,ap⟩,aq,ar⟩:=d) | (have d:=zan (b:=V.heap.size+1) (v:=.slice none 0 0) (t:=58) hbh (zak s.o);obtain⟨J,⟨ai,al⟩,⟨aj,am⟩,⟨ak,an⟩,⟨ao,ap⟩,aq,ar⟩:=d) | (have d:=zan (b:=V.heap.size+1) (v:=.slice none 0 0) (t:=58) hbh (zak (zak j.o));obtain⟨J,⟨ai,al⟩,⟨aj,am⟩,⟨ak,an⟩,⟨ao,ap⟩,aq,ar⟩:=d) | (have d:=zan (b:=V.heap.size+1) (v:=.slice none 0 0) (t:=58) hbh (zal _ _ _);obtain⟨J,⟨ai,al⟩,⟨aj,am⟩,⟨ak,an⟩,⟨ao,ap⟩,aq,ar⟩:=d) | (have d:=zan (b:=V.heap.size+1) (v:=.slice none 0 0) (t:=58) hbh (zak (zal _ _ _));obtain⟨J,⟨ai,al⟩,⟨aj,am⟩,⟨ak,an⟩,⟨ao,ap⟩,aq,ar⟩:=d) | (have d:=zan (b:=V.heap.size+1) (v:=.slice none 0 0) (t:=58) hbh (zbD _ _ _ _);obtain⟨J,⟨ai,al⟩,⟨aj,am⟩,⟨ak,an⟩,⟨ao,ap⟩,aq,ar⟩:=d));have J:=un J));(try((first | (have d:=zan (b:=u1.heap.size) (v:=.slice none 0 0) (t:=58) hbh (j.o);obtain⟨K,⟨au,ax⟩,⟨av,ay⟩,⟨aw,az⟩,⟨aA,aB⟩,aC,aD⟩:=d) | (have d:=zan (b:=u1.heap.size) (v:=.slice none 0 0) (t:=58) hbh (s.o);obtain⟨K,⟨au,ax⟩,⟨av,ay⟩,⟨aw,az⟩,⟨aA,aB⟩,aC,aD⟩:=d) | (have d:=zan (b:=u1.heap.size) (v:=.slice none 0 0) (t:=58) hbh (zak j.o);obtain⟨K,⟨au,ax⟩,⟨av,ay⟩,⟨aw,az⟩,⟨aA,aB⟩,aC,aD⟩:=d) | (have d:=zan (b:=u1.heap.size) (v:=.slice none 0 0) (t:=58) hbh (zak s.o);obtain⟨K,⟨au,ax⟩,⟨av,ay⟩,⟨aw,az⟩,⟨aA,aB⟩,aC,aD⟩:=d) | (have d:=zan (b:=u1.heap.size) (v:=.slice none 0 0) (t:=58) hbh (zak (zak j.o));obtain⟨K,⟨au,ax⟩,⟨av,ay⟩,⟨aw,az⟩,⟨aA,aB⟩,aC,aD⟩:=d) | (have d:=zan (b:=u1.heap.size) (v:=.slice none 0 0) (t:=58) hbh (zal _ _ _);obtain⟨K,⟨au,ax⟩,⟨av,ay⟩,⟨aw,az⟩,⟨aA,aB⟩,aC,aD⟩:=d) | (have d:=zan (b:=u1.heap.size) (v:=.slice none 0 0) (t:=58) hbh (zak (zal _ _ _));obtain⟨K,⟨au,ax⟩,⟨av,ay⟩,⟨aw,az⟩,⟨aA,aB⟩,aC,aD⟩:=d) | (have d:=zan (b:=u1.heap.size) (v:=.slice none 0 0) (t:=58) hbh (zbD _ _ _ _);obtain⟨K,⟨au,ax⟩,⟨av,ay⟩,⟨aw,az⟩,⟨aA,aB⟩,aC,aD⟩:=d));have K:=un K));(try((first | (have d:=zan (b:=u1.heap.size+1) (v:=.slice none 0 0) (t:=58) hbh (j.o);obtain⟨L,⟨aE,aH⟩,⟨aF,aI⟩,⟨aG,aJ⟩,⟨aK,aL⟩,aM,aN⟩:=d) | (have d:=zan (b:=u1.heap.size+1) (v:=.slice none 0 0) (t:=58) hbh (s.o);obtain⟨L,⟨aE,aH⟩,⟨aF,aI⟩,⟨aG,aJ⟩,⟨aK,aL⟩,aM,aN⟩:=d) | (have d:=zan (b:=u1.heap.size+1) (v:=.slice none 0 0) (t:=58) hbh (zak j.o);obtain⟨L,⟨aE,aH⟩,⟨aF,aI⟩,⟨aG,aJ⟩,⟨aK,aL⟩,aM,aN⟩:=d) | (have d:=zan (b:=u1.heap.size+1) (v:=.slice none 0 0) (t:=58) hbh (zak s.o);obtain⟨L,⟨aE,aH⟩,⟨aF,aI⟩,⟨aG,aJ⟩,⟨aK,aL⟩,aM,aN⟩:=d) | (have d:=zan (b:=u1.heap.size+1) (v:=.slice none 0 0) (t:=58) hbh (zak (zak j.o));obtain⟨L,⟨aE,aH⟩,⟨aF,aI⟩,⟨aG,aJ⟩,⟨aK,aL⟩,aM,aN⟩:=d) | (have d:=zan (b:=u1.heap.size+1) (v:=.slice none 0 0) (t:=58) hbh (zal _ _ _);obtain⟨L,⟨aE,aH⟩,⟨aF,aI⟩,⟨aG,aJ⟩,⟨aK,aL⟩,aM,aN⟩:=d) | (have d:=zan (b:=u1.heap.size+1) (v:=.slice none 0 0) (t:=58) hbh (zak (zal _ _ _));obtain⟨L,⟨aE,aH⟩,⟨aF,aI⟩,⟨aG,aJ⟩,⟨aK,aL⟩,aM,aN⟩:=d) | (have d:=zan (b:=u1.heap.size+1) (v:=.slice none 0 0) (t:=58) hbh (zbD _ _ _ _);obtain⟨L,⟨aE,aH⟩,⟨aF,aI⟩,⟨aG,aJ⟩,⟨aK,aL⟩,aM,aN⟩:=d));have L:=un L));have dF:=un hh2;clear hh2))
  all_goals
   go_wp2;go_meet;refine⟨_,_,q,C,x,r,z,u,rfl,rfl,(by assumption:_/\Below V V _).2,?_,?_,?_,?_,?_,?_⟩
   all_goals (repeat' (first
    | exact dF.o | exact dE.o | assumption
    | with_reducible exact zeo _ _ _ | with_reducible exact zfx _ _ _ _
    | with_reducible refine cell_al ?_ | with_reducible refine Box.cell ?_ | with_reducible refine cell_set ?_ ?_
    | with_reducible exact Box.new _ _ | with_reducible exact Box.new1 _ _ _ | with_reducible refine Box.alloc ?_ | with_reducible refine Box.set ?_
    | exact Box.of I.o | exact Box.of J.o | exact Box.of K.o | exact Box.of L.o
    | with_reducible refine zas.alloc ?_ _ | with_reducible refine zas.setBox ?_ ?_ | refine zas.below ?_ hbh | with_reducible refine zas.drew ?_
    | omega))
 obtain⟨N,O,q,C,x,r,z,u,rfl,rfl,y,k0,k1,da,db,dh,di⟩:=hcut;rename World=>wa
 have P0:=zab y P0;have P1:=zab y P1;have P2:=zab y P2;have P3:=zab y P3;refine μ6 (N0.o.below y) (N1.o.below y) (N2.o.below y) (N3.o.below y) da db λN0 N1 N2 N3 aQ aR=>?_;have dv:=E;refine μ4 (zad y X.o) (W.o.trans (y.mono (by have:=E.o;omega))) (show w.heap.size+3<=wa.heap.size by have:=E.o;have:=y.size;omega) (show w.heap.size+3<=N/\w.heap.size+3<=O by have:=dv.o;omega) λX W E ck=>?_;clear dh di;have S1:wlen (a%B64^k+a/B64^k)<=k+1:=by have:=zgg (a%B64^k) (a/B64^k);have:=a6.o;have:=bs.o;omega
 have S2:wlen (b%B64^k+b/B64^k)<=k+1:=by have:=zgg (b%B64^k) (b/B64^k);have:=a7.o;have:=bs.o;omega
 refine μ8 (show 4*wlen (a%B64^k+a/B64^k)<=LIM by have:=F.o;have:=i.o;omega) (show 4*wlen (b%B64^k+b/B64^k)<=LIM by have:=F.o;have:=i.o;omega) (show wlen (a%B64^k+a/B64^k)<M by have:=cq.o;have:=i.o;omega) (show wlen (b%B64^k+b/B64^k)<M by have:=cq.o;have:=i.o;omega) (show wlen (a%B64^k)<=LIM by have:=F0.o;omega) (show wlen (a/B64^k)<=LIM by have:=F1.o;omega) (show wlen (b%B64^k)<=LIM by have:=F2.o;omega) (show wlen (b/B64^k)<=LIM by have:=F3.o;omega) λF4 F5 G4 G5 Q0 Q1 Q2 Q3=>?_;clear S1 S2 y da db o F0 F1 F2 F3 G0 G1 G2 G3;go_wp2_with fail
 have o:=un (show ∀w',Below wa wa w'->((χ w' p0 0 (A1,m1,n)/\χ w' (p0+1) 0 (A2,m2,c2)/\χ w' q0 0 (B1,m3,c3)/\χ w' (q0+1) 0 (B2,m4,c4)/\χ w' N 0 (q,C,x)/\χ w' O 0 (r,z,u))/\Below wa wa w')from λw' h=>⟨⟨zab h P0,zab h P1,zab h P2,zab h P3,zab h k0,zab h k1⟩,h⟩)
 go_cut[12] (λec wr=>∃(g2:Nat) (D:OA) (md cd:Nat),ec=.pointer (some ⟨g2,0,none⟩)/\Below wa wa wr /\
  χ wr g2 0 (D,md,cd)/\zas wr (D,md,cd) ((a%B64^k+a/B64^k)*(b%B64^k+b/B64^k)))
 case first =>
  go_region_held3 (λw'=>((χ w' p0 0 (A1,m1,n)/\χ w' (p0+1) 0 (A2,m2,c2)/\χ w' q0 0 (B1,m3,c3)/\χ w' (q0+1) 0 (B2,m4,c4)/\χ w' N 0 (q,C,x)/\χ w' O 0 (r,z,u))/\Below wa wa w'))
   ((refine o.o _ ?_;repeat(first | exact Zl _ _ | exact(by assumption:_/\Below _ _ _).2 | with_reducible refine bdrew ?_ | with_reducible refine al2 ?_ _ | with_reducible refine set2 ?_ ω | with_reducible refine zc1 ?_ (by assumption))))
   (first
    | (go_at_call 137;(with_reducible refine(Nt.add A1 A2 m1 n m2 c2 (a%B64^k) (a/B64^k) _ (N0.o.below (by assumption:_/\Below _ _ _).2) (N1.o.below (by assumption:_/\Below _ _ _).2) Q0.o Q1.o).mono ?_);rintro e u1 ⟨E1,me,ce,rfl,he1,l⟩;have aV:=l.size;(try simp at aV);have dq:wa.heap.size<=u1.heap.size:=ω;(try((first | (have d:=zan (b:=wa.heap.size) (v:=.slice none 0 0) (t:=58) l (zal _ _ _);obtain⟨Q,⟨eo,er⟩,⟨ep,es⟩,⟨eq,et⟩,⟨eu,ev⟩,ew,ex⟩:=d));have Q:=un Q));have a1:=un he1;clear he1)
    | (go_at_call 137;(with_reducible refine(Nt.add B1 B2 m3 c3 m4 c4 (b%B64^k) (b/B64^k) _ (N2.o.below (by assumption:_/\Below _ _ _).2) (N3.o.below (by assumption:_/\Below _ _ _).2) Q2.o Q3.o).mono ?_);rintro e u2 ⟨E2,mf,cf,rfl,he2,f⟩;have aW:=f.size;(try simp at aW);have dr:wa.heap.size<=u2.heap.size:=ω;(try((first | (have d:=zan (b:=wa.heap.size) (v:=.slice none 0 0) (t:=58) f (Q.o);obtain⟨P,⟨bN,bQ⟩,⟨bO,bR⟩,⟨bP,bS⟩,⟨bT,bU⟩,bV,bW⟩:=d) | (have d:=zan (b:=wa.heap.size) (v:=.slice none 0 0) (t:=58) f (zak Q.o);obtain⟨P,⟨bN,bQ⟩,⟨bO,bR⟩,⟨bP,bS⟩,⟨bT,bU⟩,bV,bW⟩:=d));have P:=un P));(try((first | (have d:=zan (b:=u1.heap.size) (v:=.slice none 0 0) (t:=58) f (zal _ _ _);obtain⟨U,⟨ey,eh⟩,⟨ez,ei⟩,⟨eg,ej⟩,⟨ek,el⟩,em,en⟩:=d));have U:=un U));have a2:=un he2;clear he2)
    | (go_at_call 90;(with_reducible refine(IH.o E1 E2 me ce mf cf _ _ _ (by repeat(first | exact a1.o | with_reducible refine zas.alloc ?_ _ | with_reducible refine zas.drew ?_ | refine zas.below ?_ f)) (by repeat(first | exact a2.o | with_reducible refine zas.alloc ?_ _ | with_reducible refine zas.drew ?_)) F4.o F5.o G4.o G5.o).mono ?_);rintro e u3 ⟨E3,mg,cg,rfl,he3,hb3⟩;have aX:=hb3.size;(try simp at aX);(try((first | (have d:=zan (b:=wa.heap.size) (v:=.slice none 0 0) (t:=58) hb3 (P.o);obtain⟨bi,⟨eQ,eT⟩,⟨eR,eA⟩,⟨eS,eB⟩,⟨eC,eD⟩,eE,eF⟩:=d) | (have d:=zan (b:=wa.heap.size) (v:=.slice none 0 0) (t:=58) hb3 (zak P.o);obtain⟨bi,⟨eQ,eT⟩,⟨eR,eA⟩,⟨eS,eB⟩,⟨eC,eD⟩,eE,eF⟩:=d));have bi:=un bi));(try((first | (have d:=zan (b:=u1.heap.size) (v:=.slice none 0 0) (t:=58) hb3 (U.o);obtain⟨bj,⟨eG,eJ⟩,⟨eH,eK⟩,⟨eI,eL⟩,⟨eM,eN⟩,eO,eP⟩:=d) | (have d:=zan (b:=u1.heap.size) (v:=.slice none 0 0) (t:=58) hb3 (zak U.o);obtain⟨bj,⟨eG,eJ⟩,⟨eH,eK⟩,⟨eI,eL⟩,⟨eM,eN⟩,eO,eP⟩:=d));have bj:=un bj));(try((first | (have d:=zan (b:=u2.heap.size) (v:=.slice none 0 0) (t:=58) hb3 (zal _ _ _);obtain⟨bX,⟨e2,e5⟩,⟨e3,e6⟩,⟨e4,e7⟩,⟨e8,e9⟩,fa,fb⟩:=d));have bX:=un bX));have br:=un he3;clear he3))
  all_goals
   go_wp2;go_meet;refine⟨_,E3,mg,cg,rfl,(by assumption:_/\Below wa wa _).2,?_,?_⟩
   all_goals
    repeat' (first
     | with_reducible exact br.o
     | with_reducible assumption
     | with_reducible exact zeo _ _ _
     | with_reducible exact zfx _ _ _ _
     | with_reducible refine cell_al ?_
     | with_reducible refine Box.cell ?_
     | with_reducible refine cell_set ?_ ?_
     | with_reducible exact Box.new _ _
     | with_reducible exact Box.new1 _ _ _
     | with_reducible refine Box.alloc ?_
     | with_reducible refine Box.set ?_
     | exact Box.of bi.o
     | exact Box.of bj.o
     | exact Box.of bX.o
     | with_reducible refine zas.alloc ?_ _
     | with_reducible refine zas.setBox ?_ ?_
     | with_reducible refine zas.drew ?_
     | omega)
 obtain⟨g2,D,md,cd,rfl,S,k2,hD⟩:=hcut;rename World=>wb
 have k0:=zab S k0;have k1:=zab S k1;refine μ6 (aQ.o.below S) (aR.o.below S) hD (zad S X.o) (W.o.trans (S.mono (by have:=E.o;omega))) (show w.heap.size+3<=wb.heap.size by have:=E.o;have:=S.size;omega) λaQ aR ND X W E=>?_;have S3:wlen (a%B64^k*(b%B64^k))<=2*k:=by have:=zdy (a%B64^k) (b%B64^k);have:=a6.o;have:=a7.o;omega
 have S4:wlen (a/B64^k*(b/B64^k))<=2*(g-k):=by have:=zdy (a/B64^k) (b/B64^k);have:=a6.o;have:=a7.o;omega
 have S5:wlen ((a%B64^k+a/B64^k)*(b%B64^k+b/B64^k))<=2*(k+1):=by have:=zdy (a%B64^k+a/B64^k) (b%B64^k+b/B64^k);have:=zgg (a%B64^k) (a/B64^k);have:=zgg (b%B64^k) (b/B64^k);have:=a6.o;have:=a7.o;have:=bs.o;omega
 have hle:a%B64^k*(b%B64^k)+a/B64^k*(b/B64^k)<=(a%B64^k+a/B64^k)*(b%B64^k+b/B64^k):=zAW _ _ _ _;have S6:wlen ((a%B64^k+a/B64^k)*(b%B64^k+b/B64^k)-(a%B64^k*(b%B64^k)+a/B64^k*(b/B64^k)))<=2*(k+1):=Zf (zco (Nat.sub_le _ _)) S5;refine μ5 (show wlen (a%B64^k*(b%B64^k))<=LIM by have:=F.o;have:=i.o;omega) (show wlen (a/B64^k*(b/B64^k))<=LIM by have:=F.o;have:=i.o;omega) (show wlen ((a%B64^k+a/B64^k)*(b%B64^k+b/B64^k))<=LIM by have:=F.o;have:=i.o;omega) hle (kara a b (B64^k) (Z3 δ)) λQ4 Q5 Q6 Q7 HV=>?_;have bk:B64^(2*k)=B64^k*B64^k:=by rw[Nat.two_mul,XA]
 have wX:wlen (B64^k)<=k+1:=zaZ (YW δ ω);have R1:=un (show k+wlen ((a%B64^k+a/B64^k)*(b%B64^k+b/B64^k)-(a%B64^k*(b%B64^k)+a/B64^k*(b/B64^k)))<=LIM by have:=F.o;have:=i.o;omega);have R2:=un (show 2*k+wlen (a/B64^k*(b/B64^k))<=LIM by have:=F.o;have:=i.o;omega);generalize a%B64^k*(b%B64^k)=lo at *
 generalize a/B64^k*(b/B64^k)=hi at *
 generalize (a%B64^k+a/B64^k)*(b%B64^k+b/B64^k)=bo at *
 have R3:=un (show wlen ((bo-(lo+hi))*B64^k)<=3*k+3 by have:=zdy (bo-(lo+hi)) (B64^k);omega);have R4:=un (show wlen (hi*B64^(2*k))<=2*g+2 by have h1:=zdy hi (B64^(2*k));have h2:=zdy (B64^k) (B64^k);rw[<-bk]at h2;have:=i.o;omega);refine μ4 (show wlen ((bo-(lo+hi))*B64^k)<=LIM by have:=R3.o;have:=F.o;have:=i.o;omega) (show wlen (hi*B64^(2*k))<=LIM by have:=R4.o;have:=F.o;omega) (show wlen ((bo-(lo+hi))*B64^k+hi*B64^(2*k))<=LIM by have:=zgg ((bo-(lo+hi))*B64^k) (hi*B64^(2*k));have:=R3.o;have:=R4.o;have:=F.o;have:=i.o;omega) (show lo+((bo-(lo+hi))*B64^k+hi*B64^(2*k))=a*b by rw[bk];exact HV.o) λR5 R6 R7 cs=>?_;clear S3 S4 S5 S6 hle S hD o bk wX HV Q0 Q1 Q2 Q3 F4 F5 G4 G5;go_wp2_with fail
 have o:=un (show ∀w',Below wb wb w'->((χ w' N 0 (q,C,x)/\χ w' O 0 (r,z,u)/\χ w' g2 0 (D,md,cd))/\Below wb wb w')from λw' h=>⟨⟨zab h k0,zab h k1,zab h k2⟩,h⟩)
 go_cut[13,14] (λed ee wr=>∃(g3:Nat) (G:OA) (mg cg:Nat),ed=.pointer (some ⟨g3,0,none⟩)/\ee=true/\Below wb wb wr /\
  χ wr g3 0 (G,mg,cg)/\zas wr (G,mg,cg) (bo-(lo+hi))/\wb.heap.size<=g3)
 case first =>
  go_region_held3 (λw'=>((χ w' N 0 (q,C,x)/\χ w' O 0 (r,z,u)/\χ w' g2 0 (D,md,cd))/\Below wb wb w'))
   ((refine o.o _ ?_;repeat(first | exact Zl _ _ | exact(by assumption:_/\Below _ _ _).2 | with_reducible refine bdrew ?_ | with_reducible refine al2 ?_ _ | with_reducible refine set2 ?_ ω | with_reducible refine zc1 ?_ (by assumption))))
   (first
    | (go_at_call 137;(with_reducible refine(Nt.add q r C x z u lo hi _ (aQ.o.below (by assumption:_/\Below _ _ _).2) (aR.o.below (by assumption:_/\Below _ _ _).2) Q4.o Q5.o).mono ?_);rintro e u1 ⟨E1,me,ce,rfl,he1,l⟩;have aV:=l.size;(try simp at aV);have dq:wb.heap.size<=u1.heap.size:=ω;(try((first | (have d:=zan (b:=wb.heap.size) (v:=.slice none 0 0) (t:=58) l (zal _ _ _);obtain⟨Q,⟨eo,er⟩,⟨ep,es⟩,⟨eq,et⟩,⟨eu,ev⟩,ew,ex⟩:=d));have Q:=un Q));have a1:=un he1;clear he1)
    | (go_at_call 138;(with_reducible refine(Nt.sub_ok D E1 md cd me ce bo (lo+hi) _ (ND.o.below (by assumption:_/\Below _ _ _).2) (by repeat(first | exact a1.o | with_reducible refine zas.alloc ?_ _ | with_reducible refine zas.drew ?_)) Q7.o Q6.o).mono ?_);rintro e u2 ⟨E2,mf,cf,rfl,he2,f⟩;have aW:=f.size;(try simp at aW);have dr:wb.heap.size<=u2.heap.size:=ω;(try((first | (have d:=zan (b:=wb.heap.size) (v:=.slice none 0 0) (t:=58) f (Q.o);obtain⟨P,⟨bN,bQ⟩,⟨bO,bR⟩,⟨bP,bS⟩,⟨bT,bU⟩,bV,bW⟩:=d) | (have d:=zan (b:=wb.heap.size) (v:=.slice none 0 0) (t:=58) f (zak Q.o);obtain⟨P,⟨bN,bQ⟩,⟨bO,bR⟩,⟨bP,bS⟩,⟨bT,bU⟩,bV,bW⟩:=d));have P:=un P));(try((first | (have d:=zan (b:=u1.heap.size) (v:=.slice none 0 0) (t:=58) f (zal _ _ _);obtain⟨U,⟨ey,eh⟩,⟨ez,ei⟩,⟨eg,ej⟩,⟨ek,el⟩,em,en⟩:=d));have U:=un U));have a2:=un he2;clear he2))
  all_goals
   go_wp2;go_meet;refine⟨_,E2,mf,cf,rfl,rfl,(by assumption:_/\Below wb wb _).2,?_,?_,?_⟩
   all_goals
    repeat' (first
     | with_reducible exact a2.o
     | with_reducible assumption
     | with_reducible exact zeo _ _ _
     | with_reducible exact zfx _ _ _ _
     | with_reducible refine cell_al ?_
     | with_reducible refine Box.cell ?_
     | with_reducible refine cell_set ?_ ?_
     | with_reducible exact Box.new _ _
     | with_reducible exact Box.new1 _ _ _
     | with_reducible refine Box.alloc ?_
     | with_reducible refine Box.set ?_
     | exact Box.of P.o
     | exact Box.of U.o
     | with_reducible refine zas.alloc ?_ _
     | with_reducible refine zas.setBox ?_ ?_
     | with_reducible refine zas.drew ?_
     | omega)
 obtain⟨g3,G,mg,cg,rfl,rfl,T,k3,hG,dV⟩:=hcut;rename World=>wd
 have k0:=zab T k0;have k1:=zab T k1;refine μ3 (aQ.o.below T) (aR.o.below T) hG λaQ aR NG=>?_;have du:=E;refine μ3 (zad T X.o) (W.o.trans (T.mono (by have:=E.o;omega))) (show w.heap.size+3<=wd.heap.size by have:=E.o;have:=T.size;omega) λX W E=>?_;have dV:w.heap.size+3<=g3:=by have:=du.o;omega
 have dh:=ck.o.1;have di:=ck.o.2;clear T hG o;go_wp2_with fail
 obtain⟨kk,bF⟩:∃kk,kk=2*k:=⟨_,rfl⟩
 rw[<-bF]at R2 R4 R6 R7 cs;have dD:=un (show IntKind.i64.wrap (2*(k:Int))=(kk:Int)by rw[XC _ (by have:=i.o;have:=F.o;have:=zaP;omega),bF];omega);clear bF
 go_region_held3 (λw'=>χ w' N 0 (q,C,x)/\χ w' O 0 (r,z,u)/\χ w' g3 0 (G,mg,cg))
  (((try go_split_ands);(try simp only[Xi]);(repeat' apply And.intro)<;>(first | assumption | exact zab l (by assumption) | exact zab f (by assumption) | exact zab hb3 (by assumption) | exact zab hb4 (by assumption) | exact cell_set ω (by assumption) | exact cell_al (by assumption))))
  (first
   | (go_at_call 142;(with_reducible refine(raised G mg cg (bo-(lo+hi)) k _ (by repeat(first | exact NG.o | with_reducible refine zas.alloc ?_ _ | with_reducible refine zas.drew ?_)) R1.o).mono ?_);rintro e u1 ⟨E1,me,ce,rfl,he1,l⟩;have aV:=l.size;(try simp at aV);have dq:wd.heap.size<=u1.heap.size:=ω;have a1:=un he1;clear he1)
   | (go_at_call 142;(with_reducible refine(zA8 r z u hi kk (IntKind.i64.wrap (2*(k:Int))) dD.o _ (by repeat(first | exact aR.o | with_reducible refine zas.alloc ?_ _ | with_reducible refine zas.drew ?_ | refine zas.below ?_ l)) R2.o).mono ?_);rintro e u2 ⟨E2,mf,cf,rfl,he2,f⟩;have aW:=f.size;(try simp at aW);have dr:wd.heap.size<=u2.heap.size:=ω;have a2:=un he2;clear he2)
   | (go_at_call 137;(with_reducible refine(Nt.add E1 E2 me ce mf cf _ _ _ (by repeat(first | exact a1.o | with_reducible refine zas.alloc ?_ _ | with_reducible refine zas.drew ?_ | refine zas.below ?_ f)) (by repeat(first | exact a2.o | with_reducible refine zas.alloc ?_ _ | with_reducible refine zas.drew ?_)) R5.o R6.o).mono ?_);rintro e u3 ⟨E3,mg3,cg3,rfl,he3,hb3⟩;have aX:=hb3.size;(try simp at aX);have br:=un he3;clear he3)
   | (go_at_call 137;(with_reducible refine(Nt.add q E3 C x mg3 cg3 lo _ _ (by repeat(first | exact aQ.o | with_reducible refine zas.alloc ?_ _ | with_reducible refine zas.drew ?_ | refine zas.below ?_ hb3 | refine zas.below ?_ f | refine zas.below ?_ l)) (by repeat(first | exact br.o | with_reducible refine zas.alloc ?_ _ | with_reducible refine zas.drew ?_)) Q4.o R7.o).mono ?_);rintro e u4 ⟨E4,mh4,ch4,rfl,he4,hb4⟩;have d6:=hb4.size;(try simp at d6);refine μ3 he4 (zad hb4 (zad hb3 (zad f (zad l X.o)))) (zc1 (zc1 (zc1 (zc1 (bdrew W.o) l) f) hb3) hb4) λdC bl dt=>?_;have b2:=zac bl.o 0;have eU:=zag bl.o 0;simp only[Xd,Z8]at b2;clear he4))
 all_goals
  go_wp2;refine Zi (v:=.agg #[(E4,mh4,ch4)]) (by simp[results,results90,go_sem,b2]) rfl ?_;have dm:=dC.o;rw[cs.o]at dm;exact⟨_,_,_,rfl,dm.setCell (p:=⟨w.heap.size+1+1,0,none⟩) bl.o δ _,Xj dt.o (by simp;omega) _⟩
def zrH:∀M,zpn M
 | 0=>λ_ _ _ _ _ _ _ _ _ _ _ _ _ h _=>absurd h ω
 | M+1=>λA B m c m' c' a b w d e g i j k=>by by_cases f:wlen a<8\/wlen b<8;grind[zu7];exact zA1 A B m c m' c' a b M w (zrH M) ω d e g i ω ω
def mul(A B:OA)(m c m' c' a b:Nat)(w:World)(d:zas w (A,m,c) a)(e:zas w (B,m',c') b)(f:4*wlen a<=LIM)(g:4*wlen b<=LIM) :
  Calls prog 90 #[.agg #[(A,m,c)],.agg #[(B,m',c')]] w (zc0 w (a*b)) :=
 zrH (wlen a+wlen b+1) A B m c m' c' a b w d e f g ω ω
end Pr
namespace Qt
def zsP (w:World) (q r:Nat) (b:Bool) (e:Ending) (w':World):Prop:=∃(A:OA) (m c:Nat),e=.returned (.tuple #[.agg #[(A,m,c)],.int .u64 (r:Int),b])/\zas w' (A,m,c) q/\Below w w w'
def zCw(A:OA)(m c a x:Nat)(w:World)(C:zas w (A,m,c) a)(H:0<x)(hx:x<18446744073709551616)(q:wlen a<=LIM) :
  Calls prog 186 #[.agg #[(A,m,c)],.int .u64 (x:Int)] w (zsP w (a/x) (a%x) true):=by
 obtain⟨xs,J,ac,rfl,D,rfl⟩:=C.words;rw[<-D]at q;have f:=un J;have S:=un q;have an:((x:Int) == 0)=false:=by rw[beq_eq_false_iff_ne];omega
 have am:xs.length<=9223372036854775806:=by have:=zaP;omega
 have Z:=un (show xs.length<=16*LIM by have:=zaP;omega);clear C J ac D q;go_enter func186,ntmps186;go_wp2_with fail
 refine(Nt.len (A,xs.length,c) xs _ ((f.o.alloc _).alloc _)).mono ?_;rintro e w' ⟨rfl,rfl⟩;have z:χ (((w.alloc (.cells #[(A,xs.length,c)] 58)).alloc (.cells #[()] 58)).alloc (.cells #[(A,xs.length,c)] 58)) w 0 (A,xs.length,c):=cell_al (cell_al (zax rfl rfl));have M:θ (((w.alloc (.cells #[(A,xs.length,c)] 58)).alloc (.cells #[()] 58)).alloc (.cells #[(A,xs.length,c)] 58)) (w.heap.size+1) #[()] 58:=zak (zam σ);have kb:Below w w (((w.alloc (.cells #[(A,xs.length,c)] 58)).alloc (.cells #[()] 58)).alloc (.cells #[(A,xs.length,c)] 58)):=al2 (al2 (zae w _) _) _;have N:(((w.alloc (.cells #[(A,xs.length,c)] 58)).alloc (.cells #[()] 58)).alloc (.cells #[(A,xs.length,c)] 58)).heap.size=w.heap.size+1+1+1:=σ;have I:=f.o.below kb;generalize ((w.alloc (.cells #[(A,xs.length,c)] 58)).alloc (.cells #[()] 58)).alloc (.cells #[(A,xs.length,c)] 58)=W at *
 refine μ4 I M kb N λy O Q d=>?_;clear I M kb N;go_wp2_with (at_make;go_must (refine zdz rfl _ _ rfl xs.length _ rfl rfl rfl Z.o W.heap.size rfl ?_))
 intro w1 r;have u:=un r;have Y:=r.old (by have:=d.o;omega) z;clear r;go_wp2_with (go_at_call 139;(with_reducible refine(Nt.len (A,xs.length,c) xs _ (u.o.keep y.o (Za _))).mono ?_);rintro e w' ⟨rfl,rfl⟩)
 have B:=u.o.alloc (.cells #[(A,xs.length,c)] 58);have T:=un B;clear B Y
 go_loopw [8,9] (λlv s wr=>∃(K:Int) (j L:Nat) (os:List Nat),s=.int .i64 K/\lv=.int .u64 L/\K+1=j/\j<=xs.length/\DivWInv xs os x j L/\OutAt W wr W.heap.size xs.length os)
  (λ_ s _=>(intOf s+1).toNat)
 case atStart=>exact⟨_,xs.length,0,List.replicate xs.length 0,rfl,rfl,ω,Za _,DivWInv.start xs x xs.length xs.length H (Za _) (Za _),T.o⟩
 obtain⟨K,j,L,os,rfl,rfl,hK,hj,n,b⟩:=hrel;have i:=un n;have o:=n.lft;clear n;rcases j with _ | p
 ·obtain rfl:K = -1:=ω
  have g:=i.o.eq;rw[YA,YA]at g;have E:nval os=nval xs/x:=by rw[g,Nat.mul_add_div H,Yw o,Yl]
  have hr:L=nval xs%x:=by rw[g,Nat.mul_add_mod,Yn o]
  have U:=un E;have V:=un hr;have F:=b.sw i.o.wds;refine μ3 F b.bel b.len λX t R=>?_;have G:=b.lt;clear g E hr F b;go_wp2_with fail
  refine(Nt.of _ os _ X.o.reads (by rw[R.o];exact S.o)).mono ?_;rintro e w3 ⟨A2,m2,c2,rfl,hs2,hb2⟩;have hk:=zad hb2 ((t.o.block (w.heap.size+1) (by have:=d.o;omega)).trans O.o);have hc:χ w3 (w.heap.size+1) 0 ():=zac hk 0;have hf:=zag hk 0;have P:=un hk;clear hk;go_wp2;refine Zi (v:=.tuple #[.agg #[(A2,m2,c2)],.int .u64 (L:Int),true]) (by simp[results,results186,go_sem,hc]) rfl ?_;rw[U.o]at hs2;rw[V.o];refine⟨_,_,_,rfl,hs2.setCell (p:=⟨w.heap.size+1,0,none⟩) P.o δ _,Xj ?_ σ _⟩;exact bstep (Q.o.trans (t.o.mono (by have:=d.o;omega))) hb2 (by have:=d.o;omega)
 obtain rfl:K=(p:Int):=ω;have aa:=un (b.keep y.o (Za _));have ak:=b.old (by have:=d.o;omega) z;have ab:=b.cell (k:=p) ω;have ad:=b.fro p;have af:=zdM f.o.2 p;have G:=b.lt;have q1:=cell_al (ob:=.cells #[(A,xs.length,c)] 58) ab;have q2:=zd1 (ob:=.cells #[(A,xs.length,c)] 58) G ad;have l:=un b;have ae:(0:Int)<=(p:Int):=Zg _;have al:(p:Int)<(xs.length:Int):=ω;clear b
 go_wp2_with (first
  | (go_at_call 170;(with_reducible refine(Nt.word (A,xs.length,c) xs _ ae _ aa.o).mono ?_);rintro e w' ⟨rfl,rfl⟩)
  | (go_at_call 195;(refine(Word.div_ok L (wd xs p) x o af hx _).mono ?_);rintro e w' ⟨rfl,nd,rfl⟩))
 refine⟨⟨_,p,_,_,rfl,rfl,ω,ω,i.o.next (by rw[l.o.len];omega) f.o.2,?_⟩,by simp[intOf]⟩
 first
  | exact((l.o.alloc _).drewN _).store p _
  | exact((l.o.alloc _).store p _).drewN _
end Qt
end Go.Proofs.YtbpjabgfcbjjmaaGreat
namespace Go.Proofs.YtbpjabgfcbjjmaaGreat
open Go.RowKit Am Tryz
attribute [local go_sem ↓] Go.wp_at_zero Go.wp_at_succ
variable {x y:Nat}{r:Option Nat}
namespace Qt
def zhR(q v0 r u0:Nat)(h0:u0<18446744073709551616):(zdw q v0 0 0<r\/zdw q v0 0 0=r/\zdo q v0 0 0<=u0)↔q*v0<=r*B64+u0:=by unfold zdw zdo;grind
def zmQ(h:(((zlD x y 0:Nat):Int) == 1)=true):B64<=x+y:=by
 have h1:zlD x y 0=1:=by have:=eq_of_beq h;omega
 unfold zlD at h1;have a:B64=18446744073709551616:=rfl;rw[a]at h1 ⊢;omega
def zpz(c:x<18446744073709551616)(d:y<18446744073709551616)(h:(((zlD x y 0:Nat):Int) == 1)=false):zjj x y 0=x+y/\x+y<18446744073709551616:=by
 have h1:¬zlD x y 0=1:=by have:=ne_of_beq_false h;omega
 unfold zlD at h1;unfold zjj;have a:B64=18446744073709551616:=rfl;rw[a]at h1 ⊢;omega
def zdN{q:Nat}(h:0<q)(a:q<18446744073709551616):IntKind.u64.wrap ((q:Int)-1)=((q-1:Nat):Int):=by rw[Xw];omega
def guess(u2 u1 u0 v1 v0:Nat)(w:World)(x:u2<=v1)(h1:u1<18446744073709551616)(h0:u0<18446744073709551616)(y:9223372036854775808<=v1)(i:v1<18446744073709551616)(c:v0<18446744073709551616) :
    Calls prog 189 #[.int .u64 (u2:Int),.int .u64 (u1:Int),.int .u64 (u0:Int),.int .u64 (v1:Int),.int .u64 (v0:Int)] w λe w'=>(∃q:Nat,e=.returned (.int .u64 (q:Int))/\GuessIs u2 u1 u0 v1 v0 q)/\∃n,w'=w.drewN n:=by
  rcases ZM u2 v1 with hlt | hge
  · have k:=un (GuessInv.start u2 u1 u0 v1 v0 hlt h1 h0);go_enter func189,ntmps189
    go_wp2_with (first
      | (go_at_call 195;(refine(Word.div_ok u2 u1 v1 hlt h1 i _).mono ?_);rintro e w' ⟨rfl,nd,rfl⟩))
    go_loopw [11,12] (λj t wr=>∃(q r n:Nat),j=.int .u64 (q:Int)/\t=.int .u64 (r:Int)/\GuessInv u2 u1 u0 v1 v0 q r/\r<18446744073709551616/\wr=w.drewN n) (λj _ _=>(intOf j).toNat)
    case atStart=>exact⟨_,_,nd,rfl,rfl,k.o,by unfold zBV;exact Yc (Z0 _ ω) ω,rfl⟩
    obtain⟨q,r,n,rfl,rfl,d,hr,rfl⟩:=hrel;have b:=d.lt;have m:=un d;clear d k;by_cases hc:q*v0<=r*B64+u0
    · have s:=un (m.o.done c (.inl hc));have p:=(zhR q v0 r u0 h0).2 hc;clear hc
      go_wp2_with (first
        | (go_at_call 183;(refine(Word.mul q v0 b c _).mono ?_);rintro e w' ⟨rfl,rfl⟩))
      all_goals first
        | exact Zi (v:=.int .u64 (q:Int)) (by simp[results,results189,go_sem]) rfl ⟨⟨q,rfl,s.o⟩,n,rfl⟩
        | (exfalso;omega)
    have f:=m.o.down ω;have g:=f.2;have l:=un f.1;have p:¬(zdw q v0 0 0<r\/zdw q v0 0 0=r/\zdo q v0 0 0<=u0):=λh=>hc ((zhR q v0 r u0 h0).1 h)
    clear hc f
    go_wp2_with (first
      | (go_at_call 183;(refine(Word.mul q v0 b c _).mono ?_);rintro e w' ⟨rfl,rfl⟩)
      | (go_at_call 169;(refine(Word.add r v1 0 hr i δ _).mono ?_);rintro e w' ⟨rfl,rfl⟩))
    all_goals first
      | (have a:=zmQ (by assumption)
         exact Zi (v:=.int .u64 (IntKind.u64.wrap ((q:Int)-1))) (by simp[results,results189,go_sem]) rfl ⟨⟨q-1,by rw[zdN g b],l.o.done c (.inr a)⟩,n,rfl⟩)
      | (have a:=zpz hr i (by assumption)
         refine⟨⟨q-1,r+v1,n,by rw[zdN g b],by rw[a.1],l.o,a.2,rfl⟩,?_⟩;rw[zdN g b];simp only[intOf];omega)
  have u:u2=v1:=ω;have k:=un (show GuessInv u2 u1 u0 v1 v0 (B64-1) (u1+v1)by rw[u];exact GuessInv.start' u1 u0 v1 v0);clear u;go_enter func189,ntmps189
  go_wp2_with (first
    | (go_at_call 195;(refine(Word.div_no u2 u1 v1 hge _).mono ?_);rintro e w' ⟨rfl,rfl⟩)
    | (go_at_call 169;(refine(Word.add u1 v1 0 h1 i δ _).mono ?_);rintro e w' ⟨rfl,rfl⟩))
  · have a:=zmQ (by assumption);exact Zi (v:=.int .u64 18446744073709551615) (by simp[results,results189,go_sem]) rfl ⟨⟨B64-1,rfl,k.o.done c (.inr a)⟩,0,rfl⟩
  have o:=by assumption
  have a:=un (zpz h1 i o);simp only[o];clear o;go_loopw [11,12] (λj t wr=>∃(q r n:Nat),j=.int .u64 (q:Int)/\t=.int .u64 (r:Int)/\GuessInv u2 u1 u0 v1 v0 q r/\r<18446744073709551616/\wr=w.drewN n) (λj _ _=>(intOf j).toNat)
  case atStart=>exact⟨B64-1,u1+v1,0,rfl,by rw[a.o.1],k.o,a.o.2,rfl⟩
  obtain⟨q,r,n,rfl,rfl,d,hr,rfl⟩:=hrel;have b:=d.lt;have m:=un d;clear d k;by_cases hc:q*v0<=r*B64+u0
  · have s:=un (m.o.done c (.inl hc));have p:=(zhR q v0 r u0 h0).2 hc;clear hc
    go_wp2_with (first
      | (go_at_call 183;(refine(Word.mul q v0 b c _).mono ?_);rintro e w' ⟨rfl,rfl⟩))
    all_goals first
      | exact Zi (v:=.int .u64 (q:Int)) (by simp[results,results189,go_sem]) rfl ⟨⟨q,rfl,s.o⟩,n,rfl⟩
      | (exfalso;omega)
  have f:=m.o.down ω;have g:=f.2;have l:=un f.1;have p:¬(zdw q v0 0 0<r\/zdw q v0 0 0=r/\zdo q v0 0 0<=u0):=λh=>hc ((zhR q v0 r u0 h0).1 h)
  clear hc f
  go_wp2_with (first
    | (go_at_call 183;(refine(Word.mul q v0 b c _).mono ?_);rintro e w' ⟨rfl,rfl⟩)
    | (go_at_call 169;(refine(Word.add r v1 0 hr i δ _).mono ?_);rintro e w' ⟨rfl,rfl⟩))
  all_goals first
    | (have a:=zmQ (by assumption)
       exact Zi (v:=.int .u64 (IntKind.u64.wrap ((q:Int)-1))) (by simp[results,results189,go_sem]) rfl ⟨⟨q-1,by rw[zdN g b],l.o.done c (.inr a)⟩,n,rfl⟩)
    | (have a:=zpz hr i (by assumption)
       refine⟨⟨q-1,r+v1,n,by rw[zdN g b],by rw[a.1],l.o,a.2,rfl⟩,?_⟩;rw[zdN g b];simp only[intOf];omega)
end Qt
structure OutC (w w1:World) (H n cp:Nat) (os:List Nat):Prop where
  own:w1.ownsRow H 206 1 (H,n,cp) n (wcells os)
  bel:w.grownBy w1 (some H)
  len:os.length=n
def zse{w w1 w2:World}(h:w.grownBy w1 r)(a:Below w1 w1 w2):w.grownBy w2 r :=
 ⟨a.os.trans h.os,a.tape.trans h.tape,a.output.trans h.output,Zf h.size a.size,λk hk hr=>(a.block k (Yc hk h.size)).trans (h.block k hk hr)⟩
def zqf{a b c:World}(h:a.grownBy b r)(k:b.grownBy c r):a.grownBy c r :=
 ⟨k.os.trans h.os,k.tape.trans h.tape,k.output.trans h.output,Zf h.size k.size,λi hi hr=>(k.block i (Yc hi h.size) hr).trans (h.block i hi hr)⟩
namespace OutC
variable {w w1 w2:World} {H n cp:Nat} {os:List Nat}
def lt(h:OutC w w1 H n cp os):H<w1.heap.size:=(h.own.lt H rfl).2
def step(h:OutC w w1 H n cp os)(a:Below w1 w1 w2):OutC w w2 H n cp os :=
 ⟨⟨h.own.1,by
   rcases h.own.2 with h2 | ⟨g,cap,cur,hv,hg,hh,r⟩
   grind;exact .inr ⟨g,cap,cur,hv,hg,by rw[a.block g (ZU.1 hh).1];exact hh,r⟩⟩,zse h.bel a,h.len⟩
def alloc(h:OutC w w1 H n cp os)(o:Obj):OutC w (w1.alloc o) H n cp os:=h.step (zae w1 o)
def drewN(h:OutC w w1 H n cp os)(k:Nat):OutC w (w1.drewN k) H n cp os:=h.step (zap w1 k)
def drew(h:OutC w w1 H n cp os):OutC w w1.drew H n cp os:=h.drewN 1
def store(h:OutC w w1 H n cp os)(k v:Nat):OutC w (w1.setCell ⟨H,k,none⟩ (.int .u64 (v:Int))) H n cp (os.set k v) :=
 ⟨by rw[ziN];exact(h.own.stored k _).1,zqf h.bel (h.own.stored k _).2,by rw[ZW];exact h.len⟩
def cell(h:OutC w w1 H n cp os){k:Nat}(hk:k<n):χ w1 H k (.int .u64 ((wd os k:Nat):Int)):=by rw[h.own.cellAt k ω,zeu (by rw[h.len];exact hk)]
def fro(h:OutC w w1 H n cp os)(k:Nat):w1.frozen? ⟨H,k,none⟩=false:=h.own.frozenAt k
def keep(h:OutC w w1 H n cp os){s:Value}{xs:List Nat}(a:SW w s xs)(b:s.ownBlock≠some H):SW w1 s xs :=
 a.keep λk hk=>h.bel.block k (a.block hk) (λe=>b (by rw[hk,e]))
def sw(h:OutC w w1 H n cp os)(hw:Wds os):SW w1 (H,n,cp) os:=by have:=h.own;have a:=h.len;grind[SW.of_own]
end OutC
def zH8(b:Nat):((b:Int) == 1)=(b == 1):=ψ
namespace Qt
def take(W w:World)(H n cap k cp q:Nat)(os vs:List Nat)(A:OA)(c:Nat)(a:OutC W w H n cap os)(E:SW W (A,vs.length,c) vs)(m:(Value.slice A vs.length c).ownBlock≠some H)(C:Wds os)(D:q<18446744073709551616)(hk:k+vs.length<n)(_:vs.length+1<=cp)(U:n<=2*LIM) :
    Calls prog 190 #[.slice (some ⟨H,k,none⟩) (vs.length+1) cp,.agg #[(A,vs.length,c)],.int .u64 (q:Int)] w λe w'=>∃(b:Nat) (d:List Nat),e=.returned (.bool (b == 1))/\b<=1/\OutC W w' H n cap d /\
      Wds d/\za8 os d k (k+vs.length+1)/\nval d+B64^k*(q*nval vs)=nval os+B64^(k+vs.length+1)*b:=by
  refine μ3 a E C λv i F=>?_;have X:vs.length<=9223372036854775806:=by have:=zaP;omega
  have p:OutC W (w.alloc (.cells #[(A,vs.length,c)] 58)) H n cap os:=v.o.alloc _;have r:χ (w.alloc (.cells #[(A,vs.length,c)] 58)) w 0 (A,vs.length,c):=zax rfl rfl;have T:=v.o.lt;go_enter func190,ntmps190;go_wp2_with fail
  generalize hw1:w.alloc (.cells #[(A,vs.length,c)] 58)=w1 at *
  have N:w.heap.size≠H:=ω;generalize w.heap.size=B at *
  refine(Nt.len (A,vs.length,c) vs _ (p.keep i.o m)).mono ?_;rintro e w' ⟨rfl,rfl⟩;have I:=un (p.alloc (.cells #[(A,vs.length,c)] 58));have J:=un (cell_al (ob:=.cells #[(A,vs.length,c)] 58) r);generalize w1.alloc (.cells #[(A,vs.length,c)] 58)=w2 at *
  go_wp2_with fail
  go_loopw [7,8,14] (λQ G u wr=>∃(j V f:Nat) (d:List Nat),u=.int .i64 j/\Q=.int .u64 V/\G=.int .u64 f/\j<=vs.length/\TakeInv os d vs k q j V f/\OutC W wr H n cap d/\χ wr B 0 (A,vs.length,c))
    (λ_ _ u _=>vs.length-(intOf u).toNat)
  case atStart=>exact⟨0,0,0,os,rfl,rfl,rfl,Zb _,TakeInv.start os vs k q F.o,I.o,J.o⟩
  obtain⟨j,V,f,d,rfl,rfl,rfl,hj,o,a,hc⟩:=hrel;have y:V<18446744073709551616:=o.ovr;have x:f<=1:=o.one;have g:=un o;by_cases S:j<vs.length
  · have t:=un (a.keep i.o m);have O:=zdM i.o.2 j;have s:=zdM g.o.wds (k+j)

    have K:=cell_al (ob:=.cells #[(A,vs.length,c)] 58) (a.cell (k:=k+j) ω);have L:=zd1 (ob:=.cells #[(A,vs.length,c)] 58) a.lt (a.fro (k+j));have z:(0:Int)<=(j:Int):=Zg _;have M:(j:Int)<(vs.length:Int)+1:=ω;have l:=un a
    go_wp2_with (first
      | (go_at_call 170;(refine(Nt.word (A,vs.length,c) vs _ z _ t.o).mono ?_);rintro e w' ⟨rfl,rfl⟩)
      | (go_at_call 172;(refine(Word.mulAdd (wd vs j) q V 0 O D y δ _).mono ?_);rintro e w' ⟨rfl,rfl⟩)
      | (go_at_call 171;(refine(Word.sub (wd d (k+j)) (zdo (wd vs j) q V 0) f s (zrG _ _ _ _) x _).mono ?_);rintro e w' ⟨rfl,rfl⟩))
    exact⟨⟨j+1,_,_,_,by go_num,rfl,rfl,ω,g.o.next D i.o.2 (by rw[<-g.o.out.1,l.o.len];omega),(l.o.alloc _).store (k+j) _,cell_set N (cell_al hc)⟩,by simp[intOf];omega⟩
  obtain rfl:j=vs.length:=ω;have t:Hid (SW wr.drew (A,vs.length,c) vs):=un (a.drew.keep i.o m);have P:Hid (SW (wr.alloc (.cells #[(A,vs.length,c)] 58)).drew (A,vs.length,c) vs):=un ((a.alloc (.cells #[(A,vs.length,c)] 58)).drew.keep i.o m);have s:=zdM g.o.wds (k+vs.length);have K:χ ((wr.alloc (.cells #[(A,vs.length,c)] 58)).alloc (.cells #[(A,vs.length,c)] 58)).drew H (k+vs.length) (.int .u64 ((wd d (k+vs.length):Nat):Int)):=cell_al (cell_al (a.cell (k:=k+vs.length) ω));have L:((wr.alloc (.cells #[(A,vs.length,c)] 58)).alloc (.cells #[(A,vs.length,c)] 58)).drew.frozen? ⟨H,k+vs.length,none⟩=false:=zd1 (zxk a.lt) (zd1 a.lt (a.fro (k+vs.length)));have r:χ wr.drew B 0 (A,vs.length,c):=hc;have R:χ (wr.alloc (.cells #[(A,vs.length,c)] 58)).drew B 0 (A,vs.length,c):=cell_al hc;have z:(0:Int)<=(vs.length:Int):=Zg _;have M:(vs.length:Int)<(vs.length:Int)+1:=ω;have l:=un a;go_wp2_with fail
  go_region_with (first
    | (go_at_call 139;(first | refine(Nt.len (A,vs.length,c) vs _ t.o).mono ?_ | refine(Nt.len (A,vs.length,c) vs _ P.o).mono ?_);rintro e w' ⟨rfl,rfl⟩)
    | (go_at_call 171;(refine(Word.sub (wd d (k+vs.length)) V f s y x _).mono ?_);rintro e w' ⟨rfl,rfl⟩))
  all_goals
    (go_wp2
     go_ret;have hf:=g.o.fin (by rw[<-g.o.out.1,l.o.len];omega);exact⟨_,_,by rw[<-zH8];rfl,zBo _ _ _,(((l.o.alloc _).alloc _).store (k+vs.length) _).drew,hf.1,hf.2.1,hf.2.2⟩)
end Qt
namespace Qt
def back(W w:World)(H n cap k cp:Nat)(os vs:List Nat)(A:OA)(c:Nat)(a:OutC W w H n cap os)(z:SW W (A,vs.length,c) vs)(m:(Value.slice A vs.length c).ownBlock≠some H)(x:Wds os)(hk:k+vs.length<n)(T:n<=2*LIM) :
    Calls prog 191 #[.slice (some ⟨H,k,none⟩) (vs.length+1) cp,.agg #[(A,vs.length,c)]] w λe w'=>∃d:List Nat,e=.returned (.tuple #[])/\OutC W w' H n cap d /\
      Wds d/\za8 os d k (k+vs.length+1)/\∃b,nval d+B64^(k+vs.length+1)*b=nval os+B64^k*nval vs:=by
  refine μ3 a z x λt l D=>?_;have U:vs.length<=9223372036854775806:=by have:=zaP;omega
  clear a z x;have p:OutC W (w.alloc (.cells #[(A,vs.length,c)] 58)) H n cap os:=t.o.alloc _;have q:χ (w.alloc (.cells #[(A,vs.length,c)] 58)) w 0 (A,vs.length,c):=zax rfl rfl;have S:=t.o.lt;go_enter func191,ntmps191;go_wp2_with fail
  generalize hw1:w.alloc (.cells #[(A,vs.length,c)] 58)=w1 at *
  clear hw1;have N:w.heap.size≠H:=ω;generalize w.heap.size=B at *
  refine(Nt.len (A,vs.length,c) vs _ (p.keep l.o m)).mono ?_;rintro e w' ⟨rfl,rfl⟩;have I:=un (p.alloc (.cells #[(A,vs.length,c)] 58));have J:=un (cell_al (ob:=.cells #[(A,vs.length,c)] 58) q);clear p q;generalize w1.alloc (.cells #[(A,vs.length,c)] 58)=w2 at *
  go_wp2_with fail
  go_loopw [4,8] (λF s wr=>∃(j f:Nat) (d:List Nat),s=.int .i64 j/\F=.int .u64 f/\j<=vs.length/\BackInv os d vs k j f/\OutC W wr H n cap d/\χ wr B 0 (A,vs.length,c))
    (λ_ s _=>vs.length-(intOf s).toNat)
  case atStart=>exact⟨0,0,os,rfl,rfl,Zb _,BackInv.start os vs k D.o,I.o,J.o⟩
  obtain⟨j,f,d,rfl,rfl,hj,o,a,hc⟩:=hrel;have G:f<=1:=o.one;have g:=un o;clear o;by_cases R:j<vs.length
  · have r:Hid (SW wr.drew (A,vs.length,c) vs):=un (a.drew.keep l.o m);have O:=zdM l.o.2 j;have y:=zdM g.o.wds (k+j);have P:χ wr.drew H (k+j) (.int .u64 ((wd d (k+j):Nat):Int)):=a.cell (k:=k+j) ω;have K:χ (wr.alloc (.cells #[(A,vs.length,c)] 58)).drew H (k+j) (.int .u64 ((wd d (k+j):Nat):Int)):=cell_al (a.cell (k:=k+j) ω);have L:(wr.alloc (.cells #[(A,vs.length,c)] 58)).drew.frozen? ⟨H,k+j,none⟩=false:=zd1 a.lt (a.fro (k+j))
    have q:χ wr.drew B 0 (A,vs.length,c):=hc;have u:(0:Int)<=(j:Int):=Zg _;have M:(j:Int)<(vs.length:Int)+1:=ω;have Q:(j:Int)<(vs.length:Int):=ω;have i:=un a;have C:=un hc;clear a hc;go_wp2_with fail
    go_region_with (first
      | (go_at_call 170;(refine(Nt.word (A,vs.length,c) vs _ u _ r.o).mono ?_);rintro e w' ⟨rfl,rfl⟩)
      | (go_at_call 169;(refine(Word.add (wd d (k+j)) (wd vs j) f y O G _).mono ?_);rintro e w' ⟨rfl,rfl⟩))
    all_goals
      (go_wp2
       exact⟨⟨j+1,_,_,by go_num,rfl,ω,g.o.next l.o.2 (by rw[<-g.o.out.1,i.o.len];omega),((i.o.alloc _).store (k+j) _).drew,cell_set N (cell_al C.o)⟩,by simp[intOf];omega⟩)
  obtain rfl:j=vs.length:=ω;have r:Hid (SW wr (A,vs.length,c) vs):=un (a.keep l.o m);have y:=zdM g.o.wds (k+vs.length);have K:=cell_al (ob:=.cells #[(A,vs.length,c)] 58) (a.cell (k:=k+vs.length) ω);have L:=zd1 (ob:=.cells #[(A,vs.length,c)] 58) a.lt (a.fro (k+vs.length));have u:(0:Int)<=(vs.length:Int):=Zg _;have M:(vs.length:Int)<(vs.length:Int)+1:=ω;have i:=un a;clear a;have hw:IntKind.u64.wrap (((wd d (k+vs.length):Nat):Int)+((f:Nat):Int))=((zjj (wd d (k+vs.length)) f 0:Nat):Int):=by rw[Xw];unfold zjj B64;omega
  have E:=un hw;clear hw;go_wp2_with fail
  refine(Nt.len (A,vs.length,c) vs _ r.o).mono ?_;rintro e w' ⟨rfl,rfl⟩;go_wp2;rw[E.o];have hf:=g.o.fin (by rw[<-g.o.out.1,i.o.len];omega);exact bodyPost_end (v:=.tuple #[]) (by simp[results,results191,go_sem]) rfl ⟨_,rfl,(i.o.alloc _).store (k+vs.length) _,hf.1,hf.2.1,hf.2.2⟩
end Qt
end Go.Proofs.YtbpjabgfcbjjmaaGreat
namespace Go.Proofs.YtbpjabgfcbjjmaaGreat
open Go.RowKit Am Tryz
attribute [local go_sem ↓] Go.wp_at_zero Go.wp_at_succ
variable {qs us vs xs ys:List Nat}{H L N a b c cap g k n q s size:Nat}{e:TypeId}{v:Value}{w:World}
def zv4 (w:World) (q r:Nat) (b:Bool) (e:Ending) (w':World):Prop:=∃(A:OA) (m c:Nat) (A':OA) (m' c':Nat),e=.returned (.tuple #[.agg #[(A,m,c)],.agg #[(A',m',c')],b])/\zas w' (A,m,c) q/\zas w' (A',m',c') r/\Below w w w'
namespace Qt
def zIg(s:Value)(ys:List Nat)(b:Nat)(w:World)(a:SW w s ys)(h:wd ys 0=b):Calls prog 170 #[.agg #[s],.int .i64 0] w λe w'=>e=.returned (.int .u64 (b:Int))/\Below w w w' :=
 (Nt.word s ys 0 δ w a).mono λe w' h1=>⟨by rw[h1.1,<-h];rfl,by rw[h1.2];simp[zae]⟩
def zIa(g r:Nat)(w:World)(hr:r<18446744073709551616)(hc:χ w g 0 (.int .u64 (r:Int))):Calls prog 130 #[.slice (some ⟨g,0,none⟩) 1 1] w (zc0 w r):=by
 have h:SR w (.slice (some ⟨g,0,none⟩) 1 1) [r]:=⟨some ⟨g,0,none⟩,1,rfl,Za _,ω,by intro z b;grind,σ,λd c j u a=>by
  cases c
  match j,a with
  | 0,a=>simp[wcells]at a;subst a;simpa[Addr.add]using hc
  | j+1,a=>simp[wcells]at a⟩
 have:=Nt.of _ [r] w h (by have:=zaP;simp;omega);simpa[nval]using this
theorem zr5(A B:OA)(m c m' c' a b:Nat)(w:World)(ha:zas w (A,m,c) a)(C:zas w (B,m',c') b)(ae:0<b)(D:wlen b<=1)(af:wlen a<=LIM) :
  Calls prog 182 #[.agg #[(A,m,c)],.agg #[(B,m',c')]] w (zv4 w (a/b) (a%b) true):=by
 obtain⟨ys,hy,aw,ah,ag,hm⟩:=C.words;subst hm;have O:=un ha;have X:=un hy;have ax:(ys.length:Int)<=1:=ω

 have an:=un ag;have ao:=un ah;clear ha C hy ag ah;have W0:∃W,W=(((w.alloc (.cells #[(A,m,c)] 58)).alloc (.cells #[(B,ys.length,c')] 58)).alloc (.cells #[()] 58)).alloc (.cells #[()] 58):=⟨_,rfl⟩
 obtain⟨W,j⟩:=W0;have M:W.heap.size=w.heap.size+1+1+1+1:=by rw[j];simp
 have E:χ W w 0 (A,m,c):=by rw[j];exact cell_al (cell_al (cell_al (zax rfl rfl)))
 have F:χ W (w.heap.size+1) 0 (B,ys.length,c'):=by rw[j];exact cell_al (cell_al (zax σ rfl))
 have r2:θ W (w.heap.size+1+1) #[()] 58:=by rw[j];exact zak (zam σ)
 have r3:θ W (w.heap.size+1+1+1) #[()] 58:=by rw[j];exact zam σ
 have x:Below w w W:=by rw[j];exact(((zae w _).alloc σ _).alloc (by simp;omega) _).alloc (by simp;omega) _
 refine μ6 (O.o.below x) (X.o.below x) r2 r3 x M λP K o p i l=>?_;clear r2 r3 x M

 go_enter func182,ntmps182;go_wp2_with fail
 rw[<-j];clear j;refine(Nt.len (B,ys.length,c') ys _ K.o).mono ?_;rintro e w' ⟨rfl,rfl⟩;have E:=cell_al (ob:=.cells #[(B,ys.length,c')] 58) E;have F:=cell_al (ob:=.cells #[(B,ys.length,c')] 58) F;go_wp2_with fail
 have ai:wd ys 0=b:=by
  have h1:=an.o;have h2:=ao.o
  match ys,h1 with
  | [],_=>simp[nval]at h2;omega
  | [y],_=>simpa[nval,wd]using h2
  | y::z::r,h1=>simp at h1;omega
 refine μ8 ai (P.o.alloc (.cells #[(B,ys.length,c')] 58)) (K.o.alloc (.cells #[(B,ys.length,c')] 58)) (show θ (W.alloc (.cells #[(B,ys.length,c')] 58)) (w.heap.size+1+1) #[()] 58from zak o.o) (show θ (W.alloc (.cells #[(B,ys.length,c')] 58)) (w.heap.size+1+1+1) #[()] 58from zak p.o) (i.o.alloc i.o.size (.cells #[(B,ys.length,c')] 58)) (show w.heap.size+4<=(W.alloc (.cells #[(B,ys.length,c')] 58)).heap.size by have:=l.o;simp;omega) (ae) λar Y L o p i l T=>?_;have U:=un (show b<18446744073709551616 by have:=zdM L.o.2 0;omega);have am:=un af;clear P K O X ai af D ax aw ae;generalize W.alloc (.cells #[(B,ys.length,c')] 58)=V at *
 have S:=un (show ∀w',Below V V w'->((χ w' w 0 (A,m,c)/\χ w' (w.heap.size+1) 0 (B,ys.length,c'))/\Below V V w')from λw' h=>⟨⟨zab h E,zab h F⟩,h⟩)
 go_cut[7,8,9] (λs7 s8 s9 wr=>∃(g:Nat) (Q:OA) (f d:Nat),s7=.pointer (some ⟨g,0,none⟩)/\s8=.int .u64 ((a%b:Nat):Int)/\s9=true/\Below V V wr /\
  χ wr g 0 (Q,f,d)/\zas wr (Q,f,d) (a/b)/\V.heap.size<=g)
 case first =>
  go_region_held3 (λw'=>((χ w' w 0 (A,m,c)/\χ w' (w.heap.size+1) 0 (B,ys.length,c'))/\Below V V w'))
   ((refine S.o _ ?_;repeat(first | exact Zl _ _ | exact(by assumption:_/\Below _ _ _).2 | refine bdrew ?_ | refine al2 ?_ _ | refine set2 ?_ ω | refine zc1 ?_ (by assumption))))
   (first
    | (go_at_call 170;(refine(zIg (B,ys.length,c') ys b _ (L.o.below (by assumption:_/\Below _ _ _).2) ar.o).mono ?_);rintro e u1 ⟨rfl,D⟩;have ay:=D.size;(try simp at ay);have aR:=ω;(try((first | (have k:=zan (b:=V.heap.size) (v:=.slice none 0 0) (t:=58) D (zal _ _ _);obtain⟨I,⟨a3,a6⟩,⟨a4,a7⟩,⟨a5,a8⟩,⟨a9,ba⟩,bb,bc⟩:=k));have I:=un I)))
    | (go_at_call 186;(refine(zCw A m c a b _ (Y.o.below (by assumption:_/\Below _ _ _).2) T.o U.o am.o).mono ?_);rintro e u2 ⟨Q,f,d,rfl,hq,hb2⟩;have az:=hb2.size;(try simp at az);have aS:V.heap.size<=u2.heap.size:=ω;(try((first | (have k:=zan (b:=V.heap.size) (v:=.slice none 0 0) (t:=58) hb2 (I.o);obtain⟨J,⟨aE,aH⟩,⟨aF,aI⟩,⟨aG,aJ⟩,⟨aK,aL⟩,aM,aN⟩:=k) | (have k:=zan (b:=V.heap.size) (v:=.slice none 0 0) (t:=58) hb2 (zak I.o);obtain⟨J,⟨aE,aH⟩,⟨aF,aI⟩,⟨aG,aJ⟩,⟨aK,aL⟩,aM,aN⟩:=k));have J:=un J));(try((first | (have k:=zan (b:=u1.heap.size) (v:=.slice none 0 0) (t:=58) hb2 (zal _ _ _);obtain⟨N,⟨bd,aW⟩,⟨be,aX⟩,⟨aV,aY⟩,⟨aZ,a0⟩,a1,a2⟩:=k));have N:=un N));have HQ:=un hq;clear hq))
  all_goals
   go_wp2;go_meet;refine⟨_,Q,f,d,rfl,rfl,rfl,(by assumption:_/\Below V V _).2,?_,?_,?_⟩
   all_goals
    repeat' (first
     | exact HQ.o
     | with_reducible assumption
     | exact zeo _ _ _
     | exact zfx _ _ _ _
     | refine cell_al ?_
     | refine Box.cell ?_
     | refine cell_set ?_ ?_
     | exact Box.new _ _
     | exact Box.new1 _ _ _
     | refine Box.alloc ?_
     | refine Box.set ?_
     | exact Box.of J.o
     | exact Box.of N.o
     | refine zas.alloc ?_ _
     | refine zas.setBox ?_ ?_
     | refine zas.drew ?_
     | omega)
 obtain⟨g,Q,f,d,rfl,rfl,rfl,q,kq,hQ,hg⟩:=hcut;rename World=>wa
 refine μ6 hQ (zad q o.o) (zad q p.o) (i.o.trans (q.mono i.o.size)) (show w.heap.size+4<=wa.heap.size by have:=l.o;have:=q.size;omega) (show a%b<18446744073709551616 by have:=Z0 a T.o;have:=U.o;omega) λNQ o p i l hr=>?_;clear q hQ hg S Y L E F;generalize a%b=r at *
 generalize a/b=qq at *
 have av:Hid (χ (wa.alloc (.cells #[.int .u64 (r:Int)] 206)).drew wa 0 (.int .u64 (r:Int))):=un (zeo wa _ _);have aT:χ wa.drew g 0 (Q,f,d):=kq;have aA:χ (wa.alloc (.cells #[.int .u64 (r:Int)] 206)).drew g 0 (Q,f,d):=cell_al kq;go_wp2_with fail
 go_region_with (go_at_call 130;go_loud (refine(zIa wa.heap.size r _ hr.o av.o).mono ?_;rintro e w2 ⟨A2,m2,c2,rfl,hs2,hb2⟩;have s:=un (zad hb2 (show θ (wa.alloc (.cells #[.int .u64 (r:Int)] 206)).drew (w.heap.size+1+1) #[()] 58from zak o.o));have u:=un (zad hb2 (show θ (wa.alloc (.cells #[.int .u64 (r:Int)] 206)).drew (w.heap.size+1+1+1) #[()] 58from zak p.o));have aU:=zab hb2 aA;have Z:=zac s.o 0;have g4:=zag s.o 0;have g5:=zac u.o 0;have g6:=zag u.o 0;simp only[Xd,Z8]at Z g5;have aq:=un hs2;have R:=un hb2;clear hs2 hb2))
 all_goals
  go_wp2;refine Zi (v:=.tuple #[.agg #[(Q,f,d)],.agg #[(A2,m2,c2)],true]) (by simp[results,results182,go_sem,Z,g5]) rfl ?_;have M:=l.o;have nq:=((NQ.o.alloc (.cells #[.int .u64 (r:Int)] 206)).drew).below R.o;have C:=bstep (zhk (i.o.alloc i.o.size _) 1) R.o (by simp;omega);exact⟨_,_,_,_,_,_,rfl,zas.setBox (zas.setBox nq (Box.of s.o)) (Box.set (Box.of u.o)),zas.setBox (zas.setBox aq.o (Box.of s.o)) (Box.set (Box.of u.o)),Xj (Xj C (by simp;omega) _) (by simp;omega) _⟩
end Qt
namespace Qt

theorem zpY(A B:OA)(m c m' c' a b:Nat)(w:World)(J:zas w (A,m,c) a)(u:zas w (B,m',c') b)(Q:¬wlen b<=1)(x:a<b) :
  Calls prog 182 #[.agg #[(A,m,c)],.agg #[(B,m',c')]] w (zv4 w (a/b) (a%b) true):=by
 obtain⟨ys,L,_,_,N,hm⟩:=u.words;subst hm;refine μ3 J u L λz C E=>?_;have R:¬(ys.length:Int)<=1:=ω;clear J u L N;have W0:∃W,W=(((w.alloc (.cells #[(A,m,c)] 58)).alloc (.cells #[(B,ys.length,c')] 58)).alloc (.cells #[()] 58)).alloc (.cells #[()] 58):=⟨_,rfl⟩
 obtain⟨W,f⟩:=W0;have y:W.heap.size=w.heap.size+1+1+1+1:=by rw[f];simp
 have o:χ W w 0 (A,m,c):=by rw[f];exact cell_al (cell_al (cell_al (zax rfl rfl)))
 have q:χ W (w.heap.size+1) 0 (B,ys.length,c'):=by rw[f];exact cell_al (cell_al (zax σ rfl))
 have r2:θ W (w.heap.size+1+1) #[()] 58:=by rw[f];exact zak (zam σ)
 have r3:θ W (w.heap.size+1+1+1) #[()] 58:=by rw[f];exact zam σ
 have j:Below w w W:=by rw[f];exact(((zae w _).alloc σ _).alloc (by simp;omega) _).alloc (by simp;omega) _
 refine μ7 (z.o.below j) (C.o.below j) (E.o.below j) r2 r3 j y λl s t g i r k=>?_;clear r2 r3 j y z C E;go_enter func182,ntmps182;go_wp2_with fail
 rw[<-f];clear f;refine(Nt.len (B,ys.length,c') ys _ t.o).mono ?_;rintro e w' ⟨rfl,rfl⟩;have o:=cell_al (ob:=.cells #[(B,ys.length,c')] 58) o;have q:=cell_al (ob:=.cells #[(B,ys.length,c')] 58) q;go_wp2_with fail
 refine(Nt.cmp A B m c ys.length c' a b _ (l.o.alloc _) (s.o.alloc _)).mono ?_;rintro e M ⟨rfl,hb2⟩;have d:=((zae W _).trans (hb2.mono σ))
 have o:=zab hb2 o;have q:=zab hb2 q;refine μ7 (l.o.below d) (s.o.below d) (t.o.below d) (zad d g.o) (zad d i.o) (r.o.trans (d.mono (by have:=k.o;omega))) (show w.heap.size+4<=M.heap.size by have:=k.o;have:=d.size;omega) λl s t g i r k=>?_;clear hb2 d;rw[zeb (show(a:Int)<(b:Int)by omega)];go_wp2_with fail
 have F:=zac g.o 0;have O:=zag g.o 0;have I:=zac i.o 0;have P:=zag i.o 0;simp only[Xd,Z8]at F I;have K:=Yw x;have hr:=Yn x;have D:=un (And.intro K hr);clear K hr x;go_region
 all_goals
  go_wp2;refine Zi (v:=.tuple #[.agg #[()],.agg #[(A,m,c)],true]) (by simp[results,results182,go_sem,F,I]) rfl ?_;have y:=k.o;rw[D.o.1,D.o.2];exact⟨_,_,_,_,_,_,rfl,zas.zero _,(zas.setBox (zas.setBox l.o (Box.of g.o)) (Box.set (Box.of i.o))).drew,(bsc (bsc r.o)).drew⟩
end Qt
def zq4 (w:World) (xs:List Nat) (e:Ending) (w':World):Prop:=∃(A:OA) (m c:Nat),e=.returned (A,m,c)/\w'.ownsRow w.heap.size 206 1 (A,m,c) xs.length (wcells xs)/\Wds xs/\Below w w w'
def zoq(h:Canon xs)(a:0<xs.length):wd xs (xs.length-1)≠0:=by have h1:=h ψ;rw[List.getLast_eq_getElem]at h1;unfold wd;rw[Zh,Ze ω];exact h1
def zA5{xs:List Value}(h:w.ownsRow H e size (g,n,cap) n xs)(i:Nat)(hi:i<=n) :
  w.ownsRow g e size (g,i,cap) i (xs.take (i*size)):=by
 have d:i*size<=n*size:=ZV _ hi;refine⟨by rw[ZI,h.1];omega,?_⟩;rcases h.2 with ⟨a,_⟩ | ⟨g',j,cur,a,k,hg,l,b,c,f⟩
 simp at a;simp only[Value.slice.injEq,Option.some.injEq,Addr.mk.injEq,and_true,true_and]at a;obtain⟨rfl,rfl⟩:=a;refine .inr ⟨g,cap,cur,rfl,Za _,hg,ω,b,c,?_⟩;rw[<-f,YX,XD d]
def zxt{base:Nat}{xs:List Value}(h:w.ownsRow base e size v n xs)(b:0<n):∃g cp,v=.slice (some ⟨g,0,none⟩) n cp/\n<=cp/\base<=g:=by
 rcases h.2 with ⟨_,h0⟩ | ⟨g,cap,cur,rfl,a,_,hc,_⟩
 omega;grind
def zfF{B:Nat}{xs:List Value}{w':World}(h:w.ownsRow B e k v n xs)(a:Below w w w'):w'.ownsRow B e k v n xs:=by
 refine⟨h.1,?_⟩;rcases h.2 with hn | ⟨g,cap,cur,hv,hB,hg,r⟩
 grind;exact .inr ⟨g,cap,cur,hv,hB,by rw[a.block g (ZU.1 hg).1];exact hg,r⟩
def zxv(h:w.ownsRow H 206 1 (g,n,cap) n (wcells ys))(hk:k<=n) :
  w.ownsRow g 206 1 (g,k,cap) k (wcells (ys.take k)):=by
 have:=zA5 h k hk;rw[XB,<-zg7]at this;exact this
namespace Nt
def zC7(s:Value)(xs:List Nat)(w:World)(h:SR w s xs)(y:xs.length<=LIM):Calls prog 165 #[s] w (zq4 w xs):=by
 obtain⟨A,c,rfl,C,z,hw,b,a⟩:=h;have l:=un hw;rcases A with _ | ad
 ·obtain⟨rfl,rfl⟩:=b rfl;have D:=fun(w:World)=>Yz (P:=prog) w 56 206 none 0 0 0 0 underlying56
  go_enter func165,ntmps165;go_wp2;go_ret;exact⟨_,_,_,rfl,Xs _ _ _ _,Wds.nil,Zl _ _⟩
 have f:=un (a ad rfl);have D:=fun(w:World)=>Yz (P:=prog) w 56 206 (some ad) xs.length c 0 0 underlying56
 obtain⟨K,hi,F,I,J⟩:=info_parts zf7;have o:=VA (e:=206) (size:=1) (base:=w.heap.size) w #[] 0 (Za _) (by unfold maxLen;omega) rfl
 have m:∀j u,(wcells xs)[j]? = some u->(w.alloc (.cells #[] 206)).cell? (ad.add j)=some u:=λj u p =>
  (YI w _ _ (Yg w _ (f.o j u p))).trans (f.o j u p)
 have x:=un o;have v:=un m;have g:0+xs.length<=maxLen:=by unfold maxLen;omega
 have i:(0+xs.length)*8<=140737488355328:=by have:=zaP;omega
 have r:=un g;have t:=un i;go_enter func165,ntmps165;go_wp2_with (at_builtin;refine wpList_append_own _ rfl _ _ 56 rfl w.heap.size 206 K (.int .u64 0) 1 8 underlying56 hi F I J rfl δ _ _ _ rfl x.o ad xs.length c (wcells xs) rfl (by rw[zdA];omega) v.o (zgf xs) r.o t.o σ ?_;intro M w1 d B L)
 go_ret;rw[Xc,XY]at d;have E:=SW.of_own d l.o;obtain⟨q,m',c',rfl⟩:=E.slice;exact⟨q,m',c',rfl,d,l.o,(zae w _).trans ((Zl _ _).grown B σ (λk hk=>by cases hk;exact Za _))⟩
def wordsF(A:OA)(m c:Nat)(xs:List Nat)(w:World)(h:SW w (A,m,c) xs)(b:xs.length<=LIM):Calls prog 173 #[.agg #[(A,m,c)]] w (zq4 w xs):=by
 have a:=(h.alloc (.cells #[(A,m,c)] 58)).reads;have d:=un a;have f:=un b;go_enter func173,ntmps173;go_wp2_with fail
 refine(zC7 _ xs _ d.o f.o).mono ?_;rintro e w1 ⟨A1,m1,c1,rfl,hs1,hw1,hb1⟩;go_wp2;go_ret;exact⟨_,_,_,rfl,zbu hs1 σ,hw1,bstep (zae w _) hb1 σ⟩
end Nt
def zH5(w:World)(n:Nat)(a:w.heap.size=n)(j:Nat)(u:Value)(h:(wcells [0,0])[j]? = some u):(w.alloc (.cells #[.int .u64 0,.int .u64 0] 206)).cell? ((⟨n,0,none⟩:Addr).add j)=some u:=by subst a;rw[show(⟨w,0,none⟩:Addr).add j=⟨w,j,none⟩by unfold Addr.add;split<;>simp_all];exact(zac (zal w _ _) j).trans (by match j,h with | 0,h=>simpa[wcells]using h | 1,h=>simpa[wcells]using h | j+2,h=>simp[wcells]at h)
def zo4{ops:Array Oper}{o:Oper}{a:Act}{K:Act->World->Prop}{Q:Exit->Act->World->Prop}{E:Prop}(hg:o.guard=none)
  (s x:Operand) (p:o.op=.call { callee:=.builtin .append,args:=#[s,x],argTypes:=#[56,56] })
     (i:w.ownsRow H 206 1 v n (wcells ys)) (q:a.eval s=v) {d:Addr} {m:Nat} (r:a.eval x=.slice (some d) m c) (hm:m=xs.length)
  (l:∀j u,(wcells xs)[j]? = some u->w.cell? (d.add j)=some u) (B:n+xs.length<=2*LIM) (f:H<=w.heap.size)
  (g:∀b w',w'.ownsRow H 206 1 b (n+xs.length) (wcells (ys++xs))->w.grownBy w' v.ownBlock->K (a.put o.dst b) w') :
  if Region.wanted o (yielded ops a.tmps)=true then Oper.wp prog o a w K Q else E:=by
 have hw:Region.wanted o (yielded ops a.tmps)=true:=by simp[Region.wanted,hg]
 rw[if_pos hw];subst hm;obtain⟨A,hi,t,y,z⟩:=info_parts zf7
 refine wp_append_own w s x 56 p H 206 A (.int .u64 0) 1 8 underlying56 hi t y z rfl δ v n _ q i d xs.length c (wcells xs) r (by rw[zdA];omega) l (zgf xs)
  (by unfold maxLen;have:=zaP;omega) (by have:=zaP;omega) f λb w' e k _=>?_
 rw[<-zia]at e;grind
namespace Qt
def zrL(b:ys.length=L+1):nval ys=nval (ys.take L)+B64^L*wd ys L:=by
 have h:=zaY ys L ω;have a:ys.drop L=[wd ys L]:=by rw[Yd ω,List.drop_of_length_le ω];unfold wd;rw[Zh,Ze ω];rfl
 rw[a]at h;simpa[nval]using h
def zqo{top:Nat}(hw:Wds ys)(i:ys.length=L+1)(c:wd ys L=top)(h0:0<top)(p:64-blen top=s) :
  nval ys*2^s<B64^(L+1)/\2^63*B64^L<=nval ys*2^s:=by
 have e:=zrL i;rw[c]at e;have o:=zlm ys L hw;have k:top<18446744073709551616:=by rw[<-c];grind[zdM]
 have l:=zmT k;have m:=zhl h0;have h1:top<2^blen top:=zil.1 (Za _);have g:2^(blen top-1)<=top:=znL.1 ω;have f:2^blen top*2^s=B64:=by rw[<-XA,show blen top+s=64 by omega]
 have d:2^(blen top-1)*2^s=2^63:=by rw[<-XA,show blen top-1+s=63 by omega]
 have j:0<2^s:=Z3 δ;constructor;have b:nval ys<B64^L*2^blen top:=by have:B64^L*(top+1)<=B64^L*2^blen top:=Xp _ h1;rw[XX,XB]at this;omega
 have a:=Vy b j;rw[Yb,f]at a;rw[Xg];exact a;have b:B64^L*2^(blen top-1)<=nval ys:=by have:B64^L*2^(blen top-1)<=B64^L*top:=Xp _ g;omega
 have a:=ZV (2^s) b;rw[Yb,d]at a;rw[ZO];exact a
def zxq(hw:Wds vs)(hc:Canon vs)(b:nval vs=N)(h1:N<B64^(L+1))(c:2^63*B64^L<=N):vs.length=L+1/\9223372036854775808<=wd vs L:=by
 have f:=zk7 vs hw hc;have i:0<B64^L:=Z3 δ;have a:vs.length=L+1:=by
  rw[f,b];have a1:wlen N<=L+1:=zaZ h1;have a2:¬wlen N<=L:=by rw[zfP];have:1*B64^L<=2^63*B64^L:=ZV _ δ;omega
  omega
 refine⟨a,?_⟩;have e:=zrL a;have g:=zlm vs L hw;rw[b]at e;rcases ZM (wd vs L) 9223372036854775808 with h | h;exfalso;have d:B64^L*(wd vs L+1)<=B64^L*2^63:=Xp _ h;rw[XX,XB]at d;rw[ZO (2^63)]at c;omega;exact h
def zw3(m:us.length=n+1)(k:nval us=a*2^s)(d:a<B64^n)(l:s<64)(j:L+1<=n)(f:2^63*B64^L<=nval vs):nval (us.drop (n-L))<nval vs:=by
 have e:=zaY us (n-L) ω;have h1:a*2^s<B64^n*2^s:=Vy d (Z3 δ);have b:B64^n=B64^(n-L)*B64^L:=by rw[<-XA];grind
 have c:B64^(n-L)*nval (us.drop (n-L))<B64^(n-L)*(B64^L*2^s):=by rw[<-Yb,<-b];omega
 have g:=VL c;have i:B64^L*2^s<=B64^L*2^63:=Xp _ (Xq δ ω);rw[ZO (2^63)]at f;omega
def zA6(h1:n<=xs.length)(b:xs.length<=n+1):nval ((xs++[0,0]).take (n+1))=nval xs/\((xs++[0,0]).take (n+1)).length=n+1:=by
 have a:((xs++[0,0]).take (n+1)).length=n+1:=by rw[ZI,Zz];simp;omega
 refine⟨?_,a⟩;rw[List.take_append,zc7];rw[Z2 (show xs.length<=n+1 by omega)];have:nval (([0,0]:List Nat).take (n+1-xs.length))=0:=by rcases(show n+1-xs.length=0\/n+1-xs.length=1 by omega)with h | h<;>rw[h]<;>rfl
 rw[this];simp
def unshift{r:Nat}(h:r+b*2^s*q=a*2^s)(e:r<b*2^s):q=a/b/\r/2^s=a%b:=by
 have f:0<2^s:=Z3 δ;have k:2^s∣r:=by have h1:2^s∣a*2^s:=VB _ _;have g:2^s∣b*2^s*q:=Nat.dvd_trans (VB _ _) (Nat.dvd_mul_right _ _);rw[<-h]at h1;exact(Nat.dvd_add_left g).1 h1
 obtain⟨t,rfl⟩:=k;have i:2^s*(t+b*q)=2^s*a:=by rw[ZO _ a,<-h];grind
 have c:=VK f i;have d:t<b:=by rw[ZO b]at e;exact VL e
 rw[Nat.mul_div_cancel_left _ f];grind[Nat.add_mul_div_left,Nat.div_eq_of_lt,Nat.add_mul_mod_self_left,Nat.mod_eq_of_lt]
structure DS (w wr:World) (H G gv n nq cu:Nat) (us qs vs:List Nat) (Av:OA) (cv:Nat):Prop where
  u:wr.ownsRow H 206 1 (H,n+1,cu) (n+1) (wcells us)
  q:wr.ownsRow G 206 1 (G,nq,nq) nq (wcells qs)
  v:θ wr gv #[(Av,vs.length,cv)] 58
  sv:SW wr (Av,vs.length,cv) vs
  r2:θ wr (w.heap.size+1+1) #[()] 58
  r3:θ wr (w.heap.size+1+1+1) #[()] 58
  bel:Below w w wr
structure DF (w:World) (H G gv:Nat) (v:Value):Prop where
  hg:H<G
  gh:gv<H
  hw:w.heap.size+4<=gv
  vh:v.ownBlock≠some H
  vg:v.ownBlock≠some G
namespace DS
variable {w wr w':World} {H G gv n nq cu:Nat} {us qs us' qs' vs:List Nat} {Av:OA} {cv:Nat}
def step(h:DS w wr H G gv n nq cu us qs vs Av cv)(a:Below wr wr w'):DS w w' H G gv n nq cu us qs vs Av cv :=
 ⟨zfF h.u a,zfF h.q a,zad a h.v,h.sv.below a,zad a h.r2,zad a h.r3,h.bel.trans (a.mono h.bel.size)⟩
def blk{x:Nat}{o:Obj}(h:wr.heap[x]? = some o)(hg:wr.grownBy w' (some H))(a:x≠H):w'.heap[x]? = some o :=
 (hg.block x (ZU.1 h).1 (λe=>a (Option.some.inj e))).trans h
def turnU(h:DS w wr H G gv n nq cu us qs vs Av cv)(f:DF w H G gv (Av,vs.length,cv))(hg:wr.grownBy w' (some H))(a:w'.ownsRow H 206 1 (H,n+1,cu) (n+1) (wcells us')):DS w w' H G gv n nq cu us' qs vs Av cv :=
 ⟨a,h.q.kept hg (.inr (by have:=f.hg;simp[Value.ownBlock];omega)),blk h.v hg (by have:=f.gh;omega),
  h.sv.keep λk hk=>hg.block k (h.sv.block hk) (λe=>f.vh (by rw[hk,e])),
  blk h.r2 hg (by have:=f.gh;have:=f.hw;omega),blk h.r3 hg (by have:=f.gh;have:=f.hw;omega),
  h.bel.grown hg h.bel.size (λk hk=>by cases hk;have:=f.gh;have:=f.hw;omega)⟩
def turnQ(h:DS w wr H G gv n nq cu us qs vs Av cv)(f:DF w H G gv (Av,vs.length,cv))(hg:wr.grownBy w' (some G))(a:w'.ownsRow G 206 1 (G,nq,nq) nq (wcells qs')):DS w w' H G gv n nq cu us qs' vs Av cv :=
 ⟨h.u.kept hg (.inr (by have:=f.hg;simp[Value.ownBlock];omega)),a,blk h.v hg (by have:=f.gh;have:=f.hg;omega),
  h.sv.keep λk hk=>hg.block k (h.sv.block hk) (λe=>f.vg (by rw[hk,e])),
  blk h.r2 hg (by have:=f.gh;have:=f.hg;have:=f.hw;omega),blk h.r3 hg (by have:=f.gh;have:=f.hg;have:=f.hw;omega),
  h.bel.grown hg h.bel.size (λk hk=>by cases hk;have:=f.gh;have:=f.hg;have:=f.hw;omega)⟩
def setQ(h:DS w wr H G gv n nq cu us qs vs Av cv)(f:DF w H G gv (Av,vs.length,cv))(k x:Nat):DS w (wr.setCell ⟨G,k,none⟩ (.int .u64 (x:Int))) H G gv n nq cu us (qs.set k x) vs Av cv :=
 h.turnQ f (h.q.stored k _).2 (by rw[ziN];exact(h.q.stored k _).1)
def cellU(h:DS w wr H G gv n nq cu us qs vs Av cv)(a:us.length=n+1)(hk:k<n+1):χ wr H k (.int .u64 ((wd us k:Nat):Int)):=by rw[h.u.cellAt k ω,zeu ω]
def cellQ(h:DS w wr H G gv n nq cu us qs vs Av cv)(a:qs.length=nq)(hk:k<nq):χ wr G k (.int .u64 ((wd qs k:Nat):Int)):=by rw[h.q.cellAt k ω,zeu ω]
def cellV(h:DS w wr H G gv n nq cu us qs vs Av cv):χ wr gv 0 (Av,vs.length,cv):=zac h.v 0
def swQ(h:DS w wr H G gv n nq cu us qs vs Av cv)(a:qs.length=nq)(hw:Wds qs):SW wr (G,nq,nq) qs:=by subst a;exact SW.of_own h.q hw
def swU(h:DS w wr H G gv n nq cu us qs vs Av cv)(b:us.length=n+1)(hw:Wds us):SW wr (H,n+1,cu) us:=by have a:=h.u;rw[<-b]at a ⊢;grind[SW.of_own]
def outC(h:DS w wr H G gv n nq cu us qs vs Av cv)(a:us.length=n+1):OutC wr wr H (n+1) cu us:=⟨h.u,⟨rfl,rfl,rfl,Za _,λ_ _ _=>rfl⟩,a⟩
def ofOut(h:DS w wr H G gv n nq cu us qs vs Av cv)(f:DF w H G gv (Av,vs.length,cv))(o:OutC wr w' H (n+1) cu us'):DS w w' H G gv n nq cu us' qs vs Av cv:=h.turnU f o.bel o.own
end DS
def zvl(W:World)(g n c k j:Nat)(K:Int)(b:K=(j:Int))(h1:k<=j)(f:j<=c)(i:k<c) :
  (Instr.slice 56 (g,n,c) (some (.int .i64 (k:Int))) (some (.int .i64 K)) none).run prog W=.ok (.slice (some ⟨g,k,none⟩) (j-k) (c-k)) W:=by
 subst b;have e:prog.underlying 56=some (.slice (prog.elem 56)):=by simp[Program.elem,underlying56]
 have d:prog.elem 56=206:=by simp[Program.elem,underlying56]
 rw[run_slice_lh W 56 _ _ _ e .i64 .i64 _ _ ω ω ω,d];have h0:c≠k:=ω;by_cases a:k=0;subst a;simp[Result.andThen,sliced,Addr.add,h0];simp[Result.andThen,sliced,Addr.add,h0,a]
def zmb{os zs:List Nat}(h:za8 us os a b)(k:za8 os zs a b):za8 us zs a b:=⟨k.1.trans h.1,λj hj=>(k.2 j hj).trans (h.2 j hj)⟩
def zqw{nq:Nat}{a:List Nat}(b:LdInv N (nval vs) us qs (k+1))(d:Window us vs k)(j:Wds vs)(hm:2<=vs.length)(hk:k<qs.length)(f:k<=us.length)(l:9223372036854775808<=wd vs (vs.length-1))
  (hg:GuessIs (wd us (k+vs.length)) (wd us (k+vs.length-1)) (wd us (k+vs.length-2)) (wd vs (vs.length-1)) (wd vs (vs.length-2)) q)
  (i:za8 us a k (k+vs.length+1)) (g:Wds a) (c:nval a+B64^k*(q*nval vs)=nval us+B64^(k+vs.length+1)*0):LdInv N (nval vs) a (qs.set k q) k:=by
 have _:=nq;have e:=d.guess b.wu j hm (by unfold wd at l;omega) hg;rw[Nat.mul_zero,Yl]at c;exact b.step hk f i g c e.1 hg.lt
def zsu{a d:List Nat}(e:LdInv N (nval vs) us qs (k+1))(b:Window us vs k)(v:Wds vs)(hm:2<=vs.length)(hk:k<qs.length)(f:k<=us.length)(x:9223372036854775808<=wd vs (vs.length-1))
  (hg:GuessIs (wd us (k+vs.length)) (wd us (k+vs.length-1)) (wd us (k+vs.length-2)) (wd vs (vs.length-1)) (wd vs (vs.length-2)) q)
  (i:za8 us a k (k+vs.length+1)) (t:Wds a) (j:nval a+B64^k*(q*nval vs)=nval us+B64^(k+vs.length+1)*1)
  (m:za8 a d k (k+vs.length+1)) (l:Wds d) (p:nval d+B64^(k+vs.length+1)*c=nval a+B64^k*nval vs):LdInv N (nval vs) d ((qs.set k q).set k (q-1)) k/\0<q:=by
 have r:=b.guess e.wu v hm (by unfold wd at x;omega) hg;have s:¬q*nval vs<=nval (us.drop k):=λh=>by have:=zo6 b t i f j (Za 1) h;omega
 have g:0<q:=ψ;have u:=(b.z.lt e.wu).2;have o:=ztX b l (zmb i m) f j p g r.2 u;refine⟨?_,g⟩;rw[List.set_set];exact e.step hk f (zmb i m) l o (by rw[Nat.sub_add_cancel g];omega) (by have:=hg.lt;omega)
