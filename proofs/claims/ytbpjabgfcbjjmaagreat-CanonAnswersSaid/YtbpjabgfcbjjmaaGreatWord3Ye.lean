/- Contracts and lemmas: Word3 Mem Nat1 Nat2 Out Nat4 Wrap. Conditions: as each says. -/
import Derived.Test.YtbpjabgfcbjjmaaGreatWordYe
import Derived.Deep.RegionHeld3
import Derived.Deep.AppendLies
import Derived.Deep.DrawnRows
import Derived.WalkSmall
import Derived.Laws.CopyOwn
import Derived.Laws.AppendOwnNone
import Derived.Deep.DeepMust
set_option linter.all false
set_option maxHeartbeats 4000000
set_option maxRecDepth 100000
namespace Go.Proofs.YtbpjabgfcbjjmaaGreat
open Go.RowKit Am Tryz
variable {cs:Array Value}{xs:List Nat}{ys:List Value}{B b base k m o size:Nat}{A:OA}{ob:Obj}{t:TypeId}{a c d e f g i j s v:Value}{W w w1:World}
namespace Word
theorem div_no(hi lo y:Nat)(h:y<=hi)(w:World) :
  Calls prog 195 #[.int .u64 hi,.int .u64 lo,.int .u64 y] w λe w'=>e=.returned (.tuple #[.int .u64 0,.int .u64 0,false])/\w=w':=by
 go_enter func195,ntmps195;go_wp2;go_ret3
 exact⟨rfl,rfl⟩
theorem zAb{hi lo y S H L Y a:Nat}(hS:S<64)(o:lo<18446744073709551616)(h:hi<y)(i:H=hi*2^S+lo*2^S/18446744073709551616)(j:L=lo*2^S%18446744073709551616)
  (d:Y=y*2^S) (q:a=L/4294967296) (p:b=L%4294967296) :
  zz8 H a Y*4294967296+zz8 (zpW H a Y) b Y=zz9 hi lo y/\zpW (zpW H a Y) b Y/2^S=zBV hi lo y:=by
 have f:0<2^S:=Z0 δ;have m:0<Y:=by rw[d];exact YU ω f
 have h1:=(zvp hS o h).1;have c:=zAc H a b Y m;have g:=zr6 (hi*B64+lo) y (2^S) f;have k:a*4294967296+b=L:=ω;rw[k]at c;have e:H*18446744073709551616+L=(hi*B64+lo)*2^S:=by rw[h1,i,j]
 rw[e,d,g.1,g.2,<-d]at c;refine⟨c.1,?_⟩;have l:zpW (zpW H a Y) b Y=(hi*B64+lo)%y*2^S:=c.2;rw[l,Nat.mul_div_cancel _ f];rfl
theorem div_ok(hi lo y:Nat)(h:hi<y)(j:lo<18446744073709551616)(p:y<18446744073709551616)(w:World) :
  Calls prog 195 #[.int .u64 hi,.int .u64 lo,.int .u64 y] w λe w'=>e=.returned (.tuple #[.int .u64 (zz9 hi lo y:Nat),.int .u64 (zBV hi lo y:Nat),true])/\∃n,w'=w.drewN n:=by
 obtain⟨S,hS⟩:∃S,64-blen y=S:=⟨_,rfl⟩
 have i:S<64:=by have:=zhl (x:=y) ω;omega
 have c:=zsf (y:=y) ω p;rw[hS]at c;obtain⟨Y,d⟩:∃Y,Y=y*2^S:=⟨_,rfl⟩
 obtain⟨L,g⟩:∃L,L=lo*2^S%18446744073709551616:=⟨_,rfl⟩
 obtain⟨H,f⟩:∃H,H=hi*2^S+lo*2^S/18446744073709551616:=⟨_,rfl⟩
 have t:H<Y:=by rw[f,d];exact(zvp i j h).2
 have u:L<18446744073709551616:=by rw[g];exact ZW _ δ
 rw[<-d]at c;obtain⟨a,o⟩:∃a,a=L/4294967296:=⟨_,rfl⟩
 obtain⟨b,l⟩:∃b,b=L%4294967296:=⟨_,rfl⟩
 have z:a<4294967296:=ω;have v:b<4294967296:=ω;have m:=zAb i j h f g d o l;have cp:∀k:Nat,((2:Int)^k)=((2^k:Nat):Int):=λk=>σ
 have G:IntKind.u64.wrap ((y:Int)*2^S)=(Y:Int):=by rw[cp,<-XO,<-d];exact zb7 _ c.1
 have E:IntKind.u64.wrap ((lo:Int)*2^S)=(L:Int):=by rw[cp,<-XO,Xt,g];rfl
 have D:bits BinOp.or IntKind.u64 (IntKind.u64.wrap ((hi:Int)*2^S)) ((lo:Int)/2^(64-S))=(H:Int):=by
  have h1:hi*2^S<18446744073709551616:=ω;have q:=zoZ (x:=lo) i;have r:=znR (s:=S) j;have I:(2:Nat)^S<18446744073709551616:=by have:(2:Nat)^S<2^64:=YV δ i;omega
  rw[cp,cp,<-XO,zb7 _ h1,<-XR,q,u64_or_nat _ _ h1 ω,zyy r,f]
 have C:(L:Int)/4294967296=(a:Int):=ω;have B:bits BinOp.and IntKind.u64 (L:Int) 4294967295=(b:Int):=by rw[show(4294967295:Int)=((4294967295:Nat):Int)from rfl,u64_and_nat L _ u δ,zj9,l]
 have J:=zAa h j;have F:IntKind.u64.wrap (IntKind.u64.wrap ((zz8 H a Y:Nat)*4294967296)+(zz8 (zpW H a Y) b Y:Nat))=((zz9 hi lo y:Nat):Int):=by have:=m.1;rw[Xt,Xt];omega
 have RR:((zpW (zpW H a Y) b Y:Nat):Int)/2^S=((zBV hi lo y:Nat):Int):=by rw[cp,<-XR,m.2]
 have A:zpW H a Y<Y:=ZW _ ω;clear d g f o l m cp;go_enter func195,ntmps195;go_wp2_with fail
 refine(lead y p _).mono ?_;rintro e w' ⟨rfl,n,rfl⟩;go_wp2;go_quiet (fail)
 go_wp2_with fail
 refine(digit H a Y c.2 c.1 t z _).mono ?_;rintro e w' ⟨rfl,n1,rfl⟩;go_wp2_with fail
 refine(digit (zpW H a Y) b Y c.2 c.1 A v _).mono ?_;rintro e w' ⟨rfl,n2,rfl⟩;go_wp2;go_quiet (fail)
 go_wp2;go_ret3
 exact⟨rfl,_,World.drewN_drewN _ _ _⟩
end Word
def LIM:Nat:=1099511627776
theorem zaP:LIM=1099511627776:=rfl
def wcells (xs:List Nat):List Value:=xs.map fun(x:Nat)=>Value.int .u64 (x:Int)
theorem zdA(xs:List Nat):(wcells xs).length=xs.length:=by simp[wcells]
theorem zeu(hk:k<xs.length):(wcells xs)[k]? = some (.int .u64 ((wd xs k:Nat):Int)):=by simp[wcells,wd,hk]
theorem ziN(xs:List Nat)(k v:Nat):wcells (xs.set k v)=(wcells xs).set k (.int .u64 (v:Int)):=by simp[wcells]
theorem zlr(n:Nat):wcells (List.replicate n 0)=List.replicate n (.int .u64 0):=by simp[wcells]
theorem zia(xs ys:List Nat):wcells (xs++ys)=wcells xs++wcells ys:=by simp[wcells]
theorem zg7(xs:List Nat)(k:Nat):wcells (xs.take k)=(wcells xs).take k:=by simp[wcells]
theorem zgf(xs:List Nat):∀u∈wcells xs,u.oneCell'=true:=by intro u a;simp only[wcells,ZH]at a;obtain⟨x,_,rfl⟩:=a;rfl
theorem zf7:(prog.info? 206).map (λi=>(i.zero,i.size,i.bytes))=some (some (.int .u64 0),1,8):=ξ
def SW (w:World) (s:Value) (xs:List Nat):Prop:=w.ownsRow 0 206 1 s xs.length (wcells xs)/\Wds xs
def zas (w:World) (s:Value) (n:Nat):Prop:=∃xs,SW w s xs/\Canon xs/\nval xs=n
def isZ (n:Nat):Bool:=decide (n=0)
theorem zk4{n:Nat}(h:0<n):isZ n=false:=by unfold isZ;rw[decide_eq_false_iff_not];omega
section
variable {w w':World} {s:Value} {xs:List Nat} {n:Nat}
theorem zbu{e:TypeId}(h:w.ownsRow base e size s n ys)(c:b<=base):w.ownsRow b e size s n ys:=by
 obtain⟨h1,a⟩:=h;refine⟨h1,?_⟩;rcases a with a | ⟨g,cap,cur,hv,hg,r⟩
 exact .inl a;exact .inr ⟨g,cap,cur,hv,ω,r⟩
theorem SW.of_own(h:w.ownsRow base 206 1 s xs.length (wcells xs))(hw:Wds xs):SW w s xs:=⟨zbu h (Zb _),hw⟩
theorem SW.block(h:SW w s xs)(hk:s.ownBlock=some k):k<w.heap.size:=(h.1.lt k hk).2
theorem SW.keep(h:SW w s xs)(hk:∀k,s.ownBlock=some k->w'.heap[k]? = w.heap[k]?):SW w' s xs:=by
 refine⟨⟨h.1.1,?_⟩,h.2⟩;rcases h.1.2 with h2 | ⟨g,cap,cur,hv,hg,hh,r⟩
 grind;exact .inr ⟨g,cap,cur,hv,hg,by rw[hk g (by rw[hv];rfl)];exact hh,r⟩
theorem SW.below(h:SW w s xs)(a:Below w w w'):SW w' s xs:=h.keep λk hk=>a.block k (h.block hk)
theorem SW.drewN(h:SW w s xs)(k:Nat):SW (w.drewN k) s xs:=h.keep λ_ _=>rfl
theorem SW.alloc(h:SW w s xs)(o:Obj):SW (w.alloc o) s xs:=h.keep λk hk=>Below.heap_alloc w o k (h.block hk)
theorem SW.nil(w:World):SW w () []:=⟨Xo _ _ _ _,Wds.nil⟩
theorem SW.form(h:SW w s xs):(s=()/\xs=[])\/∃g cap,s=.slice (some ⟨g,0,none⟩) xs.length cap/\g<w.heap.size/\xs.length<=cap/\cap<=maxLen /\
  (∀k,k<xs.length->χ w g k (.int .u64 ((wd xs k:Nat):Int))):=by
 rcases h.1.2 with ⟨h1,b⟩ | ⟨g,cap,cur,a,hg,d,c,hm,_⟩
 grind;refine .inr ⟨g,cap,a,(h.1.lt g (by rw[a];rfl)).2,c,hm,λk hk=>?_⟩;have hr:=a▸h.1;rw[hr.cellAt k ω,zeu hk]
theorem SW.len_le(h:SW w s xs):xs.length<=9223372036854775807:=by
 rcases h.form with ⟨_,rfl⟩ | ⟨g,cap,_,_,h1,a,_⟩
 simp;unfold maxLen at a;omega
theorem SW.slice(h:SW w s xs):∃A m c,s=.slice A m c:=by
 rcases h.form with ⟨rfl,rfl⟩ | ⟨g,cap,rfl,_⟩
 exact⟨_,_,_,rfl⟩;grind
theorem SW.len_eq{c:Nat}(h:SW w (A,m,c) xs):m=xs.length:=by
 rcases h.form with ⟨h1,rfl⟩ | ⟨g,cap,h1,_⟩
 injection h1;grind
theorem SW.setCell(h:SW w s xs){p:Addr}(a:s.ownBlock≠some p.block)(u:Value):SW (w.setCell p u) s xs :=
 h.keep λk hk=>ZE w p u k (λe=>a (by rw[hk,e]))
theorem zas.slice(h:zas w s n):∃A m c,s=.slice A m c:=by obtain⟨xs,h,_⟩:=h;exact h.slice
theorem za6{e:TypeId}{g:Nat}(h:w.ownsRow base e size s n ys)(hg:θ w g cs t)(c:e≠t):s.ownBlock≠some g:=by
 rcases h.2 with ⟨rfl,_⟩ | ⟨g',cap,cur,rfl,_,b,_⟩
 simp[Value.ownBlock];intro a;have:g'=g:=by simpa[Value.ownBlock]using a
 grind
theorem zas.setCell(h:zas w s n){p:Addr}{t:TypeId}{cs:Array Value}(hg:θ w p.block cs t)(c:206≠t)(u:Value):zas (w.setCell p u) s n:=by obtain⟨xs,a,b⟩:=h;exact⟨xs,a.setCell (za6 a.1 hg c) u,b⟩
theorem zas.mk(h:SW w s xs)(hc:Canon xs):zas w s (nval xs):=⟨xs,h,hc,rfl⟩
theorem zas.below(h:zas w s n)(c:Below w w w'):zas w' s n:=by obtain⟨xs,a,b⟩:=h;exact⟨xs,a.below c,b⟩
theorem zas.drewN(h:zas w s n)(k:Nat):zas (w.drewN k) s n:=by obtain⟨xs,a,b⟩:=h;exact⟨xs,a.drewN k,b⟩
theorem zas.drew(h:zas w s n):zas w.drew s n:=h.drewN 1
theorem zas.alloc(h:zas w s n)(o:Obj):zas (w.alloc o) s n:=by obtain⟨xs,a,b⟩:=h;exact⟨xs,a.alloc o,b⟩
theorem zas.zero(w:World):zas w () 0:=⟨[],SW.nil w,zop,rfl⟩
theorem zas.words{c:Nat}(h:zas w (A,m,c) n):∃xs,SW w (.slice A xs.length c) xs/\Canon xs/\nval xs=n/\xs.length=wlen n/\m=xs.length:=by obtain⟨xs,h1,a,b⟩:=h;have:=h1.len_eq;subst this;exact⟨xs,h1,a,b,by rw[<-b];exact zk7 xs h1.2 a,rfl⟩
theorem zas.len(h:zas w s n):∃xs,SW w s xs/\Canon xs/\nval xs=n/\xs.length=wlen n:=by obtain⟨xs,h1,a,b⟩:=h;exact⟨xs,h1,a,b,by rw[<-b];exact zk7 xs h1.2 a⟩
theorem zae(w:World)(o:Obj):Below w w (w.alloc o):=(Zj _ _).alloc (Za _) o
theorem zap(w:World)(n:Nat):Below w w (w.drewN n):=⟨rfl,rfl,rfl,Za _,λ_ _=>rfl⟩
theorem zhk{a:World}(h:Below B a w)(n:Nat):Below B a (w.drewN n):=⟨h.os,h.tape,h.output,h.size,h.block⟩
theorem bstep{a:World}(h:Below B a w)(c:Below w w w')(b:B<=w.heap.size):Below B a w':=h.trans (c.mono b)
end
theorem zad(a:Below w w w1){o:Obj}(h:w.heap[b]? = some o):w1.heap[b]? = some o :=
 (a.block b (ZS.1 h).1).trans h
theorem zal(w:World)(cs:Array Value)(t:TypeId):θ (w.alloc (.cells cs t)) w.heap.size cs t:=heap_alloc_new w _
theorem zac{g:Nat}(h:θ w g cs t)(i:Nat):w.cell? ⟨g,i,none⟩=cs[i]?:=by grind[cell_of_row]
theorem zag{g:Nat}(h:θ w g cs t)(i:Nat):w.frozen? ⟨g,i,none⟩=false:=frozen_of_row w g i cs t h
theorem zab(a:Below w w w1)(h:χ w b o v):χ w1 b o v :=
 (a.cell (p:=⟨b,o,none⟩) (Yb w ⟨b,o,none⟩ h)).trans h
theorem zaa{p:Addr}(h:w.cell? p=some v):w.drew.cell? p=some v:=h
theorem bc1(h:θ w b #[a] t):χ w b 0 a/\χ w.drew b 0 a:=⟨zac h 0,zac h 0⟩
theorem bf1(h:θ w b #[a] t):χ w b 0 a/\χ w.drew b 0 a/\w.frozen? ⟨b,0,none⟩=false/\w.drew.frozen? ⟨b,0,none⟩=false:=⟨zac h 0,zac h 0,zag h 0,zag h 0⟩
theorem bc2(h:θ w b #[a,c] t):χ w b 0 a/\χ w.drew b 0 a/\χ w b 1 c/\χ w.drew b 1 c:=⟨zac h 0,zac h 0,zac h 1,zac h 1⟩
theorem bf2(h:θ w b #[a,c] t):χ w b 0 a/\χ w.drew b 0 a/\w.frozen? ⟨b,0,none⟩=false/\w.drew.frozen? ⟨b,0,none⟩=false/\χ w b 1 c/\χ w.drew b 1 c/\w.frozen? ⟨b,1,none⟩=false/\w.drew.frozen? ⟨b,1,none⟩=false:=⟨zac h 0,zac h 0,zag h 0,zag h 0,zac h 1,zac h 1,zag h 1,zag h 1⟩
theorem bc3(h:θ w b #[a,c,d] t):χ w b 0 a/\χ w.drew b 0 a/\χ w b 1 c/\χ w.drew b 1 c/\χ w b 2 d/\χ w.drew b 2 d:=⟨zac h 0,zac h 0,zac h 1,zac h 1,zac h 2,zac h 2⟩
theorem bf3(h:θ w b #[a,c,d] t):χ w b 0 a/\χ w.drew b 0 a/\w.frozen? ⟨b,0,none⟩=false/\w.drew.frozen? ⟨b,0,none⟩=false/\χ w b 1 c/\χ w.drew b 1 c/\w.frozen? ⟨b,1,none⟩=false/\w.drew.frozen? ⟨b,1,none⟩=false/\χ w b 2 d/\χ w.drew b 2 d/\w.frozen? ⟨b,2,none⟩=false/\w.drew.frozen? ⟨b,2,none⟩=false:=⟨zac h 0,zac h 0,zag h 0,zag h 0,zac h 1,zac h 1,zag h 1,zag h 1,zac h 2,zac h 2,zag h 2,zag h 2⟩
theorem bc4(h:θ w b #[a,c,d,e] t):χ w b 0 a/\χ w.drew b 0 a/\χ w b 1 c/\χ w.drew b 1 c/\χ w b 2 d/\χ w.drew b 2 d/\χ w b 3 e/\χ w.drew b 3 e:=⟨zac h 0,zac h 0,zac h 1,zac h 1,zac h 2,zac h 2,zac h 3,zac h 3⟩
theorem bf4(h:θ w b #[a,c,d,e] t):χ w b 0 a/\χ w.drew b 0 a/\w.frozen? ⟨b,0,none⟩=false/\w.drew.frozen? ⟨b,0,none⟩=false/\χ w b 1 c/\χ w.drew b 1 c/\w.frozen? ⟨b,1,none⟩=false/\w.drew.frozen? ⟨b,1,none⟩=false/\χ w b 2 d/\χ w.drew b 2 d/\w.frozen? ⟨b,2,none⟩=false/\w.drew.frozen? ⟨b,2,none⟩=false/\χ w b 3 e/\χ w.drew b 3 e/\w.frozen? ⟨b,3,none⟩=false/\w.drew.frozen? ⟨b,3,none⟩=false:=⟨zac h 0,zac h 0,zag h 0,zag h 0,zac h 1,zac h 1,zag h 1,zag h 1,zac h 2,zac h 2,zag h 2,zag h 2,zac h 3,zac h 3,zag h 3,zag h 3⟩
theorem bc5(h:θ w b #[a,c,d,e,f] t):χ w b 0 a/\χ w.drew b 0 a/\χ w b 1 c/\χ w.drew b 1 c/\χ w b 2 d/\χ w.drew b 2 d/\χ w b 3 e/\χ w.drew b 3 e/\χ w b 4 f/\χ w.drew b 4 f:=⟨zac h 0,zac h 0,zac h 1,zac h 1,zac h 2,zac h 2,zac h 3,zac h 3,zac h 4,zac h 4⟩
theorem bf5(h:θ w b #[a,c,d,e,f] t):χ w b 0 a/\χ w.drew b 0 a/\w.frozen? ⟨b,0,none⟩=false/\w.drew.frozen? ⟨b,0,none⟩=false/\χ w b 1 c/\χ w.drew b 1 c/\w.frozen? ⟨b,1,none⟩=false/\w.drew.frozen? ⟨b,1,none⟩=false/\χ w b 2 d/\χ w.drew b 2 d/\w.frozen? ⟨b,2,none⟩=false/\w.drew.frozen? ⟨b,2,none⟩=false/\χ w b 3 e/\χ w.drew b 3 e/\w.frozen? ⟨b,3,none⟩=false/\w.drew.frozen? ⟨b,3,none⟩=false/\χ w b 4 f/\χ w.drew b 4 f/\w.frozen? ⟨b,4,none⟩=false/\w.drew.frozen? ⟨b,4,none⟩=false:=⟨zac h 0,zac h 0,zag h 0,zag h 0,zac h 1,zac h 1,zag h 1,zag h 1,zac h 2,zac h 2,zag h 2,zag h 2,zac h 3,zac h 3,zag h 3,zag h 3,zac h 4,zac h 4,zag h 4,zag h 4⟩
theorem bc6(h:θ w b #[a,c,d,e,f,g] t):χ w b 0 a/\χ w.drew b 0 a/\χ w b 1 c/\χ w.drew b 1 c/\χ w b 2 d/\χ w.drew b 2 d/\χ w b 3 e/\χ w.drew b 3 e/\χ w b 4 f/\χ w.drew b 4 f/\χ w b 5 g/\χ w.drew b 5 g:=⟨zac h 0,zac h 0,zac h 1,zac h 1,zac h 2,zac h 2,zac h 3,zac h 3,zac h 4,zac h 4,zac h 5,zac h 5⟩
theorem bf6(h:θ w b #[a,c,d,e,f,g] t):χ w b 0 a/\χ w.drew b 0 a/\w.frozen? ⟨b,0,none⟩=false/\w.drew.frozen? ⟨b,0,none⟩=false/\χ w b 1 c/\χ w.drew b 1 c/\w.frozen? ⟨b,1,none⟩=false/\w.drew.frozen? ⟨b,1,none⟩=false/\χ w b 2 d/\χ w.drew b 2 d/\w.frozen? ⟨b,2,none⟩=false/\w.drew.frozen? ⟨b,2,none⟩=false/\χ w b 3 e/\χ w.drew b 3 e/\w.frozen? ⟨b,3,none⟩=false/\w.drew.frozen? ⟨b,3,none⟩=false/\χ w b 4 f/\χ w.drew b 4 f/\w.frozen? ⟨b,4,none⟩=false/\w.drew.frozen? ⟨b,4,none⟩=false/\χ w b 5 g/\χ w.drew b 5 g/\w.frozen? ⟨b,5,none⟩=false/\w.drew.frozen? ⟨b,5,none⟩=false:=⟨zac h 0,zac h 0,zag h 0,zag h 0,zac h 1,zac h 1,zag h 1,zag h 1,zac h 2,zac h 2,zag h 2,zag h 2,zac h 3,zac h 3,zag h 3,zag h 3,zac h 4,zac h 4,zag h 4,zag h 4,zac h 5,zac h 5,zag h 5,zag h 5⟩
theorem bc8(h:θ w b #[a,c,d,e,f,g,i,j] t):χ w b 0 a/\χ w.drew b 0 a/\χ w b 1 c/\χ w.drew b 1 c/\χ w b 2 d/\χ w.drew b 2 d/\χ w b 3 e/\χ w.drew b 3 e/\χ w b 4 f/\χ w.drew b 4 f/\χ w b 5 g/\χ w.drew b 5 g/\χ w b 6 i/\χ w.drew b 6 i/\χ w b 7 j/\χ w.drew b 7 j:=⟨zac h 0,zac h 0,zac h 1,zac h 1,zac h 2,zac h 2,zac h 3,zac h 3,zac h 4,zac h 4,zac h 5,zac h 5,zac h 6,zac h 6,zac h 7,zac h 7⟩
theorem bf8(h:θ w b #[a,c,d,e,f,g,i,j] t):χ w b 0 a/\χ w.drew b 0 a/\w.frozen? ⟨b,0,none⟩=false/\w.drew.frozen? ⟨b,0,none⟩=false/\χ w b 1 c/\χ w.drew b 1 c/\w.frozen? ⟨b,1,none⟩=false/\w.drew.frozen? ⟨b,1,none⟩=false/\χ w b 2 d/\χ w.drew b 2 d/\w.frozen? ⟨b,2,none⟩=false/\w.drew.frozen? ⟨b,2,none⟩=false/\χ w b 3 e/\χ w.drew b 3 e/\w.frozen? ⟨b,3,none⟩=false/\w.drew.frozen? ⟨b,3,none⟩=false/\χ w b 4 f/\χ w.drew b 4 f/\w.frozen? ⟨b,4,none⟩=false/\w.drew.frozen? ⟨b,4,none⟩=false/\χ w b 5 g/\χ w.drew b 5 g/\w.frozen? ⟨b,5,none⟩=false/\w.drew.frozen? ⟨b,5,none⟩=false/\χ w b 6 i/\χ w.drew b 6 i/\w.frozen? ⟨b,6,none⟩=false/\w.drew.frozen? ⟨b,6,none⟩=false/\χ w b 7 j/\χ w.drew b 7 j/\w.frozen? ⟨b,7,none⟩=false/\w.drew.frozen? ⟨b,7,none⟩=false:=⟨zac h 0,zac h 0,zag h 0,zag h 0,zac h 1,zac h 1,zag h 1,zag h 1,zac h 2,zac h 2,zag h 2,zag h 2,zac h 3,zac h 3,zag h 3,zag h 3,zac h 4,zac h 4,zag h 4,zag h 4,zac h 5,zac h 5,zag h 5,zag h 5,zac h 6,zac h 6,zag h 6,zag h 6,zac h 7,zac h 7,zag h 7,zag h 7⟩
theorem bc9{k:Value}(h:θ w b #[a,c,d,e,f,g,i,j,k] t):χ w b 0 a/\χ w.drew b 0 a/\χ w b 1 c/\χ w.drew b 1 c/\χ w b 2 d/\χ w.drew b 2 d/\χ w b 3 e/\χ w.drew b 3 e/\χ w b 4 f/\χ w.drew b 4 f/\χ w b 5 g/\χ w.drew b 5 g/\χ w b 6 i/\χ w.drew b 6 i/\χ w b 7 j/\χ w.drew b 7 j/\χ w b 8 k/\χ w.drew b 8 k:=⟨zac h 0,zac h 0,zac h 1,zac h 1,zac h 2,zac h 2,zac h 3,zac h 3,zac h 4,zac h 4,zac h 5,zac h 5,zac h 6,zac h 6,zac h 7,zac h 7,zac h 8,zac h 8⟩
theorem bf9{k:Value}(h:θ w b #[a,c,d,e,f,g,i,j,k] t):χ w b 0 a/\χ w.drew b 0 a/\w.frozen? ⟨b,0,none⟩=false/\w.drew.frozen? ⟨b,0,none⟩=false/\χ w b 1 c/\χ w.drew b 1 c/\w.frozen? ⟨b,1,none⟩=false/\w.drew.frozen? ⟨b,1,none⟩=false/\χ w b 2 d/\χ w.drew b 2 d/\w.frozen? ⟨b,2,none⟩=false/\w.drew.frozen? ⟨b,2,none⟩=false/\χ w b 3 e/\χ w.drew b 3 e/\w.frozen? ⟨b,3,none⟩=false/\w.drew.frozen? ⟨b,3,none⟩=false/\χ w b 4 f/\χ w.drew b 4 f/\w.frozen? ⟨b,4,none⟩=false/\w.drew.frozen? ⟨b,4,none⟩=false/\χ w b 5 g/\χ w.drew b 5 g/\w.frozen? ⟨b,5,none⟩=false/\w.drew.frozen? ⟨b,5,none⟩=false/\χ w b 6 i/\χ w.drew b 6 i/\w.frozen? ⟨b,6,none⟩=false/\w.drew.frozen? ⟨b,6,none⟩=false/\χ w b 7 j/\χ w.drew b 7 j/\w.frozen? ⟨b,7,none⟩=false/\w.drew.frozen? ⟨b,7,none⟩=false/\χ w b 8 k/\χ w.drew b 8 k/\w.frozen? ⟨b,8,none⟩=false/\w.drew.frozen? ⟨b,8,none⟩=false:=⟨zac h 0,zac h 0,zag h 0,zag h 0,zac h 1,zac h 1,zag h 1,zag h 1,zac h 2,zac h 2,zag h 2,zag h 2,zac h 3,zac h 3,zag h 3,zag h 3,zac h 4,zac h 4,zag h 4,zag h 4,zac h 5,zac h 5,zag h 5,zag h 5,zac h 6,zac h 6,zag h 6,zag h 6,zac h 7,zac h 7,zag h 7,zag h 7,zac h 8,zac h 8,zag h 8,zag h 8⟩
theorem zKh(a:Below B w w1)(c:b<B)(h:χ w b o v):χ w1 b o v :=
 (a.cell (p:=⟨b,o,none⟩) c).trans h
def SR (w:World) (s:Value) (xs:List Nat):Prop:=∃A c,s=.slice A xs.length c/\xs.length<=c/\c<=9223372036854775807/\Wds xs/\(A=none->xs=[]/\c=0) /\
  ∀ad,A=some ad->∀j u,(wcells xs)[j]? = some u->w.cell? (ad.add j)=some u
theorem SW.reads(h:SW w s xs):SR w s xs:=by
 rcases h.form with ⟨rfl,rfl⟩ | ⟨g,cap,rfl,hg,b,hm,hc⟩
 exact⟨none,0,rfl,Za _,δ,Wds.nil,λ_=>⟨rfl,rfl⟩,λa h=>by cases h⟩;refine⟨_,cap,rfl,b,by unfold maxLen at hm;omega,h.2,(λh=>by cases h),λa c j u d=>?_⟩;obtain rfl:=Option.some.inj c;exact h.1.cells (g:=g) rfl j u d
def zCs (w:World) (xs:List Nat) (e:Ending) (w':World):Prop:=∃(A:OA) (m c:Nat),e=.returned (A,m,c)/\SW w' (A,m,c) xs/\Below w w w'
def zc0 (w:World) (n:Nat) (e:Ending) (w':World):Prop:=∃(A:OA) (m c:Nat),e=.returned (.agg #[(A,m,c)])/\zas w' (A,m,c) n/\Below w w w'
def zjL (w:World) (n:Nat) (b:Bool) (e:Ending) (w':World):Prop:=∃(A:OA) (m c:Nat),e=.returned (.tuple #[.agg #[(A,m,c)],b])/\zas w' (A,m,c) n/\Below w w w'
namespace Nt
theorem zyC(h:xs.length<=k):wd xs k=0:=zjA xs k h
theorem word(s:Value)(xs:List Nat)(k:Int)(hk:0<=k)(w:World)(a:SW w s xs) :
  Calls prog 170 #[.agg #[s],.int .i64 k] w λe w'=>e=.returned (.int .u64 ((wd xs k.toNat:Nat):Int))/\w'=w.alloc (.cells #[s] 58):=by
 have c:=a.len_le;rcases a.form with ⟨rfl,rfl⟩ | ⟨g,cap,rfl,hg,d,hm,hc⟩
 ·have b:=un (zyC (xs:=[]) (k:=k.toNat) σ);clear c;go_enter func170,ntmps170;go_wp2;go_ret
  exact⟨zst (by rw[b.o];rfl),rfl⟩
 by_cases i:k<xs.length
 ·have f:=hc k.toNat ω;obtain⟨j,rfl⟩:=Int.eq_ofNat_of_zero_le hk;rw[Ym]at *
  generalize wd xs j=x at *
  clear hc a;go_enter func170,ntmps170;go_wp2;go_ret;exact⟨rfl,rfl⟩
 have b:=un (zyC (xs:=xs) (k:=k.toNat) ω);clear hc a;go_enter func170,ntmps170;go_wp2;go_ret;exact⟨zst (by rw[b.o];rfl),rfl⟩
theorem len(s:Value)(xs:List Nat)(w:World)(a:SW w s xs) :
  Calls prog 139 #[.agg #[s]] w λe w'=>e=.returned (xs.length:Int)/\w'=w.alloc (.cells #[s] 58):=by
 rcases a.form with ⟨rfl,rfl⟩ | ⟨g,cap,rfl,hg,b,hm,hc⟩
 all_goals
  try clear hc
  clear a;go_enter func139,ntmps139;go_wp2;go_ret;exact⟨rfl,rfl⟩
theorem zero(s:Value)(n:Nat)(w:World)(a:zas w s n) :
  Calls prog 129 #[.agg #[s]] w λe w'=>e=.returned (.bool (isZ n))/\w'=w.alloc (.cells #[s] 58):=by
 obtain⟨xs,a,hc,rfl⟩:=a;have c:((xs.length:Int) == 0)=isZ (nval xs):=by
  have:=zoS xs hc;by_cases h:xs=[]
  subst h;rfl;rw[zk4 (X9 (λe=>h (this.1 e)))];simp[h]
 rcases a.form with ⟨rfl,rfl⟩ | ⟨g,cap,rfl,hg,d,hm,b⟩
 ·clear a c;go_enter func129,ntmps129;go_wp2;go_ret
  exact⟨rfl,rfl⟩
 clear b a;go_enter func129,ntmps129;go_wp2;go_ret;exact⟨rfl,rfl⟩
theorem uint_one(s:Value)(n:Nat)(i:n<18446744073709551616)(w:World)(a:zas w s n) :
  Calls prog 168 #[.agg #[s]] w λe w'=>e=.returned (.tuple #[.int .u64 (n:Int),true])/\Below w w w':=by
 obtain⟨xs,a,hc,b,c⟩:=a.len;have m:xs.length<=1:=by rw[c];exact zdl i
 have d:wd xs 0=n:=by rw[<-b,wd,zhQ xs a.2,Nat.pow_zero,YO,b];exact Yl i
 have f:=un d;have j:=a.alloc (.cells #[s] 58);have o:=a.len_le;rcases a.form with ⟨rfl,rfl⟩ | ⟨g,cap,rfl,hg,l,hm,k⟩
 ·clear c b d;go_enter func168,ntmps168;go_wp2_with (go_at_call 170;refine(word _ _ _ ω _ j).mono ?_;rintro e w' ⟨rfl,rfl⟩)
  go_ret2
  exact⟨by rw[<-f.o];rfl,(Zj _ _).alloc (Za _) _ |>.alloc σ _⟩
 clear k c b d;go_enter func168,ntmps168;go_wp2_with (go_at_call 170;refine(word _ _ _ ω _ j).mono ?_;rintro e w' ⟨rfl,rfl⟩)
 go_ret2
 exact⟨by rw[<-f.o];rfl,(Zj _ _).alloc (Za _) _ |>.alloc σ _⟩
theorem uint_more(s:Value)(n:Nat)(l:18446744073709551616<=n)(w:World)(a:zas w s n) :
  Calls prog 168 #[.agg #[s]] w λe w'=>e=.returned (.tuple #[.int .u64 0,false])/\Below w w w':=by
 obtain⟨xs,a,hc,i,d⟩:=a.len;have f:1<xs.length:=by rcases ZI 1 xs.length with h | h;exact h;have b:=(zfP n 1).1 ω;simp only[Nat.pow_one,B64]at b;omega
 have k:=a.len_le;rcases a.form with ⟨rfl,rfl⟩ | ⟨g,cap,rfl,hg,j,hm,c⟩
 simp at f;clear c d i;go_enter func168,ntmps168;go_wp2;go_ret2
 exact⟨rfl,(Zj _ _).alloc (Za _) _⟩
theorem zzd{g cap:Nat}(h:SW w (g,xs.length,cap) xs)(hm:m<=xs.length):SW w (g,m,cap) (xs.take m):=by
 have a:(xs.take m).length=m:=by simp;omega
 refine⟨⟨by rw[zdA];omega,?_⟩,h.2.take m⟩;rcases h.1.2 with ⟨h1,_⟩ | ⟨g',i,cur,b,hg,c,j,d,e,f⟩
 simp at h1;simp only[Value.slice.injEq,Option.some.injEq,Addr.mk.injEq,and_true,true_and]at b;grind[zg7]
theorem zvz(hm:0<m)(a:m<=xs.length)(h0:wd xs (m-1)=0):trimZ (xs.take m)=trimZ (xs.take (m-1)):=by
 obtain⟨k,rfl⟩:∃k,m=k+1:=⟨m-1,ω⟩
 simp only[Yi]at *
 have:xs[k]' ω=0:=by have:=h0;unfold wd at this;rw[Zg,Ze ω]at this;exact this
 rw[Vp ω,this,zdK]
theorem zo8(a:m<=xs.length)(h0:0<m->wd xs (m-1)≠0):Canon (xs.take m):=by
 rcases XY m with rfl | hm;simp[zop];obtain⟨k,rfl⟩:∃k,m=k+1:=⟨m-1,ω⟩
 have h1:=h0 hm;simp only[Yi]at h1;rw[Vp ω];apply zm8;unfold wd at h1;rw[Zg,Ze ω]at h1;exact h1
def lenOf:Value->Nat | .slice _ n _=>n | _=>0
theorem trim(s:Value)(xs:List Nat)(w:World)(a:SW w s xs):Calls prog 164 #[s] w (zc0 w (nval xs)):=by
 have u:=a.len_le;rcases a.form with ⟨rfl,rfl⟩ | ⟨g,cap,rfl,hg,t,hm,j⟩
 ·clear a;go_enter func164,ntmps164;go_wp2;refine wp_loop_rounds 1 ?_;rw[rounds_succ];go_wp2;refine Zh (v:=.agg #[()]) (by simp[results,results164,go_sem]) rfl ⟨_,_,_,rfl,zas.zero _,(Zj _ _).alloc (Za _) _⟩
 unfold maxLen at hm;go_enter func164,ntmps164;have l:=un j;have o:=un a;clear j a;go_wp2;go_loop [0] (λv=>∃m:Nat,m<=xs.length/\v=(g,m,cap)/\trimZ (xs.take m)=trimZ xs) (λv=>lenOf v)
 case atStart=>exact⟨xs.length,Za _,rfl,by rw[ZZ (Za _)]⟩
 obtain⟨m,d,rfl,k⟩:=hrel;have i:=un k;clear k;have fin:Canon (xs.take m)->zc0 w (nval xs) (.returned (.agg #[(g,m,cap)])) (w.alloc (.cells #[(g,m,cap)] 58)):=by
  intro c;refine⟨_,_,_,rfl,?_,(Zj _ _).alloc (Za _) _⟩;have h1:=zas.mk ((zzd o.o d).alloc (.cells #[(g,m,cap)] 58)) c
  rwa [<-zl7,zln c,<-zln c,i.o,zl7]at h1
 have f:=un fin;clear fin;rcases XY m with rfl | hpos
 ·have e:=un (f.o (zo8 ω ω));go_wp2;exact Zh (v:=.agg #[.slice (some ⟨g,0,none⟩) 0 cap]) (by simp[results,results164,go_sem]) rfl e.o
 have q:=l.o (m-1) ω;by_cases b:wd xs (m-1)=0
 ·have p:=un ((zvz hpos d b).symm.trans i.o);rw[b]at q;clear b;go_wp2;go_round
  case rel=>exact⟨m-1,ω,rfl,p.o⟩
  case measure=>simp[lenOf];omega
 have e:=un (f.o (zo8 d (λ_=>b)));have r:(((wd xs (m-1):Nat):Int) == 0)=false:=by rw[beq_eq_false_iff_ne];omega
 clear b;generalize wd xs (m-1)=x at *
 go_wp2;exact Zh (v:=.agg #[(g,m,cap)]) (by simp[results,results164,go_sem]) rfl e.o
end Nt
namespace Nt
theorem clone(s:Value)(xs:List Nat)(w:World)(h:SR w s xs)(z:xs.length<=LIM):Calls prog 165 #[s] w (zCs w xs):=by
 obtain⟨A,c,rfl,D,B,hw,b,a⟩:=h;have y:=un hw;clear hw;rcases A with _ | ad
 ·obtain⟨rfl,rfl⟩:=b rfl;clear a b;have E:=fun(w:World)=>Yw (P:=prog) w 56 206 none 0 0 0 0 underlying56
  go_enter func165,ntmps165;go_wp2;go_ret;exact⟨_,_,_,rfl,SW.nil _,Zj _ _⟩
 have d:=un (a ad rfl);clear a b;have E:=fun(w:World)=>Yw (P:=prog) w 56 206 (some ad) xs.length c 0 0 underlying56
 obtain⟨J,hi,F,G,I⟩:=info_parts zf7;have l:=Vs (e:=206) (size:=1) (base:=w.heap.size) w #[] 0 (Za _) (by unfold maxLen;omega) rfl
 have i:∀j u,(wcells xs)[j]? = some u->(w.alloc (.cells #[] 206)).cell? (ad.add j)=some u:=λj u p =>
  (YE w _ _ (Yb w _ (d.o j u p))).trans (d.o j u p)
 have x:=un l;have v:=un i;have f:0+xs.length<=maxLen:=by unfold maxLen;omega
 have g:(0+xs.length)*8<=140737488355328:=by have:=zaP;omega
 have r:=un f;have t:=un g;clear l i f g z D B;go_enter func165,ntmps165;go_wp2_with (at_builtin;refine wpList_append_own _ rfl _ _ 56 rfl w.heap.size 206 J (.int .u64 0) 1 8 underlying56 hi F G I rfl δ _ _ _ rfl x.o ad xs.length c (wcells xs) rfl (by rw[zdA];omega) v.o (zgf xs) r.o t.o σ ?_;intro L w1 m C K)
 go_ret;rw[Z6,XV]at m;have o:=SW.of_own m y.o;obtain⟨q,m',c',rfl⟩:=o.slice;exact⟨q,m',c',rfl,o,(zae w _).trans ((Zj _ _).grown C σ (λk hk=>by cases hk;exact Za _))⟩
theorem of(s:Value)(xs:List Nat)(w:World)(h:SR w s xs)(f:xs.length<=LIM):Calls prog 130 #[s] w (zc0 w (nval xs)):=by
 have a:SR (w.alloc (.cells #[()] 58)) s xs:=by obtain⟨A,c,h1,a,o,q,r,d⟩:=h;exact⟨A,c,h1,a,o,q,r,λb g j u i=>(YE w _ _ (Yb w _ (d b g j u i))).trans (d b g j u i)⟩
 have k:=un a;have l:=un f;clear h a f;go_enter func130,ntmps130;go_wp2_with fail
 refine(clone s xs _ k.o l.o).mono ?_;rintro e w1 ⟨A1,m1,c1,rfl,hs1,hb1⟩;go_wp2_with fail
 refine(trim _ xs _ hs1).mono ?_;rintro e w2 ⟨A2,m2,c2,rfl,hs2,hb2⟩;have t:w.heap.size<w2.heap.size:=by have h1:=hb1.size;have a:=hb2.size;simp at h1;omega
 have hk:=zad hb2 (zad hb1 (zal w #[()] 58));have hc:χ w2 w 0 ():=zac hk 0;have hf:=zag hk 0;have m:=un hk;clear hk;go_wp2;refine Zh (v:=.agg #[(A2,m2,c2)]) (by simp[results,results130,go_sem,hc]) rfl ⟨_,_,_,rfl,hs2.setCell (p:=⟨w,0,none⟩) m.o δ _,?_⟩;exact(bstep (bstep (zae w _) hb1 σ) hb2 (by have h1:=hb1.size;simp at h1;omega)).setCell (Za _) _
end Nt
theorem SW.drew{w:World}{s:Value}{xs:List Nat}(h:SW w s xs):SW w.drew s xs:=h.drewN 1
theorem cell_al(h:χ W b o v):χ (W.alloc ob) b o v :=
 (YE W ob ⟨b,o,none⟩ (Yb W ⟨b,o,none⟩ h)).trans h
theorem zax(a:W.heap.size=b)(h:cs[o]? = some v):χ (W.alloc (.cells cs t)) b o v:=by grind[zac,zal]
theorem zam(a:W.heap.size=b):θ (W.alloc (.cells cs t)) b cs t:=by grind[zal]
theorem zak{o:Obj}(h:W.heap[b]? = some o):(W.alloc ob).heap[b]? = some o :=
 by grind[Below.heap_alloc,Array.getElem?_eq_some_iff]
theorem cell_set{a c:Nat}{u:Value}(d:b≠a)(h:χ W b o v):χ (W.setCell ⟨a,c,none⟩ u) b o v :=
 by simp_all[World.cell?_setCell_other,congrArg]
theorem zd1(a:b<W.heap.size)(h:W.frozen? ⟨b,o,none⟩=false):(W.alloc ob).frozen? ⟨b,o,none⟩=false :=
 by grind[World.frozen?_alloc_old,Nat.ne_of_lt]
theorem zxk(a:b<W.heap.size):b<(W.alloc ob).heap.size:=by simp;omega
structure OutAt (w w1:World) (H n:Nat) (os:List Nat):Prop where
  own:w1.ownsRow H 206 1 (H,n,n) n (wcells os)
  bel:Below H w w1
  len:os.length=n
namespace OutAt
variable {w w1 w2:World} {H n:Nat} {os:List Nat}
theorem lt(h:OutAt w w1 H n os):H<w1.heap.size:=(h.own.lt H rfl).2
theorem step(h:OutAt w w1 H n os)(a:Below w1 w1 w2):OutAt w w2 H n os :=
 ⟨⟨h.own.1,by
   rcases h.own.2 with h2 | ⟨g,cap,cur,hv,hg,hh,r⟩
   grind;exact .inr ⟨g,cap,cur,hv,hg,by rw[a.block g (ZS.1 hh).1];exact hh,r⟩⟩,h.bel.trans (a.mono (Xi h.lt)),h.len⟩
theorem alloc(h:OutAt w w1 H n os)(o:Obj):OutAt w (w1.alloc o) H n os:=h.step (zae w1 o)
theorem drewN(h:OutAt w w1 H n os)(k:Nat):OutAt w (w1.drewN k) H n os:=h.step (zap w1 k)
theorem drew(h:OutAt w w1 H n os):OutAt w w1.drew H n os:=h.drewN 1
theorem store(h:OutAt w w1 H n os)(k v:Nat):OutAt w (w1.setCell ⟨H,k,none⟩ (.int .u64 (v:Int))) H n (os.set k v) :=
 ⟨by rw[ziN];exact(h.own.stored k _).1,h.bel.setCell (Za _) _,by rw[ZQ];exact h.len⟩
theorem cell(h:OutAt w w1 H n os){k:Nat}(hk:k<n):χ w1 H k (.int .u64 ((wd os k:Nat):Int)):=by rw[h.own.cellAt k ω,zeu (by rw[h.len];exact hk)]
theorem fro(h:OutAt w w1 H n os)(k:Nat):w1.frozen? ⟨H,k,none⟩=false:=h.own.frozenAt k
theorem old(h:OutAt w w1 H n os)(a:b<H)(hc:χ w b o v):χ w1 b o v :=
 (h.bel.cell (p:=⟨b,o,none⟩) a).trans hc
theorem keep(h:OutAt w w1 H n os)(b:SW w s xs)(a:w.heap.size<=H):SW w1 s xs:=b.below (h.bel.mono a)
theorem sw(h:OutAt w w1 H n os)(hw:Wds os):SW w1 (H,n,n) os:=by have:=h.own;have a:=h.len;grind[SW.of_own]
end OutAt

theorem zdz{ops:Array Oper}{rest:List Oper}{o:Oper}{a:Act}{Q:Exit->Act->World->Prop}
  (hg:o.guard=none) (l c:Operand) (m:o.op=Op.makeSlice 56 l c) (n:Nat) (L:Int) (j:a.eval l=.int .i64 L) (hc:a.eval c=.int .i64 L) (g:L=(n:Int)) (u:n<=16*LIM) (H:Nat) (e:w.heap.size=H)
  (f:∀w1,OutAt w w1 H n (List.replicate n 0)->wpList prog ops Q rest (a.put o.dst (H,n,n)) w1):wpList prog ops Q (o::rest) a w:=by
 obtain⟨t,hi,p,q,r⟩:=info_parts zf7;have v:=zaP;subst e;subst g;refine wpList_make_full w hg l c 56 m w.heap.size 206 t (.int .u64 0) 1 underlying56 hi p q .i64 .i64 n n n j hc rfl rfl (by rw[r];omega) (by unfold maxLen;omega) (Za _) ?_;intro w1 b i;have d:(madeCells (Value.int IntKind.u64 0).cells (n*1)).toList=wcells (List.replicate n 0):=by rw[zlr,Xy];exact toList_madeCells_one _ n
 rw[d]at b;exact f w1 ⟨b,(Zj _ _).grown i (Za _) (λk hk=>by cases hk),σ⟩
def zrow (n:Nat):Array Value:=(wcells (List.replicate n 0)).toArray
theorem zyv(n:Nat)(i:n<=16*LIM)(w:World):(Instr.makeSlice 56 (n:Int) (n:Int)).run prog w=.ok (w.heap.size,n,n) (w.alloc (.cells (zrow n) 206)):=by
 obtain⟨a,hi,e,f,g⟩:=info_parts zf7;have j:=zaP;have c:(n:Int)<=9223372036854775807:=ω;have d:(a.bytes:Int)*(n:Int)<=281474976710656:=by rw[g];omega
 have hr:=run_make (P:=prog) w 56 206 a (.int .u64 0) underlying56 hi e .i64 .i64 n n ω (Int.le_refl _) d c;simp only[Ym]at hr;rw[hr,f];have b:madeCells (Value.int IntKind.u64 0).cells (n*1)=zrow n:=by apply Array.ext';rw[zrow,zlr,Xy];exact toList_madeCells_one _ n
 rw[b]
theorem zn5(w:World)(n:Nat)(a:n<=16*LIM):OutAt w (w.alloc (.cells (zrow n) 206)) w.heap.size n (List.replicate n 0):=by have b:=zaP;have h:=YW (e:=206) (size:=1) w (zrow n) n (Za w.heap.size) (by unfold maxLen;omega) (by simp[zrow,wcells]);exact⟨by simpa[zrow]using h,(Zj _ _).alloc (Za _) _,σ⟩
attribute [local go_sem ↓] Go.wp_at_zero Go.wp_at_succ
def ze9 (a b:Int):Int:=if a<b then -1 else if b<a then 1 else 0
theorem zeb{a b:Int}(h:a<b):ze9 a b = -1:=by unfold ze9;rw[if_pos h]
theorem zea{a b:Int}(h:b<a):ze9 a b=1:=by unfold ze9;rw[if_neg ω,if_pos h]
theorem zgN{a b:Int}(h:a=b):ze9 a b=0:=by unfold ze9;rw[if_neg ω,if_neg ω]
namespace Nt
theorem zut(a b:Int)(w:World):Calls prog 127 #[.int .i64 a,.int .i64 b] w λe w'=>e=.returned (.int .i64 (ze9 a b))/\w=w':=by
 rcases Yn a b with h | h | h
 ·have E:=un (zeb h);go_enter func127,ntmps127;go_wp2;go_ret
  exact⟨zst (by rw[E.o]),rfl⟩
 ·subst h;have E:=un (zgN (a:=a) rfl);go_enter func127,ntmps127;go_wp2;go_ret
  exact⟨zst (by rw[E.o]),rfl⟩
 have E:=un (zea h);go_enter func127,ntmps127;go_wp2;go_ret;exact⟨zst (by rw[E.o]),rfl⟩
theorem zJ7(a b:Int)(w:World):Calls prog 128 #[.int .u64 a,.int .u64 b] w λe w'=>e=.returned (.int .i64 (ze9 a b))/\w=w':=by
 rcases Yn a b with h | h | h
 ·have E:=un (zeb h);go_enter func128,ntmps128;go_wp2;go_ret
  exact⟨zst (by rw[E.o]),rfl⟩
 ·subst h;have E:=un (zgN (a:=a) rfl);go_enter func128,ntmps128;go_wp2;go_ret
  exact⟨zst (by rw[E.o]),rfl⟩
 have E:=un (zea h);go_enter func128,ntmps128;go_wp2;go_ret;exact⟨zst (by rw[E.o]),rfl⟩
theorem zuw(A B:OA)(c c':Nat)(xs ys:List Nat)(w:World)(b:xs.length≠ys.length)(v:Int)(a:v=ze9 xs.length ys.length) :
  Calls prog 66 #[.agg #[(A,xs.length,c)],.agg #[(B,ys.length,c')]] w λe w'=>e=.returned (.int .i64 v)/\Below w w w':=by
 rcases ZI xs.length ys.length with h | h
 ·have e:ze9 xs.length ys.length = -1:=zeb ω;rw[e]at a;subst a;clear b h;go_enter func66,ntmps66;go_wp2_with fail
  refine(zut _ _ _).mono ?_;rw[e];rintro d w' ⟨rfl,rfl⟩;clear e;go_wp2;go_ret;exact⟨rfl,(zae w _).alloc σ _⟩
 have e:ze9 xs.length ys.length=1:=zea ω;rw[e]at a;subst a;clear b h;go_enter func66,ntmps66;go_wp2_with fail
 refine(zut _ _ _).mono ?_;rw[e];rintro d w' ⟨rfl,rfl⟩;clear e;go_wp2;go_ret;exact⟨rfl,(zae w _).alloc σ _⟩
theorem zuv(A B:OA)(c c':Nat)(xs ys:List Nat)(w:World)(p:SW w (A,xs.length,c) xs)(J:SW w (B,ys.length,c') ys)(I:xs.length=ys.length) :
  Calls prog 66 #[.agg #[(A,xs.length,c)],.agg #[(B,ys.length,c')]] w λe w'=>e=.returned (.int .i64 (ze9 (nval xs) (nval ys)))/\Below w w w':=by
 have aa:=p.len_le;have y:ze9 xs.length ys.length=0:=zgN ω;have K:=un y;have u:=un I;clear y;have v:=un p;have x:=un J;have C:Below w w ((w.alloc (.cells #[(A,xs.length,c)] 58)).alloc (.cells #[(B,ys.length,c')] 58)):=(zae w _).alloc σ _;have l:=un C;clear p J I C;go_enter func66,ntmps66;go_wp2_with fail
 refine(zut _ _ _).mono ?_;rw[K.o];rintro V w' ⟨rfl,rfl⟩;go_wp2
 go_loopw [6] (λi wr=>∃(j q:Nat),i=.int .i64 ((j:Int)-1)/\j<=xs.length/\xs.drop j=ys.drop j/\wr=(((w.alloc (.cells #[(A,xs.length,c)] 58)).alloc (.cells #[(B,ys.length,c')] 58))).drewN q)
  (λi _=>(intOf i+1).toNat)
 case atStart =>
  exact⟨xs.length,0,rfl,Za _,by rw[XG (Za _),XG (by rw[u.o];exact Za _)],rfl⟩
 obtain⟨j,q,rfl,hj,F,rfl⟩:=hrel;have r:=un F;clear F;rcases XY j with rfl | hpos
 ·have a:ze9 (nval xs) (nval ys)=0:=zgN (by have:=r.o;simp at this;rw[this]);have k:=un a;clear a;go_wp2;go_ret
  exact⟨zst (by rw[k.o]),zhk l.o q⟩
 have d:j-1<xs.length:=ω;have f:j-1<ys.length:=by have:=u.o;omega
 rcases v.o.form with ⟨h1,P⟩ | ⟨g,cap,h1,hg,X,hm,D⟩
 exfalso;rw[P]at d;simp at d;rcases x.o.form with ⟨z,Q⟩ | ⟨g',U,z,Z,Y,ab,E⟩
 exfalso;rw[Q]at f;simp at f;injection h1 with hA _ hc1;injection z with hB _ hc2;subst hA hB hc1 hc2;have N:=cell_al (ob:=.cells #[(g',ys.length,c')] 58) (cell_al (ob:=.cells #[(g,xs.length,c)] 58) (D (j-1) d));have O:=cell_al (ob:=.cells #[(g',ys.length,c')] 58) (cell_al (ob:=.cells #[(g,xs.length,c)] 58) (E (j-1) f));have L:=cell_al (ob:=.cells #[(g',ys.length,c')] 58) (zax (W:=w) (o:=0) (t:=58) (cs:=#[.slice (some ⟨g,0,none⟩) xs.length c]) rfl rfl);have M:=zax (W:=w.alloc (.cells #[(g,xs.length,c)] 58)) (b:=w.heap.size+1) (o:=0) (t:=58) (cs:=#[.slice (some ⟨g',0,none⟩) ys.length c']) σ rfl;clear D E;have S:(j:Int)-1<(xs.length:Int):=ω;have T:(j:Int)-1<(ys.length:Int):=ω;go_wp2_with fail
 go_region_held3 (λw'=>χ w' w 0 (g,xs.length,c)/\χ w' (w.heap.size+1) 0 (g',ys.length,c') /\
   χ w' g (j-1) (.int .u64 ((wd xs (j-1):Nat):Int))/\χ w' g' (j-1) (.int .u64 ((wd ys (j-1):Nat):Int)))
  (first | ((try go_split_ands);(try simp only[Xp,World.cell?_drewN]);(repeat' apply And.intro)<;>assumption) | go_keep)
  (first | (go_at_call 128;(with_reducible refine(zJ7 _ _ _).mono ?_);rintro e w' ⟨rfl,rfl⟩))
 have G:xs.drop (j-1+1)=ys.drop (j-1+1):=by rw[show j-1+1=j by omega];exact r.o
 have m:=un G;clear G N O L M S T;rcases XJ (wd xs (j-1)) (wd ys (j-1))with h | h | h
 ·have a:ze9 (nval xs) (nval ys) = -1:=zeb (by have:=zi7 v.o.2 (j-1) d f m.o h;omega);have k:=un a;have hr:ze9 ((wd xs (j-1):Nat):Int) ((wd ys (j-1):Nat):Int) = -1:=zeb ω;clear a h;rw[hr];clear hr;go_wp2;go_ret
  exact⟨zst (by rw[k.o]),zhk l.o _⟩
 ·have hr:ze9 ((wd xs (j-1):Nat):Int) ((wd ys (j-1):Nat):Int)=0:=zgN ω;have R:=un (zoy (j-1) d f m.o h);clear h;rw[hr];clear hr;go_wp2;go_roundw
  case rel=>exact⟨j-1,_,by congr 1;omega,ω,R.o,rfl⟩
  case measure=>simp[intOf];omega
 have a:ze9 (nval xs) (nval ys)=1:=zea (by have:=zi7 x.o.2 (j-1) f d m.o.symm h;omega);have k:=un a;have hr:ze9 ((wd xs (j-1):Nat):Int) ((wd ys (j-1):Nat):Int)=1:=zea ω;clear a h;rw[hr];clear hr;go_wp2;go_ret;exact⟨zst (by rw[k.o]),zhk l.o _⟩
theorem cmp(A B:OA)(m c m' c' a b:Nat)(w:World)(g:zas w (A,m,c) a)(i:zas w (B,m',c') b) :
  Calls prog 66 #[.agg #[(A,m,c)],.agg #[(B,m',c')]] w λe w'=>e=.returned (.int .i64 (ze9 a b))/\Below w w w':=by
 obtain⟨xs,d,j,rfl,l,rfl⟩:=g.words;obtain⟨ys,f,k,rfl,o,rfl⟩:=i.words;rcases XJ xs.length ys.length with h | h | h;have:=zgo d.2 k h;exact zuw A B c c' xs ys w ω _ (by rw[zeb ω,zeb ω]);grind[zuv];have:=zgo f.2 j h;exact zuw A B c c' xs ys w ω _ (by rw[zea ω,zea ω])
end Nt
open Go.RowKit
namespace Err
theorem wrap(y:Int)(S:ByteArray)(k:Int)(w:World):Calls prog 122 #[.iface 93 (.int .i64 y),.string S,.int .i64 k] w λa w'=>a=.returned (.iface 239 (.pointer (some ⟨w,0,none⟩)))/\w'=w.alloc (.cells #[.string S,.int .i64 k,.iface 93 (.int .i64 y)] 241):=by go_enter func122,ntmps122;go_wp2;go_ret;exact⟨rfl,rfl⟩
