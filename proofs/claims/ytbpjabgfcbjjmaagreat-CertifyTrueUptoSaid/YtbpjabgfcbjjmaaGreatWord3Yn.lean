/- Contracts and lemmas: Word3 Mem Nat1 Nat2 Out Nat4 Wrap Nat3 Step Frame Nat5 Nat6 Nat7 Prod1. Conditions: as each says. -/
import Derived.Test.YtbpjabgfcbjjmaaGreatWordYn
import Derived.Deep.RegionHeld3
import Derived.Deep.AppendLies
import Derived.Deep.DrawnRows
import Derived.WalkSmall
import Derived.Laws.CopyOwn
import Derived.Laws.AppendOwnNone
import Derived.Deep.DeepMust
import Derived.Deep.RegionLaw
import Derived.OneCell
import Derived.Deep.RegionWith
set_option linter.all false
set_option maxHeartbeats 4000000
set_option maxRecDepth 100000
namespace Go.Proofs.YtbpjabgfcbjjmaaGreat
open Go.RowKit Am Tryz
variable {cs:Array Value}{xs:List Nat}{ys:List Value}{B b base c g k m o size:Nat}{A:OA}{ob:Obj}{e t:TypeId}{a a1 a2 a3 a4 a5 a6 a7 s v:Value}{W w w1:World}
namespace Word
def div_no(hi lo y:Nat)(h:y<=hi)(w:World) :
  Calls prog 195 #[.int .u64 hi,.int .u64 lo,.int .u64 y] w λe w'=>e=.returned (.tuple #[.int .u64 0,.int .u64 0,false])/\w=w':=by
 go_enter func195,ntmps195;go_wp2;go_ret3
 exact⟨rfl,rfl⟩
def zAb{hi lo y S H L Y a:Nat}(hS:S<64)(o:lo<18446744073709551616)(h:hi<y)(i:H=hi*2^S+lo*2^S/18446744073709551616)(j:L=lo*2^S%18446744073709551616)
  (d:Y=y*2^S) (q:a=L/4294967296) (p:b=L%4294967296) :
  zz8 H a Y*4294967296+zz8 (zpW H a Y) b Y=zz9 hi lo y/\zpW (zpW H a Y) b Y/2^S=zBV hi lo y:=by
 have f:0<2^S:=Z3 δ;have m:0<Y:=by rw[d];exact YV ω f
 have h1:=(zvp hS o h).1;have c:=zAc H a b Y m;have g:=zr6 (hi*B64+lo) y (2^S) f;have k:a*4294967296+b=L:=ω;rw[k]at c;have e:H*18446744073709551616+L=(hi*B64+lo)*2^S:=by rw[h1,i,j]
 rw[e,d,g.1,g.2,<-d]at c;refine⟨c.1,?_⟩;have l:zpW (zpW H a Y) b Y=(hi*B64+lo)%y*2^S:=c.2;rw[l,Nat.mul_div_cancel _ f];rfl
def div_ok(hi lo y:Nat)(h:hi<y)(j:lo<18446744073709551616)(p:y<18446744073709551616)(w:World) :
  Calls prog 195 #[.int .u64 hi,.int .u64 lo,.int .u64 y] w λe w'=>e=.returned (.tuple #[.int .u64 (zz9 hi lo y:Nat),.int .u64 (zBV hi lo y:Nat),true])/\∃n,w'=w.drewN n:=by
 obtain⟨S,hS⟩:∃S,64-blen y=S:=⟨_,rfl⟩
 have i:S<64:=by have:=zhl (x:=y) ω;omega
 have c:=zsf (y:=y) ω p;rw[hS]at c;obtain⟨Y,d⟩:∃Y,Y=y*2^S:=⟨_,rfl⟩
 obtain⟨L,g⟩:∃L,L=lo*2^S%18446744073709551616:=⟨_,rfl⟩
 obtain⟨H,f⟩:∃H,H=hi*2^S+lo*2^S/18446744073709551616:=⟨_,rfl⟩
 have t:H<Y:=by rw[f,d];exact(zvp i j h).2
 have u:L<18446744073709551616:=by rw[g];exact Z0 _ δ
 rw[<-d]at c;obtain⟨a,o⟩:∃a,a=L/4294967296:=⟨_,rfl⟩
 obtain⟨b,l⟩:∃b,b=L%4294967296:=⟨_,rfl⟩
 have z:a<4294967296:=ω;have v:b<4294967296:=ω;have m:=zAb i j h f g d o l;have cp:∀k:Nat,((2:Int)^k)=((2^k:Nat):Int):=λk=>σ
 have G:IntKind.u64.wrap ((y:Int)*2^S)=(Y:Int):=by rw[cp,<-XQ,<-d];exact zb7 _ c.1
 have E:IntKind.u64.wrap ((lo:Int)*2^S)=(L:Int):=by rw[cp,<-XQ,Xw,g];rfl
 have D:bits BinOp.or IntKind.u64 (IntKind.u64.wrap ((hi:Int)*2^S)) ((lo:Int)/2^(64-S))=(H:Int):=by
  have h1:hi*2^S<18446744073709551616:=ω;have q:=zoZ (x:=lo) i;have r:=znR (s:=S) j;have I:(2:Nat)^S<18446744073709551616:=by have:(2:Nat)^S<2^64:=YW δ i;omega
  rw[cp,cp,<-XQ,zb7 _ h1,<-XS,q,u64_or_nat _ _ h1 ω,zyy r,f]
 have C:(L:Int)/4294967296=(a:Int):=ω;have B:bits BinOp.and IntKind.u64 (L:Int) 4294967295=(b:Int):=by rw[show(4294967295:Int)=((4294967295:Nat):Int)from rfl,u64_and_nat L _ u δ,zj9,l]
 have J:=zAa h j;have F:IntKind.u64.wrap (IntKind.u64.wrap ((zz8 H a Y:Nat)*4294967296)+(zz8 (zpW H a Y) b Y:Nat))=((zz9 hi lo y:Nat):Int):=by have:=m.1;rw[Xw,Xw];omega
 have RR:((zpW (zpW H a Y) b Y:Nat):Int)/2^S=((zBV hi lo y:Nat):Int):=by rw[cp,<-XS,m.2]
 have A:zpW H a Y<Y:=Z0 _ ω;clear d g f o l m cp;go_enter func195,ntmps195;go_wp2_with fail
 refine(lead y p _).mono ?_;rintro e w' ⟨rfl,n,rfl⟩;go_wp2;go_quiet (fail)
 go_wp2_with fail
 refine(digit H a Y c.2 c.1 t z _).mono ?_;rintro e w' ⟨rfl,n1,rfl⟩;go_wp2_with fail
 refine(digit (zpW H a Y) b Y c.2 c.1 A v _).mono ?_;rintro e w' ⟨rfl,n2,rfl⟩;go_wp2;go_quiet (fail)
 go_wp2;go_ret3
 exact⟨rfl,_,World.drewN_drewN _ _ _⟩
end Word
def LIM:Nat:=1099511627776
def zaP:LIM=1099511627776:=rfl
def wcells (xs:List Nat):List Value:=xs.map fun(x:Nat)=>Value.int .u64 (x:Int)
def zdA(xs:List Nat):(wcells xs).length=xs.length:=by simp[wcells]
def zeu(hk:k<xs.length):(wcells xs)[k]? = some (.int .u64 ((wd xs k:Nat):Int)):=by simp[wcells,wd,hk]
def ziN(xs:List Nat)(k v:Nat):wcells (xs.set k v)=(wcells xs).set k (.int .u64 (v:Int)):=by simp[wcells]
def zlr(n:Nat):wcells (List.replicate n 0)=List.replicate n (.int .u64 0):=by simp[wcells]
def zia(xs ys:List Nat):wcells (xs++ys)=wcells xs++wcells ys:=by simp[wcells]
theorem zg7(xs:List Nat)(k:Nat):wcells (xs.take k)=(wcells xs).take k:=by simp[wcells]
def zgf(xs:List Nat):∀u∈wcells xs,u.oneCell'=true:=by intro u a;simp only[wcells,ZH]at a;obtain⟨x,_,rfl⟩:=a;rfl
def zf7:(prog.info? 206).map (λi=>(i.zero,i.size,i.bytes))=some (some (.int .u64 0),1,8):=ξ
def SW (w:World) (s:Value) (xs:List Nat):Prop:=w.ownsRow 0 206 1 s xs.length (wcells xs)/\Wds xs
def zas (w:World) (s:Value) (n:Nat):Prop:=∃xs,SW w s xs/\Canon xs/\nval xs=n
def isZ (n:Nat):Bool:=decide (n=0)
def zk4{n:Nat}(h:0<n):isZ n=false:=by unfold isZ;rw[decide_eq_false_iff_not];omega
section
variable {w w':World} {s:Value} {xs:List Nat} {n:Nat}
def zbu(h:w.ownsRow base e size s n ys)(c:b<=base):w.ownsRow b e size s n ys:=by
 obtain⟨h1,a⟩:=h;refine⟨h1,?_⟩;rcases a with a | ⟨g,cap,cur,hv,hg,r⟩
 exact .inl a;exact .inr ⟨g,cap,cur,hv,ω,r⟩
theorem SW.of_own(h:w.ownsRow base 206 1 s xs.length (wcells xs))(hw:Wds xs):SW w s xs:=⟨zbu h (Zb _),hw⟩
def SW.block(h:SW w s xs)(hk:s.ownBlock=some k):k<w.heap.size:=(h.1.lt k hk).2
def SW.keep(h:SW w s xs)(hk:∀k,s.ownBlock=some k->w'.heap[k]? = w.heap[k]?):SW w' s xs:=by
 refine⟨⟨h.1.1,?_⟩,h.2⟩;rcases h.1.2 with h2 | ⟨g,cap,cur,hv,hg,hh,r⟩
 grind;exact .inr ⟨g,cap,cur,hv,hg,by rw[hk g (by rw[hv];rfl)];exact hh,r⟩
def SW.below(h:SW w s xs)(a:Below w w w'):SW w' s xs:=h.keep λk hk=>a.block k (h.block hk)
def SW.drewN(h:SW w s xs)(k:Nat):SW (w.drewN k) s xs:=h.keep λ_ _=>rfl
def SW.alloc(h:SW w s xs)(o:Obj):SW (w.alloc o) s xs:=h.keep λk hk=>Below.heap_alloc w o k (h.block hk)
theorem SW.nil(w:World):SW w () []:=⟨Xs _ _ _ _,Wds.nil⟩
def SW.form(h:SW w s xs):(s=()/\xs=[])\/∃g cap,s=.slice (some ⟨g,0,none⟩) xs.length cap/\g<w.heap.size/\xs.length<=cap/\cap<=maxLen /\
  (∀k,k<xs.length->χ w g k (.int .u64 ((wd xs k:Nat):Int))):=by
 rcases h.1.2 with ⟨h1,b⟩ | ⟨g,cap,cur,a,hg,d,c,hm,_⟩
 grind;refine .inr ⟨g,cap,a,(h.1.lt g (by rw[a];rfl)).2,c,hm,λk hk=>?_⟩;have hr:=a▸h.1;rw[hr.cellAt k ω,zeu hk]
def SW.len_le(h:SW w s xs):xs.length<=9223372036854775807:=by
 rcases h.form with ⟨_,rfl⟩ | ⟨g,cap,_,_,h1,a,_⟩
 simp;unfold maxLen at a;omega
def SW.slice(h:SW w s xs):∃A m c,s=.slice A m c:=by
 rcases h.form with ⟨rfl,rfl⟩ | ⟨g,cap,rfl,_⟩
 exact⟨_,_,_,rfl⟩;grind
def SW.len_eq(h:SW w (A,m,c) xs):m=xs.length:=by
 rcases h.form with ⟨h1,rfl⟩ | ⟨g,cap,h1,_⟩
 injection h1;grind
def SW.setCell(h:SW w s xs){p:Addr}(a:s.ownBlock≠some p.block)(u:Value):SW (w.setCell p u) s xs :=
 h.keep λk hk=>ZE w p u k (λe=>a (by rw[hk,e]))
def zas.slice(h:zas w s n):∃A m c,s=.slice A m c:=by obtain⟨xs,h,_⟩:=h;exact h.slice
def za6(h:w.ownsRow base e size s n ys)(hg:θ w g cs t)(c:e≠t):s.ownBlock≠some g:=by
 rcases h.2 with ⟨rfl,_⟩ | ⟨g',cap,cur,rfl,_,b,_⟩
 simp[Value.ownBlock];intro a;have:g'=g:=by simpa[Value.ownBlock]using a
 grind
def zas.setCell(h:zas w s n){p:Addr}{t:TypeId}{cs:Array Value}(hg:θ w p.block cs t)(c:206≠t)(u:Value):zas (w.setCell p u) s n:=by obtain⟨xs,a,b⟩:=h;exact⟨xs,a.setCell (za6 a.1 hg c) u,b⟩
def zas.mk(h:SW w s xs)(hc:Canon xs):zas w s (nval xs):=⟨xs,h,hc,rfl⟩
def zas.below(h:zas w s n)(c:Below w w w'):zas w' s n:=by obtain⟨xs,a,b⟩:=h;exact⟨xs,a.below c,b⟩
def zas.drewN(h:zas w s n)(k:Nat):zas (w.drewN k) s n:=by obtain⟨xs,a,b⟩:=h;exact⟨xs,a.drewN k,b⟩
def zas.drew(h:zas w s n):zas w.drew s n:=h.drewN 1
def zas.alloc(h:zas w s n)(o:Obj):zas (w.alloc o) s n:=by obtain⟨xs,a,b⟩:=h;exact⟨xs,a.alloc o,b⟩
theorem zas.zero(w:World):zas w () 0:=⟨[],SW.nil w,zop,rfl⟩
def zas.words(h:zas w (A,m,c) n):∃xs,SW w (.slice A xs.length c) xs/\Canon xs/\nval xs=n/\xs.length=wlen n/\m=xs.length:=by obtain⟨xs,h1,a,b⟩:=h;have:=h1.len_eq;subst this;exact⟨xs,h1,a,b,by rw[<-b];exact zk7 xs h1.2 a,rfl⟩
def zas.len(h:zas w s n):∃xs,SW w s xs/\Canon xs/\nval xs=n/\xs.length=wlen n:=by obtain⟨xs,h1,a,b⟩:=h;exact⟨xs,h1,a,b,by rw[<-b];exact zk7 xs h1.2 a⟩
def zae(w:World)(o:Obj):Below w w (w.alloc o):=(Zl _ _).alloc (Za _) o
theorem zap(w:World)(n:Nat):Below w w (w.drewN n):=⟨rfl,rfl,rfl,Za _,λ_ _=>rfl⟩
def zhk{a:World}(h:Below B a w)(n:Nat):Below B a (w.drewN n):=⟨h.os,h.tape,h.output,h.size,h.block⟩
def bstep{a:World}(h:Below B a w)(c:Below w w w')(b:B<=w.heap.size):Below B a w':=h.trans (c.mono b)
end
def zad(a:Below w w w1){o:Obj}(h:w.heap[b]? = some o):w1.heap[b]? = some o :=
 (a.block b (ZU.1 h).1).trans h
theorem zal(w:World)(cs:Array Value)(t:TypeId):θ (w.alloc (.cells cs t)) w.heap.size cs t:=heap_alloc_new w _
theorem zac(h:θ w g cs t)(i:Nat):w.cell? ⟨g,i,none⟩=cs[i]?:=by grind[cell_of_row]
def zag(h:θ w g cs t)(i:Nat):w.frozen? ⟨g,i,none⟩=false:=frozen_of_row w g i cs t h
theorem zab(a:Below w w w1)(h:χ w b o v):χ w1 b o v :=
 (a.cell (p:=⟨b,o,none⟩) (Yg w ⟨b,o,none⟩ h)).trans h
def zaa{p:Addr}(h:w.cell? p=some v):w.drew.cell? p=some v:=h
def bc1(h:θ w b #[a] t):χ w b 0 a/\χ w.drew b 0 a:=⟨zac h 0,zac h 0⟩
def bf1(h:θ w b #[a] t):χ w b 0 a/\χ w.drew b 0 a/\w.frozen? ⟨b,0,none⟩=false/\w.drew.frozen? ⟨b,0,none⟩=false:=⟨zac h 0,zac h 0,zag h 0,zag h 0⟩
def bc2(h:θ w b #[a,a1] t):χ w b 0 a/\χ w.drew b 0 a/\χ w b 1 a1/\χ w.drew b 1 a1:=⟨zac h 0,zac h 0,zac h 1,zac h 1⟩
def bf2(h:θ w b #[a,a1] t):χ w b 0 a/\χ w.drew b 0 a/\w.frozen? ⟨b,0,none⟩=false/\w.drew.frozen? ⟨b,0,none⟩=false/\χ w b 1 a1/\χ w.drew b 1 a1/\w.frozen? ⟨b,1,none⟩=false/\w.drew.frozen? ⟨b,1,none⟩=false:=⟨zac h 0,zac h 0,zag h 0,zag h 0,zac h 1,zac h 1,zag h 1,zag h 1⟩
def bc3(h:θ w b #[a,a1,a2] t):χ w b 0 a/\χ w.drew b 0 a/\χ w b 1 a1/\χ w.drew b 1 a1/\χ w b 2 a2/\χ w.drew b 2 a2:=⟨zac h 0,zac h 0,zac h 1,zac h 1,zac h 2,zac h 2⟩
def bf3(h:θ w b #[a,a1,a2] t):χ w b 0 a/\χ w.drew b 0 a/\w.frozen? ⟨b,0,none⟩=false/\w.drew.frozen? ⟨b,0,none⟩=false/\χ w b 1 a1/\χ w.drew b 1 a1/\w.frozen? ⟨b,1,none⟩=false/\w.drew.frozen? ⟨b,1,none⟩=false/\χ w b 2 a2/\χ w.drew b 2 a2/\w.frozen? ⟨b,2,none⟩=false/\w.drew.frozen? ⟨b,2,none⟩=false:=⟨zac h 0,zac h 0,zag h 0,zag h 0,zac h 1,zac h 1,zag h 1,zag h 1,zac h 2,zac h 2,zag h 2,zag h 2⟩
def bc4(h:θ w b #[a,a1,a2,a3] t):χ w b 0 a/\χ w.drew b 0 a/\χ w b 1 a1/\χ w.drew b 1 a1/\χ w b 2 a2/\χ w.drew b 2 a2/\χ w b 3 a3/\χ w.drew b 3 a3:=⟨zac h 0,zac h 0,zac h 1,zac h 1,zac h 2,zac h 2,zac h 3,zac h 3⟩
def bf4(h:θ w b #[a,a1,a2,a3] t):χ w b 0 a/\χ w.drew b 0 a/\w.frozen? ⟨b,0,none⟩=false/\w.drew.frozen? ⟨b,0,none⟩=false/\χ w b 1 a1/\χ w.drew b 1 a1/\w.frozen? ⟨b,1,none⟩=false/\w.drew.frozen? ⟨b,1,none⟩=false/\χ w b 2 a2/\χ w.drew b 2 a2/\w.frozen? ⟨b,2,none⟩=false/\w.drew.frozen? ⟨b,2,none⟩=false/\χ w b 3 a3/\χ w.drew b 3 a3/\w.frozen? ⟨b,3,none⟩=false/\w.drew.frozen? ⟨b,3,none⟩=false:=⟨zac h 0,zac h 0,zag h 0,zag h 0,zac h 1,zac h 1,zag h 1,zag h 1,zac h 2,zac h 2,zag h 2,zag h 2,zac h 3,zac h 3,zag h 3,zag h 3⟩
def bc5(h:θ w b #[a,a1,a2,a3,a4] t):χ w b 0 a/\χ w.drew b 0 a/\χ w b 1 a1/\χ w.drew b 1 a1/\χ w b 2 a2/\χ w.drew b 2 a2/\χ w b 3 a3/\χ w.drew b 3 a3/\χ w b 4 a4/\χ w.drew b 4 a4:=⟨zac h 0,zac h 0,zac h 1,zac h 1,zac h 2,zac h 2,zac h 3,zac h 3,zac h 4,zac h 4⟩
def bf5(h:θ w b #[a,a1,a2,a3,a4] t):χ w b 0 a/\χ w.drew b 0 a/\w.frozen? ⟨b,0,none⟩=false/\w.drew.frozen? ⟨b,0,none⟩=false/\χ w b 1 a1/\χ w.drew b 1 a1/\w.frozen? ⟨b,1,none⟩=false/\w.drew.frozen? ⟨b,1,none⟩=false/\χ w b 2 a2/\χ w.drew b 2 a2/\w.frozen? ⟨b,2,none⟩=false/\w.drew.frozen? ⟨b,2,none⟩=false/\χ w b 3 a3/\χ w.drew b 3 a3/\w.frozen? ⟨b,3,none⟩=false/\w.drew.frozen? ⟨b,3,none⟩=false/\χ w b 4 a4/\χ w.drew b 4 a4/\w.frozen? ⟨b,4,none⟩=false/\w.drew.frozen? ⟨b,4,none⟩=false:=⟨zac h 0,zac h 0,zag h 0,zag h 0,zac h 1,zac h 1,zag h 1,zag h 1,zac h 2,zac h 2,zag h 2,zag h 2,zac h 3,zac h 3,zag h 3,zag h 3,zac h 4,zac h 4,zag h 4,zag h 4⟩
def bc6(h:θ w b #[a,a1,a2,a3,a4,a5] t):χ w b 0 a/\χ w.drew b 0 a/\χ w b 1 a1/\χ w.drew b 1 a1/\χ w b 2 a2/\χ w.drew b 2 a2/\χ w b 3 a3/\χ w.drew b 3 a3/\χ w b 4 a4/\χ w.drew b 4 a4/\χ w b 5 a5/\χ w.drew b 5 a5:=⟨zac h 0,zac h 0,zac h 1,zac h 1,zac h 2,zac h 2,zac h 3,zac h 3,zac h 4,zac h 4,zac h 5,zac h 5⟩
def bf6(h:θ w b #[a,a1,a2,a3,a4,a5] t):χ w b 0 a/\χ w.drew b 0 a/\w.frozen? ⟨b,0,none⟩=false/\w.drew.frozen? ⟨b,0,none⟩=false/\χ w b 1 a1/\χ w.drew b 1 a1/\w.frozen? ⟨b,1,none⟩=false/\w.drew.frozen? ⟨b,1,none⟩=false/\χ w b 2 a2/\χ w.drew b 2 a2/\w.frozen? ⟨b,2,none⟩=false/\w.drew.frozen? ⟨b,2,none⟩=false/\χ w b 3 a3/\χ w.drew b 3 a3/\w.frozen? ⟨b,3,none⟩=false/\w.drew.frozen? ⟨b,3,none⟩=false/\χ w b 4 a4/\χ w.drew b 4 a4/\w.frozen? ⟨b,4,none⟩=false/\w.drew.frozen? ⟨b,4,none⟩=false/\χ w b 5 a5/\χ w.drew b 5 a5/\w.frozen? ⟨b,5,none⟩=false/\w.drew.frozen? ⟨b,5,none⟩=false:=⟨zac h 0,zac h 0,zag h 0,zag h 0,zac h 1,zac h 1,zag h 1,zag h 1,zac h 2,zac h 2,zag h 2,zag h 2,zac h 3,zac h 3,zag h 3,zag h 3,zac h 4,zac h 4,zag h 4,zag h 4,zac h 5,zac h 5,zag h 5,zag h 5⟩
def bc8(h:θ w b #[a,a1,a2,a3,a4,a5,a6,a7] t):χ w b 0 a/\χ w.drew b 0 a/\χ w b 1 a1/\χ w.drew b 1 a1/\χ w b 2 a2/\χ w.drew b 2 a2/\χ w b 3 a3/\χ w.drew b 3 a3/\χ w b 4 a4/\χ w.drew b 4 a4/\χ w b 5 a5/\χ w.drew b 5 a5/\χ w b 6 a6/\χ w.drew b 6 a6/\χ w b 7 a7/\χ w.drew b 7 a7:=⟨zac h 0,zac h 0,zac h 1,zac h 1,zac h 2,zac h 2,zac h 3,zac h 3,zac h 4,zac h 4,zac h 5,zac h 5,zac h 6,zac h 6,zac h 7,zac h 7⟩
def bf8(h:θ w b #[a,a1,a2,a3,a4,a5,a6,a7] t):χ w b 0 a/\χ w.drew b 0 a/\w.frozen? ⟨b,0,none⟩=false/\w.drew.frozen? ⟨b,0,none⟩=false/\χ w b 1 a1/\χ w.drew b 1 a1/\w.frozen? ⟨b,1,none⟩=false/\w.drew.frozen? ⟨b,1,none⟩=false/\χ w b 2 a2/\χ w.drew b 2 a2/\w.frozen? ⟨b,2,none⟩=false/\w.drew.frozen? ⟨b,2,none⟩=false/\χ w b 3 a3/\χ w.drew b 3 a3/\w.frozen? ⟨b,3,none⟩=false/\w.drew.frozen? ⟨b,3,none⟩=false/\χ w b 4 a4/\χ w.drew b 4 a4/\w.frozen? ⟨b,4,none⟩=false/\w.drew.frozen? ⟨b,4,none⟩=false/\χ w b 5 a5/\χ w.drew b 5 a5/\w.frozen? ⟨b,5,none⟩=false/\w.drew.frozen? ⟨b,5,none⟩=false/\χ w b 6 a6/\χ w.drew b 6 a6/\w.frozen? ⟨b,6,none⟩=false/\w.drew.frozen? ⟨b,6,none⟩=false/\χ w b 7 a7/\χ w.drew b 7 a7/\w.frozen? ⟨b,7,none⟩=false/\w.drew.frozen? ⟨b,7,none⟩=false:=⟨zac h 0,zac h 0,zag h 0,zag h 0,zac h 1,zac h 1,zag h 1,zag h 1,zac h 2,zac h 2,zag h 2,zag h 2,zac h 3,zac h 3,zag h 3,zag h 3,zac h 4,zac h 4,zag h 4,zag h 4,zac h 5,zac h 5,zag h 5,zag h 5,zac h 6,zac h 6,zag h 6,zag h 6,zac h 7,zac h 7,zag h 7,zag h 7⟩
def bc9{c:Value}(h:θ w b #[a,a1,a2,a3,a4,a5,a6,a7,c] t):χ w b 0 a/\χ w.drew b 0 a/\χ w b 1 a1/\χ w.drew b 1 a1/\χ w b 2 a2/\χ w.drew b 2 a2/\χ w b 3 a3/\χ w.drew b 3 a3/\χ w b 4 a4/\χ w.drew b 4 a4/\χ w b 5 a5/\χ w.drew b 5 a5/\χ w b 6 a6/\χ w.drew b 6 a6/\χ w b 7 a7/\χ w.drew b 7 a7/\χ w b 8 c/\χ w.drew b 8 c:=⟨zac h 0,zac h 0,zac h 1,zac h 1,zac h 2,zac h 2,zac h 3,zac h 3,zac h 4,zac h 4,zac h 5,zac h 5,zac h 6,zac h 6,zac h 7,zac h 7,zac h 8,zac h 8⟩
def bf9{c:Value}(h:θ w b #[a,a1,a2,a3,a4,a5,a6,a7,c] t):χ w b 0 a/\χ w.drew b 0 a/\w.frozen? ⟨b,0,none⟩=false/\w.drew.frozen? ⟨b,0,none⟩=false/\χ w b 1 a1/\χ w.drew b 1 a1/\w.frozen? ⟨b,1,none⟩=false/\w.drew.frozen? ⟨b,1,none⟩=false/\χ w b 2 a2/\χ w.drew b 2 a2/\w.frozen? ⟨b,2,none⟩=false/\w.drew.frozen? ⟨b,2,none⟩=false/\χ w b 3 a3/\χ w.drew b 3 a3/\w.frozen? ⟨b,3,none⟩=false/\w.drew.frozen? ⟨b,3,none⟩=false/\χ w b 4 a4/\χ w.drew b 4 a4/\w.frozen? ⟨b,4,none⟩=false/\w.drew.frozen? ⟨b,4,none⟩=false/\χ w b 5 a5/\χ w.drew b 5 a5/\w.frozen? ⟨b,5,none⟩=false/\w.drew.frozen? ⟨b,5,none⟩=false/\χ w b 6 a6/\χ w.drew b 6 a6/\w.frozen? ⟨b,6,none⟩=false/\w.drew.frozen? ⟨b,6,none⟩=false/\χ w b 7 a7/\χ w.drew b 7 a7/\w.frozen? ⟨b,7,none⟩=false/\w.drew.frozen? ⟨b,7,none⟩=false/\χ w b 8 c/\χ w.drew b 8 c/\w.frozen? ⟨b,8,none⟩=false/\w.drew.frozen? ⟨b,8,none⟩=false:=⟨zac h 0,zac h 0,zag h 0,zag h 0,zac h 1,zac h 1,zag h 1,zag h 1,zac h 2,zac h 2,zag h 2,zag h 2,zac h 3,zac h 3,zag h 3,zag h 3,zac h 4,zac h 4,zag h 4,zag h 4,zac h 5,zac h 5,zag h 5,zag h 5,zac h 6,zac h 6,zag h 6,zag h 6,zac h 7,zac h 7,zag h 7,zag h 7,zac h 8,zac h 8,zag h 8,zag h 8⟩
def zKh(a:Below B w w1)(c:b<B)(h:χ w b o v):χ w1 b o v :=
 (a.cell (p:=⟨b,o,none⟩) c).trans h
def SR (w:World) (s:Value) (xs:List Nat):Prop:=∃A c,s=.slice A xs.length c/\xs.length<=c/\c<=9223372036854775807/\Wds xs/\(A=none->xs=[]/\c=0) /\
  ∀ad,A=some ad->∀j u,(wcells xs)[j]? = some u->w.cell? (ad.add j)=some u
def SW.reads(h:SW w s xs):SR w s xs:=by
 rcases h.form with ⟨rfl,rfl⟩ | ⟨g,cap,rfl,hg,b,hm,hc⟩
 exact⟨none,0,rfl,Za _,δ,Wds.nil,λ_=>⟨rfl,rfl⟩,λa h=>by cases h⟩;refine⟨_,cap,rfl,b,by unfold maxLen at hm;omega,h.2,(λh=>by cases h),λa c j u d=>?_⟩;obtain rfl:=Option.some.inj c;exact h.1.cells (g:=g) rfl j u d
def zCs (w:World) (xs:List Nat) (e:Ending) (w':World):Prop:=∃(A:OA) (m c:Nat),e=.returned (A,m,c)/\SW w' (A,m,c) xs/\Below w w w'
def zc0 (w:World) (n:Nat) (e:Ending) (w':World):Prop:=∃(A:OA) (m c:Nat),e=.returned (.agg #[(A,m,c)])/\zas w' (A,m,c) n/\Below w w w'
def zjL (w:World) (n:Nat) (b:Bool) (e:Ending) (w':World):Prop:=∃(A:OA) (m c:Nat),e=.returned (.tuple #[.agg #[(A,m,c)],b])/\zas w' (A,m,c) n/\Below w w w'
namespace Nt
def zyC(h:xs.length<=k):wd xs k=0:=zjA xs k h
def word(s:Value)(xs:List Nat)(k:Int)(hk:0<=k)(w:World)(a:SW w s xs) :
  Calls prog 170 #[.agg #[s],.int .i64 k] w λe w'=>e=.returned (.int .u64 ((wd xs k.toNat:Nat):Int))/\w'=w.alloc (.cells #[s] 58):=by
 have c:=a.len_le;rcases a.form with ⟨rfl,rfl⟩ | ⟨g,cap,rfl,hg,d,hm,hc⟩
 ·have b:=un (zyC (xs:=[]) (k:=k.toNat) σ);clear c;go_enter func170,ntmps170;go_wp2;go_ret
  exact⟨zst (by rw[b.o];rfl),rfl⟩
 by_cases i:k<xs.length
 ·have f:=hc k.toNat ω;obtain⟨j,rfl⟩:=Int.eq_ofNat_of_zero_le hk;rw[YH]at *
  generalize wd xs j=x at *
  clear hc a;go_enter func170,ntmps170;go_wp2;go_ret;exact⟨rfl,rfl⟩
 have b:=un (zyC (xs:=xs) (k:=k.toNat) ω);clear hc a;go_enter func170,ntmps170;go_wp2;go_ret;exact⟨zst (by rw[b.o];rfl),rfl⟩
def len(s:Value)(xs:List Nat)(w:World)(a:SW w s xs) :
  Calls prog 139 #[.agg #[s]] w λe w'=>e=.returned (xs.length:Int)/\w'=w.alloc (.cells #[s] 58):=by
 rcases a.form with ⟨rfl,rfl⟩ | ⟨g,cap,rfl,hg,b,hm,hc⟩
 all_goals
  try clear hc
  clear a;go_enter func139,ntmps139;go_wp2;go_ret;exact⟨rfl,rfl⟩
theorem zero(s:Value)(n:Nat)(w:World)(a:zas w s n) :
  Calls prog 129 #[.agg #[s]] w λe w'=>e=.returned (.bool (isZ n))/\w'=w.alloc (.cells #[s] 58):=by
 obtain⟨xs,a,hc,rfl⟩:=a;have c:((xs.length:Int) == 0)=isZ (nval xs):=by
  have:=zoS xs hc;by_cases h:xs=[]
  subst h;rfl;rw[zk4 (Ye (λe=>h (this.1 e)))];simp[h]
 rcases a.form with ⟨rfl,rfl⟩ | ⟨g,cap,rfl,hg,d,hm,b⟩
 ·clear a c;go_enter func129,ntmps129;go_wp2;go_ret
  exact⟨rfl,rfl⟩
 clear b a;go_enter func129,ntmps129;go_wp2;go_ret;exact⟨rfl,rfl⟩
def uint_one(s:Value)(n:Nat)(i:n<18446744073709551616)(w:World)(a:zas w s n) :
  Calls prog 168 #[.agg #[s]] w λe w'=>e=.returned (.tuple #[.int .u64 (n:Int),true])/\Below w w w':=by
 obtain⟨xs,a,hc,b,c⟩:=a.len;have m:xs.length<=1:=by rw[c];exact zdl i
 have d:wd xs 0=n:=by rw[<-b,wd,zhQ xs a.2,Nat.pow_zero,YP,b];exact Yn i
 have f:=un d;have j:=a.alloc (.cells #[s] 58);have o:=a.len_le;rcases a.form with ⟨rfl,rfl⟩ | ⟨g,cap,rfl,hg,l,hm,k⟩
 ·clear c b d;go_enter func168,ntmps168;go_wp2_with (go_at_call 170;refine(word _ _ _ ω _ j).mono ?_;rintro e w' ⟨rfl,rfl⟩)
  go_ret2
  exact⟨by rw[<-f.o];rfl,(Zl _ _).alloc (Za _) _ |>.alloc σ _⟩
 clear k c b d;go_enter func168,ntmps168;go_wp2_with (go_at_call 170;refine(word _ _ _ ω _ j).mono ?_;rintro e w' ⟨rfl,rfl⟩)
 go_ret2
 exact⟨by rw[<-f.o];rfl,(Zl _ _).alloc (Za _) _ |>.alloc σ _⟩
def uint_more(s:Value)(n:Nat)(l:18446744073709551616<=n)(w:World)(a:zas w s n) :
  Calls prog 168 #[.agg #[s]] w λe w'=>e=.returned (.tuple #[.int .u64 0,false])/\Below w w w':=by
 obtain⟨xs,a,hc,i,d⟩:=a.len;have f:1<xs.length:=by rcases ZM 1 xs.length with h | h;exact h;have b:=(zfP n 1).1 ω;simp only[Nat.pow_one,B64]at b;omega
 have k:=a.len_le;rcases a.form with ⟨rfl,rfl⟩ | ⟨g,cap,rfl,hg,j,hm,c⟩
 simp at f;clear c d i;go_enter func168,ntmps168;go_wp2;go_ret2
 exact⟨rfl,(Zl _ _).alloc (Za _) _⟩
def zzd{cap:Nat}(h:SW w (g,xs.length,cap) xs)(hm:m<=xs.length):SW w (g,m,cap) (xs.take m):=by
 have a:(xs.take m).length=m:=by simp;omega
 refine⟨⟨by rw[zdA];omega,?_⟩,h.2.take m⟩;rcases h.1.2 with ⟨h1,_⟩ | ⟨g',i,cur,b,hg,c,j,d,e,f⟩
 simp at h1;simp only[Value.slice.injEq,Option.some.injEq,Addr.mk.injEq,and_true,true_and]at b;grind[zg7]
def zvz(hm:0<m)(a:m<=xs.length)(h0:wd xs (m-1)=0):trimZ (xs.take m)=trimZ (xs.take (m-1)):=by
 obtain⟨k,rfl⟩:∃k,m=k+1:=⟨m-1,ω⟩
 simp only[Yk]at *
 have:xs[k]' ω=0:=by have:=h0;unfold wd at this;rw[Zh,Ze ω]at this;exact this
 rw[Vx ω,this,zdK]
def zo8(a:m<=xs.length)(h0:0<m->wd xs (m-1)≠0):Canon (xs.take m):=by
 rcases X2 m with rfl | hm;simp[zop];obtain⟨k,rfl⟩:∃k,m=k+1:=⟨m-1,ω⟩
 have h1:=h0 hm;simp only[Yk]at h1;rw[Vx ω];apply zm8;unfold wd at h1;rw[Zh,Ze ω]at h1;exact h1
def lenOf:Value->Nat | .slice _ n _=>n | _=>0
def trim(s:Value)(xs:List Nat)(w:World)(a:SW w s xs):Calls prog 164 #[s] w (zc0 w (nval xs)):=by
 have u:=a.len_le;rcases a.form with ⟨rfl,rfl⟩ | ⟨g,cap,rfl,hg,t,hm,j⟩
 ·clear a;go_enter func164,ntmps164;go_wp2;refine wp_loop_rounds 1 ?_;rw[rounds_succ];go_wp2;refine Zi (v:=.agg #[()]) (by simp[results,results164,go_sem]) rfl ⟨_,_,_,rfl,zas.zero _,(Zl _ _).alloc (Za _) _⟩
 unfold maxLen at hm;go_enter func164,ntmps164;have l:=un j;have o:=un a;clear j a;go_wp2;go_loop [0] (λv=>∃m:Nat,m<=xs.length/\v=(g,m,cap)/\trimZ (xs.take m)=trimZ xs) (λv=>lenOf v)
 case atStart=>exact⟨xs.length,Za _,rfl,by rw[Z2 (Za _)]⟩
 obtain⟨m,d,rfl,k⟩:=hrel;have i:=un k;clear k;have fin:Canon (xs.take m)->zc0 w (nval xs) (.returned (.agg #[(g,m,cap)])) (w.alloc (.cells #[(g,m,cap)] 58)):=by
  intro c;refine⟨_,_,_,rfl,?_,(Zl _ _).alloc (Za _) _⟩;have h1:=zas.mk ((zzd o.o d).alloc (.cells #[(g,m,cap)] 58)) c
  rwa [<-zl7,zln c,<-zln c,i.o,zl7]at h1
 have f:=un fin;clear fin;rcases X2 m with rfl | hpos
 ·have e:=un (f.o (zo8 ω ω));go_wp2;exact Zi (v:=.agg #[.slice (some ⟨g,0,none⟩) 0 cap]) (by simp[results,results164,go_sem]) rfl e.o
 have q:=l.o (m-1) ω;by_cases b:wd xs (m-1)=0
 ·have p:=un ((zvz hpos d b).symm.trans i.o);rw[b]at q;clear b;go_wp2;go_round
  case rel=>exact⟨m-1,ω,rfl,p.o⟩
  case measure=>simp[lenOf];omega
 have e:=un (f.o (zo8 d (λ_=>b)));have r:(((wd xs (m-1):Nat):Int) == 0)=false:=by rw[beq_eq_false_iff_ne];omega
 clear b;generalize wd xs (m-1)=x at *
 go_wp2;exact Zi (v:=.agg #[(g,m,cap)]) (by simp[results,results164,go_sem]) rfl e.o
end Nt
namespace Nt
def clone(s:Value)(xs:List Nat)(w:World)(h:SR w s xs)(z:xs.length<=LIM):Calls prog 165 #[s] w (zCs w xs):=by
 obtain⟨A,c,rfl,D,B,hw,b,a⟩:=h;have y:=un hw;clear hw;rcases A with _ | ad
 ·obtain⟨rfl,rfl⟩:=b rfl;clear a b;have E:=fun(w:World)=>Yz (P:=prog) w 56 206 none 0 0 0 0 underlying56
  go_enter func165,ntmps165;go_wp2;go_ret;exact⟨_,_,_,rfl,SW.nil _,Zl _ _⟩
 have d:=un (a ad rfl);clear a b;have E:=fun(w:World)=>Yz (P:=prog) w 56 206 (some ad) xs.length c 0 0 underlying56
 obtain⟨J,hi,F,G,I⟩:=info_parts zf7;have l:=VA (e:=206) (size:=1) (base:=w.heap.size) w #[] 0 (Za _) (by unfold maxLen;omega) rfl
 have i:∀j u,(wcells xs)[j]? = some u->(w.alloc (.cells #[] 206)).cell? (ad.add j)=some u:=λj u p =>
  (YI w _ _ (Yg w _ (d.o j u p))).trans (d.o j u p)
 have x:=un l;have v:=un i;have f:0+xs.length<=maxLen:=by unfold maxLen;omega
 have g:(0+xs.length)*8<=140737488355328:=by have:=zaP;omega
 have r:=un f;have t:=un g;clear l i f g z D B;go_enter func165,ntmps165;go_wp2_with (at_builtin;refine wpList_append_own _ rfl _ _ 56 rfl w.heap.size 206 J (.int .u64 0) 1 8 underlying56 hi F G I rfl δ _ _ _ rfl x.o ad xs.length c (wcells xs) rfl (by rw[zdA];omega) v.o (zgf xs) r.o t.o σ ?_;intro L w1 m C K)
 go_ret;rw[Xc,XY]at m;have o:=SW.of_own m y.o;obtain⟨q,m',c',rfl⟩:=o.slice;exact⟨q,m',c',rfl,o,(zae w _).trans ((Zl _ _).grown C σ (λk hk=>by cases hk;exact Za _))⟩
def of(s:Value)(xs:List Nat)(w:World)(h:SR w s xs)(f:xs.length<=LIM):Calls prog 130 #[s] w (zc0 w (nval xs)):=by
 have a:SR (w.alloc (.cells #[()] 58)) s xs:=by obtain⟨A,c,h1,a,o,q,r,d⟩:=h;exact⟨A,c,h1,a,o,q,r,λb g j u i=>(YI w _ _ (Yg w _ (d b g j u i))).trans (d b g j u i)⟩
 have k:=un a;have l:=un f;clear h a f;go_enter func130,ntmps130;go_wp2_with fail
 refine(clone s xs _ k.o l.o).mono ?_;rintro e w1 ⟨A1,m1,c1,rfl,hs1,hb1⟩;go_wp2_with fail
 refine(trim _ xs _ hs1).mono ?_;rintro e w2 ⟨A2,m2,c2,rfl,hs2,hb2⟩;have t:w.heap.size<w2.heap.size:=by have h1:=hb1.size;have a:=hb2.size;simp at h1;omega
 have hk:=zad hb2 (zad hb1 (zal w #[()] 58));have hc:χ w2 w 0 ():=zac hk 0;have hf:=zag hk 0;have m:=un hk;clear hk;go_wp2;refine Zi (v:=.agg #[(A2,m2,c2)]) (by simp[results,results130,go_sem,hc]) rfl ⟨_,_,_,rfl,hs2.setCell (p:=⟨w,0,none⟩) m.o δ _,?_⟩;exact(bstep (bstep (zae w _) hb1 σ) hb2 (by have h1:=hb1.size;simp at h1;omega)).setCell (Za _) _
end Nt
def SW.drew{w:World}{s:Value}{xs:List Nat}(h:SW w s xs):SW w.drew s xs:=h.drewN 1
def cell_al(h:χ W b o v):χ (W.alloc ob) b o v :=
 (YI W ob ⟨b,o,none⟩ (Yg W ⟨b,o,none⟩ h)).trans h
def zax(a:W.heap.size=b)(h:cs[o]? = some v):χ (W.alloc (.cells cs t)) b o v:=by grind[zac,zal]
def zam(a:W.heap.size=b):θ (W.alloc (.cells cs t)) b cs t:=by grind[zal]
def zak{o:Obj}(h:W.heap[b]? = some o):(W.alloc ob).heap[b]? = some o :=
 by grind[Below.heap_alloc,Array.getElem?_eq_some_iff]
def cell_set{a:Nat}{u:Value}(d:b≠a)(h:χ W b o v):χ (W.setCell ⟨a,c,none⟩ u) b o v :=
 by simp_all[World.cell?_setCell_other,congrArg]
def zd1(a:b<W.heap.size)(h:W.frozen? ⟨b,o,none⟩=false):(W.alloc ob).frozen? ⟨b,o,none⟩=false :=
 by grind[World.frozen?_alloc_old,Nat.ne_of_lt]
def zxk(a:b<W.heap.size):b<(W.alloc ob).heap.size:=by simp;omega
structure OutAt (w w1:World) (H n:Nat) (os:List Nat):Prop where
  own:w1.ownsRow H 206 1 (H,n,n) n (wcells os)
  bel:Below H w w1
  len:os.length=n
namespace OutAt
variable {w w1 w2:World} {H n:Nat} {os:List Nat}
def lt(h:OutAt w w1 H n os):H<w1.heap.size:=(h.own.lt H rfl).2
def step(h:OutAt w w1 H n os)(a:Below w1 w1 w2):OutAt w w2 H n os :=
 ⟨⟨h.own.1,by
   rcases h.own.2 with h2 | ⟨g,cap,cur,hv,hg,hh,r⟩
   grind;exact .inr ⟨g,cap,cur,hv,hg,by rw[a.block g (ZU.1 hh).1];exact hh,r⟩⟩,h.bel.trans (a.mono (Xm h.lt)),h.len⟩
def alloc(h:OutAt w w1 H n os)(o:Obj):OutAt w (w1.alloc o) H n os:=h.step (zae w1 o)
def drewN(h:OutAt w w1 H n os)(k:Nat):OutAt w (w1.drewN k) H n os:=h.step (zap w1 k)
def drew(h:OutAt w w1 H n os):OutAt w w1.drew H n os:=h.drewN 1
def store(h:OutAt w w1 H n os)(k v:Nat):OutAt w (w1.setCell ⟨H,k,none⟩ (.int .u64 (v:Int))) H n (os.set k v) :=
 ⟨by rw[ziN];exact(h.own.stored k _).1,h.bel.setCell (Za _) _,by rw[ZW];exact h.len⟩
def cell(h:OutAt w w1 H n os){k:Nat}(hk:k<n):χ w1 H k (.int .u64 ((wd os k:Nat):Int)):=by rw[h.own.cellAt k ω,zeu (by rw[h.len];exact hk)]
def fro(h:OutAt w w1 H n os)(k:Nat):w1.frozen? ⟨H,k,none⟩=false:=h.own.frozenAt k
def old(h:OutAt w w1 H n os)(a:b<H)(hc:χ w b o v):χ w1 b o v :=
 (h.bel.cell (p:=⟨b,o,none⟩) a).trans hc
def keep(h:OutAt w w1 H n os)(b:SW w s xs)(a:w.heap.size<=H):SW w1 s xs:=b.below (h.bel.mono a)
def sw(h:OutAt w w1 H n os)(hw:Wds os):SW w1 (H,n,n) os:=by have:=h.own;have a:=h.len;grind[SW.of_own]
end OutAt

def zdz{ops:Array Oper}{rest:List Oper}{o:Oper}{a:Act}{Q:Exit->Act->World->Prop}
  (hg:o.guard=none) (l c:Operand) (m:o.op=Op.makeSlice 56 l c) (n:Nat) (L:Int) (j:a.eval l=.int .i64 L) (hc:a.eval c=.int .i64 L) (g:L=(n:Int)) (u:n<=16*LIM) (H:Nat) (e:w.heap.size=H)
  (f:∀w1,OutAt w w1 H n (List.replicate n 0)->wpList prog ops Q rest (a.put o.dst (H,n,n)) w1):wpList prog ops Q (o::rest) a w:=by
 obtain⟨t,hi,p,q,r⟩:=info_parts zf7;have v:=zaP;subst e;subst g;refine wpList_make_full w hg l c 56 m w.heap.size 206 t (.int .u64 0) 1 underlying56 hi p q .i64 .i64 n n n j hc rfl rfl (by rw[r];omega) (by unfold maxLen;omega) (Za _) ?_;intro w1 b i;have d:(madeCells (Value.int IntKind.u64 0).cells (n*1)).toList=wcells (List.replicate n 0):=by rw[zlr,XB];exact toList_madeCells_one _ n
 rw[d]at b;exact f w1 ⟨b,(Zl _ _).grown i (Za _) (λk hk=>by cases hk),σ⟩
def zrow (n:Nat):Array Value:=(wcells (List.replicate n 0)).toArray
def zyv(n:Nat)(i:n<=16*LIM)(w:World):(Instr.makeSlice 56 (n:Int) (n:Int)).run prog w=.ok (w.heap.size,n,n) (w.alloc (.cells (zrow n) 206)):=by
 obtain⟨a,hi,e,f,g⟩:=info_parts zf7;have j:=zaP;have c:(n:Int)<=9223372036854775807:=ω;have d:(a.bytes:Int)*(n:Int)<=281474976710656:=by rw[g];omega
 have hr:=run_make (P:=prog) w 56 206 a (.int .u64 0) underlying56 hi e .i64 .i64 n n ω (Int.le_refl _) d c;simp only[YH]at hr;rw[hr,f];have b:madeCells (Value.int IntKind.u64 0).cells (n*1)=zrow n:=by apply Array.ext';rw[zrow,zlr,XB];exact toList_madeCells_one _ n
 rw[b]
def zn5(w:World)(n:Nat)(a:n<=16*LIM):OutAt w (w.alloc (.cells (zrow n) 206)) w.heap.size n (List.replicate n 0):=by have b:=zaP;have h:=YJ (e:=206) (size:=1) w (zrow n) n (Za w.heap.size) (by unfold maxLen;omega) (by simp[zrow,wcells]);exact⟨by simpa[zrow]using h,(Zl _ _).alloc (Za _) _,σ⟩
attribute [local go_sem ↓] Go.wp_at_zero Go.wp_at_succ
def ze9 (a b:Int):Int:=if a<b then -1 else if b<a then 1 else 0
def zeb{a b:Int}(h:a<b):ze9 a b = -1:=by unfold ze9;rw[if_pos h]
def zea{a b:Int}(h:b<a):ze9 a b=1:=by unfold ze9;rw[if_neg ω,if_pos h]
def zgN{a b:Int}(h:a=b):ze9 a b=0:=by unfold ze9;rw[if_neg ω,if_neg ω]
namespace Nt
def zut(a b:Int)(w:World):Calls prog 127 #[.int .i64 a,.int .i64 b] w λe w'=>e=.returned (.int .i64 (ze9 a b))/\w=w':=by
 rcases Yo a b with h | h | h
 ·have E:=un (zeb h);go_enter func127,ntmps127;go_wp2;go_ret
  exact⟨zst (by rw[E.o]),rfl⟩
 ·subst h;have E:=un (zgN (a:=a) rfl);go_enter func127,ntmps127;go_wp2;go_ret
  exact⟨zst (by rw[E.o]),rfl⟩
 have E:=un (zea h);go_enter func127,ntmps127;go_wp2;go_ret;exact⟨zst (by rw[E.o]),rfl⟩
def zJ7(a b:Int)(w:World):Calls prog 128 #[.int .u64 a,.int .u64 b] w λe w'=>e=.returned (.int .i64 (ze9 a b))/\w=w':=by
 rcases Yo a b with h | h | h
 ·have E:=un (zeb h);go_enter func128,ntmps128;go_wp2;go_ret
  exact⟨zst (by rw[E.o]),rfl⟩
 ·subst h;have E:=un (zgN (a:=a) rfl);go_enter func128,ntmps128;go_wp2;go_ret
  exact⟨zst (by rw[E.o]),rfl⟩
 have E:=un (zea h);go_enter func128,ntmps128;go_wp2;go_ret;exact⟨zst (by rw[E.o]),rfl⟩
def zuw(A B:OA)(c c':Nat)(xs ys:List Nat)(w:World)(b:xs.length≠ys.length)(v:Int)(a:v=ze9 xs.length ys.length) :
  Calls prog 66 #[.agg #[(A,xs.length,c)],.agg #[(B,ys.length,c')]] w λe w'=>e=.returned (.int .i64 v)/\Below w w w':=by
 rcases ZM xs.length ys.length with h | h
 ·have e:ze9 xs.length ys.length = -1:=zeb ω;rw[e]at a;subst a;clear b h;go_enter func66,ntmps66;go_wp2_with fail
  refine(zut _ _ _).mono ?_;rw[e];rintro d w' ⟨rfl,rfl⟩;clear e;go_wp2;go_ret;exact⟨rfl,(zae w _).alloc σ _⟩
 have e:ze9 xs.length ys.length=1:=zea ω;rw[e]at a;subst a;clear b h;go_enter func66,ntmps66;go_wp2_with fail
 refine(zut _ _ _).mono ?_;rw[e];rintro d w' ⟨rfl,rfl⟩;clear e;go_wp2;go_ret;exact⟨rfl,(zae w _).alloc σ _⟩
theorem zuv(A B:OA)(c c':Nat)(xs ys:List Nat)(w:World)(p:SW w (A,xs.length,c) xs)(J:SW w (B,ys.length,c') ys)(I:xs.length=ys.length) :
  Calls prog 66 #[.agg #[(A,xs.length,c)],.agg #[(B,ys.length,c')]] w λe w'=>e=.returned (.int .i64 (ze9 (nval xs) (nval ys)))/\Below w w w':=by
 have aa:=p.len_le;have y:ze9 xs.length ys.length=0:=zgN ω;have K:=un y;have u:=un I;clear y;have v:=un p;have x:=un J;have C:Below w w ((w.alloc (.cells #[(A,xs.length,c)] 58)).alloc (.cells #[(B,ys.length,c')] 58)):=(zae w _).alloc σ _;have l:=un C;clear p J I C;go_enter func66,ntmps66;go_wp2_with fail
 refine(zut _ _ _).mono ?_;rw[K.o];rintro V w' ⟨rfl,rfl⟩;go_wp2
 go_loopw [6] (λi wr=>∃(j q:Nat),i=.int .i64 ((j:Int)-1)/\j<=xs.length/\xs.drop j=ys.drop j/\wr=(((w.alloc (.cells #[(A,xs.length,c)] 58)).alloc (.cells #[(B,ys.length,c')] 58))).drewN q)
  (λi _=>(intOf i+1).toNat)
 case atStart =>
  exact⟨xs.length,0,rfl,Za _,by rw[XK (Za _),XK (by rw[u.o];exact Za _)],rfl⟩
 obtain⟨j,q,rfl,hj,F,rfl⟩:=hrel;have r:=un F;clear F;rcases X2 j with rfl | hpos
 ·have a:ze9 (nval xs) (nval ys)=0:=zgN (by have:=r.o;simp at this;rw[this]);have k:=un a;clear a;go_wp2;go_ret
  exact⟨zst (by rw[k.o]),zhk l.o q⟩
 have d:j-1<xs.length:=ω;have f:j-1<ys.length:=by have:=u.o;omega
 rcases v.o.form with ⟨h1,P⟩ | ⟨g,cap,h1,hg,X,hm,D⟩
 exfalso;rw[P]at d;simp at d;rcases x.o.form with ⟨z,Q⟩ | ⟨g',U,z,Z,Y,ab,E⟩
 exfalso;rw[Q]at f;simp at f;injection h1 with hA _ hc1;injection z with hB _ hc2;subst hA hB hc1 hc2;have N:=cell_al (ob:=.cells #[(g',ys.length,c')] 58) (cell_al (ob:=.cells #[(g,xs.length,c)] 58) (D (j-1) d));have O:=cell_al (ob:=.cells #[(g',ys.length,c')] 58) (cell_al (ob:=.cells #[(g,xs.length,c)] 58) (E (j-1) f));have L:=cell_al (ob:=.cells #[(g',ys.length,c')] 58) (zax (W:=w) (o:=0) (t:=58) (cs:=#[.slice (some ⟨g,0,none⟩) xs.length c]) rfl rfl);have M:=zax (W:=w.alloc (.cells #[(g,xs.length,c)] 58)) (b:=w.heap.size+1) (o:=0) (t:=58) (cs:=#[.slice (some ⟨g',0,none⟩) ys.length c']) σ rfl;clear D E;have S:(j:Int)-1<(xs.length:Int):=ω;have T:(j:Int)-1<(ys.length:Int):=ω;go_wp2_with fail
 go_region_held3 (λw'=>χ w' w 0 (g,xs.length,c)/\χ w' (w.heap.size+1) 0 (g',ys.length,c') /\
   χ w' g (j-1) (.int .u64 ((wd xs (j-1):Nat):Int))/\χ w' g' (j-1) (.int .u64 ((wd ys (j-1):Nat):Int)))
  (first | ((try go_split_ands);(try simp only[Xi,World.cell?_drewN]);(repeat' apply And.intro)<;>assumption) | go_keep)
  (first | (go_at_call 128;(with_reducible refine(zJ7 _ _ _).mono ?_);rintro e w' ⟨rfl,rfl⟩))
 have G:xs.drop (j-1+1)=ys.drop (j-1+1):=by rw[show j-1+1=j by omega];exact r.o
 have m:=un G;clear G N O L M S T;rcases XM (wd xs (j-1)) (wd ys (j-1))with h | h | h
 ·have a:ze9 (nval xs) (nval ys) = -1:=zeb (by have:=zi7 v.o.2 (j-1) d f m.o h;omega);have k:=un a;have hr:ze9 ((wd xs (j-1):Nat):Int) ((wd ys (j-1):Nat):Int) = -1:=zeb ω;clear a h;rw[hr];clear hr;go_wp2;go_ret
  exact⟨zst (by rw[k.o]),zhk l.o _⟩
 ·have hr:ze9 ((wd xs (j-1):Nat):Int) ((wd ys (j-1):Nat):Int)=0:=zgN ω;have R:=un (zoy (j-1) d f m.o h);clear h;rw[hr];clear hr;go_wp2;go_roundw
  case rel=>exact⟨j-1,_,by congr 1;omega,ω,R.o,rfl⟩
  case measure=>simp[intOf];omega
 have a:ze9 (nval xs) (nval ys)=1:=zea (by have:=zi7 x.o.2 (j-1) f d m.o.symm h;omega);have k:=un a;have hr:ze9 ((wd xs (j-1):Nat):Int) ((wd ys (j-1):Nat):Int)=1:=zea ω;clear a h;rw[hr];clear hr;go_wp2;go_ret;exact⟨zst (by rw[k.o]),zhk l.o _⟩
theorem cmp(A B:OA)(m c m' c' a b:Nat)(w:World)(g:zas w (A,m,c) a)(i:zas w (B,m',c') b) :
  Calls prog 66 #[.agg #[(A,m,c)],.agg #[(B,m',c')]] w λe w'=>e=.returned (.int .i64 (ze9 a b))/\Below w w w':=by
 obtain⟨xs,d,j,rfl,l,rfl⟩:=g.words;obtain⟨ys,f,k,rfl,o,rfl⟩:=i.words;rcases XM xs.length ys.length with h | h | h;have:=zgo d.2 k h;exact zuw A B c c' xs ys w ω _ (by rw[zeb ω,zeb ω]);grind[zuv];have:=zgo f.2 j h;exact zuw A B c c' xs ys w ω _ (by rw[zea ω,zea ω])
end Nt
open Go.RowKit
namespace Err
def wrap(y:Int)(S:ByteArray)(k:Int)(w:World):Calls prog 122 #[.iface 93 (.int .i64 y),.string S,.int .i64 k] w λa w'=>a=.returned (.iface 239 (.pointer (some ⟨w,0,none⟩)))/\w'=w.alloc (.cells #[.string S,.int .i64 k,.iface 93 (.int .i64 y)] 241):=by go_enter func122,ntmps122;go_wp2;go_ret;exact⟨rfl,rfl⟩
end Err
end Go.Proofs.YtbpjabgfcbjjmaaGreat
namespace Go.Proofs.YtbpjabgfcbjjmaaGreat
open Go.RowKit Am Tryz
attribute [local go_sem ↓] Go.wp_at_zero Go.wp_at_succ
variable {b n:Nat}{u v:Value}{a w w':World}
namespace Nt
def words(A:OA)(m c:Nat)(xs:List Nat)(w:World)(h:SW w (A,m,c) xs)(b:xs.length<=LIM):Calls prog 173 #[.agg #[(A,m,c)]] w (zCs w xs):=by
 have a:=(h.alloc (.cells #[(A,m,c)] 58)).reads;have d:=un a;have f:=un b;clear h a b;go_enter func173,ntmps173;go_wp2_with fail
 refine(clone _ xs _ d.o f.o).mono ?_;rintro e w1 ⟨A1,m1,c1,rfl,hs1,hb1⟩;go_wp2;go_ret;exact⟨_,_,_,rfl,hs1,bstep (zae w _) hb1 σ⟩
def add(A B:OA)(m c m' c' a b:Nat)(w:World)(x:zas w (A,m,c) a)(y:zas w (B,m',c') b)(ab:wlen a<=LIM)(ac:wlen b<=LIM) :
  Calls prog 137 #[.agg #[(A,m,c)],.agg #[(B,m',c')]] w (zc0 w (a+b)):=by
 obtain⟨xs,L,Y,rfl,E,rfl⟩:=x.words;obtain⟨ys,N,Z,rfl,F,rfl⟩:=y.words;rw[<-E]at ab;rw[<-F]at ac;clear E F x y;obtain⟨n,G⟩:∃n,n=max xs.length ys.length+1:=⟨_,rfl⟩
 have t:n<=16*LIM:=by have:=zaP;omega
 refine μ3 G L N λq f g=>?_;clear L N Y Z;obtain⟨M,U⟩:∃M,M=max xs.length ys.length:=⟨_,rfl⟩
 have T:(if xs.length<ys.length then (ys.length:Int)else (xs.length:Int))=(M:Int):=by split<;>omega
 have u:wrap64 ((M:Int)+1)=(n:Int):=by have:=zaP;rw[show(M:Int)+1=(n:Int)by omega];unfold wrap64;omega
 clear U;clear G;go_enter func137,ntmps137;go_wp2_with (at_make;go_must (refine zdz rfl _ _ rfl n _ rfl rfl u t (w.heap.size+1+1+1) σ ?_))
 intro w1 H;have P:=un H;clear H T u t;go_wp2
 go_loopw [6,19] (λS i wr=>∃(j C:Nat) (os:List Nat),i=.int .i64 j/\S=.int .u64 C/\j<=n/\AddInv xs ys os j C/\OutAt (((w.alloc (.cells #[(A,xs.length,c)] 58)).alloc (.cells #[(B,ys.length,c')] 58)).alloc (.cells #[()] 58)) wr (w.heap.size+1+1+1) n os)
  (λ_ i _=>n-(intOf i).toNat)
 case atStart=>exact⟨0,0,List.replicate n 0,rfl,rfl,Zb _,AddInv.start xs ys n,P.o⟩
 obtain⟨j,C,os,rfl,rfl,hj,s,d⟩:=hrel;have l:=un s;have r:=un d;have hC:=s.one;have V:=un (d.keep (((f.o.alloc _).alloc _).alloc _) σ);have W:=un (d.keep (((g.o.alloc _).alloc _).alloc _) σ);have af:=d.old (b:=w.heap.size) (o:=0) (v:=.slice A xs.length c) ω (cell_al (cell_al (zax rfl rfl)));have ag:=d.old (b:=w.heap.size+1) (o:=0) (v:=.slice B ys.length c') ω (cell_al (zax σ rfl));have ak:=zdM f.o.2 j;have al:=zdM g.o.2 j;clear s;by_cases D:j<n
 ·have X:=d.cell D;have aa:=d.fro j;have J:=d.lt;have aj:n<=9223372036854775807:=by have:=q.o;have:=zaP;omega
  have ah:(0:Int)<=(j:Int):=Zg _;have ai:(j:Int)<(n:Int):=ω;clear d;go_wp2_with fail
  have q1:=cell_al (ob:=.cells #[(B,ys.length,c')] 58) (cell_al (ob:=.cells #[(A,xs.length,c)] 58) X);have q2:=zd1 (ob:=.cells #[(B,ys.length,c')] 58) (zxk (ob:=.cells #[(A,xs.length,c)] 58) J) (zd1 (ob:=.cells #[(A,xs.length,c)] 58) J aa)
  go_region_held3 (λw'=>χ w' w 0 (A,xs.length,c)/\χ w' (w.heap.size+1) 0 (B,ys.length,c'))
   (first | ((try go_split_ands);(try simp only[Xi]);(repeat' apply And.intro)<;>(first | assumption | exact cell_al (by assumption) | exact cell_set ω (by assumption))) | go_keep)
   (first
    | (go_at_call 170;(with_reducible refine(word (A,xs.length,c) xs _ ω _ ?_).mono ?_);(exact V.o.drew);rintro e w' ⟨rfl,rfl⟩)
    | (go_at_call 170;(with_reducible refine(word (B,ys.length,c') ys _ ω _ ?_).mono ?_);(exact W.o.drew.alloc _);rintro e w' ⟨rfl,rfl⟩)
    | (go_at_call 169;(with_reducible refine(Word.add (wd xs j) (wd ys j) C (by assumption) (by assumption) (by assumption) _).mono ?_);rintro e w' ⟨rfl,rfl⟩))
  go_wp2;go_roundw
  case rel=>exact⟨j+1,_,_,by go_num,rfl,ω,l.o.next (by rw[r.o.len];exact D) f.o.2 g.o.2,(((r.o.alloc _).alloc _).store j _).drew⟩
  case measure=>simp[intOf];omega
 obtain rfl:j=n:=ω;have K:=l.o.done r.o.len.symm f.o.2 g.o.2 (by have:=q.o;omega) (by have:=q.o;omega);have I:=d.sw l.o.wds;have z:=d.bel;refine μ3 K I z λR Q k=>?_;clear K I z d;go_wp2_with fail
 refine(trim _ os _ Q.o).mono ?_;rintro e w2 ⟨A2,m2,c2,rfl,hs2,hb2⟩;have hk:=zad hb2 ((k.o.block (w.heap.size+1+1) ω).trans (zam σ));have hc:χ w2 (w.heap.size+1+1) 0 ():=zac hk 0;have hf:=zag hk 0;have O:=un hk;have h0:=k.o.size;simp at h0;clear hk;go_wp2;refine Zi (v:=.agg #[(A2,m2,c2)]) (by simp[results,results137,go_sem,hc]) rfl ?_;rw[R.o]at hs2;refine⟨_,_,_,rfl,hs2.setCell (p:=⟨w.heap.size+1+1,0,none⟩) O.o δ _,Xj ?_ (by simp;omega) _⟩;exact bstep ((((zae w _).alloc σ _).alloc (by simp;omega) _).trans (k.o.mono ω)) hb2 ω
end Nt
def znT{ops:Array Oper}{o:Oper}{a:Act}{K:Act->World->Prop}{Q:Exit->Act->World->Prop}{E:Prop}(hg:o.guard=none)
  (f:FuncId) {b:Func} {c:Code} (hf:prog.funcs[f]? = some b) (k:(b.name == "runtime.NumGoroutine")=false) (i:b.body=some c) (xs:List Operand) (n:Array TypeId) (l:o.op=.call { callee:=.value (.func f),args:=xs.toArray,argTypes:=n })
  (args:List Value) (g:xs.map a.eval=args) {R:Ending->World->Prop} (hc:Calls prog f args.toArray w R) (d:∀e w',R e w'->∃v,e=.returned v/\K (a.put o.dst v) w') :
  if Region.wanted o (yielded ops a.tmps)=true then Oper.wp prog o a w K Q else E:=by
 have hw:Region.wanted o (yielded ops a.tmps)=true:=by simp[Region.wanted,hg]
 rw[if_pos hw];have m:(execOp a.eval o).run prog w=.ok (.enter f args.toArray) w:=by
  unfold execOp;simp only[l];subst g;have j:¬b.name = "runtime.NumGoroutine":=by simpa using k
  simp[go_sem,resolve,invoke,callFunc,hf,j,i]
 unfold Oper.wp;rw[m,Oper.upon_enter];refine hc.mono ?_;grind
def zqA{ops:Array Oper}{o:Oper}{a:Act}{K:Act->World->Prop}{Q:Exit->Act->World->Prop}{E:Prop}(hg:o.guard=none)
  (s x:Operand) (f:o.op=.call { callee:=.builtin .append,args:=#[s,x],argTypes:=#[56,56] })
  {W0:World} {H:Nat} {ys xs:List Nat} (b:OutAt W0 w H n ys) (l:Wds ys) (g:a.eval s=(H,n,n)) {X:Value} (j:a.eval x=X) (q:SR w X xs) (L:n+xs.length<=LIM)
  (e:∀A m c w',SW w' (.slice A m c) (ys++xs)->Below H w w'->K (a.put o.dst (.slice A m c)) w') :
  if Region.wanted o (yielded ops a.tmps)=true then Oper.wp prog o a w K Q else E:=by
 have hw:Region.wanted o (yielded ops a.tmps)=true:=by simp[Region.wanted,hg]
 rw[if_pos hw];obtain⟨p,hi,D,F,G⟩:=info_parts zf7;obtain⟨A,c,rfl,M,J,B,v,r⟩:=q;rcases A with _ | ad;obtain⟨rfl,rfl⟩:=v rfl;have y:=run_append_owned_none (P:=prog) (w:=w) H 56 o.type 206 p 1 underlying56 hi _ n _ b.own;unfold Oper.wp;simp[execOp,f,resolve,invoke,builtin,g,j,y,Result.andThen];exact e _ _ _ _ (by rw[XT];exact b.sw l) (Zl _ _)
 refine wp_append_own w s x 56 f H 206 p (.int .u64 0) 1 8 underlying56 hi D F G rfl δ _ n _ g b.own ad xs.length c (wcells xs) j (by rw[zdA];omega) (r ad rfl) (zgf xs)
  (by unfold maxLen;have:=zaP;omega) (by have:=zaP;omega) (Xm b.lt) λN w' d t _=>?_
 rw[<-zia]at d;have u:n+xs.length=(ys++xs).length:=by rw[Zz,b.len]
 rw[u]at d;have i:=SW.of_own d (λz C=>(ZT.1 C).elim (l z) (B z));obtain⟨I,m',c',rfl⟩:=i.slice;exact e _ _ _ _ i ((Zl _ _).grown t (Xm b.lt) (λk hk=>by cases hk;grind))
def al2(h:Below a a w)(o:Obj):Below a a (w.alloc o):=h.alloc h.size o
def bdrew{B:Nat}(h:Below B a w):Below B a w.drew:=zhk h 1
def zc1(h:Below a a w)(b:Below w w w'):Below a a w':=bstep h b h.size
def set2{o:Nat}(h:Below a a w)(c:a.heap.size<=b):Below a a (w.setCell ⟨b,o,none⟩ u):=h.setCell c u
def zbD(W:World)(o:Obj)(cs:Array Value)(t:TypeId):θ ((W.alloc o).alloc (.cells cs t)) (W.heap.size+1) cs t:=zam σ
def zan{w1:World}{t:TypeId}(c:Below w w w1)(h:θ w b #[v] t) :
  θ w1 b #[v] t/\(χ w1 b 0 v/\w1.frozen? ⟨b,0,none⟩=false) /\
  ((∀o,χ (w1.alloc o) b 0 v)/\(∀o,(w1.alloc o).frozen? ⟨b,0,none⟩=false)) /\
  ((∀o a,χ ((w1.alloc o).alloc a) b 0 v)/\(∀o a,((w1.alloc o).alloc a).frozen? ⟨b,0,none⟩=false)) /\
  ((b≠w1.heap.size/\w1.heap.size≠b)/\(b≠w1.heap.size+1/\w1.heap.size+1≠b)):=by
 have h1:=zad c h;have d:b<w1.heap.size:=(ZU.1 h1).1;exact⟨h1,⟨zac h1 0,zag h1 0⟩,⟨λo=>zac (zak h1) 0,λo=>zag (zak h1) 0⟩,⟨λo a=>zac (zak (zak h1)) 0,λo a=>zag (zak (zak h1)) 0⟩,ω⟩
def Box (w:World) (b:Nat):Prop:=∃v,θ w b #[v] 58
def Box.of(h:θ w b #[v] 58):Box w b:=⟨v,h⟩
def Box.new(w:World)(v:Value):Box (w.alloc (.cells #[v] 58)) w.heap.size:=⟨v,zal _ _ _⟩
def Box.new1(w:World)(o:Obj)(v:Value):Box ((w.alloc o).alloc (.cells #[v] 58)) (w.heap.size+1):=⟨v,zbD _ _ _ _⟩
def Box.alloc{w:World}{b:Nat}{o:Obj}(h:Box w b):Box (w.alloc o) b:=⟨_,zak h.choose_spec⟩
def Box.below(h:Box w b)(a:Below w w w'):Box w' b:=⟨_,zad a h.choose_spec⟩
def Box.drew{w:World}{b:Nat}(h:Box w b):Box w.drew b:=⟨_,h.choose_spec⟩
theorem Box.set{a:Nat}(h:Box w b):Box (w.setCell ⟨a,0,none⟩ u) b:=by obtain⟨v,h⟩:=h;by_cases e:b=a;subst e;exact⟨u,one_setCell h⟩;exact⟨v,(ZE w ⟨a,0,none⟩ u b e).trans h⟩
def Box.cell{w:World}{b:Nat}{u:Value}(h:Box w b):χ (w.setCell ⟨b,0,none⟩ u) b 0 u:=by obtain⟨v,h⟩:=h;exact zac (one_setCell h) 0
def zas.setBox{s:Value}(h:zas w s n)(a:Box w b):zas (w.setCell ⟨b,0,none⟩ u) s n:=by obtain⟨v,a⟩:=a;exact h.setCell (p:=⟨b,0,none⟩) a δ u
def zeo(w:World)(v:Value)(t:TypeId):χ (w.alloc (.cells #[v] t)) w 0 v:=zax rfl rfl
def zfx(w:World)(o:Obj)(v:Value)(t:TypeId):χ ((w.alloc o).alloc (.cells #[v] t)) (w.heap.size+1) 0 v:=by simp_all
end Go.Proofs.YtbpjabgfcbjjmaaGreat
namespace Go.Proofs.YtbpjabgfcbjjmaaGreat
open Go.RowKit Am Tryz
attribute [local go_sem ↓] Go.wp_at_zero Go.wp_at_succ
variable {os xs:List Nat}{s:Nat}
namespace Nt
def sub_no(A B:OA)(m c m' c' a b:Nat)(w:World)(d:zas w (A,m,c) a)(f:zas w (B,m',c') b)(j:a<b) :
  Calls prog 138 #[.agg #[(A,m,c)],.agg #[(B,m',c')]] w (zjL w 0 false):=by
 have e:ze9 a b = -1:=zeb ω;refine μ3 (((d.alloc (.cells #[(A,m,c)] 58)).alloc (.cells #[(B,m',c')] 58)).alloc (.cells #[()] 58)) (((f.alloc (.cells #[(A,m,c)] 58)).alloc (.cells #[(B,m',c')] 58)).alloc (.cells #[()] 58)) e λg i E=>?_;clear d f j e;go_enter func138,ntmps138;go_wp2_with fail
 refine(cmp A B m c m' c' a b _ g.o i.o).mono ?_;rw[E.o];rintro k w1 ⟨rfl,hb1⟩;have hk:=zad hb1 (zam (W:=((w.alloc (.cells #[(A,m,c)] 58)).alloc (.cells #[(B,m',c')] 58))) (b:=w.heap.size+1+1) (cs:=#[.slice none 0 0]) (t:=58) σ);have hc:χ w1 (w.heap.size+1+1) 0 ():=zac hk 0;have hf:=zag hk 0;clear hk;go_wp2;refine Zi (v:=.tuple #[.agg #[()],false]) (by simp[results,results138,go_sem,hc]) rfl ?_;refine⟨_,_,_,rfl,zas.zero _,Xj ?_ (by simp;omega) _⟩;exact bstep (((zae w _).alloc σ _).alloc (by simp;omega) _) hb1 (by simp;omega)
def sub_ok(A B:OA)(m c m' c' a b:Nat)(w:World)(x:zas w (A,m,c) a)(y:zas w (B,m',c') b)(hle:b<=a)(z:wlen a<=LIM) :
  Calls prog 138 #[.agg #[(A,m,c)],.agg #[(B,m',c')]] w (zjL w (a-b) true):=by
 have I:ze9 a b=0\/ze9 a b=1:=by rcases ZM b a with h | h;exact .inr (zea ω);exact .inl (zgN ω)
 have hA:=un (((x.alloc (.cells #[(A,m,c)] 58)).alloc (.cells #[(B,m',c')] 58)).alloc (.cells #[()] 58));have hB:=un (((y.alloc (.cells #[(A,m,c)] 58)).alloc (.cells #[(B,m',c')] 58)).alloc (.cells #[()] 58));obtain⟨xs,Q,n,rfl,D,rfl⟩:=x.words;obtain⟨ys,R,ap,rfl,K,rfl⟩:=y.words;have L:ys.length<=xs.length:=by rw[D,K];exact zco hle
 rw[<-D]at z;clear D K x y;refine μ6 hle L Q R z (show xs.length<=16*LIM by omega) λaa ab r s Z g1=>?_;clear Q R n ap hle L z;generalize hcv:ze9 (nval xs) (nval ys)=cv at I;have V:=un hcv;clear hcv;go_enter func138,ntmps138;go_wp2_with fail
 refine(cmp A B _ c _ c' _ _ _ hA.o hB.o).mono ?_;rw[V.o];rintro e' w1 ⟨rfl,hb1⟩;have aq:=hb1.size;simp at aq;have hk:=zad hb1 (zam (W:=((w.alloc (.cells #[(A,xs.length,c)] 58)).alloc (.cells #[(B,ys.length,c')] 58))) (b:=w.heap.size+1+1) (cs:=#[.slice none 0 0]) (t:=58) σ);have S:=zad hb1 (zak (ob:=.cells #[()] 58) (zak (ob:=.cells #[(B,ys.length,c')] 58) (zam (W:=w) (b:=w.heap.size) (cs:=#[.slice A xs.length c]) (t:=58) rfl)));have T:=zad hb1 (zak (ob:=.cells #[()] 58) (zam (W:=w.alloc (.cells #[(A,xs.length,c)] 58)) (b:=w.heap.size+1) (cs:=#[.slice B ys.length c']) (t:=58) σ));have l:=bstep (((zae w _).alloc σ _).alloc (by simp;omega) _) hb1 (by simp;omega);have c0:χ w1 w 0 (A,xs.length,c):=zac S 0;have c1:χ w1 (w.heap.size+1) 0 (B,ys.length,c'):=zac T 0;refine μ4 hk l (r.o.below l) (s.o.below l) λX U F af=>?_;clear hk S T l hb1;have az:¬cv<0:=ω;clear I;go_wp2_with (at_make;go_must (refine zdz rfl _ _ rfl xs.length _ rfl rfl rfl g1.o w1.heap.size rfl ?_))
 intro w2 M;have HO:=un M;clear M;go_wp2
 go_loopw [7,20] (λcy i wr=>∃(j C:Nat) (os:List Nat),i=.int .i64 j/\cy=.int .u64 C/\j<=xs.length/\SubInv xs ys os j C/\OutAt w1 wr w1.heap.size xs.length os)
  (λ_ i _=>xs.length-(intOf i).toNat)
 case atStart=>exact⟨0,0,List.replicate xs.length 0,rfl,rfl,Zb _,SubInv.start xs ys _,HO.o⟩
 obtain⟨j,C,os,rfl,rfl,hj,u,d⟩:=hrel;have o:=un u;have q:=un d;have hC:=u.one;have an:=un (d.keep F.o (Za _));have ao:=un (d.keep af.o (Za _));have aw:=d.old ω c0;have ax:=d.old ω c1;have aE:=zdM r.o.2 j;have aG:=zdM s.o.2 j;clear u;by_cases f:j<xs.length
 ·rcases an.o.form with ⟨h1,h2⟩ | ⟨g,cap,h1,hg,ay,hm,n⟩
  exfalso;rw[h2]at f;simp at f;injection h1 with hA' _ hc1';subst hA' hc1';have aF:=n j f;have H:=d.cell f;have J:=d.fro j;have O:=d.lt;have aD:xs.length<=9223372036854775807:=by have:=Z.o;have:=zaP;omega
  have aB:(0:Int)<=(j:Int):=Zg _;have aC:(j:Int)<(xs.length:Int):=ω;have q1:=cell_al (ob:=.cells #[(B,ys.length,c')] 58) H;have q2:=zd1 (ob:=.cells #[(B,ys.length,c')] 58) O J;have aA:g≠w1.heap.size:=by have:=F.o.block (k:=g) rfl;omega
  clear d n H J;go_wp2_with fail
  go_region_held3 (λw'=>χ w' w 0 (g,xs.length,c)/\χ w' (w.heap.size+1) 0 (B,ys.length,c') /\
    χ w' g j (.int .u64 ((wd xs j:Nat):Int)))
   (first | ((try go_split_ands);(try simp only[Xi]);(repeat' apply And.intro)<;>(first | assumption | exact cell_al (by assumption) | exact cell_set (by first | omega | assumption) (by assumption) | exact cell_al (cell_set (by first | omega | assumption) (by assumption)))) | go_keep)
   (first
    | (go_at_call 170;(with_reducible refine(word (B,ys.length,c') ys _ ω _ ?_).mono ?_);(exact ao.o.drew);rintro e w' ⟨rfl,rfl⟩)
    | (go_at_call 171;(with_reducible refine(Word.sub (wd xs j) (wd ys j) C (by assumption) (by assumption) (by assumption) _).mono ?_);rintro e w' ⟨rfl,rfl⟩))
  go_wp2;go_roundw
  case rel=>exact⟨j+1,_,_,by go_num,rfl,ω,o.o.next (by rw[q.o.len];exact f) r.o.2 s.o.2,((q.o.store j _).alloc _).drew⟩
  case measure=>simp[intOf];omega
 obtain rfl:j=xs.length:=ω;have P:=o.o.done (Za _) ab.o aa.o (by rw[q.o.len];exact Za _);have N:=d.sw o.o.wds;have G:=d.bel;refine μ3 P N G λHV HS E=>?_;have O:=d.lt;clear P N G d;go_wp2_with fail
 refine(trim _ os _ HS.o).mono ?_;rintro e w3 ⟨A2,m2,c2,rfl,hs2,hb2⟩;have hk:=zad hb2 ((E.o.block (w.heap.size+1+1) ω).trans X.o);have hc:χ w3 (w.heap.size+1+1) 0 ():=zac hk 0;have hf:=zag hk 0;have Y:=un hk;have h1:=hb2.size;clear hk;go_wp2;refine Zi (v:=.tuple #[.agg #[(A2,m2,c2)],true]) (by simp[results,results138,go_sem,hc]) rfl ?_;rw[HV.o]at hs2;refine⟨_,_,_,rfl,hs2.setCell (p:=⟨w.heap.size+1+1,0,none⟩) Y.o δ _,Xj ?_ (by simp;omega) _⟩;exact bstep (U.o.trans (E.o.mono ω)) hb2 ω
end Nt
namespace Nt
def zd3(k:Nat):((2:Int)^k)=((2^k:Nat):Int):=σ
def zAk(x s:Nat)(a:s<64):(x:Int)/2^(64-s)=((zBd x s:Nat):Int):=by rw[zd3,<-XS,zoZ a];rfl
def zAl(o x s:Nat)(c:s<64)(b:o<2^s):bits BinOp.or IntKind.u64 (o:Int) (IntKind.u64.wrap ((x:Int)*2^s))=((zxB o x s:Nat):Int):=by
 have d:(2:Nat)^s<18446744073709551616:=by have:(2:Nat)^s<2^64:=YW δ c;omega
 have e:=pow64_split s ω;have h1:x*2^s%B64=2^s*(x%2^(64-s)):=by rw[e,ZO x,YG]
 rw[zd3,<-XQ,Xw];have a:((x*2^s:Nat):Int)%18446744073709551616=((x*2^s%B64:Nat):Int):=(Vz _ _).symm;rw[a,u64_or_nat _ _ ω (Z0 _ δ),h1,ZO (2^s),zvd b];unfold zxB;rw[h1,ZO (2^s)]
def shl(A:OA)(m c a s:Nat)(w:World)(z:zas w (A,m,c) a)(f:s<64)(C:wlen a<=LIM) :
  Calls prog 188 #[.agg #[(A,m,c)],(s:Int)] w (zjL w (a*2^s) true):=by
 obtain⟨xs,H,n,rfl,D,rfl⟩:=z.words;rw[<-D]at C;have y:=un H;have aa:xs.length+1<=9223372036854775807:=by have:=zaP;omega
 have N:=un (show xs.length+1<=16*LIM by have:=zaP;omega);clear z D H n C;have F:(s:Int)/64=0:=ω;have hr:(s:Int)%64=(s:Int):=ω;have R:decide ((s:Int)<0)=false:=by rw[decide_eq_false_iff_not];omega
 have S:decide ((65536:Int)<(s:Int))=false:=by rw[decide_eq_false_iff_not];omega
 go_enter func188,ntmps188;go_wp2_with (at_make;go_must (refine zdz rfl _ _ rfl (xs.length+1) _ rfl rfl σ N.o (w.heap.size+1+1) σ ?_))
 intro w1 E;have u:=un E;clear E;have M:=u.o.old (b:=w.heap.size) (o:=0) (v:=.slice A xs.length c) ω (cell_al (zax rfl rfl));have L:=un ((y.o.alloc (.cells #[(A,xs.length,c)] 58)).alloc (.cells #[()] 58));go_wp2;simp only[hr];clear hr F;have F:(s:Int)/64=0:=ω
 go_loopw [30] (λi wr=>∃(j:Nat) (os:List Nat),i=.int .i64 j/\j<=xs.length/\ShlInv xs os 0 s j /\
   OutAt ((w.alloc (.cells #[(A,xs.length,c)] 58)).alloc (.cells #[()] 58)) wr (w.heap.size+1+1) (xs.length+1) os)
  (λi _=>xs.length-(intOf i).toNat)
 case atStart=>exact⟨0,List.replicate (xs.length+1) 0,rfl,Zb _,ShlInv.start xs 0 s _,u.o⟩
 obtain⟨j,os,rfl,hj,l,d⟩:=hrel;have r:=un l;have x:=un d;clear M;by_cases t:j<xs.length
 ·rcases L.o.form with ⟨h1,O⟩ | ⟨g,cap,h1,hg,T,hm,n⟩
  exfalso;rw[O]at t;simp at t;injection h1 with hA' _ hc1';subst hA' hc1';simp at hg;have ac:=d.old ω (n j t);have U:=d.cell (k:=j) ω;have V:=d.cell (k:=j+1) ω;have W:=d.fro j;have X:=d.fro (j+1);have P:wd os j<2^s:=l.low;have ae:=zAl (wd os j) (wd xs j) s f P;have ad:=zAk (wd xs j) s f;have Y:(0:Int)<=(j:Int):=Zg _;have Z:(j:Int)<(xs.length:Int):=ω;clear d l n;go_wp2_with fail
  go_region
  go_wp2;go_roundw
  case rel=>exact⟨j+1,_,by go_num,ω,r.o.next y.o.2 f (by rw[x.o.len];omega),((x.o.store j _).store (j+1) _).drew⟩
  case measure=>simp[intOf];omega
 obtain rfl:j=xs.length:=ω;have G:nval os=nval xs*2^s:=by have:=r.o.eq;rw[Z2 (Za _)]at this;simpa using this
 have f:=d.sw r.o.wds;have B:=d.bel;refine μ3 G f B λK J q=>?_;have ab:=d.lt;clear G f B d l;go_wp2_with fail
 refine(trim _ os _ J.o).mono ?_;rintro e Q ⟨A2,m2,c2,rfl,hs2,hb2⟩;have hk:=zad hb2 ((q.o.block (w.heap.size+1) ω).trans (zam σ));have hc:χ Q (w.heap.size+1) 0 ():=zac hk 0;have hf:=zag hk 0;have I:=un hk;have h1:=hb2.size;have h0:=q.o.size;simp at h0;clear hk;go_wp2;refine Zi (v:=.tuple #[.agg #[(A2,m2,c2)],true]) (by simp[results,results188,go_sem,hc]) rfl ?_;rw[K.o]at hs2;refine⟨_,_,_,rfl,hs2.setCell (p:=⟨w.heap.size+1,0,none⟩) I.o δ _,Xj ?_ σ _⟩;exact bstep (((zae w _).alloc σ _).trans (q.o.mono ω)) hb2 ω
end Nt
namespace Nt
structure ShrInv (xs os:List Nat) (s j:Nat):Prop where
  wds:Wds os
  eq:∀i,i<j->wd os i=nval xs/2^s/B64^i%B64
def zBh(x y s:Nat)(f:s<64)(c:x<18446744073709551616):zBf x y s<18446744073709551616:=by
 have e:=pow64_split s ω;have h1:y*2^(64-s)%B64=2^(64-s)*(y%2^s):=by rw[e,ZO (2^s),ZO y,YG]
 have d:x/2^s<2^(64-s):=by rw[Xv (Z3 δ),ZO,<-e];exact c
 have a:y%2^s<2^s:=Z0 _ (Z3 δ);have b:2^(64-s)*(y%2^s+1)<=2^(64-s)*2^s:=Xp _ a;rw[XX,XB,ZO _ (2^s),<-e]at b;unfold zBf;rw[h1];have:B64=18446744073709551616:=rfl;omega
def zDd(x y s:Nat)(d:s<64)(a:x<18446744073709551616) :
  bits BinOp.or IntKind.u64 ((x:Int)/2^s) (IntKind.u64.wrap ((y:Int)*2^(64-s)))=((zBf x y s:Nat):Int):=by
 have e:=pow64_split s ω;have h1:y*2^(64-s)%B64=(y%2^s)*2^(64-s):=by rw[e,ZO (2^s),ZO y,YG,ZO]
 have c:x/2^s<2^(64-s):=by rw[Xv (Z3 δ),ZO,<-e];exact a
 rw[zd3,zd3,<-XQ,<-XS,Xw];have b:((y*2^(64-s):Nat):Int)%18446744073709551616=((y*2^(64-s)%B64:Nat):Int):=(Vz _ _).symm;rw[b,u64_or_nat _ _ (XR (Yf _ _) a) (Z0 _ δ),h1,zvd c];unfold zBf;rw[h1]
def ShrInv.next{j:Nat}(h:ShrInv xs os s j)(b:Wds xs)(a:s<64)(hj:j<os.length):ShrInv xs (os.set j (zBf (wd xs j) (wd xs (j+1)) s)) s (j+1):=by refine⟨h.wds.set _ _ (zBh _ _ _ a (zdM b j)),λi hi=>?_⟩;unfold wd;rw[zcU _ _ _ _ hj];by_cases e:i=j;subst e;rw[if_pos rfl];exact zBg b i s a;rw[if_neg e];exact h.eq i ω
def ShrInv.done(h:ShrInv xs os s os.length)(b:Wds xs)(a:xs.length=os.length):nval os=nval xs/2^s:=by apply znM h.eq;have:=zc8 xs b;rw[a]at this;exact XR (Yf _ _) this
def shr(A:OA)(m c a s:Nat)(w:World)(y:zas w (A,m,c) a)(f:s<64)(n:wlen a<=LIM) :
  Calls prog 192 #[.agg #[(A,m,c)],(s:Int)] w (zc0 w (a/2^s)):=by
 obtain⟨xs,J,C,rfl,F,rfl⟩:=y.words;rw[<-F]at n;have g:=un J;have W:=un n;have ad:xs.length+1<=9223372036854775807:=by have:=zaP;omega
 have u:=un (show xs.length<=16*LIM by have:=zaP;omega);have H:(s:Int)/64=0:=ω;have hr:(s:Int)%64=(s:Int):=ω;have X:decide ((s:Int)<0)=false:=by rw[decide_eq_false_iff_not];omega
 clear y F J n;by_cases h0:xs.length=0
 ·have P:=Xo.1 h0;subst P;clear C h0 hr u;go_enter func192,ntmps192;go_wp2;refine Zi (v:=.agg #[()]) (by simp[results,results192,go_sem]) rfl ⟨_,_,_,rfl,?_,((zae w _).alloc σ _)⟩;simpa[nval]using zas.zero _
 have Y:decide ((xs.length:Int)<=0)=false:=by rw[decide_eq_false_iff_not];omega
 clear C;go_enter func192,ntmps192;go_wp2_with (at_make;go_must (refine zdz rfl _ _ rfl xs.length _ rfl rfl σ u.o (w.heap.size+1+1) σ ?_))
 intro w1 G;have L:=un G;clear G;have O:=un ((g.o.alloc (.cells #[(A,xs.length,c)] 58)).alloc (.cells #[()] 58));go_wp2;simp only[hr];clear hr H;have H:(s:Int)/64=0:=ω
 go_loopw [30] (λi wr=>∃(j:Nat) (os:List Nat),i=.int .i64 j/\j<=xs.length/\ShrInv xs os s j /\
   OutAt ((w.alloc (.cells #[(A,xs.length,c)] 58)).alloc (.cells #[()] 58)) wr (w.heap.size+1+1) xs.length os)
  (λi _=>xs.length-(intOf i).toNat)
 case atStart=>exact⟨0,List.replicate xs.length 0,rfl,Zb _,⟨Wds.replicate _,λi hi=>ω⟩,L.o⟩
 obtain⟨j,os,rfl,hj,k,d⟩:=hrel;have r:=un k;have t:=un d;by_cases E:j<xs.length
 ·have x:=un (d.keep O.o σ);have Z:=d.old (b:=w.heap.size) (o:=0) (v:=.slice A xs.length c) ω (cell_al (zax rfl rfl));have B:=d.cell E;have D:=d.fro j;have q:=d.lt;have Q:=zdM g.o.2 j;have rW:=zDd (wd xs j) (wd xs (j+1)) s f Q;have aa:(0:Int)<=(j:Int):=Zg _;have ab:(j:Int)<(xs.length:Int):=ω
  have q1:=cell_al (ob:=.cells #[(A,xs.length,c)] 58) (cell_al (ob:=.cells #[(A,xs.length,c)] 58) B);have q2:=zd1 (ob:=.cells #[(A,xs.length,c)] 58) (zxk (ob:=.cells #[(A,xs.length,c)] 58) q) (zd1 (ob:=.cells #[(A,xs.length,c)] 58) q D);clear d k B D;have ac:(0:Int)<=(j:Int)+1:=ω;have ae:w.heap.size≠w.heap.size+1+1:=ω;have s3:(64-(s:Int)).toNat=64-s:=ω;go_wp2_with fail
  have S:IntKind.i64.wrap 0=0:=rfl;have T:IntKind.i64.wrap (j:Int)=(j:Int):=XC _ ω;have U:IntKind.i64.wrap ((j:Int)+1)=(j:Int)+1:=XC _ ω;have V:IntKind.i64.wrap (64-(s:Int))=64-(s:Int):=XC _ ω
  go_region_held3 (λw'=>χ w' w 0 (A,xs.length,c))
   (first | ((try go_split_ands);(try simp only[Xi]);(repeat' apply And.intro)<;>(first | assumption | exact cell_al (by assumption) | exact cell_set (by assumption) (by assumption) | exact cell_al (cell_set (by assumption) (by assumption)) | exact cell_al (cell_al (cell_set (by assumption) (by assumption))))) | go_keep)
   (first
    | (go_at_call 170;(with_reducible refine(word (A,xs.length,c) xs _ (by assumption) _ ?_).mono ?_);(first | exact x.o.drew | exact(x.o.alloc _).drew);rintro e w' ⟨rfl,rfl⟩))
  clear S T U V;go_wp2;go_roundw
  case rel=>exact⟨j+1,_,by go_num,ω,r.o.next g.o.2 f (by rw[t.o.len];exact E),(((t.o.alloc _).alloc _).store j _).drew⟩
  case measure=>simp[intOf];omega
 obtain rfl:j=xs.length:=ω;have I:=ShrInv.done (by rw[d.len];exact k) g.o.2 d.len.symm;have f:=d.sw r.o.wds;have z:=d.bel;refine μ3 I f z λN M l=>?_;have q:=d.lt;clear I f z d k;go_wp2_with fail
 refine(trim _ os _ M.o).mono ?_;rintro e R ⟨A2,m2,c2,rfl,hs2,hb2⟩;have hk:=zad hb2 ((l.o.block (w.heap.size+1) ω).trans (zam σ));have hc:χ R (w.heap.size+1) 0 ():=zac hk 0;have hf:=zag hk 0;have K:=un hk;have h0:=l.o.size;simp at h0;clear hk;go_wp2;refine Zi (v:=.agg #[(A2,m2,c2)]) (by simp[results,results192,go_sem,hc]) rfl ?_;rw[N.o]at hs2;refine⟨_,_,_,rfl,hs2.setCell (p:=⟨w.heap.size+1,0,none⟩) K.o δ _,Xj ?_ σ _⟩;exact bstep (((zae w _).alloc σ _).trans (l.o.mono ω)) hb2 ω
end Nt
namespace Pr
def school(A B:OA)(m c m' c' a b:Nat)(w:World)(S:zas w (A,m,c) a)(T:zas w (B,m',c') b)(X:wlen a+wlen b<=LIM) :
  Calls prog 140 #[.agg #[(A,m,c)],.agg #[(B,m',c')]] w (zc0 w (a*b)):=by
 obtain⟨xs,hx,av,rfl,Y,rfl⟩:=S.words;obtain⟨ys,hy,aw,rfl,Z,rfl⟩:=T.words;rw[<-Y,<-Z]at X;obtain⟨n,hn⟩:∃n,n=xs.length+ys.length:=⟨_,rfl⟩
 refine μ5 hn hx hy (show n<=LIM by omega) (show n<=16*LIM by have:=zaP;omega) λD N F al P=>?_;have aM:xs.length+ys.length<=9223372036854775806:=by have:=zaP;omega
 have R:(xs.length:Int)+(ys.length:Int)=(n:Int):=ω
 have am:=un R;clear hx hy av aw Y Z X S T hn R;have t:χ (((w.alloc (.cells #[(A,xs.length,c)] 58)).alloc (.cells #[(B,ys.length,c')] 58)).alloc (.cells #[()] 58)) w 0 (A,xs.length,c) :=
  cell_al (cell_al (zax rfl rfl))
 have g:χ (((w.alloc (.cells #[(A,xs.length,c)] 58)).alloc (.cells #[(B,ys.length,c')] 58)).alloc (.cells #[()] 58)) (w.heap.size+1) 0 (B,ys.length,c') :=
  cell_al (zax σ rfl)
 have E:=un (((N.o.alloc (.cells #[(A,xs.length,c)] 58)).alloc (.cells #[(B,ys.length,c')] 58)).alloc (.cells #[()] 58));have G:=un (((F.o.alloc (.cells #[(A,xs.length,c)] 58)).alloc (.cells #[(B,ys.length,c')] 58)).alloc (.cells #[()] 58));go_enter func140,ntmps140;go_wp2_with fail
 have L:IntKind.i64.wrap ((xs.length:Int)+(ys.length:Int))=(n:Int):=by have h1:=am.o;have h2:=XC (n:Int) ω;rw[h1,h2]
 have zm:=zyv n P.o
 go_region_held3 (λw'=>χ w' w 0 (A,xs.length,c)/\χ w' (w.heap.size+1) 0 (B,ys.length,c'))
  (first | ((try go_split_ands);(try simp only[Xi]);(repeat' apply And.intro)<;>(first | assumption | exact cell_al (by assumption) | exact cell_al (cell_al (by assumption)))) | go_keep)
  (first
   | (go_at_call 139;(with_reducible refine(Nt.len (A,xs.length,c) xs _ ?_).mono ?_);(exact E.o.drew);rintro e w' ⟨rfl,rfl⟩)
   | (go_at_call 139;(with_reducible refine(Nt.len (B,ys.length,c') ys _ ?_).mono ?_);(exact(G.o.alloc _).drew);rintro e w' ⟨rfl,rfl⟩))
 clear L zm t g;have k0:χ (((((w.alloc (.cells #[(A,xs.length,c)] 58)).alloc (.cells #[(B,ys.length,c')] 58)).alloc (.cells #[()] 58)).alloc (.cells #[(A,xs.length,c)] 58)).alloc (.cells #[(B,ys.length,c')] 58)) w 0 (A,xs.length,c):=cell_al (cell_al (cell_al (cell_al (zax rfl rfl))));have y:χ (((((w.alloc (.cells #[(A,xs.length,c)] 58)).alloc (.cells #[(B,ys.length,c')] 58)).alloc (.cells #[()] 58)).alloc (.cells #[(A,xs.length,c)] 58)).alloc (.cells #[(B,ys.length,c')] 58)) (w.heap.size+1) 0 (B,ys.length,c'):=cell_al (cell_al (cell_al (zax σ rfl)));have k2:θ (((((w.alloc (.cells #[(A,xs.length,c)] 58)).alloc (.cells #[(B,ys.length,c')] 58)).alloc (.cells #[()] 58)).alloc (.cells #[(A,xs.length,c)] 58)).alloc (.cells #[(B,ys.length,c')] 58)) (w.heap.size+1+1) #[()] 58:=zak (zak (zam σ));have kb:Below w w (((((w.alloc (.cells #[(A,xs.length,c)] 58)).alloc (.cells #[(B,ys.length,c')] 58)).alloc (.cells #[()] 58)).alloc (.cells #[(A,xs.length,c)] 58)).alloc (.cells #[(B,ys.length,c')] 58)):=((((zae w _).alloc σ _).alloc (by simp;omega) _).alloc (by simp;omega) _).alloc (by simp;omega) _;have K:(((((w.alloc (.cells #[(A,xs.length,c)] 58)).alloc (.cells #[(B,ys.length,c')] 58)).alloc (.cells #[()] 58)).alloc (.cells #[(A,xs.length,c)] 58)).alloc (.cells #[(B,ys.length,c')] 58)).heap.size=w.heap.size+1+1+1+1+1:=σ;have O:=un ((E.o.alloc (.cells #[(A,xs.length,c)] 58)).alloc (.cells #[(B,ys.length,c')] 58));have H:=un ((G.o.alloc (.cells #[(A,xs.length,c)] 58)).alloc (.cells #[(B,ys.length,c')] 58))
 have ho:OutAt (((((w.alloc (.cells #[(A,xs.length,c)] 58)).alloc (.cells #[(B,ys.length,c')] 58)).alloc (.cells #[()] 58)).alloc (.cells #[(A,xs.length,c)] 58)).alloc (.cells #[(B,ys.length,c')] 58)) ((((((w.alloc (.cells #[(A,xs.length,c)] 58)).alloc (.cells #[(B,ys.length,c')] 58)).alloc (.cells #[()] 58)).alloc (.cells #[(A,xs.length,c)] 58)).alloc (.cells #[(B,ys.length,c')] 58)).alloc (.cells (zrow n) 206)).drew (w.heap.size+1+1+1+1+1) n (List.replicate n 0):=by
  have:=(zn5 (((((w.alloc (.cells #[(A,xs.length,c)] 58)).alloc (.cells #[(B,ys.length,c')] 58)).alloc (.cells #[()] 58)).alloc (.cells #[(A,xs.length,c)] 58)).alloc (.cells #[(B,ys.length,c')] 58)) n P.o).drew
  rwa [K]at this
 clear E G;generalize hw1:((((((w.alloc (.cells #[(A,xs.length,c)] 58)).alloc (.cells #[(B,ys.length,c')] 58)).alloc (.cells #[()] 58)).alloc (.cells #[(A,xs.length,c)] 58)).alloc (.cells #[(B,ys.length,c')] 58)).alloc (.cells (zrow n) 206)).drew=w1 at *
 clear hw1;generalize hW0:(((((w.alloc (.cells #[(A,xs.length,c)] 58)).alloc (.cells #[(B,ys.length,c')] 58)).alloc (.cells #[()] 58)).alloc (.cells #[(A,xs.length,c)] 58)).alloc (.cells #[(B,ys.length,c')] 58))=W at *
 clear hW0;refine μ4 ho k2 kb K λo ah aj j=>?_;clear ho k2 kb K;have t:=o.o.old ω k0;have g:=o.o.old ω y;go_wp2_with (go_at_call 139;(with_reducible refine(Nt.len (A,xs.length,c) xs _ ?_).mono ?_);(exact o.o.keep O.o (by rw[j.o];exact Za _));rintro e w' ⟨rfl,rfl⟩)
 have aq:=un (o.o.alloc (.cells #[(A,xs.length,c)] 58));clear t g o;generalize w1.alloc (.cells #[(A,xs.length,c)] 58)=w2 at *
 go_loopw [17] (λi wr=>∃(p:Nat) (os:List Nat),i=.int .i64 p/\p<=xs.length/\SchInv xs ys os p/\OutAt W wr (w.heap.size+1+1+1+1+1) n os) (λi _=>xs.length-(intOf i).toNat)
 case atStart=>exact⟨0,_,rfl,Zb _,SchInv.start xs ys n,aq.o⟩
 obtain⟨p,os,rfl,hp,Q,d⟩:=hrel;have s:=un Q;clear Q;by_cases aL:p<xs.length
 ·have l:=un (d.keep H.o (by rw[j.o];exact Za _));have g:=d.old ω y;have f:=un d;clear d;go_wp2_with (go_at_call 139;(with_reducible refine(Nt.len (B,ys.length,c') ys _ ?_).mono ?_);(exact l.o);rintro e w' ⟨rfl,rfl⟩)
  have ar:=un (f.o.alloc (.cells #[(B,ys.length,c')] 58));clear g l f;generalize wr.alloc (.cells #[(B,ys.length,c')] 58)=wo at *
  go_loopw [7,22] (λov k aG=>∃(q V:Nat) (z:List Nat),k=.int .i64 q/\ov=.int .u64 V/\q<=ys.length/\MulInv (nval os) ys z p (wd xs p) q V/\OutAt W aG (w.heap.size+1+1+1+1+1) n z)
   (λ_ k _=>ys.length-(intOf k).toNat)
  case atStart=>exact⟨0,0,os,rfl,rfl,Zb _,s.o.enter _,ar.o⟩
  obtain⟨q,V,z,rfl,rfl,hq,I,d⟩:=hrel;have C:=un I;have hV:=I.ovr;clear I;by_cases aB:q<ys.length
  ·have au:=un (d.keep O.o (by rw[j.o];exact Za _));have l:=un (d.keep H.o (by rw[j.o];exact Za _));have t:=d.old ω k0;have g:=d.old ω y;have x:p+q<n:=by have:=D.o;omega
   have u:=d.cell x;have J:=d.fro (p+q);have r:=d.lt;have aC:=zdM N.o.2 p;have aS:=zdM F.o.2 q;have aN:=zdM C.o.wds (p+q);have aP:(0:Int)<=(p:Int):=Zg _;have aR:(0:Int)<=(q:Int):=Zg _;have ax:(0:Int)<=(p:Int)+(q:Int):=ω;have ay:(p:Int)+(q:Int)<(n:Int):=ω;have az:((p:Int)+(q:Int)).toNat=p+q:=ω;have q1:=cell_al (ob:=.cells #[(B,ys.length,c')] 58) (cell_al (ob:=.cells #[(A,xs.length,c)] 58) u);have aE:=cell_al (ob:=.cells #[(A,xs.length,c)] 58) u;have q2:=zd1 (ob:=.cells #[(B,ys.length,c')] 58) (zxk (ob:=.cells #[(A,xs.length,c)] 58) r) (zd1 (ob:=.cells #[(A,xs.length,c)] 58) r J);have b1:=cell_al (ob:=.cells #[(A,xs.length,c)] 58) g;have f:=un d;clear d;go_wp2_with fail
   have L:IntKind.i64.wrap ((p:Int)+(q:Int))=(p:Int)+(q:Int):=XC _ ω
   go_region_with (first
    | (go_at_call 170;(with_reducible refine(Nt.word (A,xs.length,c) xs _ (by assumption) _ ?_).mono ?_);(exact au.o.drew);rintro e w' ⟨rfl,rfl⟩)
    | (go_at_call 170;(with_reducible refine(Nt.word (B,ys.length,c') ys _ (by assumption) _ ?_).mono ?_);(exact(l.o.alloc _).drew);rintro e w' ⟨rfl,rfl⟩)
    | (go_at_call 172;(with_reducible refine(Word.mulAdd (wd xs p) (wd ys q) (wd z (p+q)) V (by assumption) (by assumption) (by assumption) (by assumption) _).mono ?_);rintro e w' ⟨rfl,rfl⟩))
   all_goals (clear L;go_wp2;go_roundw)
   all_goals first
    | exact⟨q+1,_,_,by go_num,rfl,ω,C.o.next aC F.o.2 aB (by rw[f.o.len];have:=D.o;omega),(((f.o.alloc _).alloc _).store (p+q) _).drew⟩
    | (simp[intOf];omega)
  have aA:q=ys.length:=ω;subst aA;have l:=un (d.keep H.o (by rw[j.o];exact Za _));have g:=d.old ω y;have x:p+ys.length<n:=by have:=D.o;omega
  have u:=d.cell x;have J:=d.fro (p+ys.length);have r:=d.lt;have ax:(0:Int)<=(p:Int)+(ys.length:Int):=ω;have ay:(p:Int)+(ys.length:Int)<(n:Int):=ω;have az:((p:Int)+(ys.length:Int)).toNat=p+ys.length:=ω;have aE:=cell_al (ob:=.cells #[(B,ys.length,c')] 58) u;have aV:=zd1 (ob:=.cells #[(B,ys.length,c')] 58) r J;have f:=un d;clear d;go_wp2_with (go_at_call 139;(with_reducible refine(Nt.len (B,ys.length,c') ys _ ?_).mono ?_);(exact l.o);rintro e w' ⟨rfl,rfl⟩)
  exact⟨⟨p+1,_,by go_num,ω,s.o.next C.o (by rw[f.o.len];exact x),(f.o.store (p+ys.length) V).alloc _⟩,by simp[intOf];omega⟩
 obtain rfl:p=xs.length:=ω;have hv:=s.o.done (Za _);have hs:=d.sw s.o.wds;have U:=d.bel;refine μ3 hv hs U λHV HS M=>?_;have r:=d.lt;have aK:=j.o;have ak:=un d.len;clear hv hs U d;go_wp2_with fail
 refine(Nt.of _ os _ HS.o.reads (by rw[ak.o];exact al.o)).mono ?_;rintro e w3 ⟨A2,m2,c2,rfl,hs2,hb2⟩;have hk:=zad hb2 ((M.o.block (w.heap.size+1+1) ω).trans ah.o);have hc:χ w3 (w.heap.size+1+1) 0 ():=zac hk 0;have hf:=zag hk 0;have ai:=un hk;have h1:=hb2.size;clear hk;go_wp2;refine Zi (v:=.agg #[(A2,m2,c2)]) (by simp[results,results140,go_sem,hc]) rfl ?_;rw[HV.o]at hs2;refine⟨_,_,_,rfl,hs2.setCell (p:=⟨w.heap.size+1+1,0,none⟩) ai.o δ _,Xj ?_ (by simp;omega) _⟩;exact bstep (aj.o.trans (M.o.mono ω)) hb2 ω
