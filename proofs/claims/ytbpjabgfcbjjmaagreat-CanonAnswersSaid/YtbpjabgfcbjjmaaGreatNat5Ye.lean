/- Contracts and lemmas: Nat5 Nat6 Nat7 Prod1. Conditions: as each says. -/
import Derived.Test.YtbpjabgfcbjjmaaGreatWord3Ye
import Derived.Deep.RegionWith
import Derived.Deep.RegionLaw
set_option linter.all false
set_option maxHeartbeats 1000000
set_option maxRecDepth 100000
namespace Go.Proofs.YtbpjabgfcbjjmaaGreat
open Go.RowKit Am Tryz
attribute [local go_sem ↓] Go.wp_at_zero Go.wp_at_succ
variable {os xs:List Nat}{s:Nat}
namespace Nt
theorem sub_no(A B:OA)(m c m' c' a b:Nat)(w:World)(d:zas w (A,m,c) a)(f:zas w (B,m',c') b)(j:a<b) :
  Calls prog 138 #[.agg #[(A,m,c)],.agg #[(B,m',c')]] w (zjL w 0 false):=by
 have e:ze9 a b = -1:=zeb ω;refine μ3 (((d.alloc (.cells #[(A,m,c)] 58)).alloc (.cells #[(B,m',c')] 58)).alloc (.cells #[()] 58)) (((f.alloc (.cells #[(A,m,c)] 58)).alloc (.cells #[(B,m',c')] 58)).alloc (.cells #[()] 58)) e λg i E=>?_;clear d f j e;go_enter func138,ntmps138;go_wp2_with fail
 refine(cmp A B m c m' c' a b _ g.o i.o).mono ?_;rw[E.o];rintro k w1 ⟨rfl,hb1⟩;have hk:=zad hb1 (zam (W:=((w.alloc (.cells #[(A,m,c)] 58)).alloc (.cells #[(B,m',c')] 58))) (b:=w.heap.size+1+1) (cs:=#[.slice none 0 0]) (t:=58) σ);have hc:χ w1 (w.heap.size+1+1) 0 ():=zac hk 0;have hf:=zag hk 0;clear hk;go_wp2;refine Zh (v:=.tuple #[.agg #[()],false]) (by simp[results,results138,go_sem,hc]) rfl ?_;refine⟨_,_,_,rfl,zas.zero _,Xf ?_ (by simp;omega) _⟩;exact bstep (((zae w _).alloc σ _).alloc (by simp;omega) _) hb1 (by simp;omega)
theorem sub_ok(A B:OA)(m c m' c' a b:Nat)(w:World)(x:zas w (A,m,c) a)(y:zas w (B,m',c') b)(hle:b<=a)(z:wlen a<=LIM) :
  Calls prog 138 #[.agg #[(A,m,c)],.agg #[(B,m',c')]] w (zjL w (a-b) true):=by
 have I:ze9 a b=0\/ze9 a b=1:=by rcases ZI b a with h | h;exact .inr (zea ω);exact .inl (zgN ω)
 have hA:=un (((x.alloc (.cells #[(A,m,c)] 58)).alloc (.cells #[(B,m',c')] 58)).alloc (.cells #[()] 58));have hB:=un (((y.alloc (.cells #[(A,m,c)] 58)).alloc (.cells #[(B,m',c')] 58)).alloc (.cells #[()] 58));obtain⟨xs,Q,n,rfl,D,rfl⟩:=x.words;obtain⟨ys,R,ap,rfl,K,rfl⟩:=y.words;have L:ys.length<=xs.length:=by rw[D,K];exact zco hle
 rw[<-D]at z;clear D K x y;refine μ6 hle L Q R z (show xs.length<=16*LIM by omega) λaa ab r s Z g1=>?_;clear Q R n ap hle L z;generalize hcv:ze9 (nval xs) (nval ys)=cv at I;have V:=un hcv;clear hcv;go_enter func138,ntmps138;go_wp2_with fail
 refine(cmp A B _ c _ c' _ _ _ hA.o hB.o).mono ?_;rw[V.o];rintro e' w1 ⟨rfl,hb1⟩;have aq:=hb1.size;simp at aq;have hk:=zad hb1 (zam (W:=((w.alloc (.cells #[(A,xs.length,c)] 58)).alloc (.cells #[(B,ys.length,c')] 58))) (b:=w.heap.size+1+1) (cs:=#[.slice none 0 0]) (t:=58) σ);have S:=zad hb1 (zak (ob:=.cells #[()] 58) (zak (ob:=.cells #[(B,ys.length,c')] 58) (zam (W:=w) (b:=w.heap.size) (cs:=#[.slice A xs.length c]) (t:=58) rfl)));have T:=zad hb1 (zak (ob:=.cells #[()] 58) (zam (W:=w.alloc (.cells #[(A,xs.length,c)] 58)) (b:=w.heap.size+1) (cs:=#[.slice B ys.length c']) (t:=58) σ));have l:=bstep (((zae w _).alloc σ _).alloc (by simp;omega) _) hb1 (by simp;omega);have c0:χ w1 w 0 (A,xs.length,c):=zac S 0;have c1:χ w1 (w.heap.size+1) 0 (B,ys.length,c'):=zac T 0;refine μ4 hk l (r.o.below l) (s.o.below l) λX U F af=>?_;clear hk S T l hb1;have az:¬cv<0:=ω;clear I;go_wp2_with (at_make;go_must (refine zdz rfl _ _ rfl xs.length _ rfl rfl rfl g1.o w1.heap.size rfl ?_))
 intro w2 M;have HO:=un M;clear M;go_wp2
 go_loopw [7,20] (λcy i wr=>∃(j C:Nat) (os:List Nat),i=.int .i64 j/\cy=.int .u64 C/\j<=xs.length/\SubInv xs ys os j C/\OutAt w1 wr w1.heap.size xs.length os)
  (λ_ i _=>xs.length-(intOf i).toNat)
 case atStart=>exact⟨0,0,List.replicate xs.length 0,rfl,rfl,Zb _,SubInv.start xs ys _,HO.o⟩
 obtain⟨j,C,os,rfl,rfl,hj,u,d⟩:=hrel;have o:=un u;have q:=un d;have hC:=u.one;have an:=un (d.keep F.o (Za _));have ao:=un (d.keep af.o (Za _));have aw:=d.old ω c0;have ax:=d.old ω c1;have aE:=zdM r.o.2 j;have aG:=zdM s.o.2 j;clear u;by_cases f:j<xs.length
 ·rcases an.o.form with ⟨h1,h2⟩ | ⟨g,cap,h1,hg,ay,hm,n⟩
  exfalso;rw[h2]at f;simp at f;injection h1 with hA' _ hc1';subst hA' hc1';have aF:=n j f;have H:=d.cell f;have J:=d.fro j;have O:=d.lt;have aD:xs.length<=9223372036854775807:=by have:=Z.o;have:=zaP;omega
  have aB:(0:Int)<=(j:Int):=Zf _;have aC:(j:Int)<(xs.length:Int):=ω;have q1:=cell_al (ob:=.cells #[(B,ys.length,c')] 58) H;have q2:=zd1 (ob:=.cells #[(B,ys.length,c')] 58) O J;have aA:g≠w1.heap.size:=by have:=F.o.block (k:=g) rfl;omega
  clear d n H J;go_wp2_with fail
  go_region_held3 (λw'=>χ w' w 0 (g,xs.length,c)/\χ w' (w.heap.size+1) 0 (B,ys.length,c') /\
    χ w' g j (.int .u64 ((wd xs j:Nat):Int)))
   (first | ((try go_split_ands);(try simp only[Xp]);(repeat' apply And.intro)<;>(first | assumption | exact cell_al (by assumption) | exact cell_set (by first | omega | assumption) (by assumption) | exact cell_al (cell_set (by first | omega | assumption) (by assumption)))) | go_keep)
   (first
    | (go_at_call 170;(with_reducible refine(word (B,ys.length,c') ys _ ω _ ?_).mono ?_);(exact ao.o.drew);rintro e w' ⟨rfl,rfl⟩)
    | (go_at_call 171;(with_reducible refine(Word.sub (wd xs j) (wd ys j) C (by assumption) (by assumption) (by assumption) _).mono ?_);rintro e w' ⟨rfl,rfl⟩))
  go_wp2;go_roundw
  case rel=>exact⟨j+1,_,_,by go_num,rfl,ω,o.o.next (by rw[q.o.len];exact f) r.o.2 s.o.2,((q.o.store j _).alloc _).drew⟩
  case measure=>simp[intOf];omega
 obtain rfl:j=xs.length:=ω;have P:=o.o.done (Za _) ab.o aa.o (by rw[q.o.len];exact Za _);have N:=d.sw o.o.wds;have G:=d.bel;refine μ3 P N G λHV HS E=>?_;have O:=d.lt;clear P N G d;go_wp2_with fail
 refine(trim _ os _ HS.o).mono ?_;rintro e w3 ⟨A2,m2,c2,rfl,hs2,hb2⟩;have hk:=zad hb2 ((E.o.block (w.heap.size+1+1) ω).trans X.o);have hc:χ w3 (w.heap.size+1+1) 0 ():=zac hk 0;have hf:=zag hk 0;have Y:=un hk;have h1:=hb2.size;clear hk;go_wp2;refine Zh (v:=.tuple #[.agg #[(A2,m2,c2)],true]) (by simp[results,results138,go_sem,hc]) rfl ?_;rw[HV.o]at hs2;refine⟨_,_,_,rfl,hs2.setCell (p:=⟨w.heap.size+1+1,0,none⟩) Y.o δ _,Xf ?_ (by simp;omega) _⟩;exact bstep (U.o.trans (E.o.mono ω)) hb2 ω
end Nt
namespace Nt
theorem zd3(k:Nat):((2:Int)^k)=((2^k:Nat):Int):=σ
theorem zAk(x s:Nat)(a:s<64):(x:Int)/2^(64-s)=((zBd x s:Nat):Int):=by rw[zd3,<-XR,zoZ a];rfl
theorem zAl(o x s:Nat)(c:s<64)(b:o<2^s):bits BinOp.or IntKind.u64 (o:Int) (IntKind.u64.wrap ((x:Int)*2^s))=((zxB o x s:Nat):Int):=by
 have d:(2:Nat)^s<18446744073709551616:=by have:(2:Nat)^s<2^64:=YV δ c;omega
 have e:=pow64_split s ω;have h1:x*2^s%B64=2^s*(x%2^(64-s)):=by rw[e,ZN x,YD]
 rw[zd3,<-XO,Xt];have a:((x*2^s:Nat):Int)%18446744073709551616=((x*2^s%B64:Nat):Int):=(Vr _ _).symm;rw[a,u64_or_nat _ _ ω (ZW _ δ),h1,ZN (2^s),zvd b];unfold zxB;rw[h1,ZN (2^s)]
theorem shl(A:OA)(m c a s:Nat)(w:World)(z:zas w (A,m,c) a)(f:s<64)(C:wlen a<=LIM) :
  Calls prog 188 #[.agg #[(A,m,c)],(s:Int)] w (zjL w (a*2^s) true):=by
 obtain⟨xs,H,n,rfl,D,rfl⟩:=z.words;rw[<-D]at C;have y:=un H;have aa:xs.length+1<=9223372036854775807:=by have:=zaP;omega
 have N:=un (show xs.length+1<=16*LIM by have:=zaP;omega);clear z D H n C;have F:(s:Int)/64=0:=ω;have hr:(s:Int)%64=(s:Int):=ω;have R:decide ((s:Int)<0)=false:=by rw[decide_eq_false_iff_not];omega
 have S:decide ((65536:Int)<(s:Int))=false:=by rw[decide_eq_false_iff_not];omega
 go_enter func188,ntmps188;go_wp2_with (at_make;go_must (refine zdz rfl _ _ rfl (xs.length+1) _ rfl rfl σ N.o (w.heap.size+1+1) σ ?_))
 intro w1 E;have u:=un E;clear E;have M:=u.o.old (b:=w.heap.size) (o:=0) (v:=.slice A xs.length c) ω (cell_al (zax rfl rfl));have L:=un ((y.o.alloc (.cells #[(A,xs.length,c)] 58)).alloc (.cells #[()] 58));go_wp2;simp only[hr];clear hr F;have F:(s:Int)/64=0:=ω
 go_loopw [30] (λi wr=>∃(j:Nat) (os:List Nat),i=.int .i64 j/\j<=xs.length/\ShlInv xs os 0 s j /\
   OutAt ((w.alloc (.cells #[(A,xs.length,c)] 58)).alloc (.cells #[()] 58)) wr (w.heap.size+1+1) (xs.length+1) os)
  (λi _=>xs.length-(intOf i).toNat)
 case atStart=>exact⟨0,List.replicate (xs.length+1) 0,rfl,Zb _,ShlInv.start xs 0 s _,u.o⟩
 obtain⟨j,os,rfl,hj,l,d⟩:=hrel;have r:=un l;have x:=un d;clear M;by_cases t:j<xs.length
 ·rcases L.o.form with ⟨h1,O⟩ | ⟨g,cap,h1,hg,T,hm,n⟩
  exfalso;rw[O]at t;simp at t;injection h1 with hA' _ hc1';subst hA' hc1';simp at hg;have ac:=d.old ω (n j t);have U:=d.cell (k:=j) ω;have V:=d.cell (k:=j+1) ω;have W:=d.fro j;have X:=d.fro (j+1);have P:wd os j<2^s:=l.low;have ae:=zAl (wd os j) (wd xs j) s f P;have ad:=zAk (wd xs j) s f;have Y:(0:Int)<=(j:Int):=Zf _;have Z:(j:Int)<(xs.length:Int):=ω;clear d l n;go_wp2_with fail
  go_region
  go_wp2;go_roundw
  case rel=>exact⟨j+1,_,by go_num,ω,r.o.next y.o.2 f (by rw[x.o.len];omega),((x.o.store j _).store (j+1) _).drew⟩
  case measure=>simp[intOf];omega
 obtain rfl:j=xs.length:=ω;have G:nval os=nval xs*2^s:=by have:=r.o.eq;rw[ZZ (Za _)]at this;simpa using this
 have f:=d.sw r.o.wds;have B:=d.bel;refine μ3 G f B λK J q=>?_;have ab:=d.lt;clear G f B d l;go_wp2_with fail
 refine(trim _ os _ J.o).mono ?_;rintro e Q ⟨A2,m2,c2,rfl,hs2,hb2⟩;have hk:=zad hb2 ((q.o.block (w.heap.size+1) ω).trans (zam σ));have hc:χ Q (w.heap.size+1) 0 ():=zac hk 0;have hf:=zag hk 0;have I:=un hk;have h1:=hb2.size;have h0:=q.o.size;simp at h0;clear hk;go_wp2;refine Zh (v:=.tuple #[.agg #[(A2,m2,c2)],true]) (by simp[results,results188,go_sem,hc]) rfl ?_;rw[K.o]at hs2;refine⟨_,_,_,rfl,hs2.setCell (p:=⟨w.heap.size+1,0,none⟩) I.o δ _,Xf ?_ σ _⟩;exact bstep (((zae w _).alloc σ _).trans (q.o.mono ω)) hb2 ω
end Nt
namespace Nt
structure ShrInv (xs os:List Nat) (s j:Nat):Prop where
  wds:Wds os
  eq:∀i,i<j->wd os i=nval xs/2^s/B64^i%B64
theorem zBh(x y s:Nat)(f:s<64)(c:x<18446744073709551616):zBf x y s<18446744073709551616:=by
 have e:=pow64_split s ω;have h1:y*2^(64-s)%B64=2^(64-s)*(y%2^s):=by rw[e,ZN (2^s),ZN y,YD]
 have d:x/2^s<2^(64-s):=by rw[Xs (Z0 δ),ZN,<-e];exact c
 have a:y%2^s<2^s:=ZW _ (Z0 δ);have b:2^(64-s)*(y%2^s+1)<=2^(64-s)*2^s:=Xl _ a;rw[XN,Xy,ZN _ (2^s),<-e]at b;unfold zBf;rw[h1];have:B64=18446744073709551616:=rfl;omega
theorem zDd(x y s:Nat)(d:s<64)(a:x<18446744073709551616) :
  bits BinOp.or IntKind.u64 ((x:Int)/2^s) (IntKind.u64.wrap ((y:Int)*2^(64-s)))=((zBf x y s:Nat):Int):=by
 have e:=pow64_split s ω;have h1:y*2^(64-s)%B64=(y%2^s)*2^(64-s):=by rw[e,ZN (2^s),ZN y,YD,ZN]
 have c:x/2^s<2^(64-s):=by rw[Xs (Z0 δ),ZN,<-e];exact a
 rw[zd3,zd3,<-XO,<-XR,Xt];have b:((y*2^(64-s):Nat):Int)%18446744073709551616=((y*2^(64-s)%B64:Nat):Int):=(Vr _ _).symm;rw[b,u64_or_nat _ _ (XQ (Ya _ _) a) (ZW _ δ),h1,zvd c];unfold zBf;rw[h1]
theorem ShrInv.next{j:Nat}(h:ShrInv xs os s j)(b:Wds xs)(a:s<64)(hj:j<os.length):ShrInv xs (os.set j (zBf (wd xs j) (wd xs (j+1)) s)) s (j+1):=by refine⟨h.wds.set _ _ (zBh _ _ _ a (zdM b j)),λi hi=>?_⟩;unfold wd;rw[zcU _ _ _ _ hj];by_cases e:i=j;subst e;rw[if_pos rfl];exact zBg b i s a;rw[if_neg e];exact h.eq i ω
theorem ShrInv.done(h:ShrInv xs os s os.length)(b:Wds xs)(a:xs.length=os.length):nval os=nval xs/2^s:=by apply znM h.eq;have:=zc8 xs b;rw[a]at this;exact XQ (Ya _ _) this
theorem shr(A:OA)(m c a s:Nat)(w:World)(y:zas w (A,m,c) a)(f:s<64)(n:wlen a<=LIM) :
  Calls prog 192 #[.agg #[(A,m,c)],(s:Int)] w (zc0 w (a/2^s)):=by
 obtain⟨xs,J,C,rfl,F,rfl⟩:=y.words;rw[<-F]at n;have g:=un J;have W:=un n;have ad:xs.length+1<=9223372036854775807:=by have:=zaP;omega
 have u:=un (show xs.length<=16*LIM by have:=zaP;omega);have H:(s:Int)/64=0:=ω;have hr:(s:Int)%64=(s:Int):=ω;have X:decide ((s:Int)<0)=false:=by rw[decide_eq_false_iff_not];omega
 clear y F J n;by_cases h0:xs.length=0
 ·have P:=Xk.1 h0;subst P;clear C h0 hr u;go_enter func192,ntmps192;go_wp2;refine Zh (v:=.agg #[()]) (by simp[results,results192,go_sem]) rfl ⟨_,_,_,rfl,?_,((zae w _).alloc σ _)⟩;simpa[nval]using zas.zero _
 have Y:decide ((xs.length:Int)<=0)=false:=by rw[decide_eq_false_iff_not];omega
 clear C;go_enter func192,ntmps192;go_wp2_with (at_make;go_must (refine zdz rfl _ _ rfl xs.length _ rfl rfl σ u.o (w.heap.size+1+1) σ ?_))
 intro w1 G;have L:=un G;clear G;have O:=un ((g.o.alloc (.cells #[(A,xs.length,c)] 58)).alloc (.cells #[()] 58));go_wp2;simp only[hr];clear hr H;have H:(s:Int)/64=0:=ω
 go_loopw [30] (λi wr=>∃(j:Nat) (os:List Nat),i=.int .i64 j/\j<=xs.length/\ShrInv xs os s j /\
   OutAt ((w.alloc (.cells #[(A,xs.length,c)] 58)).alloc (.cells #[()] 58)) wr (w.heap.size+1+1) xs.length os)
  (λi _=>xs.length-(intOf i).toNat)
 case atStart=>exact⟨0,List.replicate xs.length 0,rfl,Zb _,⟨Wds.replicate _,λi hi=>ω⟩,L.o⟩
 obtain⟨j,os,rfl,hj,k,d⟩:=hrel;have r:=un k;have t:=un d;by_cases E:j<xs.length
 ·have x:=un (d.keep O.o σ);have Z:=d.old (b:=w.heap.size) (o:=0) (v:=.slice A xs.length c) ω (cell_al (zax rfl rfl));have B:=d.cell E;have D:=d.fro j;have q:=d.lt;have Q:=zdM g.o.2 j;have rW:=zDd (wd xs j) (wd xs (j+1)) s f Q;have aa:(0:Int)<=(j:Int):=Zf _;have ab:(j:Int)<(xs.length:Int):=ω
  have q1:=cell_al (ob:=.cells #[(A,xs.length,c)] 58) (cell_al (ob:=.cells #[(A,xs.length,c)] 58) B);have q2:=zd1 (ob:=.cells #[(A,xs.length,c)] 58) (zxk (ob:=.cells #[(A,xs.length,c)] 58) q) (zd1 (ob:=.cells #[(A,xs.length,c)] 58) q D);clear d k B D;have ac:(0:Int)<=(j:Int)+1:=ω;have ae:w.heap.size≠w.heap.size+1+1:=ω;have s3:(64-(s:Int)).toNat=64-s:=ω;go_wp2_with fail
  have S:IntKind.i64.wrap 0=0:=rfl;have T:IntKind.i64.wrap (j:Int)=(j:Int):=Xz _ ω;have U:IntKind.i64.wrap ((j:Int)+1)=(j:Int)+1:=Xz _ ω;have V:IntKind.i64.wrap (64-(s:Int))=64-(s:Int):=Xz _ ω
  go_region_held3 (λw'=>χ w' w 0 (A,xs.length,c))
   (first | ((try go_split_ands);(try simp only[Xp]);(repeat' apply And.intro)<;>(first | assumption | exact cell_al (by assumption) | exact cell_set (by assumption) (by assumption) | exact cell_al (cell_set (by assumption) (by assumption)) | exact cell_al (cell_al (cell_set (by assumption) (by assumption))))) | go_keep)
   (first
    | (go_at_call 170;(with_reducible refine(word (A,xs.length,c) xs _ (by assumption) _ ?_).mono ?_);(first | exact x.o.drew | exact(x.o.alloc _).drew);rintro e w' ⟨rfl,rfl⟩))
  clear S T U V;go_wp2;go_roundw
  case rel=>exact⟨j+1,_,by go_num,ω,r.o.next g.o.2 f (by rw[t.o.len];exact E),(((t.o.alloc _).alloc _).store j _).drew⟩
  case measure=>simp[intOf];omega
 obtain rfl:j=xs.length:=ω;have I:=ShrInv.done (by rw[d.len];exact k) g.o.2 d.len.symm;have f:=d.sw r.o.wds;have z:=d.bel;refine μ3 I f z λN M l=>?_;have q:=d.lt;clear I f z d k;go_wp2_with fail
 refine(trim _ os _ M.o).mono ?_;rintro e R ⟨A2,m2,c2,rfl,hs2,hb2⟩;have hk:=zad hb2 ((l.o.block (w.heap.size+1) ω).trans (zam σ));have hc:χ R (w.heap.size+1) 0 ():=zac hk 0;have hf:=zag hk 0;have K:=un hk;have h0:=l.o.size;simp at h0;clear hk;go_wp2;refine Zh (v:=.agg #[(A2,m2,c2)]) (by simp[results,results192,go_sem,hc]) rfl ?_;rw[N.o]at hs2;refine⟨_,_,_,rfl,hs2.setCell (p:=⟨w.heap.size+1,0,none⟩) K.o δ _,Xf ?_ σ _⟩;exact bstep (((zae w _).alloc σ _).trans (l.o.mono ω)) hb2 ω
end Nt
namespace Pr
theorem school(A B:OA)(m c m' c' a b:Nat)(w:World)(S:zas w (A,m,c) a)(T:zas w (B,m',c') b)(X:wlen a+wlen b<=LIM) :
  Calls prog 140 #[.agg #[(A,m,c)],.agg #[(B,m',c')]] w (zc0 w (a*b)):=by
 obtain⟨xs,hx,av,rfl,Y,rfl⟩:=S.words;obtain⟨ys,hy,aw,rfl,Z,rfl⟩:=T.words;rw[<-Y,<-Z]at X;obtain⟨n,hn⟩:∃n,n=xs.length+ys.length:=⟨_,rfl⟩
 refine μ5 hn hx hy (show n<=LIM by omega) (show n<=16*LIM by have:=zaP;omega) λD N F al P=>?_;have aM:xs.length+ys.length<=9223372036854775806:=by have:=zaP;omega
 have R:(xs.length:Int)+(ys.length:Int)=(n:Int):=ω
 have am:=un R;clear hx hy av aw Y Z X S T hn R;have t:χ (((w.alloc (.cells #[(A,xs.length,c)] 58)).alloc (.cells #[(B,ys.length,c')] 58)).alloc (.cells #[()] 58)) w 0 (A,xs.length,c) :=
  cell_al (cell_al (zax rfl rfl))
 have g:χ (((w.alloc (.cells #[(A,xs.length,c)] 58)).alloc (.cells #[(B,ys.length,c')] 58)).alloc (.cells #[()] 58)) (w.heap.size+1) 0 (B,ys.length,c') :=
  cell_al (zax σ rfl)
 have E:=un (((N.o.alloc (.cells #[(A,xs.length,c)] 58)).alloc (.cells #[(B,ys.length,c')] 58)).alloc (.cells #[()] 58));have G:=un (((F.o.alloc (.cells #[(A,xs.length,c)] 58)).alloc (.cells #[(B,ys.length,c')] 58)).alloc (.cells #[()] 58));go_enter func140,ntmps140;go_wp2_with fail
 have L:IntKind.i64.wrap ((xs.length:Int)+(ys.length:Int))=(n:Int):=by have h1:=am.o;have h2:=Xz (n:Int) ω;rw[h1,h2]
 have zm:=zyv n P.o
 go_region_held3 (λw'=>χ w' w 0 (A,xs.length,c)/\χ w' (w.heap.size+1) 0 (B,ys.length,c'))
  (first | ((try go_split_ands);(try simp only[Xp]);(repeat' apply And.intro)<;>(first | assumption | exact cell_al (by assumption) | exact cell_al (cell_al (by assumption)))) | go_keep)
  (first
   | (go_at_call 139;(with_reducible refine(Nt.len (A,xs.length,c) xs _ ?_).mono ?_);(exact E.o.drew);rintro e w' ⟨rfl,rfl⟩)
   | (go_at_call 139;(with_reducible refine(Nt.len (B,ys.length,c') ys _ ?_).mono ?_);(exact(G.o.alloc _).drew);rintro e w' ⟨rfl,rfl⟩))
 clear L zm t g;have k0:χ (((((w.alloc (.cells #[(A,xs.length,c)] 58)).alloc (.cells #[(B,ys.length,c')] 58)).alloc (.cells #[()] 58)).alloc (.cells #[(A,xs.length,c)] 58)).alloc (.cells #[(B,ys.length,c')] 58)) w 0 (A,xs.length,c):=cell_al (cell_al (cell_al (cell_al (zax rfl rfl))));have y:χ (((((w.alloc (.cells #[(A,xs.length,c)] 58)).alloc (.cells #[(B,ys.length,c')] 58)).alloc (.cells #[()] 58)).alloc (.cells #[(A,xs.length,c)] 58)).alloc (.cells #[(B,ys.length,c')] 58)) (w.heap.size+1) 0 (B,ys.length,c'):=cell_al (cell_al (cell_al (zax σ rfl)));have k2:θ (((((w.alloc (.cells #[(A,xs.length,c)] 58)).alloc (.cells #[(B,ys.length,c')] 58)).alloc (.cells #[()] 58)).alloc (.cells #[(A,xs.length,c)] 58)).alloc (.cells #[(B,ys.length,c')] 58)) (w.heap.size+1+1) #[()] 58:=zak (zak (zam σ));have kb:Below w w (((((w.alloc (.cells #[(A,xs.length,c)] 58)).alloc (.cells #[(B,ys.length,c')] 58)).alloc (.cells #[()] 58)).alloc (.cells #[(A,xs.length,c)] 58)).alloc (.cells #[(B,ys.length,c')] 58)):=((((zae w _).alloc σ _).alloc (by simp;omega) _).alloc (by simp;omega) _).alloc (by simp;omega) _;have K:(((((w.alloc (.cells #[(A,xs.length,c)] 58)).alloc (.cells #[(B,ys.length,c')] 58)).alloc (.cells #[()] 58)).alloc (.cells #[(A,xs.length,c)] 58)).alloc (.cells #[(B,ys.length,c')] 58)).heap.size=w.heap.size+1+1+1+1+1:=σ;have O:=un ((E.o.alloc (.cells #[(A,xs.length,c)] 58)).alloc (.cells #[(B,ys.length,c')] 58));have H:=un ((G.o.alloc (.cells #[(A,xs.length,c)] 58)).alloc (.cells #[(B,ys.length,c')] 58))
 have ho:OutAt (((((w.alloc (.cells #[(A,xs.length,c)] 58)).alloc (.cells #[(B,ys.length,c')] 58)).alloc (.cells #[()] 58)).alloc (.cells #[(A,xs.length,c)] 58)).alloc (.cells #[(B,ys.length,c')] 58)) ((((((w.alloc (.cells #[(A,xs.length,c)] 58)).alloc (.cells #[(B,ys.length,c')] 58)).alloc (.cells #[()] 58)).alloc (.cells #[(A,xs.length,c)] 58)).alloc (.cells #[(B,ys.length,c')] 58)).alloc (.cells (zrow n) 206)).drew (w.heap.size+1+1+1+1+1) n (List.replicate n 0):=by
  have:=(zn5 (((((w.alloc (.cells #[(A,xs.length,c)] 58)).alloc (.cells #[(B,ys.length,c')] 58)).alloc (.cells #[()] 58)).alloc (.cells #[(A,xs.length,c)] 58)).alloc (.cells #[(B,ys.length,c')] 58)) n P.o).drew
  rwa [K]at this
 clear E G;generalize hw1:((((((w.alloc (.cells #[(A,xs.length,c)] 58)).alloc (.cells #[(B,ys.length,c')] 58)).alloc (.cells #[()] 58)).alloc (.cells #[(A,xs.length,c)] 58)).alloc (.cells #[(B,ys.length,c')] 58)).alloc (.cells (zrow n) 206)).drew=w1 at *
 clear hw1;generalize hW0:(((((w.alloc (.cells #[(A,xs.length,c)] 58)).alloc (.cells #[(B,ys.length,c')] 58)).alloc (.cells #[()] 58)).alloc (.cells #[(A,xs.length,c)] 58)).alloc (.cells #[(B,ys.length,c')] 58))=W at *
 clear hW0;refine μ4 ho k2 kb K λo ah aj j=>?_;clear ho k2 kb K;have t:=o.o.old ω k0;have g:=o.o.old ω y;go_wp2_with (go_at_call 139;(with_reducible refine(Nt.len (A,xs.length,c) xs _ ?_).mono ?_);(exact o.o.keep O.o (by rw[j.o];exact Za _));rintro e w' ⟨rfl,rfl⟩)
 have aq:=un (o.o.alloc (.cells #[(A,xs.length,c)] 58));clear t g o;generalize w1.alloc (.cells #[(A,xs.length,c)] 58)=w2 at *
 go_loopw [17] (λi wr=>∃(p:Nat) (os:List Nat),i=.int .i64 p/\p<=xs.length/\SchInv xs ys os p/\OutAt W wr (w.heap.size+1+1+1+1+1) n os) (λi _=>xs.length-(intOf i).toNat)
 case atStart=>exact⟨0,_,rfl,Zb _,SchInv.start xs ys n,aq.o⟩
 obtain⟨p,os,rfl,hp,Q,d⟩:=hrel;have s:=un Q;clear Q;by_cases aL:p<xs.length
 ·have l:=un (d.keep H.o (by rw[j.o];exact Za _));have g:=d.old ω y;have f:=un d;clear d;go_wp2_with (go_at_call 139;(with_reducible refine(Nt.len (B,ys.length,c') ys _ ?_).mono ?_);(exact l.o);rintro e w' ⟨rfl,rfl⟩)
  have ar:=un (f.o.alloc (.cells #[(B,ys.length,c')] 58));clear g l f;generalize wr.alloc (.cells #[(B,ys.length,c')] 58)=wo at *
  go_loopw [7,22] (λov k aG=>∃(q V:Nat) (z:List Nat),k=.int .i64 q/\ov=.int .u64 V/\q<=ys.length/\MulInv (nval os) ys z p (wd xs p) q V/\OutAt W aG (w.heap.size+1+1+1+1+1) n z)
   (λ_ k _=>ys.length-(intOf k).toNat)
  case atStart=>exact⟨0,0,os,rfl,rfl,Zb _,s.o.enter _,ar.o⟩
  obtain⟨q,V,z,rfl,rfl,hq,I,d⟩:=hrel;have C:=un I;have hV:=I.ovr;clear I;by_cases aB:q<ys.length
  ·have au:=un (d.keep O.o (by rw[j.o];exact Za _));have l:=un (d.keep H.o (by rw[j.o];exact Za _));have t:=d.old ω k0;have g:=d.old ω y;have x:p+q<n:=by have:=D.o;omega
   have u:=d.cell x;have J:=d.fro (p+q);have r:=d.lt;have aC:=zdM N.o.2 p;have aS:=zdM F.o.2 q;have aN:=zdM C.o.wds (p+q);have aP:(0:Int)<=(p:Int):=Zf _;have aR:(0:Int)<=(q:Int):=Zf _;have ax:(0:Int)<=(p:Int)+(q:Int):=ω;have ay:(p:Int)+(q:Int)<(n:Int):=ω;have az:((p:Int)+(q:Int)).toNat=p+q:=ω;have q1:=cell_al (ob:=.cells #[(B,ys.length,c')] 58) (cell_al (ob:=.cells #[(A,xs.length,c)] 58) u);have aE:=cell_al (ob:=.cells #[(A,xs.length,c)] 58) u;have q2:=zd1 (ob:=.cells #[(B,ys.length,c')] 58) (zxk (ob:=.cells #[(A,xs.length,c)] 58) r) (zd1 (ob:=.cells #[(A,xs.length,c)] 58) r J);have b1:=cell_al (ob:=.cells #[(A,xs.length,c)] 58) g;have f:=un d;clear d;go_wp2_with fail
   have L:IntKind.i64.wrap ((p:Int)+(q:Int))=(p:Int)+(q:Int):=Xz _ ω
   go_region_with (first
    | (go_at_call 170;(with_reducible refine(Nt.word (A,xs.length,c) xs _ (by assumption) _ ?_).mono ?_);(exact au.o.drew);rintro e w' ⟨rfl,rfl⟩)
    | (go_at_call 170;(with_reducible refine(Nt.word (B,ys.length,c') ys _ (by assumption) _ ?_).mono ?_);(exact(l.o.alloc _).drew);rintro e w' ⟨rfl,rfl⟩)
    | (go_at_call 172;(with_reducible refine(Word.mulAdd (wd xs p) (wd ys q) (wd z (p+q)) V (by assumption) (by assumption) (by assumption) (by assumption) _).mono ?_);rintro e w' ⟨rfl,rfl⟩))
   all_goals (clear L;go_wp2;go_roundw)
   all_goals first
    | exact⟨q+1,_,_,by go_num,rfl,ω,C.o.next aC F.o.2 aB (by rw[f.o.len];have:=D.o;omega),(((f.o.alloc _).alloc _).store (p+q) _).drew⟩
    | (simp[intOf];omega)
  have aA:q=ys.length:=ω;subst aA;have l:=un (d.keep H.o (by rw[j.o];exact Za _));have g:=d.old ω y;have x:p+ys.length<n:=by have:=D.o;omega
  have u:=d.cell x;have J:=d.fro (p+ys.length);have r:=d.lt;have ax:(0:Int)<=(p:Int)+(ys.length:Int):=ω;have ay:(p:Int)+(ys.length:Int)<(n:Int):=ω;have az:((p:Int)+(ys.length:Int)).toNat=p+ys.length:=ω;have aE:=cell_al (ob:=.cells #[(B,ys.length,c')] 58) u;have aV:=zd1 (ob:=.cells #[(B,ys.length,c')] 58) r J;have f:=un d;clear d;go_wp2_with (go_at_call 139;(with_reducible refine(Nt.len (B,ys.length,c') ys _ ?_).mono ?_);(exact l.o);rintro e w' ⟨rfl,rfl⟩)
  exact⟨⟨p+1,_,by go_num,ω,s.o.next C.o (by rw[f.o.len];exact x),(f.o.store (p+ys.length) V).alloc _⟩,by simp[intOf];omega⟩
 obtain rfl:p=xs.length:=ω;have hv:=s.o.done (Za _);have hs:=d.sw s.o.wds;have U:=d.bel;refine μ3 hv hs U λHV HS M=>?_;have r:=d.lt;have aK:=j.o;have ak:=un d.len;clear hv hs U d;go_wp2_with fail
 refine(Nt.of _ os _ HS.o.reads (by rw[ak.o];exact al.o)).mono ?_;rintro e w3 ⟨A2,m2,c2,rfl,hs2,hb2⟩;have hk:=zad hb2 ((M.o.block (w.heap.size+1+1) ω).trans ah.o);have hc:χ w3 (w.heap.size+1+1) 0 ():=zac hk 0;have hf:=zag hk 0;have ai:=un hk;have h1:=hb2.size;clear hk;go_wp2;refine Zh (v:=.agg #[(A2,m2,c2)]) (by simp[results,results140,go_sem,hc]) rfl ?_;rw[HV.o]at hs2;refine⟨_,_,_,rfl,hs2.setCell (p:=⟨w.heap.size+1+1,0,none⟩) ai.o δ _,Xf ?_ (by simp;omega) _⟩;exact bstep (aj.o.trans (M.o.mono ω)) hb2 ω
